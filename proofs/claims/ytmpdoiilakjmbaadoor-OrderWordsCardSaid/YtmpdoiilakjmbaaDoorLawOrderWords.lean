/- The law OrderWords answers true for every input. Conditions: the library's variables hold what they were laid with. -/
import Derived.Test.YtmpdoiilakjmbaaDoorOrderFact
import Derived.Test.YtmpdoiilakjmbaaDoorOrdWo
import Derived.Test.YtmpdoiilakjmbaaDoorOrdNm
import Derived.Test.YtmpdoiilakjmbaaDoorOrdCk
import Derived.Test.YtmpdoiilakjmbaaDoorContAny
import Derived.Laws.IdiomStrings
namespace Go.Proofs.YtmpdoiilakjmbaaDoor.orderWords
open Go.RowKit Go.Mq
set_option linter.unusedVariables false
set_option linter.unusedSimpArgs false
set_option maxHeartbeats 2000000
set_option maxRecDepth 100000
theorem nm_tab : ∀ k : Nat, k < 32 → k ≠ 30 → shmL.getD k [] = nmK k := by decide +kernel
theorem w_tab : ∀ k : Nat, k < 32 → k ≠ 30 → decide ((119 : Int) ∈ (hsK k).map (fun b => (b.toNat : Int))) = hasW k := by decide +kernel
theorem a_tab : ∀ k : Nat, k < 32 → ∀ x ∈ (hsK k).map (fun b => (b.toNat : Int)), 0 ≤ x ∧ x ≤ 127 := by decide +kernel
theorem l_tab : ∀ k : Nat, k < 32 → (hsK k).length ≤ 10 := by decide +kernel
theorem u16_wf (x : Int) (h : U16 x) : (Lit.int .u16 x).wf = true := by
  unfold U16 at h
  simp only [Lit.wf, Bool.and_eq_true, decide_eq_true_eq]
  exact ⟨h.1, h.2⟩
theorem cell_row (W : World) (cs : Array Value) (t : TypeId) (f : Nat × Nat) (n i : Nat) (hn : n = W.heap.size) : ((W.alloc (.cells cs t f)).drew).cell? ⟨n, i, none⟩ = cs[i]? := by
  subst hn
  show (W.alloc (.cells cs t f)).cell? _ = _
  have h := (MapKept.heap_alloc W (.cells cs t f)).1
  simp only [World.cell?]
  rw [h]
  rfl
def Ws (w0 : World) (k : Int) (xs : List Int) (e : Ending) (w' : World) : Prop := ∃ v, e = .returned (.tuple #[v, .int .i64 k]) ∧ SliceAt w' .u16 v xs ∧ Below w0.heap.size w0 w'
def W1 (w0 : World) (xs : List Int) (e : Ending) (w' : World) : Prop := ∃ v, e = .returned v ∧ SliceAt w' .u16 v xs ∧ Below w0.heap.size w0 w'
theorem no_op (q D S N V op k : Int) (xs : List Int) (hk : k ≠ 0 → xs = []) (ho : op < 0 ∨ 31 < op ∨ op = 30) (w : World) (hL : Lk9 w)
    (hO : ∀ w, Calls Tryd.prog 12 #[.agg #[.int .i64 q, .int .i64 D, .int .i64 S, .int .i64 N, .int .i64 V]] w (Ws w k xs))
    (hB : ∀ w, Lk9 w → Calls Tryd.prog 15 #[.agg #[.int .i64 q, .int .i64 D, .int .i64 S, .int .i64 N, .int .i64 V]] w fun e w' => e = .returned (.int .i64 k) ∧ Below w.heap.size w w')
    (hC : ∀ w, Calls Tryd.prog 17 #[.agg #[.int .i64 q, .int .i64 D, .int .i64 S, .int .i64 N, .int .i64 V]] w fun e w' => e = .returned (.int .i64 k) ∧ Below w.heap.size w w')
    (hW : k = 0 → ∀ w, Lk9 w → Calls Tryd.prog 22 #[.agg #[.int .i64 q, .int .i64 D, .int .i64 S, .int .i64 N, .int .i64 V]] w (W1 w xs)) :
    Calls Tryd.prog 4 #[.agg #[.int .i64 q, .int .i64 D, .int .i64 S, .int .i64 N, .int .i64 V], .int .i64 op] w fun e w' => e = .returned (.bool true) ∧ Below w.heap.size w w' := by
  have O := Lib.hid hO
  have B := Lib.hid hB
  have C := Lib.hid hC
  have W0 := Lib.hid hW
  have HL := Lib.hid hL
  have F := Lib.hid orders_any
  have HK := Lib.hid hk
  clear hO hB hC hW hL hk
  have NM := Lib.hid (name_no op ho)
  have CY := Lib.hid (cyc_no op ho)
  have IO := Lib.hid (isop_no op ho)
  clear ho
  go_enter Tryd.func4, Tryd.ntmps4
  go_wp2_with fail
  refine (O.out _).mono ?_
  rintro e w1 ⟨v, rfl, hs, hb1⟩
  have Kw1_0 : Hid (Blk w1 (w.heap.size) #[.int .i64 q, .int .i64 D, .int .i64 S, .int .i64 N, .int .i64 V] 33) := Lib.hid (by repeat' (first | (with_reducible first | exact Hid.out (by assumption) | exact Blk.new _ _ _ | (refine Blk.new_at _ _ _ _ ?_; simp; done) | refine Blk.alloc ?_ _ | refine Blk.drewN ?_ _ | refine Blk.drew ?_ | apply Blk.set | refine Blk.put ?_ (by assumption) (by first | (simp; done) | (simp; omega) | omega) | refine Blk.below ?_ (by assumption)) | (refine Blk.setAt ?_ (by first | (simp; done) | (simp; omega))) | rfl))
  obtain ⟨lw1_0, cw1_0, fw1_0⟩ := Kw1_0.out.use
  obtain ⟨ao, cp, rfl, hsr⟩ := hs
  have HS : Hid (SliceAt w1 .u16 (.slice ao xs.length cp) xs) := Lib.hid ⟨ao, cp, rfl, hsr⟩
  clear hsr
  go_wp2_with fail
  refine (NM.out _).mono ?_
  rintro e w2 ⟨rfl, hb2⟩
  go_wp2_with fail
  refine (CY.out _).mono ?_
  rintro e w3 ⟨rfl, hb3⟩
  have Kw3_0 : Hid (Blk w3 (w.heap.size) #[.int .i64 q, .int .i64 D, .int .i64 S, .int .i64 N, .int .i64 V] 33) := Lib.hid (by repeat' (first | (with_reducible first | exact Hid.out (by assumption) | exact Blk.new _ _ _ | (refine Blk.new_at _ _ _ _ ?_; simp; done) | refine Blk.alloc ?_ _ | refine Blk.drewN ?_ _ | refine Blk.drew ?_ | apply Blk.set | refine Blk.put ?_ (by assumption) (by first | (simp; done) | (simp; omega) | omega) | refine Blk.below ?_ (by assumption)) | (refine Blk.setAt ?_ (by first | (simp; done) | (simp; omega))) | rfl))
  clear Kw1_0 cw1_0 fw1_0
  obtain ⟨lw3_0, cw3_0, fw3_0⟩ := Kw3_0.out.use
  go_wp2_with fail
  refine (B.out _ (HL.out.below ?hb4)).mono ?_
  case hb4 => exact by repeat' (first | (with_reducible first | exact Below.refl _ _ | assumption | refine below_alloc ?_ _ | refine Below.drew ?_ | refine Go.Mq.below_drewN ?_ _ | refine below_then ?_ (by assumption) | refine below_put ?_ (by assumption) (by first | (simp; done) | (simp; omega) | omega) | refine Below.setCell ?_ ?_ _) | (simp; done) | (simp; omega) | omega)
  rintro e w4 ⟨rfl, hb4⟩
  go_wp2_with fail
  refine (F.out _).mono ?_
  rintro e w5 ⟨rfl, hb5⟩
  have Kw5_0 : Hid (Blk w5 (w.heap.size) #[.int .i64 q, .int .i64 D, .int .i64 S, .int .i64 N, .int .i64 V] 33) := Lib.hid (by repeat' (first | (with_reducible first | exact Hid.out (by assumption) | exact Blk.new _ _ _ | (refine Blk.new_at _ _ _ _ ?_; simp; done) | refine Blk.alloc ?_ _ | refine Blk.drewN ?_ _ | refine Blk.drew ?_ | apply Blk.set | refine Blk.put ?_ (by assumption) (by first | (simp; done) | (simp; omega) | omega) | refine Blk.below ?_ (by assumption)) | (refine Blk.setAt ?_ (by first | (simp; done) | (simp; omega))) | rfl))
  clear Kw3_0 cw3_0 fw3_0
  obtain ⟨lw5_0, cw5_0, fw5_0⟩ := Kw5_0.out.use
  go_wp2_with fail
  refine (C.out _).mono ?_
  rintro e w6 ⟨rfl, hb6⟩
  go_wp2_with fail
  refine (IO.out _).mono ?_
  rintro e w7 ⟨rfl, hb7⟩
  have Kw7_0 : Hid (Blk w7 (w.heap.size) #[.int .i64 q, .int .i64 D, .int .i64 S, .int .i64 N, .int .i64 V] 33) := Lib.hid (by repeat' (first | (with_reducible first | exact Hid.out (by assumption) | exact Blk.new _ _ _ | (refine Blk.new_at _ _ _ _ ?_; simp; done) | refine Blk.alloc ?_ _ | refine Blk.drewN ?_ _ | refine Blk.drew ?_ | apply Blk.set | refine Blk.put ?_ (by assumption) (by first | (simp; done) | (simp; omega) | omega) | refine Blk.below ?_ (by assumption)) | (refine Blk.setAt ?_ (by first | (simp; done) | (simp; omega))) | rfl))
  clear Kw5_0 cw5_0 fw5_0
  obtain ⟨lw7_0, cw7_0, fw7_0⟩ := Kw7_0.out.use
  by_cases hk0 : k = 0
  · subst hk0
    have W := Lib.hid (W0.out rfl)
    go_wp2_with fail
    refine (W.out _ (HL.out.below ?hbW)).mono ?_
    case hbW => exact by repeat' (first | (with_reducible first | exact Below.refl _ _ | assumption | refine below_alloc ?_ _ | refine Below.drew ?_ | refine Go.Mq.below_drewN ?_ _ | refine below_then ?_ (by assumption) | refine below_put ?_ (by assumption) (by first | (simp; done) | (simp; omega) | omega) | refine Below.setCell ?_ ?_ _) | (simp; done) | (simp; omega) | omega)
    rintro e w20 ⟨u, rfl, hu, hb20⟩
    have HU := Lib.hid hu
    clear hu
    go_wp2_with fail
    refine (slEq_u16 _ _ xs xs _ (HS.out.below (by repeat' (first | (with_reducible first | exact Below.refl _ _ | assumption | refine below_alloc ?_ _ | refine Below.drew ?_ | refine Go.Mq.below_drewN ?_ _ | refine below_then ?_ (by assumption) | refine below_put ?_ (by assumption) (by first | (simp; done) | (simp; omega) | omega) | refine Below.setCell ?_ ?_ _) | (simp; done) | (simp; omega) | omega))) (HU.out.below (by repeat' (first | (with_reducible first | exact Below.refl _ _ | assumption | refine below_alloc ?_ _ | refine Below.drew ?_ | refine Go.Mq.below_drewN ?_ _ | refine below_then ?_ (by assumption) | refine below_put ?_ (by assumption) (by first | (simp; done) | (simp; omega) | omega) | refine Below.setCell ?_ ?_ _) | (simp; done) | (simp; omega) | omega)))).mono ?_
    rintro e w21 ⟨rfl, hb21⟩
    have hxx : (xs == xs) = true := by simp
    go_wp2
    go_ret
    exact ⟨rfl, by repeat' (first | (with_reducible first | exact Below.refl _ _ | assumption | refine below_alloc ?_ _ | refine Below.drew ?_ | refine Go.Mq.below_drewN ?_ _ | refine below_then ?_ (by assumption) | refine below_put ?_ (by assumption) (by first | (simp; done) | (simp; omega) | omega) | refine Below.setCell ?_ ?_ _) | (simp; done) | (simp; omega) | omega)⟩
  · have hx := HK.out hk0
    subst hx
    have hk1 : (k != 0) = true := by simpa using hk0
    clear hk0
    go_wp2
    go_ret
    exact ⟨rfl, by repeat' (first | (with_reducible first | exact Below.refl _ _ | assumption | refine below_alloc ?_ _ | refine Below.drew ?_ | refine Go.Mq.below_drewN ?_ _ | refine below_then ?_ (by assumption) | refine below_put ?_ (by assumption) (by first | (simp; done) | (simp; omega) | omega) | refine Below.setCell ?_ ?_ _) | (simp; done) | (simp; omega) | omega)⟩
theorem yes_f (q D S N V k : Int) (K : Nat) (xs : List Int) (hk : k ≠ 0 → xs = []) (hxx : hasW K = false) (hkk : K < 32) (h30 : K ≠ 30) (w : World) (hL : Lk9 w)
    (hO : ∀ w, Calls Tryd.prog 12 #[.agg #[.int .i64 q, .int .i64 D, .int .i64 S, .int .i64 N, .int .i64 V]] w (Ws w k xs))
    (hB : ∀ w, Lk9 w → Calls Tryd.prog 15 #[.agg #[.int .i64 q, .int .i64 D, .int .i64 S, .int .i64 N, .int .i64 V]] w fun e w' => e = .returned (.int .i64 k) ∧ Below w.heap.size w w')
    (hC : ∀ w, Calls Tryd.prog 17 #[.agg #[.int .i64 q, .int .i64 D, .int .i64 S, .int .i64 N, .int .i64 V]] w fun e w' => e = .returned (.int .i64 k) ∧ Below w.heap.size w w')
    (hW : k = 0 → ∀ w, Lk9 w → Calls Tryd.prog 22 #[.agg #[.int .i64 q, .int .i64 D, .int .i64 S, .int .i64 N, .int .i64 V]] w (W1 w xs)) :
    Calls Tryd.prog 4 #[.agg #[.int .i64 q, .int .i64 D, .int .i64 S, .int .i64 N, .int .i64 V], .int .i64 K] w fun e w' => e = .returned (.bool true) ∧ Below w.heap.size w w' := by
  have O := Lib.hid hO
  have B := Lib.hid hB
  have C := Lib.hid hC
  have W0 := Lib.hid hW
  have HL := Lib.hid hL
  have F := Lib.hid orders_any
  have HK := Lib.hid hk
  clear hO hB hC hW hL hk
  have NM := Lib.hid (name_yes K (by omega) (by omega) (by omega))
  have CY := Lib.hid (cyc_yes K (by omega) (by omega) (by omega))
  have IO := Lib.hid (isop_yes K (by omega) (by omega) (by omega))
  obtain ⟨m, hm⟩ : ∃ m, m = nmK K := ⟨_, rfl⟩
  obtain ⟨h, hh⟩ : ∃ h, h = hsK K := ⟨_, rfl⟩
  obtain ⟨y, hy⟩ : ∃ y, y = cyK K := ⟨_, rfl⟩
  have KA := Lib.hid kinds_any
  have KA2 : Hid (∀ W, Lk9 W → Calls Tryd.prog 19 #[] W fun e w' => (∃ g cp, e = .returned (.slice (some ⟨g, 0, none⟩) 32 cp) ∧ g < w'.heap.size ∧ w'.cell? ⟨g, K * 3, none⟩ = some (.string ⟨m.toArray⟩) ∧ w'.cell? ⟨g, K * 3 + 1, none⟩ = some (.string ⟨h.toArray⟩) ∧ w'.cell? ⟨g, K * 3 + 2, none⟩ = some (.int .i64 y)) ∧ Below W.heap.size W w') := Lib.hid (fun W hW => (KA.out W hW).mono fun e w' ⟨⟨v, he, ho⟩, hb⟩ => by
    obtain ⟨g, cp, rfl, _, h2, hcs⟩ := kinds_cells ho
    obtain ⟨c0, c1, c2⟩ := hcs K hkk
    exact ⟨⟨g, cp, he, h2, by rw [hm]; exact c0, by rw [hh]; exact c1, by rw [hy]; exact c2⟩, hb⟩)
  have WT : Hid (decide ((119 : Int) ∈ h.map (fun b => (b.toNat : Int))) = false) := Lib.hid (by rw [hh, ← hxx]; exact w_tab K hkk h30)
  have AT : Hid (∀ x ∈ h.map (fun b => (b.toNat : Int)), 0 ≤ x ∧ x ≤ 127) := Lib.hid (by rw [hh]; exact a_tab K hkk)
  have LT : Hid (h.length ≤ 10) := Lib.hid (by rw [hh]; exact l_tab K hkk)
  rw [show namO (K : Int) = ⟨m.toArray⟩ by unfold namO; rw [Int.toNat_natCast, nm_tab K hkk h30, hm]] at NM
  rw [show cycO (K : Int) = y by rw [hy]; exact cyc_tab K hkk h30, hxx] at CY
  simp only [if_true, Bool.false_eq_true, if_false] at CY
  have hki : (K : Int) < 32 := by omega
  have cv := fun (w : World) => run_bytes_of_string (P := Tryd.prog) w 9 22 5 ⟨h.toArray⟩ Tryd.underlying9 Tryd.underlying22 Tryd.underlying5
  have CA : Hid (∀ b c W, (∀ i, i < h.length → W.cell? ⟨b, i, none⟩ = some (.int .u8 ((h.map (fun b => (b.toNat : Int))).getD i 0))) → Calls Tryd.prog 20 #[.slice (some ⟨b, 0, none⟩) h.length c, .string ⟨#[119]⟩] W fun e w' => e = .returned (.bool false) ∧ w' = W) := Lib.hid (fun b c W hW => by
    have := contany_w b h.length c (h.map (fun b => (b.toNat : Int))) (by simp) LT.out W hW AT.out
    rw [WT.out] at this
    exact this)
  clear KA hm hh hy hxx hkk h30
  go_enter Tryd.func4, Tryd.ntmps4
  go_wp2_with fail
  refine (O.out _).mono ?_
  rintro e w1 ⟨v, rfl, hs, hb1⟩
  have Kw1_0 : Hid (Blk w1 (w.heap.size) #[.int .i64 q, .int .i64 D, .int .i64 S, .int .i64 N, .int .i64 V] 33) := Lib.hid (by repeat' (first | (with_reducible first | exact Hid.out (by assumption) | exact Blk.new _ _ _ | (refine Blk.new_at _ _ _ _ ?_; simp; done) | refine Blk.alloc ?_ _ | refine Blk.drewN ?_ _ | refine Blk.drew ?_ | apply Blk.set | refine Blk.put ?_ (by assumption) (by first | (simp; done) | (simp; omega) | omega) | refine Blk.below ?_ (by assumption)) | (refine Blk.setAt ?_ (by first | (simp; done) | (simp; omega))) | rfl))
  obtain ⟨lw1_0, cw1_0, fw1_0⟩ := Kw1_0.out.use
  obtain ⟨ao, cp, rfl, hsr⟩ := hs
  have HS : Hid (SliceAt w1 .u16 (.slice ao xs.length cp) xs) := Lib.hid ⟨ao, cp, rfl, hsr⟩
  clear hsr
  go_wp2_with fail
  refine (NM.out _).mono ?_
  rintro e w2 ⟨rfl, hb2⟩
  go_wp2_with fail
  refine (CY.out _).mono ?_
  rintro e w3 ⟨rfl, hb3⟩
  have Kw3_0 : Hid (Blk w3 (w.heap.size) #[.int .i64 q, .int .i64 D, .int .i64 S, .int .i64 N, .int .i64 V] 33) := Lib.hid (by repeat' (first | (with_reducible first | exact Hid.out (by assumption) | exact Blk.new _ _ _ | (refine Blk.new_at _ _ _ _ ?_; simp; done) | refine Blk.alloc ?_ _ | refine Blk.drewN ?_ _ | refine Blk.drew ?_ | apply Blk.set | refine Blk.put ?_ (by assumption) (by first | (simp; done) | (simp; omega) | omega) | refine Blk.below ?_ (by assumption)) | (refine Blk.setAt ?_ (by first | (simp; done) | (simp; omega))) | rfl))
  clear Kw1_0 cw1_0 fw1_0
  obtain ⟨lw3_0, cw3_0, fw3_0⟩ := Kw3_0.out.use
  go_wp2_with fail
  refine (B.out _ (HL.out.below ?hb4)).mono ?_
  case hb4 => exact by repeat' (first | (with_reducible first | exact Below.refl _ _ | assumption | refine below_alloc ?_ _ | refine Below.drew ?_ | refine Go.Mq.below_drewN ?_ _ | refine below_then ?_ (by assumption) | refine below_put ?_ (by assumption) (by first | (simp; done) | (simp; omega) | omega) | refine Below.setCell ?_ ?_ _) | (simp; done) | (simp; omega) | omega)
  rintro e w4 ⟨rfl, hb4⟩
  go_wp2_with fail
  refine (F.out _).mono ?_
  rintro e w5 ⟨rfl, hb5⟩
  have Kw5_0 : Hid (Blk w5 (w.heap.size) #[.int .i64 q, .int .i64 D, .int .i64 S, .int .i64 N, .int .i64 V] 33) := Lib.hid (by repeat' (first | (with_reducible first | exact Hid.out (by assumption) | exact Blk.new _ _ _ | (refine Blk.new_at _ _ _ _ ?_; simp; done) | refine Blk.alloc ?_ _ | refine Blk.drewN ?_ _ | refine Blk.drew ?_ | apply Blk.set | refine Blk.put ?_ (by assumption) (by first | (simp; done) | (simp; omega) | omega) | refine Blk.below ?_ (by assumption)) | (refine Blk.setAt ?_ (by first | (simp; done) | (simp; omega))) | rfl))
  clear Kw3_0 cw3_0 fw3_0
  obtain ⟨lw5_0, cw5_0, fw5_0⟩ := Kw5_0.out.use
  go_wp2_with fail
  refine (C.out _).mono ?_
  rintro e w6 ⟨rfl, hb6⟩
  go_wp2_with fail
  refine (IO.out _).mono ?_
  rintro e w7 ⟨rfl, hb7⟩
  have Kw7_0 : Hid (Blk w7 (w.heap.size) #[.int .i64 q, .int .i64 D, .int .i64 S, .int .i64 N, .int .i64 V] 33) := Lib.hid (by repeat' (first | (with_reducible first | exact Hid.out (by assumption) | exact Blk.new _ _ _ | (refine Blk.new_at _ _ _ _ ?_; simp; done) | refine Blk.alloc ?_ _ | refine Blk.drewN ?_ _ | refine Blk.drew ?_ | apply Blk.set | refine Blk.put ?_ (by assumption) (by first | (simp; done) | (simp; omega) | omega) | refine Blk.below ?_ (by assumption)) | (refine Blk.setAt ?_ (by first | (simp; done) | (simp; omega))) | rfl))
  clear Kw5_0 cw5_0 fw5_0
  obtain ⟨lw7_0, cw7_0, fw7_0⟩ := Kw7_0.out.use
  go_wp2_with fail
  refine (KA2.out _ (HL.out.below ?hbK)).mono ?_
  case hbK => exact by repeat' (first | (with_reducible first | exact Below.refl _ _ | assumption | refine below_alloc ?_ _ | refine Below.drew ?_ | refine Go.Mq.below_drewN ?_ _ | refine below_then ?_ (by assumption) | refine below_put ?_ (by assumption) (by first | (simp; done) | (simp; omega) | omega) | refine Below.setCell ?_ ?_ _) | (simp; done) | (simp; omega) | omega)
  rintro e w8 ⟨⟨gk, ck, rfl, hgk, c0, c1, c2⟩, hb8⟩
  have hb18 : Below w1.heap.size w1 w8 := by repeat' (first | (with_reducible first | exact Below.refl _ _ | assumption | refine below_alloc ?_ _ | refine Below.drew ?_ | refine Go.Mq.below_drewN ?_ _ | refine below_then ?_ (by assumption) | refine below_put ?_ (by assumption) (by first | (simp; done) | (simp; omega) | omega) | refine Below.setCell ?_ ?_ _) | (simp; done) | (simp; omega) | omega)
  have hbw8 : Below w.heap.size w w8 := by repeat' (first | (with_reducible first | exact Below.refl _ _ | assumption | refine below_alloc ?_ _ | refine Below.drew ?_ | refine Go.Mq.below_drewN ?_ _ | refine below_then ?_ (by assumption) | refine below_put ?_ (by assumption) (by first | (simp; done) | (simp; omega) | omega) | refine Below.setCell ?_ ?_ _) | (simp; done) | (simp; omega) | omega)
  have KW8 := Lib.hid (show Blk w8 w.heap.size #[.int .i64 q, .int .i64 D, .int .i64 S, .int .i64 N, .int .i64 V] 33 from Kw7_0.out.below hb8)
  clear hb2 hb3 hb4 hb5 hb6 hb7 hb8 cw7_0 fw7_0
  obtain ⟨l8, cc8, f8⟩ := KW8.out.use
  go_wp2_with fail
  refine (CA.out _ _ _ ?hca).mono ?_
  case hca =>
    intro i hi
    refine (cell_row _ _ _ _ _ i (by simp)).trans ?_
    rw [bytesRow_at _ _ i (by simpa using hi)]
    simp [List.getD_eq_getElem?_getD, List.getElem?_map, List.getElem?_eq_getElem hi]
  rintro e w9 ⟨rfl, rfl⟩
  have hs9 : w.heap.size < w8.heap.size := KW8.out.lt
  by_cases hk0 : k = 0
  · subst hk0
    have W := Lib.hid (W0.out rfl)
    go_wp2_with fail
    refine (W.out _ (HL.out.below ?hbW)).mono ?_
    case hbW => exact by repeat' (first | (with_reducible first | exact Below.refl _ _ | assumption | refine below_alloc ?_ _ | refine Below.drew ?_ | refine Go.Mq.below_drewN ?_ _ | refine below_then ?_ (by assumption) | refine below_put ?_ (by assumption) (by first | (simp; done) | (simp; omega) | omega) | refine Below.setCell ?_ ?_ _) | (simp; done) | (simp; omega) | omega)
    rintro e w20 ⟨u, rfl, hu, hb20⟩
    have HU := Lib.hid hu
    clear hu
    go_wp2_with fail
    refine (slEq_u16 _ _ xs xs _ (HS.out.below (by repeat' (first | (with_reducible first | exact Below.refl _ _ | assumption | refine below_alloc ?_ _ | refine Below.drew ?_ | refine Go.Mq.below_drewN ?_ _ | refine below_then ?_ (by assumption) | refine below_put ?_ (by assumption) (by first | (simp; done) | (simp; omega) | omega) | refine Below.setCell ?_ ?_ _) | (simp; done) | (simp; omega) | omega))) (HU.out.below (by repeat' (first | (with_reducible first | exact Below.refl _ _ | assumption | refine below_alloc ?_ _ | refine Below.drew ?_ | refine Go.Mq.below_drewN ?_ _ | refine below_then ?_ (by assumption) | refine below_put ?_ (by assumption) (by first | (simp; done) | (simp; omega) | omega) | refine Below.setCell ?_ ?_ _) | (simp; done) | (simp; omega) | omega)))).mono ?_
    rintro e w21 ⟨rfl, hb21⟩
    have hxx : (xs == xs) = true := by simp
    go_wp2
    go_ret
    exact ⟨rfl, by repeat' (first | (with_reducible first | exact Below.refl _ _ | assumption | refine below_alloc ?_ _ | refine Below.drew ?_ | refine Go.Mq.below_drewN ?_ _ | refine below_then ?_ (by assumption) | refine below_put ?_ (by assumption) (by first | (simp; done) | (simp; omega) | omega) | refine Below.setCell ?_ ?_ _) | (simp; done) | (simp; omega) | omega)⟩
  · have hx := HK.out hk0
    subst hx
    have hk1 : (k != 0) = true := by simpa using hk0
    clear hk0
    go_wp2
    go_ret
    exact ⟨rfl, by repeat' (first | (with_reducible first | exact Below.refl _ _ | assumption | refine below_alloc ?_ _ | refine Below.drew ?_ | refine Go.Mq.below_drewN ?_ _ | refine below_then ?_ (by assumption) | refine below_put ?_ (by assumption) (by first | (simp; done) | (simp; omega) | omega) | refine Below.setCell ?_ ?_ _) | (simp; done) | (simp; omega) | omega)⟩
theorem yes_t (q D S N V k : Int) (K : Nat) (xs : List Int) (hk : k ≠ 0 → xs = []) (hxx : hasW K = true) (hkk : K < 32) (h30 : K ≠ 30) (w : World) (hL : Lk9 w)
    (hO : ∀ w, Calls Tryd.prog 12 #[.agg #[.int .i64 q, .int .i64 D, .int .i64 S, .int .i64 N, .int .i64 V]] w (Ws w k xs))
    (hB : ∀ w, Lk9 w → Calls Tryd.prog 15 #[.agg #[.int .i64 q, .int .i64 D, .int .i64 S, .int .i64 N, .int .i64 V]] w fun e w' => e = .returned (.int .i64 k) ∧ Below w.heap.size w w')
    (hC : ∀ w, Calls Tryd.prog 17 #[.agg #[.int .i64 q, .int .i64 D, .int .i64 S, .int .i64 N, .int .i64 V]] w fun e w' => e = .returned (.int .i64 k) ∧ Below w.heap.size w w')
    (hW : k = 0 → ∀ w, Lk9 w → Calls Tryd.prog 22 #[.agg #[.int .i64 q, .int .i64 D, .int .i64 S, .int .i64 N, .int .i64 V]] w (W1 w xs)) :
    Calls Tryd.prog 4 #[.agg #[.int .i64 q, .int .i64 D, .int .i64 S, .int .i64 N, .int .i64 V], .int .i64 K] w fun e w' => e = .returned (.bool true) ∧ Below w.heap.size w w' := by
  have O := Lib.hid hO
  have B := Lib.hid hB
  have C := Lib.hid hC
  have W0 := Lib.hid hW
  have HL := Lib.hid hL
  have F := Lib.hid orders_any
  have HK := Lib.hid hk
  clear hO hB hC hW hL hk
  have NM := Lib.hid (name_yes K (by omega) (by omega) (by omega))
  have CY := Lib.hid (cyc_yes K (by omega) (by omega) (by omega))
  have IO := Lib.hid (isop_yes K (by omega) (by omega) (by omega))
  obtain ⟨m, hm⟩ : ∃ m, m = nmK K := ⟨_, rfl⟩
  obtain ⟨h, hh⟩ : ∃ h, h = hsK K := ⟨_, rfl⟩
  obtain ⟨y, hy⟩ : ∃ y, y = cyK K := ⟨_, rfl⟩
  have KA := Lib.hid kinds_any
  have KA2 : Hid (∀ W, Lk9 W → Calls Tryd.prog 19 #[] W fun e w' => (∃ g cp, e = .returned (.slice (some ⟨g, 0, none⟩) 32 cp) ∧ g < w'.heap.size ∧ w'.cell? ⟨g, K * 3, none⟩ = some (.string ⟨m.toArray⟩) ∧ w'.cell? ⟨g, K * 3 + 1, none⟩ = some (.string ⟨h.toArray⟩) ∧ w'.cell? ⟨g, K * 3 + 2, none⟩ = some (.int .i64 y)) ∧ Below W.heap.size W w') := Lib.hid (fun W hW => (KA.out W hW).mono fun e w' ⟨⟨v, he, ho⟩, hb⟩ => by
    obtain ⟨g, cp, rfl, _, h2, hcs⟩ := kinds_cells ho
    obtain ⟨c0, c1, c2⟩ := hcs K hkk
    exact ⟨⟨g, cp, he, h2, by rw [hm]; exact c0, by rw [hh]; exact c1, by rw [hy]; exact c2⟩, hb⟩)
  have WT : Hid (decide ((119 : Int) ∈ h.map (fun b => (b.toNat : Int))) = true) := Lib.hid (by rw [hh, ← hxx]; exact w_tab K hkk h30)
  have AT : Hid (∀ x ∈ h.map (fun b => (b.toNat : Int)), 0 ≤ x ∧ x ≤ 127) := Lib.hid (by rw [hh]; exact a_tab K hkk)
  have LT : Hid (h.length ≤ 10) := Lib.hid (by rw [hh]; exact l_tab K hkk)
  rw [show namO (K : Int) = ⟨m.toArray⟩ by unfold namO; rw [Int.toNat_natCast, nm_tab K hkk h30, hm]] at NM
  rw [show cycO (K : Int) = y by rw [hy]; exact cyc_tab K hkk h30, hxx] at CY
  simp only [if_true, Bool.false_eq_true, if_false] at CY
  have hki : (K : Int) < 32 := by omega
  have cv := fun (w : World) => run_bytes_of_string (P := Tryd.prog) w 9 22 5 ⟨h.toArray⟩ Tryd.underlying9 Tryd.underlying22 Tryd.underlying5
  have CA : Hid (∀ b c W, (∀ i, i < h.length → W.cell? ⟨b, i, none⟩ = some (.int .u8 ((h.map (fun b => (b.toNat : Int))).getD i 0))) → Calls Tryd.prog 20 #[.slice (some ⟨b, 0, none⟩) h.length c, .string ⟨#[119]⟩] W fun e w' => e = .returned (.bool true) ∧ w' = W) := Lib.hid (fun b c W hW => by
    have := contany_w b h.length c (h.map (fun b => (b.toNat : Int))) (by simp) LT.out W hW AT.out
    rw [WT.out] at this
    exact this)
  clear KA hm hh hy hxx hkk h30
  go_enter Tryd.func4, Tryd.ntmps4
  go_wp2_with fail
  refine (O.out _).mono ?_
  rintro e w1 ⟨v, rfl, hs, hb1⟩
  have Kw1_0 : Hid (Blk w1 (w.heap.size) #[.int .i64 q, .int .i64 D, .int .i64 S, .int .i64 N, .int .i64 V] 33) := Lib.hid (by repeat' (first | (with_reducible first | exact Hid.out (by assumption) | exact Blk.new _ _ _ | (refine Blk.new_at _ _ _ _ ?_; simp; done) | refine Blk.alloc ?_ _ | refine Blk.drewN ?_ _ | refine Blk.drew ?_ | apply Blk.set | refine Blk.put ?_ (by assumption) (by first | (simp; done) | (simp; omega) | omega) | refine Blk.below ?_ (by assumption)) | (refine Blk.setAt ?_ (by first | (simp; done) | (simp; omega))) | rfl))
  obtain ⟨lw1_0, cw1_0, fw1_0⟩ := Kw1_0.out.use
  obtain ⟨ao, cp, rfl, hsr⟩ := hs
  have HS : Hid (SliceAt w1 .u16 (.slice ao xs.length cp) xs) := Lib.hid ⟨ao, cp, rfl, hsr⟩
  clear hsr
  go_wp2_with fail
  refine (NM.out _).mono ?_
  rintro e w2 ⟨rfl, hb2⟩
  go_wp2_with fail
  refine (CY.out _).mono ?_
  rintro e w3 ⟨rfl, hb3⟩
  have Kw3_0 : Hid (Blk w3 (w.heap.size) #[.int .i64 q, .int .i64 D, .int .i64 S, .int .i64 N, .int .i64 V] 33) := Lib.hid (by repeat' (first | (with_reducible first | exact Hid.out (by assumption) | exact Blk.new _ _ _ | (refine Blk.new_at _ _ _ _ ?_; simp; done) | refine Blk.alloc ?_ _ | refine Blk.drewN ?_ _ | refine Blk.drew ?_ | apply Blk.set | refine Blk.put ?_ (by assumption) (by first | (simp; done) | (simp; omega) | omega) | refine Blk.below ?_ (by assumption)) | (refine Blk.setAt ?_ (by first | (simp; done) | (simp; omega))) | rfl))
  clear Kw1_0 cw1_0 fw1_0
  obtain ⟨lw3_0, cw3_0, fw3_0⟩ := Kw3_0.out.use
  go_wp2_with fail
  refine (B.out _ (HL.out.below ?hb4)).mono ?_
  case hb4 => exact by repeat' (first | (with_reducible first | exact Below.refl _ _ | assumption | refine below_alloc ?_ _ | refine Below.drew ?_ | refine Go.Mq.below_drewN ?_ _ | refine below_then ?_ (by assumption) | refine below_put ?_ (by assumption) (by first | (simp; done) | (simp; omega) | omega) | refine Below.setCell ?_ ?_ _) | (simp; done) | (simp; omega) | omega)
  rintro e w4 ⟨rfl, hb4⟩
  go_wp2_with fail
  refine (F.out _).mono ?_
  rintro e w5 ⟨rfl, hb5⟩
  have Kw5_0 : Hid (Blk w5 (w.heap.size) #[.int .i64 q, .int .i64 D, .int .i64 S, .int .i64 N, .int .i64 V] 33) := Lib.hid (by repeat' (first | (with_reducible first | exact Hid.out (by assumption) | exact Blk.new _ _ _ | (refine Blk.new_at _ _ _ _ ?_; simp; done) | refine Blk.alloc ?_ _ | refine Blk.drewN ?_ _ | refine Blk.drew ?_ | apply Blk.set | refine Blk.put ?_ (by assumption) (by first | (simp; done) | (simp; omega) | omega) | refine Blk.below ?_ (by assumption)) | (refine Blk.setAt ?_ (by first | (simp; done) | (simp; omega))) | rfl))
  clear Kw3_0 cw3_0 fw3_0
  obtain ⟨lw5_0, cw5_0, fw5_0⟩ := Kw5_0.out.use
  go_wp2_with fail
  refine (C.out _).mono ?_
  rintro e w6 ⟨rfl, hb6⟩
  go_wp2_with fail
  refine (IO.out _).mono ?_
  rintro e w7 ⟨rfl, hb7⟩
  have Kw7_0 : Hid (Blk w7 (w.heap.size) #[.int .i64 q, .int .i64 D, .int .i64 S, .int .i64 N, .int .i64 V] 33) := Lib.hid (by repeat' (first | (with_reducible first | exact Hid.out (by assumption) | exact Blk.new _ _ _ | (refine Blk.new_at _ _ _ _ ?_; simp; done) | refine Blk.alloc ?_ _ | refine Blk.drewN ?_ _ | refine Blk.drew ?_ | apply Blk.set | refine Blk.put ?_ (by assumption) (by first | (simp; done) | (simp; omega) | omega) | refine Blk.below ?_ (by assumption)) | (refine Blk.setAt ?_ (by first | (simp; done) | (simp; omega))) | rfl))
  clear Kw5_0 cw5_0 fw5_0
  obtain ⟨lw7_0, cw7_0, fw7_0⟩ := Kw7_0.out.use
  go_wp2_with fail
  refine (KA2.out _ (HL.out.below ?hbK)).mono ?_
  case hbK => exact by repeat' (first | (with_reducible first | exact Below.refl _ _ | assumption | refine below_alloc ?_ _ | refine Below.drew ?_ | refine Go.Mq.below_drewN ?_ _ | refine below_then ?_ (by assumption) | refine below_put ?_ (by assumption) (by first | (simp; done) | (simp; omega) | omega) | refine Below.setCell ?_ ?_ _) | (simp; done) | (simp; omega) | omega)
  rintro e w8 ⟨⟨gk, ck, rfl, hgk, c0, c1, c2⟩, hb8⟩
  have hb18 : Below w1.heap.size w1 w8 := by repeat' (first | (with_reducible first | exact Below.refl _ _ | assumption | refine below_alloc ?_ _ | refine Below.drew ?_ | refine Go.Mq.below_drewN ?_ _ | refine below_then ?_ (by assumption) | refine below_put ?_ (by assumption) (by first | (simp; done) | (simp; omega) | omega) | refine Below.setCell ?_ ?_ _) | (simp; done) | (simp; omega) | omega)
  have hbw8 : Below w.heap.size w w8 := by repeat' (first | (with_reducible first | exact Below.refl _ _ | assumption | refine below_alloc ?_ _ | refine Below.drew ?_ | refine Go.Mq.below_drewN ?_ _ | refine below_then ?_ (by assumption) | refine below_put ?_ (by assumption) (by first | (simp; done) | (simp; omega) | omega) | refine Below.setCell ?_ ?_ _) | (simp; done) | (simp; omega) | omega)
  have KW8 := Lib.hid (show Blk w8 w.heap.size #[.int .i64 q, .int .i64 D, .int .i64 S, .int .i64 N, .int .i64 V] 33 from Kw7_0.out.below hb8)
  clear hb2 hb3 hb4 hb5 hb6 hb7 hb8 cw7_0 fw7_0
  obtain ⟨l8, cc8, f8⟩ := KW8.out.use
  go_wp2_with fail
  refine (CA.out _ _ _ ?hca).mono ?_
  case hca =>
    intro i hi
    refine (cell_row _ _ _ _ _ i (by simp)).trans ?_
    rw [bytesRow_at _ _ i (by simpa using hi)]
    simp [List.getD_eq_getElem?_getD, List.getElem?_map, List.getElem?_eq_getElem hi]
  rintro e w9 ⟨rfl, rfl⟩
  have hs9 : w.heap.size < w8.heap.size := KW8.out.lt
  by_cases hk0 : k = 0
  · subst hk0
    have W := Lib.hid (W0.out rfl)
    go_wp2_with fail
    refine (W.out _ (HL.out.below ?hbW)).mono ?_
    case hbW => exact by repeat' (first | (with_reducible first | exact Below.refl _ _ | assumption | refine below_alloc ?_ _ | refine Below.drew ?_ | refine Go.Mq.below_drewN ?_ _ | refine below_then ?_ (by assumption) | refine below_put ?_ (by assumption) (by first | (simp; done) | (simp; omega) | omega) | refine Below.setCell ?_ ?_ _) | (simp; done) | (simp; omega) | omega)
    rintro e w20 ⟨u, rfl, hu, hb20⟩
    have HU := Lib.hid hu
    clear hu
    go_wp2_with fail
    refine (slEq_u16 _ _ xs xs _ (HS.out.below (by repeat' (first | (with_reducible first | exact Below.refl _ _ | assumption | refine below_alloc ?_ _ | refine Below.drew ?_ | refine Go.Mq.below_drewN ?_ _ | refine below_then ?_ (by assumption) | refine below_put ?_ (by assumption) (by first | (simp; done) | (simp; omega) | omega) | refine Below.setCell ?_ ?_ _) | (simp; done) | (simp; omega) | omega))) (HU.out.below (by repeat' (first | (with_reducible first | exact Below.refl _ _ | assumption | refine below_alloc ?_ _ | refine Below.drew ?_ | refine Go.Mq.below_drewN ?_ _ | refine below_then ?_ (by assumption) | refine below_put ?_ (by assumption) (by first | (simp; done) | (simp; omega) | omega) | refine Below.setCell ?_ ?_ _) | (simp; done) | (simp; omega) | omega)))).mono ?_
    rintro e w21 ⟨rfl, hb21⟩
    have hxx : (xs == xs) = true := by simp
    go_wp2
    go_ret
    exact ⟨rfl, by repeat' (first | (with_reducible first | exact Below.refl _ _ | assumption | refine below_alloc ?_ _ | refine Below.drew ?_ | refine Go.Mq.below_drewN ?_ _ | refine below_then ?_ (by assumption) | refine below_put ?_ (by assumption) (by first | (simp; done) | (simp; omega) | omega) | refine Below.setCell ?_ ?_ _) | (simp; done) | (simp; omega) | omega)⟩
  · have hx := HK.out hk0
    subst hx
    have hk1 : (k != 0) = true := by simpa using hk0
    clear hk0
    go_wp2
    go_ret
    exact ⟨rfl, by repeat' (first | (with_reducible first | exact Below.refl _ _ | assumption | refine below_alloc ?_ _ | refine Below.drew ?_ | refine Go.Mq.below_drewN ?_ _ | refine below_then ?_ (by assumption) | refine below_put ?_ (by assumption) (by first | (simp; done) | (simp; omega) | omega) | refine Below.setCell ?_ ?_ _) | (simp; done) | (simp; omega) | omega)⟩
theorem walk (q D S N V op : Int) (w : World) (hq : I64 q) (h1 : I64 D) (h2 : I64 S) (h3 : I64 N) (h4 : I64 V) (hop : I64 op) (hL : Lk9 w) : Calls Tryd.prog 4 #[.agg #[.int .i64 q, .int .i64 D, .int .i64 S, .int .i64 N, .int .i64 V], .int .i64 op] w fun e w' => e = .returned (.bool true) ∧ Below w.heap.size w w' := by
  obtain ⟨o, ho⟩ : ∃ o : Od, o = ⟨q, D, S, N, V⟩ := ⟨_, rfl⟩
  obtain ⟨k, hk⟩ : ∃ k, k = checkO o := ⟨_, rfl⟩
  obtain ⟨xs, hxs⟩ : ∃ xs, xs = if k = 0 then wordsO o else [] := ⟨_, rfl⟩
  have HX : k ≠ 0 → xs = [] := fun h => by rw [hxs, if_neg h]
  have HW : k = 0 → ∀ x ∈ wordsO o, (Lit.int .u16 x).wf = true := fun h0 x hx => by
    obtain ⟨⟨b0, b1, b2⟩, ⟨d0, d1⟩, ⟨s0, s1⟩, ⟨n0, n1⟩, ⟨w0, w1⟩, _⟩ := right_in o (by rw [← hk]; exact h0)
    refine u16_wf _ ?_
    unfold wordsO wordO at hx
    unfold U16
    split at hx
    · simp at hx
      rcases hx with rfl | rfl <;> omega
    · simp at hx
      subst hx
      omega
  have HO : ∀ w, Calls Tryd.prog 12 #[.agg #[.int .i64 q, .int .i64 D, .int .i64 S, .int .i64 N, .int .i64 V]] w (Ws w k xs) := fun w => by
    by_cases h0 : k = 0
    · have := words_any o (by rw [← hk]; exact h0) w
      rw [ho] at this
      refine this.mono ?_
      rintro e w' ⟨v, rfl, hown, hb⟩
      refine ⟨v, by rw [h0], ?_, hb⟩
      rw [hxs, if_pos h0, ho]
      exact own_slice hown (by rw [ho] at HW; exact HW h0)
    · have := words_no o (by rw [← hk]; exact h0) w
      rw [← hk, ho] at this
      refine this.mono ?_
      rintro e w' ⟨rfl, hb⟩
      refine ⟨_, rfl, ?_, hb⟩
      rw [HX h0]
      exact ⟨none, 0, rfl, by simp, by simp [maxLen], by simp, fun h => by simp at h⟩
  have HC : ∀ w, Calls Tryd.prog 17 #[.agg #[.int .i64 q, .int .i64 D, .int .i64 S, .int .i64 N, .int .i64 V]] w fun e w' => e = .returned (.int .i64 k) ∧ Below w.heap.size w w' := fun w => by
    have := check_any q D S N V w
    rw [show k = checkO ⟨q, D, S, N, V⟩ by rw [hk, ho]]
    exact this
  have HB : ∀ w, Lk9 w → Calls Tryd.prog 15 #[.agg #[.int .i64 q, .int .i64 D, .int .i64 S, .int .i64 N, .int .i64 V]] w fun e w' => e = .returned (.int .i64 k) ∧ Below w.heap.size w w' := fun w hL => by
    by_cases hr : q < 0 ∨ 31 < q ∨ q = 30
    · have := ck_no q D S N V hr w
      rw [show k = 5 by rw [hk, ho]; unfold checkO; rw [if_pos hr]]
      exact this
    · obtain ⟨K, hK⟩ : ∃ K : Nat, q = K := ⟨q.toNat, by omega⟩
      have hk32 : K < 32 := by omega
      have h30 : K ≠ 30 := by omega
      have := ck_yes K D S N V hk32 h30 w hL
      obtain ⟨t1, t2, t3, t4⟩ := has_tab K hk32 h30
      rw [t1, t2, t3, t4, low_tab K hk32] at this
      rw [show k = if (partV (hasD K) D 0 7 && partV (hasS K) S 0 7 && partV (hasN K) N (lowO K) 15 && partV (hasW K) V 0 65535) = true then 0 else 3 by
        rw [hk, ho]; unfold checkO partsO; rw [if_neg hr]; rw [hK]]
      rw [hK]
      exact this
  have HWO : k = 0 → ∀ w, Lk9 w → Calls Tryd.prog 22 #[.agg #[.int .i64 q, .int .i64 D, .int .i64 S, .int .i64 N, .int .i64 V]] w (W1 w xs) := fun h0 w hL => by
    obtain ⟨⟨b0, b1, b2⟩, ⟨d0, d1⟩, ⟨s0, s1⟩, ⟨n0, n1⟩, ⟨w0, w1⟩, _⟩ := right_in o (by rw [← hk]; exact h0)
    rw [ho] at b0 b1 b2 d0 d1 s0 s1 n0 n1 w0 w1
    simp only at b0 b1 b2 d0 d1 s0 s1 n0 n1 w0 w1
    obtain ⟨K, hK⟩ : ∃ K : Nat, q = K := ⟨q.toNat, by omega⟩
    have := wordsof_any K D S N V (by omega) (by omega) d0 d1 s0 s1 n0 n1 w0 w1 w hL
    rw [hK]
    refine this.mono ?_
    rintro e w' ⟨v, rfl, hown, hb⟩
    refine ⟨v, rfl, ?_, hb⟩
    have hwf := HW h0
    rw [hxs, if_pos h0]
    rw [ho, hK] at hwf ⊢
    refine own_slice (base := w.heap.size) (e := 48) ?_ hwf
    unfold wordsO wordO
    cases hh : hasW (K : Int) <;> rw [hh] at hown <;> simpa [hh] using hown
  by_cases hr : op < 0 ∨ 31 < op ∨ op = 30
  · exact no_op q D S N V op k xs HX hr w hL HO HB HC HWO
  · obtain ⟨K, hK⟩ : ∃ K : Nat, op = K := ⟨op.toNat, by omega⟩
    subst hK
    cases hh : hasW (K : Int)
    · exact yes_f q D S N V k K xs HX hh (by omega) (by omega) w hL HO HB HC HWO
    · exact yes_t q D S N V k K xs HX hh (by omega) (by omega) w hL HO HB HC HWO
end Go.Proofs.YtmpdoiilakjmbaaDoor.orderWords
