/- The document writes a right order as words. Conditions: the order is right; the library's variables hold what they were laid with. -/
import Derived.Test.YtmpdoiilakjmbaaDoorOrdOf
import Derived.Test.YtmpdoiilakjmbaaDoorOrdPl
import Derived.Test.YtmpdoiilakjmbaaDoorCkPl
import Derived.Test.YtmpdoiilakjmbaaDoorOrderWrd
namespace Go.Proofs.YtmpdoiilakjmbaaDoor
open Go.RowKit Go.Mq
set_option linter.unusedVariables false
set_option linter.unusedSimpArgs false
set_option maxHeartbeats 2000000
set_option maxRecDepth 100000
theorem contains_w (h : List UInt8) (hl : h.length ≤ 100) : ∀ W, Lk W → Calls Tryd.prog 37 #[.string ⟨h.toArray⟩, .string ⟨#[119]⟩] W fun e w' => e = .returned (.bool (Lib.contains h [119])) ∧ w' = W := fun W hW => by
  obtain ⟨m, hm⟩ := hW.mx
  have := Tryd.strings_Contains ⟨h.toArray⟩ ⟨#[119]⟩ m W (by rw [Lib.size_eq]; simp; omega) hm
  simpa using this
theorem wordsof_any (K : Nat) (D S N V : Int) (hk : K < 32) (h30 : K ≠ 30) (d0 : 0 ≤ D) (d1 : D ≤ 7) (s0 : 0 ≤ S) (s1 : S ≤ 7) (n0 : -16 ≤ N) (n1 : N ≤ 15) (w0 : 0 ≤ V) (w1 : V ≤ 65535) (w : World) (hL : Lk9 w) :
    Calls Tryd.prog 22 #[.agg #[.int .i64 K, .int .i64 D, .int .i64 S, .int .i64 N, .int .i64 V]] w fun e w' => ∃ v, e = .returned v ∧ w'.ownsRow w.heap.size 48 1 v (if hasW K then 2 else 1) (if hasW K then [.int .u16 (K * 2048 + D * 256 + S * 32 + N % 32), .int .u16 V] else [.int .u16 (K * 2048 + D * 256 + S * 32 + N % 32)]) ∧ Below w.heap.size w w' := by
  have KA := Lib.hid kinds_any
  have HL := Lib.hid hL
  have hki : (K : Int) < 32 := by omega
  clear hL
  obtain ⟨m, hm⟩ : ∃ m, m = nmK K := ⟨_, rfl⟩
  obtain ⟨h, hh⟩ : ∃ h, h = hsK K := ⟨_, rfl⟩
  obtain ⟨y, hy⟩ : ∃ y, y = cyK K := ⟨_, rfl⟩
  have KA2 : Hid (∀ W, Lk9 W → Calls Tryd.prog 19 #[] W fun e w' => (∃ g cp, e = .returned (.slice (some ⟨g, 0, none⟩) 32 cp) ∧ g < w'.heap.size ∧ w'.cell? ⟨g, K * 3, none⟩ = some (.string ⟨m.toArray⟩) ∧ w'.cell? ⟨g, K * 3 + 1, none⟩ = some (.string ⟨h.toArray⟩) ∧ w'.cell? ⟨g, K * 3 + 2, none⟩ = some (.int .i64 y)) ∧ Below W.heap.size W w') := Lib.hid (fun W hW => (KA.out W hW).mono fun e w' ⟨⟨v, he, ho⟩, hb⟩ => by
    obtain ⟨g, cp, rfl, _, h2, hcs⟩ := kinds_cells ho
    obtain ⟨c0, c1, c2⟩ := hcs K hk
    exact ⟨⟨g, cp, he, h2, by rw [hm]; exact c0, by rw [hh]; exact c1, by rw [hy]; exact c2⟩, hb⟩)
  have CT := contains_w h (by rw [hh]; have := hs_len K hk; omega)
  obtain ⟨bW, ebW⟩ : ∃ b, b = hasW K := ⟨_, rfl⟩
  rw [show Lib.contains h [119] = bW by rw [ebW, hh]; exact (has_tab K hk h30).2.2.2] at CT
  rw [← ebW]
  replace CT := Lib.hid CT
  clear ebW
  replace hm := Lib.hid hm
  replace hh := Lib.hid hh
  replace hy := Lib.hid hy
  clear KA
  have hK0 : (0 : Int) ≤ K := by omega
  have e32 : Int.tmod (N + 32) 32 = N % 32 := by rw [Int.tmod_eq_emod_of_nonneg (by omega)]; omega
  have b32 : 0 ≤ N % 32 ∧ N % 32 ≤ 31 := by omega
  have u1 : IntKind.u16.wrap (K * 2048 + D * 256 + S * 32 + N % 32) = K * 2048 + D * 256 + S * 32 + N % 32 := by rw [wrap16]; omega
  have u8 : IntKind.u16.wrap V = V := by rw [wrap16]; omega
  obtain ⟨q, eq⟩ : ∃ q, q = N % 32 := ⟨_, rfl⟩
  rw [← eq] at e32 b32 u1 ⊢
  clear eq
  obtain ⟨b0, b1⟩ := b32
  obtain ⟨Z, eX⟩ : ∃ Z, Z = (K : Int) * 2048 + D * 256 + S * 32 + q := ⟨_, rfl⟩
  rw [← eX] at u1 ⊢
  have eX' : Hid (Z = (K : Int) * 2048 + D * 256 + S * 32 + q) := Lib.hid eX
  replace eX : (K : Int) * 2048 + D * 256 + S * 32 + q = Z := eX.symm
  obtain ⟨i0, hi, hz0, hz1, hz2⟩ := info_parts infoU16
  have HI := Lib.hid (And.intro hi (And.intro hz0 (And.intro hz1 hz2)))
  clear hi hz0 hz1 hz2 w0 w1
  go_enter Tryd.func22, Tryd.ntmps22
  go_wp2_with fail
  refine wp_mark (R := fun W => Below w.heap.size w W ∧ Hid (Blk W (w.heap.size) (#[.int .i64 K, .int .i64 D, .int .i64 S, .int .i64 N, .int .i64 V]) 33) ∧ Hid (Blk W (w.heap.size + 1) (#[.int .u16 Z]) 48)) ⟨by repeat' (first | (with_reducible first | exact Below.refl _ _ | assumption | refine below_alloc ?_ _ | refine Below.drew ?_ | refine Go.Mq.below_drewN ?_ _ | refine below_then ?_ (by assumption) | refine below_put ?_ (by assumption) (by first | (simp; done) | (simp; omega) | omega) | refine Below.setCell ?_ ?_ _) | (simp; done) | (simp; omega) | omega), Lib.hid (by repeat' (first | (with_reducible first | exact Hid.out (by assumption) | exact Blk.new _ _ _ | (refine Blk.new_at _ _ _ _ ?_; simp; done) | refine Blk.alloc ?_ _ | refine Blk.drewN ?_ _ | refine Blk.drew ?_ | apply Blk.set | refine Blk.put ?_ (by assumption) (by first | (simp; done) | (simp; omega) | omega) | refine Blk.below ?_ (by assumption)) | (refine Blk.setAt ?_ (by first | (simp; done) | (simp; omega))) | rfl)), Lib.hid (by repeat' (first | (with_reducible first | exact Hid.out (by assumption) | exact Blk.new _ _ _ | (refine Blk.new_at _ _ _ _ ?_; simp; done) | refine Blk.alloc ?_ _ | refine Blk.drewN ?_ _ | refine Blk.drew ?_ | apply Blk.set | refine Blk.put ?_ (by assumption) (by first | (simp; done) | (simp; omega) | omega) | refine Blk.below ?_ (by assumption)) | (refine Blk.setAt ?_ (by first | (simp; done) | (simp; omega))) | rfl))⟩ ?_
  rintro w2 ⟨hbw2, Kw2_0, Kw2_1⟩
  obtain ⟨lw2_0, cw2_0, fw2_0⟩ := Kw2_0.out.use
  obtain ⟨lw2_1, cw2_1, fw2_1⟩ := Kw2_1.out.use
  clear eX
  refine wp_region_held_drew (S := fun X => Below w.heap.size w X ∧ Blk X w.heap.size #[.int .i64 K, .int .i64 D, .int .i64 S, .int .i64 N, .int .i64 V] 33 ∧ Blk X (w.heap.size + 1) #[.int .u16 Z] 48) (by kernel_rfl) ⟨hbw2.drew, Kw2_0.out.drew, Kw2_1.out.drew⟩ (fun hS => ?_)
  refine wpAnyH_take (i := 1) (v := ?v1) rfl (by kernel_rfl) (by kernel_rfl) (by kernel_rfl) (fun _ _ _ h => h) (Or.inl ⟨by rfl, ?y1⟩) hS ?_
  case y1 => (intro w hSw; have cB := hSw.2.1.cell; go_simp; try with_reducible rfl)
  try simp only [List.getElem_toArray, List.getElem_cons_succ, List.getElem_cons_zero, Act.put, List.setIfInBounds_toArray, List.set_cons_zero, List.set_cons_succ]
  refine wpAnyH_take (i := 2) (v := ?v2) rfl (by kernel_rfl) (by kernel_rfl) (by kernel_rfl) (fun _ _ _ h => h) (Or.inl ⟨by rfl, ?y2⟩) hS ?_
  case y2 => (intro w hSw; have cB := hSw.2.1.cell; go_simp; try with_reducible rfl)
  try simp only [List.getElem_toArray, List.getElem_cons_succ, List.getElem_cons_zero, Act.put, List.setIfInBounds_toArray, List.set_cons_zero, List.set_cons_succ]
  refine wpAnyH_ready (rs := [0]) (by kernel_rfl) (by simp) (AllReadyH.cons rfl (fun K hK => ?_) AllReadyH.nil)
  go_simp
  refine (KA2.out _ (HL.out.below hS.1)).mono ?_
  rintro e w5 ⟨⟨gk, cp, rfl, hgk, c0, c1, c2⟩, hb_w5⟩
  try go_wp2_with fail
  have hw5 := hb_w5.size
  refine hK.out _ _ ⟨below_then hS.1 hb_w5, hS.2.1.below hb_w5, hS.2.2.below hb_w5⟩ (fun hS => ?_)
  clear hK K
  try simp only [List.getElem_toArray, List.getElem_cons_succ, List.getElem_cons_zero, Act.put, List.setIfInBounds_toArray, List.set_cons_zero, List.set_cons_succ]
  refine wpAnyH_take (i := 3) (v := ?v3) rfl (by kernel_rfl) (by kernel_rfl) (by kernel_rfl) (fun _ _ _ h => h) (Or.inl ⟨by rfl, ?y3⟩) hS ?_
  case y3 => (intro w hSw; have cB := hSw.2.1.cell; go_simp; try with_reducible rfl)
  try simp only [List.getElem_toArray, List.getElem_cons_succ, List.getElem_cons_zero, Act.put, List.setIfInBounds_toArray, List.set_cons_zero, List.set_cons_succ]
  refine wpAnyH_take (i := 4) (v := ?v4) rfl (by kernel_rfl) (by kernel_rfl) (by kernel_rfl) (fun _ _ _ h => h) (Or.inl ⟨by rfl, ?y4⟩) hS ?_
  case y4 => (intro w hSw; have cB := hSw.2.1.cell; go_simp; try with_reducible rfl)
  try simp only [List.getElem_toArray, List.getElem_cons_succ, List.getElem_cons_zero, Act.put, List.setIfInBounds_toArray, List.set_cons_zero, List.set_cons_succ]
  refine wpAnyH_ready (rs := [5]) (by kernel_rfl) (by simp) (AllReadyH.cons rfl (fun K hK => ?_) AllReadyH.nil)
  go_simp
  refine hK.out _ _ hS (fun hS => ?_)
  clear hK K
  try simp only [List.getElem_toArray, List.getElem_cons_succ, List.getElem_cons_zero, Act.put, List.setIfInBounds_toArray, List.set_cons_zero, List.set_cons_succ]
  refine wpAnyH_ready (rs := [6]) (by kernel_rfl) (by simp) (AllReadyH.cons rfl (fun K hK => ?_) AllReadyH.nil)
  go_simp
  refine (CT.out _ (HL.out.below hS.1).lk).mono ?_
  rintro e w6 ⟨rfl, rfl⟩
  try go_wp2_with fail
  refine hK.out _ _ hS (fun hS => ?_)
  clear hK K
  try simp only [List.getElem_toArray, List.getElem_cons_succ, List.getElem_cons_zero, Act.put, List.setIfInBounds_toArray, List.set_cons_zero, List.set_cons_succ]
  refine wpAnyH_done (by kernel_rfl) ?_ _
  obtain ⟨hb6, KB6, KW6⟩ := hS
  replace KB6 := Lib.hid KB6
  replace KW6 := Lib.hid KW6
  have hsz : w.heap.size + 1 < w6.heap.size := KW6.out.lt
  obtain ⟨lB, cB, fB⟩ := KB6.out.use
  clear hb_w5 c0 c1 c2 hw5
  cases bW
  · go_wp2
    refine bodyPost_ret (v := .slice (some ⟨w.heap.size + 1, 0, none⟩) 1 1) (by simp [results, Tryd.results22, go_sem]) rfl ⟨_, rfl, own_one KW6.out (by omega), by repeat' (first | (with_reducible first | exact Below.refl _ _ | assumption | refine below_alloc ?_ _ | refine Below.drew ?_ | refine Go.Mq.below_drewN ?_ _ | refine below_then ?_ (by assumption) | refine below_put ?_ (by assumption) (by first | (simp; done) | (simp; omega) | omega) | refine Below.setCell ?_ ?_ _) | (simp; done) | (simp; omega) | omega)⟩
  · go_wp2_with (first
      | (at_builtin; refine wpList_append_own _ rfl (.tmp 29) (.tmp 33) 34 rfl (w.heap.size) 48 i0 (.int .u16 0) 1 2 Tryd.underlying34 HI.out.1 HI.out.2.1 HI.out.2.2.1 HI.out.2.2.2 rfl (by decide) _ _ _ rfl ((own_one KW6.out (by omega)).alloc _) ⟨w6.heap.size, 0, none⟩ 1 1 [.int .u16 V] rfl rfl ?c1 ?c2 ?c3 ?c4 ?c5 ?_)
      | fail)
    case c1 =>
      intro j u hj
      match j, hj with
      | 0, hj => simp at hj; subst hj; simp [Addr.add]
    case c2 => intro u hu; simp at hu; subst hu; rfl
    case c3 => unfold maxLen; omega
    case c4 => omega
    case c5 => simp; omega
    intro v' w7 hown hgrow _
    have hb7 : Below w.heap.size w w7 := below_grown (below_alloc hb6 _) (by simp; omega) hgrow ((own_one (base := w.heap.size) KW6.out (by omega)).alloc _) (by omega)
    go_wp2
    refine bodyPost_ret (v := v') (by simp [results, Tryd.results22, go_sem]) rfl ⟨_, rfl, hown, hb7⟩
end Go.Proofs.YtmpdoiilakjmbaaDoor
