/- The document reads two words as an order. Conditions: the words are words; the library's variables hold what they were laid with. -/
import Derived.Test.YtmpdoiilakjmbaaDoorKinds
import Derived.Test.YtmpdoiilakjmbaaDoorOfP
namespace Go.Proofs.YtmpdoiilakjmbaaDoor
open Go.RowKit Go.Mq
set_option linter.unusedVariables false
set_option linter.unusedSimpArgs false
set_option maxHeartbeats 2000000
set_option maxRecDepth 100000
theorem kinds_cells {w : World} {base : Nat} {v : Value} (h : w.ownsRow base 43 3 v 32 (kRows 32)) : ∃ g cp, v = .slice (some ⟨g, 0, none⟩) 32 cp ∧ base ≤ g ∧ g < w.heap.size ∧ ∀ k, k < 32 → w.cell? ⟨g, k * 3, none⟩ = some (.string ⟨(nmK k).toArray⟩) ∧ w.cell? ⟨g, k * 3 + 1, none⟩ = some (.string ⟨(hsK k).toArray⟩) ∧ w.cell? ⟨g, k * 3 + 2, none⟩ = some (.int .i64 (cyK k)) := by
  rcases h.2 with ⟨_, h0⟩ | ⟨g, cap, cur, rfl, hb, hg, _⟩
  · omega
  · refine ⟨g, cap, rfl, hb, (Array.getElem?_eq_some_iff.1 hg).1, ?_⟩
    have key : ∀ k, k < 32 → (kRows 32)[k * 3]? = some (.string ⟨(nmK k).toArray⟩) ∧ (kRows 32)[k * 3 + 1]? = some (.string ⟨(hsK k).toArray⟩) ∧ (kRows 32)[k * 3 + 2]? = some (.int .i64 (cyK k)) := by
      intro k hk
      have : ∀ n, k < n → (kRows n)[k * 3]? = some (.string ⟨(nmK k).toArray⟩) ∧ (kRows n)[k * 3 + 1]? = some (.string ⟨(hsK k).toArray⟩) ∧ (kRows n)[k * 3 + 2]? = some (.int .i64 (cyK k)) := by
        intro n
        induction n with
        | zero => intro h; omega
        | succ n ih =>
          intro hn
          have hl : ∀ m, (kRows m).length = m * 3 := by
            intro m
            induction m with
            | zero => rfl
            | succ m ih => rw [kRows_succ, List.length_append, ih]; simp; omega
          rw [kRows_succ]
          by_cases e : k = n
          · subst e
            refine ⟨?_, ?_, ?_⟩ <;> (rw [List.getElem?_append_right (by rw [hl]; omega), hl]) <;> simp
          · obtain ⟨i0, i1, i2⟩ := ih (by omega)
            refine ⟨?_, ?_, ?_⟩ <;> rw [List.getElem?_append_left (by rw [hl]; omega)] <;> assumption
      exact this 32 hk
    intro k hk
    obtain ⟨k0, k1, k2⟩ := key k hk
    have c0 := h.cells (g := g) rfl _ _ k0
    have c1 := h.cells (g := g) rfl _ _ k1
    have c2 := h.cells (g := g) rfl _ _ k2
    rw [Addr.add_lit, Nat.zero_add] at c0 c1 c2
    exact ⟨c0, c1, c2⟩
theorem of_30 (a b : Int) (ha : U16 a) (h30 : a / 2048 = 30) (w : World) : Calls Tryd.prog 43 #[.int .u16 a, .int .u16 b] w fun e w' => e = .returned (.tuple #[.agg #[.int .i64 31, .int .i64 0, .int .i64 0, .int .i64 0, .int .i64 0], .int .i64 1]) ∧ Below w.heap.size w w' := by
  have w0 : wrap64 a = a := by unfold U16 at ha; unfold wrap64; omega
  have h1 : Int.tdiv a 2048 = a / 2048 := Int.tdiv_eq_ediv_of_nonneg (by unfold U16 at ha; omega)
  have h2 : wrap64 (a / 2048) = a / 2048 := by unfold U16 at ha; unfold wrap64; omega
  have q : (a / 2048 == 30) = true := by simpa using h30
  clear h30
  go_enter Tryd.func43, Tryd.ntmps43
  go_wp2
  refine bodyPost_ret (v := .tuple #[.agg #[.int .i64 31, .int .i64 0, .int .i64 0, .int .i64 0, .int .i64 0], .int .i64 1]) (by simp [results, Tryd.results43, go_sem]) rfl ⟨rfl, ?_⟩
  exact by repeat' (first | (with_reducible first | exact Below.refl _ _ | assumption | refine below_alloc ?_ _ | refine Below.drew ?_ | refine Go.Mq.below_drewN ?_ _ | refine below_then ?_ (by assumption) | refine below_put ?_ (by assumption) (by first | (simp; done) | (simp; omega) | omega) | refine Below.setCell ?_ ?_ _) | (simp; done) | (simp; omega) | omega)
theorem of_some_k (a b : Int) (ha : U16 a) (hb : U16 b) (K : Nat) (hK : a / 2048 = K) (hk : K < 32) (hk30 : K ≠ 30) (w : World) (hL : Lk9 w) : Calls Tryd.prog 43 #[.int .u16 a, .int .u16 b] w fun e w' =>
    e = .returned (.tuple #[.agg #[.int .i64 K, .int .i64 (foldA (shK K) a b (hsK K)).d, .int .i64 (foldA (shK K) a b (hsK K)).s, .int .i64 (foldA (shK K) a b (hsK K)).n, .int .i64 (foldA (shK K) a b (hsK K)).w], .int .i64 (foldA (shK K) a b (hsK K)).l]) ∧ Below w.heap.size w w' := by
  have KA := Lib.hid kinds_any
  have HL := Lib.hid hL
  have ha' := ha
  have hb'' := hb
  unfold U16 at ha' hb''
  have w0 : wrap64 a = a := by unfold wrap64; omega
  have w8 : wrap64 b = b := by unfold wrap64; omega
  have h1 : Int.tdiv a 2048 = (K : Int) := by rw [Int.tdiv_eq_ediv_of_nonneg (by omega)]; exact hK
  have h2 : wrap64 (K : Int) = K := by unfold wrap64; omega
  have q : ((K : Int) == 30) = false := beq_eq_false_iff_ne.2 (by omega)
  have hki : (K : Int) < 32 := by omega
  obtain ⟨R, hR⟩ : ∃ R, R = foldA (shK K) a b (hsK K) := ⟨_, rfl⟩
  rw [← hR]
  replace hR := Lib.hid hR
  clear hL
  go_enter Tryd.func43, Tryd.ntmps43
  go_wp2_with fail
  refine cmark (F := fun X => Calls _ _ _ X _) (R := fun W => Below w.heap.size w W ∧ Hid (Blk W (w.heap.size) (#[.int .i64 0, .int .i64 0, .int .i64 0, .int .i64 0, .int .i64 0]) 33)) ⟨by repeat' (first | (with_reducible first | exact Below.refl _ _ | assumption | refine below_alloc ?_ _ | refine Below.drew ?_ | refine Go.Mq.below_drewN ?_ _ | refine below_then ?_ (by assumption) | refine below_put ?_ (by assumption) (by first | (simp; done) | (simp; omega) | omega) | refine Below.setCell ?_ ?_ _) | (simp; done) | (simp; omega) | omega), Lib.hid (by repeat' (first | (with_reducible first | exact Hid.out (by assumption) | exact Blk.new _ _ _ | (refine Blk.new_at _ _ _ _ ?_; simp; done) | refine Blk.alloc ?_ _ | refine Blk.drewN ?_ _ | refine Blk.drew ?_ | apply Blk.set | refine Blk.put ?_ (by assumption) (by first | (simp; done) | (simp; omega) | omega) | refine Blk.below ?_ (by assumption)) | (refine Blk.setAt ?_ (by first | (simp; done) | (simp; omega))) | rfl))⟩ ?_
  rintro w1 ⟨hbw1, Kw1_0⟩
  obtain ⟨lw1_0, cw1_0, fw1_0⟩ := Kw1_0.out.use
  refine (KA.out _ (HL.out.below hbw1)).mono ?_
  rintro e w2 ⟨⟨v, rfl, hown⟩, hb2⟩
  obtain ⟨g, cp, rfl, hg1, hg2, hcs⟩ := kinds_cells hown
  obtain ⟨c0, c1, c2⟩ := hcs K hk
  have KW2 := Lib.hid (Kw1_0.out.below hb2)
  have hbw2 : Below w.heap.size w w2 := below_then hbw1 hb2
  have HAL := Lib.hid (hs_all K hk)
  obtain ⟨m, hm⟩ : ∃ m, m = nmK K := ⟨_, rfl⟩
  obtain ⟨h, hh⟩ : ∃ h, h = hsK K := ⟨_, rfl⟩
  obtain ⟨y, hy⟩ : ∃ y, y = cyK K := ⟨_, rfl⟩
  rw [← hm] at c0
  rw [← hh] at c1 HAL
  rw [← hy] at c2
  have SH : Hid (shK K = (m == [115, 104, 108] || m == [115, 104, 114])) := Lib.hid (by rw [hm]; rfl)
  rw [← hh] at hR
  clear hm hh hy hown hcs hb2 hbw1 cw1_0 fw1_0
  go_wp2
  have F8 := Lib.hid (((Blk.new w2 #[.string ⟨m.toArray⟩, .string ⟨h.toArray⟩, .int .i64 y] 43).alloc (.cells #[.int .i64 K, .int .i64 0, .int .i64 0, .int .i64 0, .int .i64 0] 33)).alloc (.stringIter ⟨h.toArray⟩ 0))
  have F9 := Lib.hid ((Blk.new_at (w2.alloc (.cells #[.string ⟨m.toArray⟩, .string ⟨h.toArray⟩, .int .i64 y] 43)) #[.int .i64 K, .int .i64 0, .int .i64 0, .int .i64 0, .int .i64 0] 33 (w2.heap.size + 1) (by simp)).alloc (.stringIter ⟨h.toArray⟩ 0))
  have F4 := Lib.hid (((KW2.out.alloc (.cells #[.string ⟨m.toArray⟩, .string ⟨h.toArray⟩, .int .i64 y] 43)).alloc (.cells #[.int .i64 K, .int .i64 0, .int .i64 0, .int .i64 0, .int .i64 0] 33)).alloc (.stringIter ⟨h.toArray⟩ 0))
  have FI := Lib.hid (World.iter_heap ((w2.alloc (.cells #[.string ⟨m.toArray⟩, .string ⟨h.toArray⟩, .int .i64 y] 43)).alloc (.cells #[.int .i64 K, .int .i64 0, .int .i64 0, .int .i64 0, .int .i64 0] 33)) ⟨h.toArray⟩ 0)
  have hbw3 : Below w.heap.size w (((w2.alloc (.cells #[.string ⟨m.toArray⟩, .string ⟨h.toArray⟩, .int .i64 y] 43)).alloc (.cells #[.int .i64 K, .int .i64 0, .int .i64 0, .int .i64 0, .int .i64 0] 33)).iter ⟨h.toArray⟩ 0) := below_alloc (below_alloc (below_alloc hbw2 _) _) _
  have GN : Hid (w.heap.size < w2.heap.size) := Lib.hid KW2.out.lt
  rw [show ((w2.alloc (.cells #[.string ⟨m.toArray⟩, .string ⟨h.toArray⟩, .int .i64 y] 43)).alloc (.cells #[.int .i64 K, .int .i64 0, .int .i64 0, .int .i64 0, .int .i64 0] 33)).heap.size = w2.heap.size + 1 + 1 by simp] at FI
  obtain ⟨W3, hW3⟩ : ∃ W3, W3 = (((w2.alloc (.cells #[.string ⟨m.toArray⟩, .string ⟨h.toArray⟩, .int .i64 y] 43)).alloc (.cells #[.int .i64 K, .int .i64 0, .int .i64 0, .int .i64 0, .int .i64 0] 33)).iter ⟨h.toArray⟩ 0) := ⟨_, rfl⟩
  rw [← hW3] at hbw3 FI ⊢
  change Hid (Blk (((w2.alloc (.cells #[.string ⟨m.toArray⟩, .string ⟨h.toArray⟩, .int .i64 y] 43)).alloc (.cells #[.int .i64 K, .int .i64 0, .int .i64 0, .int .i64 0, .int .i64 0] 33)).iter ⟨h.toArray⟩ 0) _ _ _) at F8
  change Hid (Blk (((w2.alloc (.cells #[.string ⟨m.toArray⟩, .string ⟨h.toArray⟩, .int .i64 y] 43)).alloc (.cells #[.int .i64 K, .int .i64 0, .int .i64 0, .int .i64 0, .int .i64 0] 33)).iter ⟨h.toArray⟩ 0) _ _ _) at F9
  change Hid (Blk (((w2.alloc (.cells #[.string ⟨m.toArray⟩, .string ⟨h.toArray⟩, .int .i64 y] 43)).alloc (.cells #[.int .i64 K, .int .i64 0, .int .i64 0, .int .i64 0, .int .i64 0] 33)).iter ⟨h.toArray⟩ 0) _ _ _) at F4
  rw [← hW3] at F8 F9 F4
  clear hW3 KW2 hbw2 c0 c1 c2 hg1 hg2
  obtain ⟨N, eN⟩ : ∃ N, N = w2.heap.size := ⟨_, rfl⟩
  rw [← eN] at F8 F9 FI GN ⊢
  clear eN
  go_loopw [10] (fun v wr => ∃ (p r : List UInt8), h = p ++ r ∧ v = .int .i64 (foldA (shK K) a b p).l ∧ Hid (wr.heap[N + 1 + 1]? = some (.stringIter ⟨h.toArray⟩ p.length) ∧ Blk wr N #[.string ⟨m.toArray⟩, .string ⟨h.toArray⟩, .int .i64 y] 43 ∧ Blk wr (N + 1) #[.int .i64 K, .int .i64 (foldA (shK K) a b p).d, .int .i64 (foldA (shK K) a b p).s, .int .i64 (foldA (shK K) a b p).n, .int .i64 (foldA (shK K) a b p).w] 33 ∧ Blk wr w.heap.size #[.int .i64 0, .int .i64 0, .int .i64 0, .int .i64 0, .int .i64 0] 33) ∧ Below w.heap.size w wr) (fun _ wr => h.length - wr.iterPos (N + 1 + 1))
  case atStart => exact ⟨[], h, rfl, rfl, Lib.hid ⟨FI.out, F8.out, F9.out, F4.out⟩, hbw3⟩
  case round =>
    obtain ⟨p, r, hpr, rfl, hx, hb⟩ := hrel
    have hit0 := hx.out.1
    cases r with
    | nil =>
      rw [List.append_nil] at hpr
      subst hpr
      have hnx : ∀ ty, (Instr.next (.pointer (some ⟨N + 1 + 1, 0, none⟩)) true ty).run Tryd.prog wr = _ := fun ty => next_end wr (N + 1 + 1) h ty hit0
      have K9 := Lib.hid hx.out.2.2.1
      have K4 := Lib.hid hx.out.2.2.2
      clear hit0 hx
      have R0 : R = foldA (shK K) a b h := hR.out
      rw [← R0] at K9 ⊢
      replace R0 := Lib.hid R0
      go_wp2_with (first
        | (refine wpList_loadW rfl 33 (.tmp 9) rfl (N + 1) rfl 33 _ K9.out _ Tryd.underlying33 rfl (by kernel_rfl) ?_)
        | (refine wpList_storeW rfl 33 (.tmp 4) (.tmp 76) rfl w.heap.size #[.int .i64 K, .int .i64 R.d, .int .i64 R.s, .int .i64 R.n, .int .i64 R.w] rfl rfl 33 _ K4.out (by kernel_rfl) rfl (by simp [Value.oneCell']) ?_; intro w5 hp5 K5)
        | fail)
      exact bodyPost_ret (results_ct Tryd.results43 _ _ w.heap.size 33 _ _ rfl K5.out Tryd.underlying33 rfl (by kernel_rfl)) rfl ⟨rfl, below_put hb hp5 (Nat.le_refl _)⟩
    | cons c r =>
      have hc := HAL.out c (by rw [hpr]; simp)
      have hit1 : wr.heap[N + 1 + 1]? = some (.stringIter ⟨(p ++ c :: r).toArray⟩ p.length) := by rw [← hpr]; exact hit0
      have hnx : ∀ ty, (Instr.next (.pointer (some ⟨N + 1 + 1, 0, none⟩)) true ty).run Tryd.prog wr = _ := fun ty => next_mid wr (N + 1 + 1) p r c ty hit1 (by rcases hc with rfl | rfl | rfl | rfl <;> decide)
      rw [← hpr] at hnx
      have hP := put_iterAt wr (N + 1 + 1) ⟨h.toArray⟩ (p.length + 1)
      have hit2 := Lib.iterAt_heap wr (N + 1 + 1) ⟨h.toArray⟩ p.length (p.length + 1) hit0
      obtain ⟨W1, hW1⟩ : ∃ W1, W1 = wr.iterAt (N + 1 + 1) ⟨h.toArray⟩ (p.length + 1) := ⟨_, rfl⟩
      rw [← hW1] at hnx hP hit2
      have K8 := Lib.hid (hx.out.2.1.put hP (by omega))
      have K9 := Lib.hid (hx.out.2.2.1.put hP (by omega))
      have K4 := Lib.hid (hx.out.2.2.2.put hP (by have := GN.out; omega))
      have hb1 : Below w.heap.size w W1 := below_put hb hP (by have := GN.out; omega)
      have HP0 := Lib.hid (iterPos_eq hit0)
      have HLN : Hid (h.length = p.length + (r.length + 1)) := Lib.hid (by rw [hpr]; simp)
      have HS := Lib.hid (foldA_snoc (shK K) a b p c)
      obtain ⟨q, hq⟩ : ∃ q, q = foldA (shK K) a b p := ⟨_, rfl⟩
      rw [← hq] at K9 HS ⊢
      clear hW1 hx hit0 hit1 hP hq hb
      rcases hc with rfl | rfl | rfl | rfl
      · have HS1 : Hid (foldA (shK K) a b (p ++ [100]) = { q with d := a / 256 % 8 }) := Lib.hid (by rw [HS.out]; simp [stepA])
        have x1 : wrap64 (a / 256) = a / 256 := by unfold wrap64; omega
        have x2 : wrap64 (a / 256 % 8) = a / 256 % 8 := by unfold wrap64; omega
        have e1 : W1.cell? ⟨N + 1, 1, none⟩ = some (.int .i64 q.d) := K9.out.cell 1
        have f1 := K9.out.free 1
        have SB := Lib.hid (Blk.set (i := 1) (v := .int .i64 (a / 256 % 8)) K9.out rfl)
        go_wp2
        go_roundw
        case rel => exact ⟨p ++ [100], r, by rw [List.append_assoc]; exact hpr, by rw [HS1.out], Lib.hid ⟨by rw [heap_setCell_other _ _ _ _ (show N + 1 + 1 ≠ N + 1 by omega), List.length_append]; exact hit2, K8.out.setAt (show N ≠ N + 1 by omega), by rw [HS1.out]; exact SB.out, K4.out.setAt (show w.heap.size ≠ N + 1 by have := GN.out; omega)⟩, hb1.setCell (show w.heap.size ≤ N + 1 by have := GN.out; omega) _⟩
        case measure => rw [HP0.out, iterPos_eq (p := p.length + 1) (s := ⟨h.toArray⟩) (by rw [heap_setCell_other _ _ _ _ (show N + 1 + 1 ≠ N + 1 by omega)]; exact hit2)]; have := HLN.out; omega
      · have HS1 : Hid (foldA (shK K) a b (p ++ [115]) = { q with s := a / 32 % 8 }) := Lib.hid (by rw [HS.out]; simp [stepA])
        have x1 : wrap64 (a / 32) = a / 32 := by unfold wrap64; omega
        have x2 : wrap64 (a / 32 % 8) = a / 32 % 8 := by unfold wrap64; omega
        have e1 : W1.cell? ⟨N + 1, 2, none⟩ = some (.int .i64 q.s) := K9.out.cell 2
        have f1 := K9.out.free 2
        have SB := Lib.hid (Blk.set (i := 2) (v := .int .i64 (a / 32 % 8)) K9.out rfl)
        go_wp2
        go_roundw
        case rel => exact ⟨p ++ [115], r, by rw [List.append_assoc]; exact hpr, by rw [HS1.out], Lib.hid ⟨by rw [heap_setCell_other _ _ _ _ (show N + 1 + 1 ≠ N + 1 by omega), List.length_append]; exact hit2, K8.out.setAt (show N ≠ N + 1 by omega), by rw [HS1.out]; exact SB.out, K4.out.setAt (show w.heap.size ≠ N + 1 by have := GN.out; omega)⟩, hb1.setCell (show w.heap.size ≤ N + 1 by have := GN.out; omega) _⟩
        case measure => rw [HP0.out, iterPos_eq (p := p.length + 1) (s := ⟨h.toArray⟩) (by rw [heap_setCell_other _ _ _ _ (show N + 1 + 1 ≠ N + 1 by omega)]; exact hit2)]; have := HLN.out; omega
      · have HS1 : Hid (foldA (shK K) a b (p ++ [110]) = { q with n := nO (shK K) a }) := Lib.hid (by rw [HS.out]; simp [stepA])
        have x1 : wrap64 (a % 32) = a % 32 := by unfold wrap64; omega
        have e3 : W1.cell? ⟨N + 1, 3, none⟩ = some (.int .i64 q.n) := K9.out.cell 3
        have f3 := K9.out.free 3
        have e0 : W1.cell? ⟨N, 0, none⟩ = some (.string ⟨m.toArray⟩) := K8.out.cell 0
        have SB := Lib.hid (Blk.set (i := 3) (v := .int .i64 (a % 32)) K9.out rfl)
        have x16 : a % 32 % 16 = a % 16 := by omega
        have x17 : wrap64 (a % 16) = a % 16 := by unfold wrap64; omega
        have x18 : wrap64 (a % 32 - 32) = a % 32 - 32 := by unfold wrap64; omega
        by_cases m1 : m = [115, 104, 108]
        · have t1 : (m == [115, 104, 108]) = true := beq_iff_eq.2 m1
          have NV : Hid (nO (shK K) a = a % 16) := Lib.hid (by rw [SH.out, t1, Bool.true_or]; exact x16)
          have SB2 := Lib.hid (Blk.set (i := 3) (v := .int .i64 (a % 16)) SB.out rfl)
          clear m1
          go_wp2
          go_roundw
          case rel => exact ⟨p ++ [110], r, by rw [List.append_assoc]; exact hpr, by rw [HS1.out], Lib.hid ⟨by rw [heap_setCell_other _ _ _ _ (show N + 1 + 1 ≠ N + 1 by omega), heap_setCell_other _ _ _ _ (show N + 1 + 1 ≠ N + 1 by omega), List.length_append]; exact hit2, (K8.out.setAt (show N ≠ N + 1 by omega)).setAt (show N ≠ N + 1 by omega), by rw [HS1.out, NV.out]; exact SB2.out, (K4.out.setAt (show w.heap.size ≠ N + 1 by have := GN.out; omega)).setAt (show w.heap.size ≠ N + 1 by have := GN.out; omega)⟩, (hb1.setCell (show w.heap.size ≤ N + 1 by have := GN.out; omega) _).setCell (show w.heap.size ≤ N + 1 by have := GN.out; omega) _⟩
          case measure => rw [HP0.out, iterPos_eq (p := p.length + 1) (s := ⟨h.toArray⟩) (by rw [heap_setCell_other _ _ _ _ (show N + 1 + 1 ≠ N + 1 by omega), heap_setCell_other _ _ _ _ (show N + 1 + 1 ≠ N + 1 by omega)]; exact hit2)]; have := HLN.out; omega
        · have t1 : (m == [115, 104, 108]) = false := beq_eq_false_iff_ne.2 m1
          by_cases m2 : m = [115, 104, 114]
          · have t2 : (m == [115, 104, 114]) = true := beq_iff_eq.2 m2
            have NV : Hid (nO (shK K) a = a % 16) := Lib.hid (by rw [SH.out, t2, Bool.or_true]; exact x16)
            have SB2 := Lib.hid (Blk.set (i := 3) (v := .int .i64 (a % 16)) SB.out rfl)
            clear m1 m2
            go_wp2
            go_roundw
            case rel => exact ⟨p ++ [110], r, by rw [List.append_assoc]; exact hpr, by rw [HS1.out], Lib.hid ⟨by rw [heap_setCell_other _ _ _ _ (show N + 1 + 1 ≠ N + 1 by omega), heap_setCell_other _ _ _ _ (show N + 1 + 1 ≠ N + 1 by omega), List.length_append]; exact hit2, (K8.out.setAt (show N ≠ N + 1 by omega)).setAt (show N ≠ N + 1 by omega), by rw [HS1.out, NV.out]; exact SB2.out, (K4.out.setAt (show w.heap.size ≠ N + 1 by have := GN.out; omega)).setAt (show w.heap.size ≠ N + 1 by have := GN.out; omega)⟩, (hb1.setCell (show w.heap.size ≤ N + 1 by have := GN.out; omega) _).setCell (show w.heap.size ≤ N + 1 by have := GN.out; omega) _⟩
            case measure => rw [HP0.out, iterPos_eq (p := p.length + 1) (s := ⟨h.toArray⟩) (by rw [heap_setCell_other _ _ _ _ (show N + 1 + 1 ≠ N + 1 by omega), heap_setCell_other _ _ _ _ (show N + 1 + 1 ≠ N + 1 by omega)]; exact hit2)]; have := HLN.out; omega
          · have t2 : (m == [115, 104, 114]) = false := beq_eq_false_iff_ne.2 m2
            by_cases h16 : 16 ≤ a % 32
            · have NV : Hid (nO (shK K) a = a % 32 - 32) := Lib.hid (by rw [SH.out, t1, t2]; unfold nO; rw [if_neg (by decide), if_pos h16])
              have SB2 := Lib.hid (Blk.set (i := 3) (v := .int .i64 (a % 32 - 32)) SB.out rfl)
              clear m1 m2
              go_wp2
              go_roundw
              case rel => exact ⟨p ++ [110], r, by rw [List.append_assoc]; exact hpr, by rw [HS1.out], Lib.hid ⟨by rw [heap_setCell_other _ _ _ _ (show N + 1 + 1 ≠ N + 1 by omega), heap_setCell_other _ _ _ _ (show N + 1 + 1 ≠ N + 1 by omega), List.length_append]; exact hit2, (K8.out.setAt (show N ≠ N + 1 by omega)).setAt (show N ≠ N + 1 by omega), by rw [HS1.out, NV.out]; exact SB2.out, (K4.out.setAt (show w.heap.size ≠ N + 1 by have := GN.out; omega)).setAt (show w.heap.size ≠ N + 1 by have := GN.out; omega)⟩, (hb1.setCell (show w.heap.size ≤ N + 1 by have := GN.out; omega) _).setCell (show w.heap.size ≤ N + 1 by have := GN.out; omega) _⟩
              case measure => rw [HP0.out, iterPos_eq (p := p.length + 1) (s := ⟨h.toArray⟩) (by rw [heap_setCell_other _ _ _ _ (show N + 1 + 1 ≠ N + 1 by omega), heap_setCell_other _ _ _ _ (show N + 1 + 1 ≠ N + 1 by omega)]; exact hit2)]; have := HLN.out; omega
            · have NV : Hid (nO (shK K) a = a % 32) := Lib.hid (by rw [SH.out, t1, t2]; unfold nO; rw [if_neg (by decide), if_neg h16])
              clear m1 m2
              go_wp2
              go_roundw
              case rel => exact ⟨p ++ [110], r, by rw [List.append_assoc]; exact hpr, by rw [HS1.out], Lib.hid ⟨by rw [heap_setCell_other _ _ _ _ (show N + 1 + 1 ≠ N + 1 by omega), List.length_append]; exact hit2, K8.out.setAt (show N ≠ N + 1 by omega), by rw [HS1.out, NV.out]; exact SB.out, K4.out.setAt (show w.heap.size ≠ N + 1 by have := GN.out; omega)⟩, hb1.setCell (show w.heap.size ≤ N + 1 by have := GN.out; omega) _⟩
              case measure => rw [HP0.out, iterPos_eq (p := p.length + 1) (s := ⟨h.toArray⟩) (by rw [heap_setCell_other _ _ _ _ (show N + 1 + 1 ≠ N + 1 by omega)]; exact hit2)]; have := HLN.out; omega
      · have HS1 : Hid (foldA (shK K) a b (p ++ [119]) = { q with w := b, l := 2 }) := Lib.hid (by rw [HS.out]; simp [stepA])
        have e1 : W1.cell? ⟨N + 1, 4, none⟩ = some (.int .i64 q.w) := K9.out.cell 4
        have f1 := K9.out.free 4
        have SB := Lib.hid (Blk.set (i := 4) (v := .int .i64 (b)) K9.out rfl)
        go_wp2
        go_roundw
        case rel => exact ⟨p ++ [119], r, by rw [List.append_assoc]; exact hpr, by rw [HS1.out], Lib.hid ⟨by rw [heap_setCell_other _ _ _ _ (show N + 1 + 1 ≠ N + 1 by omega), List.length_append]; exact hit2, K8.out.setAt (show N ≠ N + 1 by omega), by rw [HS1.out]; exact SB.out, K4.out.setAt (show w.heap.size ≠ N + 1 by have := GN.out; omega)⟩, hb1.setCell (show w.heap.size ≤ N + 1 by have := GN.out; omega) _⟩
        case measure => rw [HP0.out, iterPos_eq (p := p.length + 1) (s := ⟨h.toArray⟩) (by rw [heap_setCell_other _ _ _ _ (show N + 1 + 1 ≠ N + 1 by omega)]; exact hit2)]; have := HLN.out; omega
end Go.Proofs.YtmpdoiilakjmbaaDoor
