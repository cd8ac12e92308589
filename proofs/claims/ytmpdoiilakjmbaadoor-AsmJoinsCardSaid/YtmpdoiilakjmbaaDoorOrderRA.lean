/- The program reads a word as an order, row by row of its table. Conditions: the words are words. Printed by a program of mine (mkread.py). -/
import Derived.Test.YtmpdoiilakjmbaaDoorRows
import Derived.Test.YtmpdoiilakjmbaaDoorOrderIdx
namespace Go.Proofs.YtmpdoiilakjmbaaDoor
open Go.RowKit Go.Mq
set_option linter.unusedVariables false
set_option linter.unusedSimpArgs false
set_option maxHeartbeats 1000000
set_option maxRecDepth 100000
theorem r0000 (a b : Int) (ha : U16 a) (hb : U16 b) (w : World) (hop : ¬ (a / 2048 = 30)) (c : Int) (m : ByteArray)
    (hidx : ∀ w, (Instr.index 82 (.agg shC) (.int .i64 (a / 2048))).run Tryd.prog w = .ok (.agg #[.bool false, .bool false, .bool false, .bool false, .int .i64 c, .string m]) w) :
    Calls Tryd.prog 26 #[.int .u16 a, .int .u16 b] w fun e w' => e = .returned (.tuple #[.agg #[.int .i64 (a / 2048), .int .i64 (0), .int .i64 (0), .int .i64 (0), .int .i64 (0)], .int .i64 1]) ∧ Below w.heap.size w w' := by
  have ha' := ha
  have hb' := hb
  unfold U16 at ha' hb'
  have w1 : wrap64 (a / 2048) = a / 2048 := by unfold wrap64; omega
  have w2 : wrap64 (a / 256 % 8) = a / 256 % 8 := by unfold wrap64; omega
  have w3 : wrap64 (a / 32 % 8) = a / 32 % 8 := by unfold wrap64; omega
  have w4 : wrap64 (a % 32) = a % 32 := by unfold wrap64; omega
  have w5 : wrap64 (a % 32 - 32) = a % 32 - 32 := by unfold wrap64; omega
  have w8 : wrap64 b = b := by unfold wrap64; omega
  have m1 : bits .and .u16 (a / 256) 7 = a / 256 % 8 := and7 _ (by unfold U16; omega)
  have m2 : bits .and .u16 (a / 32) 7 = a / 32 % 8 := and7 _ (by unfold U16; omega)
  have m3 : bits .and .u16 a 31 = a % 32 := and31 _ ha
  have m4 : bits .and .i64 (a % 32) 15 = a % 32 % 16 := and15i _ (by omega) (by omega)
  clear ha hb
  clear w2 m1 w3 m2 w4 w5 m3 m4 w8
  have S := Lib.hid shapes_any
  generalize shC = C at *
  go_enter Tryd.func26, Tryd.ntmps26
  go_wp2_with fail
  apply gcut (fun g X => w.heap.size + 1 + 1 ≤ g ∧ Below w.heap.size w X ∧ Hid (Blk X (w.heap.size) (#[.int .i64 0, .int .i64 0, .int .i64 0, .int .i64 0, .int .i64 0]) 33) ∧ Hid (Blk X (w.heap.size + 1) (#[.int .i64 (a / 2048), .int .i64 0, .int .i64 0, .int .i64 0, .int .i64 0]) 33) ∧ Hid (Blk X (g) (#[.bool false, .bool false, .bool false, .bool false, .int .i64 c, .string m]) 81))
  · intro hk
    refine wp_region_held_drew (S := fun X => Below w.heap.size w X ∧ Blk X (w.heap.size) (#[.int .i64 0, .int .i64 0, .int .i64 0, .int .i64 0, .int .i64 0]) 33 ∧ Blk X (w.heap.size + 1) (#[.int .i64 (a / 2048), .int .i64 0, .int .i64 0, .int .i64 0, .int .i64 0]) 33) (by kernel_rfl) ⟨by repeat' (first | (with_reducible first | exact Below.refl _ _ | assumption | refine below_alloc ?_ _ | refine Below.drew ?_ | refine Go.Mq.below_drewN ?_ _ | refine below_then ?_ (by assumption) | refine below_put ?_ (by assumption) (by first | (simp; done) | (simp; omega) | omega) | refine Below.setCell ?_ ?_ _) | (simp; done) | (simp; omega) | omega), (show Blk _ (w.heap.size) (#[.int .i64 0, .int .i64 0, .int .i64 0, .int .i64 0, .int .i64 0]) (33) from (by repeat' (first | (with_reducible first | exact Hid.out (by assumption) | exact Blk.new _ _ _ | (refine Blk.new_at _ _ _ _ ?_; simp; done) | refine Blk.alloc ?_ _ | refine Blk.drewN ?_ _ | refine Blk.drew ?_ | apply Blk.set | refine Blk.put ?_ (by assumption) (by first | (simp; done) | (simp; omega) | omega) | refine Blk.below ?_ (by assumption)) | (refine Blk.setAt ?_ (by first | (simp; done) | (simp; omega))) | rfl))), (show Blk _ (w.heap.size + 1) (#[.int .i64 (a / 2048), .int .i64 0, .int .i64 0, .int .i64 0, .int .i64 0]) (33) from (by repeat' (first | (with_reducible first | exact Hid.out (by assumption) | exact Blk.new _ _ _ | (refine Blk.new_at _ _ _ _ ?_; simp; done) | refine Blk.alloc ?_ _ | refine Blk.drewN ?_ _ | refine Blk.drew ?_ | apply Blk.set | refine Blk.put ?_ (by assumption) (by first | (simp; done) | (simp; omega) | omega) | refine Blk.below ?_ (by assumption)) | (refine Blk.setAt ?_ (by first | (simp; done) | (simp; omega))) | rfl)))⟩ (fun hS => ?_)
    refine wpAnyH_take (i := 1) (v := ?v1) rfl (by kernel_rfl) (by kernel_rfl) (by kernel_rfl) (fun _ _ _ h => h) (Or.inl ⟨by rfl, ?y1⟩) hS ?_
    case y1 => (intro w hSw; have c0 := hSw.2.1.cell; have c1 := hSw.2.2.cell; go_simp; try with_reducible rfl)
    try simp only [List.getElem_toArray, List.getElem_cons_succ, List.getElem_cons_zero, Act.put, List.setIfInBounds_toArray, List.set_cons_zero, List.set_cons_succ]
    refine wpAnyH_take (i := 2) (v := ?v2) rfl (by kernel_rfl) (by kernel_rfl) (by kernel_rfl) (fun _ _ _ h => h) (Or.inl ⟨by rfl, ?y2⟩) hS ?_
    case y2 => (intro w hSw; have c0 := hSw.2.1.cell; have c1 := hSw.2.2.cell; go_simp; try with_reducible rfl)
    try simp only [List.getElem_toArray, List.getElem_cons_succ, List.getElem_cons_zero, Act.put, List.setIfInBounds_toArray, List.set_cons_zero, List.set_cons_succ]
    refine wpAnyH_ready (rs := [0, 4]) (by kernel_rfl) (by simp) ?_
    refine AllReadyH.cons rfl (fun K hK => ?_) (AllReadyH.cons rfl (fun K hK => ?_) AllReadyH.nil)
    · go_simp
      refine (S.out _).mono ?_
      rintro e w5 ⟨rfl, hb_w5⟩
      try go_wp2_with fail
      refine hK.out _ _ ⟨below_then hS.1 hb_w5, hS.2.1.below hb_w5, hS.2.2.below hb_w5⟩ (fun hS => ?_)
      clear hK K
      try simp only [List.getElem_toArray, List.getElem_cons_succ, List.getElem_cons_zero, Act.put, List.setIfInBounds_toArray, List.set_cons_zero, List.set_cons_succ]
      refine wpAnyH_take (i := 3) (v := ?v3) rfl (by kernel_rfl) (by kernel_rfl) (by kernel_rfl) (fun _ _ _ h => h) (Or.inl ⟨by rfl, ?y3⟩) hS ?_
      case y3 => (intro w hSw; have c0 := hSw.2.1.cell; have c1 := hSw.2.2.cell; go_simp; try with_reducible rfl)
      try simp only [List.getElem_toArray, List.getElem_cons_succ, List.getElem_cons_zero, Act.put, List.setIfInBounds_toArray, List.set_cons_zero, List.set_cons_succ]
      refine wpAnyH_ready (rs := [4]) (by kernel_rfl) (by simp) (AllReadyH.cons rfl (fun K hK => ?_) AllReadyH.nil)
      go_simp
      obtain ⟨g7, e7⟩ : ∃ g, g = w5.heap.size := ⟨_, rfl⟩
      have hg7 : w.heap.size + 1 + 1 ≤ g7 := by have := hS.2.2.lt; omega
      refine hK.out _ _ ⟨below_alloc hS.1 _, hS.2.1.alloc _, hS.2.2.alloc _⟩ (fun hS => ?_)
      clear hK K
      have a7 : Hid (Blk (w5.alloc (.cells #[.bool false, .bool false, .bool false, .bool false, .int .i64 0, .string ⟨#[]⟩] 81)) g7 #[.bool false, .bool false, .bool false, .bool false, .int .i64 0, .string ⟨#[]⟩] 81) := Lib.hid (Blk.new_at _ _ _ _ e7)
      rw [← e7]
      clear e7
      try simp only [List.getElem_toArray, List.getElem_cons_succ, List.getElem_cons_zero, Act.put, List.setIfInBounds_toArray, List.set_cons_zero, List.set_cons_succ]
      refine wpAnyH_ready (rs := [5]) (by kernel_rfl) (by simp) (AllReadyH.cons rfl (fun K hK => ?_) AllReadyH.nil)
      rw [if_pos (by rfl)]
      refine wp_store_row 81 (.tmp 7) (.tmp 19) rfl g7 #[.bool false, .bool false, .bool false, .bool false, .int .i64 c, .string m] rfl rfl 81 #[.bool false, .bool false, .bool false, .bool false, .int .i64 0, .string ⟨#[]⟩] a7.out (by kernel_rfl) rfl (by simp [Value.oneCell']) ?_
      have K7 := Lib.hid (setRow_heap _ g7 _ #[.bool false, .bool false, .bool false, .bool false, .int .i64 c, .string m] 81 (0, 0) a7.out)
      refine hK.out _ _ ⟨below_put hS.1 (put_setRow _ g7 _) (by omega), hS.2.1.put (put_setRow _ g7 _) (by omega), hS.2.2.put (put_setRow _ g7 _) (by omega)⟩ (fun hS => ?_)
      clear hK K
      try simp only [List.getElem_toArray, List.getElem_cons_succ, List.getElem_cons_zero, Act.put, List.setIfInBounds_toArray, List.set_cons_zero, List.set_cons_succ]
      refine wpAnyH_done (by kernel_rfl) ?_ _
      refine pmark (R := fun X => Below w.heap.size w X ∧ Hid (Blk X (w.heap.size) (#[.int .i64 0, .int .i64 0, .int .i64 0, .int .i64 0, .int .i64 0]) 33) ∧ Hid (Blk X (w.heap.size + 1) (#[.int .i64 (a / 2048), .int .i64 0, .int .i64 0, .int .i64 0, .int .i64 0]) 33) ∧ Hid (Blk X g7 (#[.bool false, .bool false, .bool false, .bool false, .int .i64 c, .string m]) 81)) (F := fun X => Exit.then _ _ Exit.normal _ X) ⟨hS.1, Lib.hid hS.2.1, Lib.hid hS.2.2, K7⟩ ?_
      clear hS K7 a7
      try clear hb_w5
      try clear w5
      intro W hbW
      exact hk g7 W ⟨hg7, hbW⟩
    · go_simp
      obtain ⟨g7, e7⟩ : ∃ g, g = w.heap.size + 1 + 1 := ⟨_, rfl⟩
      have hg7 : w.heap.size + 1 + 1 ≤ g7 := by omega
      refine hK.out _ _ ⟨below_alloc hS.1 _, hS.2.1.alloc _, hS.2.2.alloc _⟩ (fun hS => ?_)
      clear hK K
      refine pmark (R := fun X => (Below w.heap.size w X ∧ Blk X (w.heap.size) (#[.int .i64 0, .int .i64 0, .int .i64 0, .int .i64 0, .int .i64 0]) 33 ∧ Blk X (w.heap.size + 1) (#[.int .i64 (a / 2048), .int .i64 0, .int .i64 0, .int .i64 0, .int .i64 0]) 33) ∧ Hid (Blk X (w.heap.size + 1 + 1) #[.bool false, .bool false, .bool false, .bool false, .int .i64 0, .string ⟨#[]⟩] 81)) (F := fun X => wpAnyH _ _ _ _ _ _ _ _ X) ⟨hS, Lib.hid (by repeat' (first | (with_reducible first | exact Hid.out (by assumption) | exact Blk.new _ _ _ | (refine Blk.new_at _ _ _ _ ?_; simp; done) | refine Blk.alloc ?_ _ | refine Blk.drewN ?_ _ | refine Blk.drew ?_ | apply Blk.set | refine Blk.put ?_ (by assumption) (by first | (simp; done) | (simp; omega) | omega) | refine Blk.below ?_ (by assumption)) | (refine Blk.setAt ?_ (by first | (simp; done) | (simp; omega))) | rfl))⟩ ?_
      clear hS
      intro W7 hS
      obtain ⟨hS, a7⟩ := hS
      rw [← e7] at a7 ⊢
      clear e7
      try simp only [List.getElem_toArray, List.getElem_cons_succ, List.getElem_cons_zero, Act.put, List.setIfInBounds_toArray, List.set_cons_zero, List.set_cons_succ]
      refine wpAnyH_ready (rs := [0]) (by kernel_rfl) (by simp) (AllReadyH.cons rfl (fun K hK => ?_) AllReadyH.nil)
      go_simp
      refine (S.out _).mono ?_
      rintro e w5 ⟨rfl, hb_w5⟩
      try go_wp2_with fail
      refine hK.out _ _ ⟨below_then hS.1 hb_w5, hS.2.1.below hb_w5, hS.2.2.below hb_w5⟩ (fun hS => ?_)
      replace a7 := Lib.hid (a7.out.below hb_w5)
      clear hK K
      try simp only [List.getElem_toArray, List.getElem_cons_succ, List.getElem_cons_zero, Act.put, List.setIfInBounds_toArray, List.set_cons_zero, List.set_cons_succ]
      refine wpAnyH_take (i := 3) (v := ?v3) rfl (by kernel_rfl) (by kernel_rfl) (by kernel_rfl) (fun _ _ _ h => h) (Or.inl ⟨by rfl, ?y3⟩) hS ?_
      case y3 => (intro w hSw; have c0 := hSw.2.1.cell; have c1 := hSw.2.2.cell; go_simp; try with_reducible rfl)
      try simp only [List.getElem_toArray, List.getElem_cons_succ, List.getElem_cons_zero, Act.put, List.setIfInBounds_toArray, List.set_cons_zero, List.set_cons_succ]
      refine wpAnyH_ready (rs := [5]) (by kernel_rfl) (by simp) (AllReadyH.cons rfl (fun K hK => ?_) AllReadyH.nil)
      rw [if_pos (by rfl)]
      refine wp_store_row 81 (.tmp 7) (.tmp 19) rfl g7 #[.bool false, .bool false, .bool false, .bool false, .int .i64 c, .string m] rfl rfl 81 #[.bool false, .bool false, .bool false, .bool false, .int .i64 0, .string ⟨#[]⟩] a7.out (by kernel_rfl) rfl (by simp [Value.oneCell']) ?_
      have K7 := Lib.hid (setRow_heap _ g7 _ #[.bool false, .bool false, .bool false, .bool false, .int .i64 c, .string m] 81 (0, 0) a7.out)
      refine hK.out _ _ ⟨below_put hS.1 (put_setRow _ g7 _) (by omega), hS.2.1.put (put_setRow _ g7 _) (by omega), hS.2.2.put (put_setRow _ g7 _) (by omega)⟩ (fun hS => ?_)
      clear hK K
      try simp only [List.getElem_toArray, List.getElem_cons_succ, List.getElem_cons_zero, Act.put, List.setIfInBounds_toArray, List.set_cons_zero, List.set_cons_succ]
      refine wpAnyH_done (by kernel_rfl) ?_ _
      refine pmark (R := fun X => Below w.heap.size w X ∧ Hid (Blk X (w.heap.size) (#[.int .i64 0, .int .i64 0, .int .i64 0, .int .i64 0, .int .i64 0]) 33) ∧ Hid (Blk X (w.heap.size + 1) (#[.int .i64 (a / 2048), .int .i64 0, .int .i64 0, .int .i64 0, .int .i64 0]) 33) ∧ Hid (Blk X g7 (#[.bool false, .bool false, .bool false, .bool false, .int .i64 c, .string m]) 81)) (F := fun X => Exit.then _ _ Exit.normal _ X) ⟨hS.1, Lib.hid hS.2.1, Lib.hid hS.2.2, K7⟩ ?_
      clear hS K7 a7
      try clear hb_w5
      try clear w5
      intro W hbW
      exact hk g7 W ⟨hg7, hbW⟩
  intro g7 w6 ⟨hg7, hbw6, Kw6_0, Kw6_1, Kw6_2⟩
  obtain ⟨lw6_0, cw6_0, fw6_0⟩ := Kw6_0.out.use
  obtain ⟨lw6_1, cw6_1, fw6_1⟩ := Kw6_1.out.use
  obtain ⟨lw6_2, cw6_2, fw6_2⟩ := Kw6_2.out.use
  clear hidx S
  have n1 : ¬ w.heap.size = g7 := by omega
  have n2 : ¬ w.heap.size + 1 = g7 := by omega
  clear w1 ha' hb' hop lw6_1 lw6_2 Kw6_0 Kw6_1 Kw6_2
  go_wp2
  refine bodyPost_ret (v := .tuple #[.agg #[.int .i64 (a / 2048), .int .i64 (0), .int .i64 (0), .int .i64 (0), .int .i64 (0)], .int .i64 1]) (by simp [results, Tryd.results26, go_sem, cw6_0, fw6_0, lw6_0]) rfl ⟨rfl, ?_⟩
  exact by repeat' (first | (with_reducible first | exact Below.refl _ _ | assumption | refine below_alloc ?_ _ | refine Below.drew ?_ | refine Go.Mq.below_drewN ?_ _ | refine below_then ?_ (by assumption) | refine below_put ?_ (by assumption) (by first | (simp; done) | (simp; omega) | omega) | refine Below.setCell ?_ ?_ _) | (simp; done) | (simp; omega) | omega)
theorem r1100 (a b : Int) (ha : U16 a) (hb : U16 b) (w : World) (hop : ¬ (a / 2048 = 30)) (c : Int) (m : ByteArray)
    (hidx : ∀ w, (Instr.index 82 (.agg shC) (.int .i64 (a / 2048))).run Tryd.prog w = .ok (.agg #[.bool true, .bool true, .bool false, .bool false, .int .i64 c, .string m]) w) :
    Calls Tryd.prog 26 #[.int .u16 a, .int .u16 b] w fun e w' => e = .returned (.tuple #[.agg #[.int .i64 (a / 2048), .int .i64 (a / 256 % 8), .int .i64 (a / 32 % 8), .int .i64 (0), .int .i64 (0)], .int .i64 1]) ∧ Below w.heap.size w w' := by
  have ha' := ha
  have hb' := hb
  unfold U16 at ha' hb'
  have w1 : wrap64 (a / 2048) = a / 2048 := by unfold wrap64; omega
  have w2 : wrap64 (a / 256 % 8) = a / 256 % 8 := by unfold wrap64; omega
  have w3 : wrap64 (a / 32 % 8) = a / 32 % 8 := by unfold wrap64; omega
  have w4 : wrap64 (a % 32) = a % 32 := by unfold wrap64; omega
  have w5 : wrap64 (a % 32 - 32) = a % 32 - 32 := by unfold wrap64; omega
  have w8 : wrap64 b = b := by unfold wrap64; omega
  have m1 : bits .and .u16 (a / 256) 7 = a / 256 % 8 := and7 _ (by unfold U16; omega)
  have m2 : bits .and .u16 (a / 32) 7 = a / 32 % 8 := and7 _ (by unfold U16; omega)
  have m3 : bits .and .u16 a 31 = a % 32 := and31 _ ha
  have m4 : bits .and .i64 (a % 32) 15 = a % 32 % 16 := and15i _ (by omega) (by omega)
  clear ha hb
  clear w4 w5 m3 m4 w8
  have S := Lib.hid shapes_any
  generalize shC = C at *
  go_enter Tryd.func26, Tryd.ntmps26
  go_wp2_with fail
  apply gcut (fun g X => w.heap.size + 1 + 1 ≤ g ∧ Below w.heap.size w X ∧ Hid (Blk X (w.heap.size) (#[.int .i64 0, .int .i64 0, .int .i64 0, .int .i64 0, .int .i64 0]) 33) ∧ Hid (Blk X (w.heap.size + 1) (#[.int .i64 (a / 2048), .int .i64 0, .int .i64 0, .int .i64 0, .int .i64 0]) 33) ∧ Hid (Blk X (g) (#[.bool true, .bool true, .bool false, .bool false, .int .i64 c, .string m]) 81))
  · intro hk
    refine wp_region_held_drew (S := fun X => Below w.heap.size w X ∧ Blk X (w.heap.size) (#[.int .i64 0, .int .i64 0, .int .i64 0, .int .i64 0, .int .i64 0]) 33 ∧ Blk X (w.heap.size + 1) (#[.int .i64 (a / 2048), .int .i64 0, .int .i64 0, .int .i64 0, .int .i64 0]) 33) (by kernel_rfl) ⟨by repeat' (first | (with_reducible first | exact Below.refl _ _ | assumption | refine below_alloc ?_ _ | refine Below.drew ?_ | refine Go.Mq.below_drewN ?_ _ | refine below_then ?_ (by assumption) | refine below_put ?_ (by assumption) (by first | (simp; done) | (simp; omega) | omega) | refine Below.setCell ?_ ?_ _) | (simp; done) | (simp; omega) | omega), (show Blk _ (w.heap.size) (#[.int .i64 0, .int .i64 0, .int .i64 0, .int .i64 0, .int .i64 0]) (33) from (by repeat' (first | (with_reducible first | exact Hid.out (by assumption) | exact Blk.new _ _ _ | (refine Blk.new_at _ _ _ _ ?_; simp; done) | refine Blk.alloc ?_ _ | refine Blk.drewN ?_ _ | refine Blk.drew ?_ | apply Blk.set | refine Blk.put ?_ (by assumption) (by first | (simp; done) | (simp; omega) | omega) | refine Blk.below ?_ (by assumption)) | (refine Blk.setAt ?_ (by first | (simp; done) | (simp; omega))) | rfl))), (show Blk _ (w.heap.size + 1) (#[.int .i64 (a / 2048), .int .i64 0, .int .i64 0, .int .i64 0, .int .i64 0]) (33) from (by repeat' (first | (with_reducible first | exact Hid.out (by assumption) | exact Blk.new _ _ _ | (refine Blk.new_at _ _ _ _ ?_; simp; done) | refine Blk.alloc ?_ _ | refine Blk.drewN ?_ _ | refine Blk.drew ?_ | apply Blk.set | refine Blk.put ?_ (by assumption) (by first | (simp; done) | (simp; omega) | omega) | refine Blk.below ?_ (by assumption)) | (refine Blk.setAt ?_ (by first | (simp; done) | (simp; omega))) | rfl)))⟩ (fun hS => ?_)
    refine wpAnyH_take (i := 1) (v := ?v1) rfl (by kernel_rfl) (by kernel_rfl) (by kernel_rfl) (fun _ _ _ h => h) (Or.inl ⟨by rfl, ?y1⟩) hS ?_
    case y1 => (intro w hSw; have c0 := hSw.2.1.cell; have c1 := hSw.2.2.cell; go_simp; try with_reducible rfl)
    try simp only [List.getElem_toArray, List.getElem_cons_succ, List.getElem_cons_zero, Act.put, List.setIfInBounds_toArray, List.set_cons_zero, List.set_cons_succ]
    refine wpAnyH_take (i := 2) (v := ?v2) rfl (by kernel_rfl) (by kernel_rfl) (by kernel_rfl) (fun _ _ _ h => h) (Or.inl ⟨by rfl, ?y2⟩) hS ?_
    case y2 => (intro w hSw; have c0 := hSw.2.1.cell; have c1 := hSw.2.2.cell; go_simp; try with_reducible rfl)
    try simp only [List.getElem_toArray, List.getElem_cons_succ, List.getElem_cons_zero, Act.put, List.setIfInBounds_toArray, List.set_cons_zero, List.set_cons_succ]
    refine wpAnyH_ready (rs := [0, 4]) (by kernel_rfl) (by simp) ?_
    refine AllReadyH.cons rfl (fun K hK => ?_) (AllReadyH.cons rfl (fun K hK => ?_) AllReadyH.nil)
    · go_simp
      refine (S.out _).mono ?_
      rintro e w5 ⟨rfl, hb_w5⟩
      try go_wp2_with fail
      refine hK.out _ _ ⟨below_then hS.1 hb_w5, hS.2.1.below hb_w5, hS.2.2.below hb_w5⟩ (fun hS => ?_)
      clear hK K
      try simp only [List.getElem_toArray, List.getElem_cons_succ, List.getElem_cons_zero, Act.put, List.setIfInBounds_toArray, List.set_cons_zero, List.set_cons_succ]
      refine wpAnyH_take (i := 3) (v := ?v3) rfl (by kernel_rfl) (by kernel_rfl) (by kernel_rfl) (fun _ _ _ h => h) (Or.inl ⟨by rfl, ?y3⟩) hS ?_
      case y3 => (intro w hSw; have c0 := hSw.2.1.cell; have c1 := hSw.2.2.cell; go_simp; try with_reducible rfl)
      try simp only [List.getElem_toArray, List.getElem_cons_succ, List.getElem_cons_zero, Act.put, List.setIfInBounds_toArray, List.set_cons_zero, List.set_cons_succ]
      refine wpAnyH_ready (rs := [4]) (by kernel_rfl) (by simp) (AllReadyH.cons rfl (fun K hK => ?_) AllReadyH.nil)
      go_simp
      obtain ⟨g7, e7⟩ : ∃ g, g = w5.heap.size := ⟨_, rfl⟩
      have hg7 : w.heap.size + 1 + 1 ≤ g7 := by have := hS.2.2.lt; omega
      refine hK.out _ _ ⟨below_alloc hS.1 _, hS.2.1.alloc _, hS.2.2.alloc _⟩ (fun hS => ?_)
      clear hK K
      have a7 : Hid (Blk (w5.alloc (.cells #[.bool false, .bool false, .bool false, .bool false, .int .i64 0, .string ⟨#[]⟩] 81)) g7 #[.bool false, .bool false, .bool false, .bool false, .int .i64 0, .string ⟨#[]⟩] 81) := Lib.hid (Blk.new_at _ _ _ _ e7)
      rw [← e7]
      clear e7
      try simp only [List.getElem_toArray, List.getElem_cons_succ, List.getElem_cons_zero, Act.put, List.setIfInBounds_toArray, List.set_cons_zero, List.set_cons_succ]
      refine wpAnyH_ready (rs := [5]) (by kernel_rfl) (by simp) (AllReadyH.cons rfl (fun K hK => ?_) AllReadyH.nil)
      rw [if_pos (by rfl)]
      refine wp_store_row 81 (.tmp 7) (.tmp 19) rfl g7 #[.bool true, .bool true, .bool false, .bool false, .int .i64 c, .string m] rfl rfl 81 #[.bool false, .bool false, .bool false, .bool false, .int .i64 0, .string ⟨#[]⟩] a7.out (by kernel_rfl) rfl (by simp [Value.oneCell']) ?_
      have K7 := Lib.hid (setRow_heap _ g7 _ #[.bool true, .bool true, .bool false, .bool false, .int .i64 c, .string m] 81 (0, 0) a7.out)
      refine hK.out _ _ ⟨below_put hS.1 (put_setRow _ g7 _) (by omega), hS.2.1.put (put_setRow _ g7 _) (by omega), hS.2.2.put (put_setRow _ g7 _) (by omega)⟩ (fun hS => ?_)
      clear hK K
      try simp only [List.getElem_toArray, List.getElem_cons_succ, List.getElem_cons_zero, Act.put, List.setIfInBounds_toArray, List.set_cons_zero, List.set_cons_succ]
      refine wpAnyH_done (by kernel_rfl) ?_ _
      refine pmark (R := fun X => Below w.heap.size w X ∧ Hid (Blk X (w.heap.size) (#[.int .i64 0, .int .i64 0, .int .i64 0, .int .i64 0, .int .i64 0]) 33) ∧ Hid (Blk X (w.heap.size + 1) (#[.int .i64 (a / 2048), .int .i64 0, .int .i64 0, .int .i64 0, .int .i64 0]) 33) ∧ Hid (Blk X g7 (#[.bool true, .bool true, .bool false, .bool false, .int .i64 c, .string m]) 81)) (F := fun X => Exit.then _ _ Exit.normal _ X) ⟨hS.1, Lib.hid hS.2.1, Lib.hid hS.2.2, K7⟩ ?_
      clear hS K7 a7
      try clear hb_w5
      try clear w5
      intro W hbW
      exact hk g7 W ⟨hg7, hbW⟩
    · go_simp
      obtain ⟨g7, e7⟩ : ∃ g, g = w.heap.size + 1 + 1 := ⟨_, rfl⟩
      have hg7 : w.heap.size + 1 + 1 ≤ g7 := by omega
      refine hK.out _ _ ⟨below_alloc hS.1 _, hS.2.1.alloc _, hS.2.2.alloc _⟩ (fun hS => ?_)
      clear hK K
      refine pmark (R := fun X => (Below w.heap.size w X ∧ Blk X (w.heap.size) (#[.int .i64 0, .int .i64 0, .int .i64 0, .int .i64 0, .int .i64 0]) 33 ∧ Blk X (w.heap.size + 1) (#[.int .i64 (a / 2048), .int .i64 0, .int .i64 0, .int .i64 0, .int .i64 0]) 33) ∧ Hid (Blk X (w.heap.size + 1 + 1) #[.bool false, .bool false, .bool false, .bool false, .int .i64 0, .string ⟨#[]⟩] 81)) (F := fun X => wpAnyH _ _ _ _ _ _ _ _ X) ⟨hS, Lib.hid (by repeat' (first | (with_reducible first | exact Hid.out (by assumption) | exact Blk.new _ _ _ | (refine Blk.new_at _ _ _ _ ?_; simp; done) | refine Blk.alloc ?_ _ | refine Blk.drewN ?_ _ | refine Blk.drew ?_ | apply Blk.set | refine Blk.put ?_ (by assumption) (by first | (simp; done) | (simp; omega) | omega) | refine Blk.below ?_ (by assumption)) | (refine Blk.setAt ?_ (by first | (simp; done) | (simp; omega))) | rfl))⟩ ?_
      clear hS
      intro W7 hS
      obtain ⟨hS, a7⟩ := hS
      rw [← e7] at a7 ⊢
      clear e7
      try simp only [List.getElem_toArray, List.getElem_cons_succ, List.getElem_cons_zero, Act.put, List.setIfInBounds_toArray, List.set_cons_zero, List.set_cons_succ]
      refine wpAnyH_ready (rs := [0]) (by kernel_rfl) (by simp) (AllReadyH.cons rfl (fun K hK => ?_) AllReadyH.nil)
      go_simp
      refine (S.out _).mono ?_
      rintro e w5 ⟨rfl, hb_w5⟩
      try go_wp2_with fail
      refine hK.out _ _ ⟨below_then hS.1 hb_w5, hS.2.1.below hb_w5, hS.2.2.below hb_w5⟩ (fun hS => ?_)
      replace a7 := Lib.hid (a7.out.below hb_w5)
      clear hK K
      try simp only [List.getElem_toArray, List.getElem_cons_succ, List.getElem_cons_zero, Act.put, List.setIfInBounds_toArray, List.set_cons_zero, List.set_cons_succ]
      refine wpAnyH_take (i := 3) (v := ?v3) rfl (by kernel_rfl) (by kernel_rfl) (by kernel_rfl) (fun _ _ _ h => h) (Or.inl ⟨by rfl, ?y3⟩) hS ?_
      case y3 => (intro w hSw; have c0 := hSw.2.1.cell; have c1 := hSw.2.2.cell; go_simp; try with_reducible rfl)
      try simp only [List.getElem_toArray, List.getElem_cons_succ, List.getElem_cons_zero, Act.put, List.setIfInBounds_toArray, List.set_cons_zero, List.set_cons_succ]
      refine wpAnyH_ready (rs := [5]) (by kernel_rfl) (by simp) (AllReadyH.cons rfl (fun K hK => ?_) AllReadyH.nil)
      rw [if_pos (by rfl)]
      refine wp_store_row 81 (.tmp 7) (.tmp 19) rfl g7 #[.bool true, .bool true, .bool false, .bool false, .int .i64 c, .string m] rfl rfl 81 #[.bool false, .bool false, .bool false, .bool false, .int .i64 0, .string ⟨#[]⟩] a7.out (by kernel_rfl) rfl (by simp [Value.oneCell']) ?_
      have K7 := Lib.hid (setRow_heap _ g7 _ #[.bool true, .bool true, .bool false, .bool false, .int .i64 c, .string m] 81 (0, 0) a7.out)
      refine hK.out _ _ ⟨below_put hS.1 (put_setRow _ g7 _) (by omega), hS.2.1.put (put_setRow _ g7 _) (by omega), hS.2.2.put (put_setRow _ g7 _) (by omega)⟩ (fun hS => ?_)
      clear hK K
      try simp only [List.getElem_toArray, List.getElem_cons_succ, List.getElem_cons_zero, Act.put, List.setIfInBounds_toArray, List.set_cons_zero, List.set_cons_succ]
      refine wpAnyH_done (by kernel_rfl) ?_ _
      refine pmark (R := fun X => Below w.heap.size w X ∧ Hid (Blk X (w.heap.size) (#[.int .i64 0, .int .i64 0, .int .i64 0, .int .i64 0, .int .i64 0]) 33) ∧ Hid (Blk X (w.heap.size + 1) (#[.int .i64 (a / 2048), .int .i64 0, .int .i64 0, .int .i64 0, .int .i64 0]) 33) ∧ Hid (Blk X g7 (#[.bool true, .bool true, .bool false, .bool false, .int .i64 c, .string m]) 81)) (F := fun X => Exit.then _ _ Exit.normal _ X) ⟨hS.1, Lib.hid hS.2.1, Lib.hid hS.2.2, K7⟩ ?_
      clear hS K7 a7
      try clear hb_w5
      try clear w5
      intro W hbW
      exact hk g7 W ⟨hg7, hbW⟩
  intro g7 w6 ⟨hg7, hbw6, Kw6_0, Kw6_1, Kw6_2⟩
  obtain ⟨lw6_0, cw6_0, fw6_0⟩ := Kw6_0.out.use
  obtain ⟨lw6_1, cw6_1, fw6_1⟩ := Kw6_1.out.use
  obtain ⟨lw6_2, cw6_2, fw6_2⟩ := Kw6_2.out.use
  clear hidx S
  have n1 : ¬ w.heap.size = g7 := by omega
  have n2 : ¬ w.heap.size + 1 = g7 := by omega
  clear w1 ha' hb' hop lw6_1 lw6_2 Kw6_0 Kw6_1 Kw6_2
  go_wp2
  refine bodyPost_ret (v := .tuple #[.agg #[.int .i64 (a / 2048), .int .i64 (a / 256 % 8), .int .i64 (a / 32 % 8), .int .i64 (0), .int .i64 (0)], .int .i64 1]) (by simp [results, Tryd.results26, go_sem, cw6_0, fw6_0, lw6_0]) rfl ⟨rfl, ?_⟩
  exact by repeat' (first | (with_reducible first | exact Below.refl _ _ | assumption | refine below_alloc ?_ _ | refine Below.drew ?_ | refine Go.Mq.below_drewN ?_ _ | refine below_then ?_ (by assumption) | refine below_put ?_ (by assumption) (by first | (simp; done) | (simp; omega) | omega) | refine Below.setCell ?_ ?_ _) | (simp; done) | (simp; omega) | omega)
theorem r1001 (a b : Int) (ha : U16 a) (hb : U16 b) (w : World) (hop : ¬ (a / 2048 = 30)) (c : Int) (m : ByteArray)
    (hidx : ∀ w, (Instr.index 82 (.agg shC) (.int .i64 (a / 2048))).run Tryd.prog w = .ok (.agg #[.bool true, .bool false, .bool false, .bool true, .int .i64 c, .string m]) w) :
    Calls Tryd.prog 26 #[.int .u16 a, .int .u16 b] w fun e w' => e = .returned (.tuple #[.agg #[.int .i64 (a / 2048), .int .i64 (a / 256 % 8), .int .i64 (0), .int .i64 (0), .int .i64 (b)], .int .i64 2]) ∧ Below w.heap.size w w' := by
  have ha' := ha
  have hb' := hb
  unfold U16 at ha' hb'
  have w1 : wrap64 (a / 2048) = a / 2048 := by unfold wrap64; omega
  have w2 : wrap64 (a / 256 % 8) = a / 256 % 8 := by unfold wrap64; omega
  have w3 : wrap64 (a / 32 % 8) = a / 32 % 8 := by unfold wrap64; omega
  have w4 : wrap64 (a % 32) = a % 32 := by unfold wrap64; omega
  have w5 : wrap64 (a % 32 - 32) = a % 32 - 32 := by unfold wrap64; omega
  have w8 : wrap64 b = b := by unfold wrap64; omega
  have m1 : bits .and .u16 (a / 256) 7 = a / 256 % 8 := and7 _ (by unfold U16; omega)
  have m2 : bits .and .u16 (a / 32) 7 = a / 32 % 8 := and7 _ (by unfold U16; omega)
  have m3 : bits .and .u16 a 31 = a % 32 := and31 _ ha
  have m4 : bits .and .i64 (a % 32) 15 = a % 32 % 16 := and15i _ (by omega) (by omega)
  clear ha hb
  clear w3 m2 w4 w5 m3 m4
  have S := Lib.hid shapes_any
  generalize shC = C at *
  go_enter Tryd.func26, Tryd.ntmps26
  go_wp2_with fail
  apply gcut (fun g X => w.heap.size + 1 + 1 ≤ g ∧ Below w.heap.size w X ∧ Hid (Blk X (w.heap.size) (#[.int .i64 0, .int .i64 0, .int .i64 0, .int .i64 0, .int .i64 0]) 33) ∧ Hid (Blk X (w.heap.size + 1) (#[.int .i64 (a / 2048), .int .i64 0, .int .i64 0, .int .i64 0, .int .i64 0]) 33) ∧ Hid (Blk X (g) (#[.bool true, .bool false, .bool false, .bool true, .int .i64 c, .string m]) 81))
  · intro hk
    refine wp_region_held_drew (S := fun X => Below w.heap.size w X ∧ Blk X (w.heap.size) (#[.int .i64 0, .int .i64 0, .int .i64 0, .int .i64 0, .int .i64 0]) 33 ∧ Blk X (w.heap.size + 1) (#[.int .i64 (a / 2048), .int .i64 0, .int .i64 0, .int .i64 0, .int .i64 0]) 33) (by kernel_rfl) ⟨by repeat' (first | (with_reducible first | exact Below.refl _ _ | assumption | refine below_alloc ?_ _ | refine Below.drew ?_ | refine Go.Mq.below_drewN ?_ _ | refine below_then ?_ (by assumption) | refine below_put ?_ (by assumption) (by first | (simp; done) | (simp; omega) | omega) | refine Below.setCell ?_ ?_ _) | (simp; done) | (simp; omega) | omega), (show Blk _ (w.heap.size) (#[.int .i64 0, .int .i64 0, .int .i64 0, .int .i64 0, .int .i64 0]) (33) from (by repeat' (first | (with_reducible first | exact Hid.out (by assumption) | exact Blk.new _ _ _ | (refine Blk.new_at _ _ _ _ ?_; simp; done) | refine Blk.alloc ?_ _ | refine Blk.drewN ?_ _ | refine Blk.drew ?_ | apply Blk.set | refine Blk.put ?_ (by assumption) (by first | (simp; done) | (simp; omega) | omega) | refine Blk.below ?_ (by assumption)) | (refine Blk.setAt ?_ (by first | (simp; done) | (simp; omega))) | rfl))), (show Blk _ (w.heap.size + 1) (#[.int .i64 (a / 2048), .int .i64 0, .int .i64 0, .int .i64 0, .int .i64 0]) (33) from (by repeat' (first | (with_reducible first | exact Hid.out (by assumption) | exact Blk.new _ _ _ | (refine Blk.new_at _ _ _ _ ?_; simp; done) | refine Blk.alloc ?_ _ | refine Blk.drewN ?_ _ | refine Blk.drew ?_ | apply Blk.set | refine Blk.put ?_ (by assumption) (by first | (simp; done) | (simp; omega) | omega) | refine Blk.below ?_ (by assumption)) | (refine Blk.setAt ?_ (by first | (simp; done) | (simp; omega))) | rfl)))⟩ (fun hS => ?_)
    refine wpAnyH_take (i := 1) (v := ?v1) rfl (by kernel_rfl) (by kernel_rfl) (by kernel_rfl) (fun _ _ _ h => h) (Or.inl ⟨by rfl, ?y1⟩) hS ?_
    case y1 => (intro w hSw; have c0 := hSw.2.1.cell; have c1 := hSw.2.2.cell; go_simp; try with_reducible rfl)
    try simp only [List.getElem_toArray, List.getElem_cons_succ, List.getElem_cons_zero, Act.put, List.setIfInBounds_toArray, List.set_cons_zero, List.set_cons_succ]
    refine wpAnyH_take (i := 2) (v := ?v2) rfl (by kernel_rfl) (by kernel_rfl) (by kernel_rfl) (fun _ _ _ h => h) (Or.inl ⟨by rfl, ?y2⟩) hS ?_
    case y2 => (intro w hSw; have c0 := hSw.2.1.cell; have c1 := hSw.2.2.cell; go_simp; try with_reducible rfl)
    try simp only [List.getElem_toArray, List.getElem_cons_succ, List.getElem_cons_zero, Act.put, List.setIfInBounds_toArray, List.set_cons_zero, List.set_cons_succ]
    refine wpAnyH_ready (rs := [0, 4]) (by kernel_rfl) (by simp) ?_
    refine AllReadyH.cons rfl (fun K hK => ?_) (AllReadyH.cons rfl (fun K hK => ?_) AllReadyH.nil)
    · go_simp
      refine (S.out _).mono ?_
      rintro e w5 ⟨rfl, hb_w5⟩
      try go_wp2_with fail
      refine hK.out _ _ ⟨below_then hS.1 hb_w5, hS.2.1.below hb_w5, hS.2.2.below hb_w5⟩ (fun hS => ?_)
      clear hK K
      try simp only [List.getElem_toArray, List.getElem_cons_succ, List.getElem_cons_zero, Act.put, List.setIfInBounds_toArray, List.set_cons_zero, List.set_cons_succ]
      refine wpAnyH_take (i := 3) (v := ?v3) rfl (by kernel_rfl) (by kernel_rfl) (by kernel_rfl) (fun _ _ _ h => h) (Or.inl ⟨by rfl, ?y3⟩) hS ?_
      case y3 => (intro w hSw; have c0 := hSw.2.1.cell; have c1 := hSw.2.2.cell; go_simp; try with_reducible rfl)
      try simp only [List.getElem_toArray, List.getElem_cons_succ, List.getElem_cons_zero, Act.put, List.setIfInBounds_toArray, List.set_cons_zero, List.set_cons_succ]
      refine wpAnyH_ready (rs := [4]) (by kernel_rfl) (by simp) (AllReadyH.cons rfl (fun K hK => ?_) AllReadyH.nil)
      go_simp
      obtain ⟨g7, e7⟩ : ∃ g, g = w5.heap.size := ⟨_, rfl⟩
      have hg7 : w.heap.size + 1 + 1 ≤ g7 := by have := hS.2.2.lt; omega
      refine hK.out _ _ ⟨below_alloc hS.1 _, hS.2.1.alloc _, hS.2.2.alloc _⟩ (fun hS => ?_)
      clear hK K
      have a7 : Hid (Blk (w5.alloc (.cells #[.bool false, .bool false, .bool false, .bool false, .int .i64 0, .string ⟨#[]⟩] 81)) g7 #[.bool false, .bool false, .bool false, .bool false, .int .i64 0, .string ⟨#[]⟩] 81) := Lib.hid (Blk.new_at _ _ _ _ e7)
      rw [← e7]
      clear e7
      try simp only [List.getElem_toArray, List.getElem_cons_succ, List.getElem_cons_zero, Act.put, List.setIfInBounds_toArray, List.set_cons_zero, List.set_cons_succ]
      refine wpAnyH_ready (rs := [5]) (by kernel_rfl) (by simp) (AllReadyH.cons rfl (fun K hK => ?_) AllReadyH.nil)
      rw [if_pos (by rfl)]
      refine wp_store_row 81 (.tmp 7) (.tmp 19) rfl g7 #[.bool true, .bool false, .bool false, .bool true, .int .i64 c, .string m] rfl rfl 81 #[.bool false, .bool false, .bool false, .bool false, .int .i64 0, .string ⟨#[]⟩] a7.out (by kernel_rfl) rfl (by simp [Value.oneCell']) ?_
      have K7 := Lib.hid (setRow_heap _ g7 _ #[.bool true, .bool false, .bool false, .bool true, .int .i64 c, .string m] 81 (0, 0) a7.out)
      refine hK.out _ _ ⟨below_put hS.1 (put_setRow _ g7 _) (by omega), hS.2.1.put (put_setRow _ g7 _) (by omega), hS.2.2.put (put_setRow _ g7 _) (by omega)⟩ (fun hS => ?_)
      clear hK K
      try simp only [List.getElem_toArray, List.getElem_cons_succ, List.getElem_cons_zero, Act.put, List.setIfInBounds_toArray, List.set_cons_zero, List.set_cons_succ]
      refine wpAnyH_done (by kernel_rfl) ?_ _
      refine pmark (R := fun X => Below w.heap.size w X ∧ Hid (Blk X (w.heap.size) (#[.int .i64 0, .int .i64 0, .int .i64 0, .int .i64 0, .int .i64 0]) 33) ∧ Hid (Blk X (w.heap.size + 1) (#[.int .i64 (a / 2048), .int .i64 0, .int .i64 0, .int .i64 0, .int .i64 0]) 33) ∧ Hid (Blk X g7 (#[.bool true, .bool false, .bool false, .bool true, .int .i64 c, .string m]) 81)) (F := fun X => Exit.then _ _ Exit.normal _ X) ⟨hS.1, Lib.hid hS.2.1, Lib.hid hS.2.2, K7⟩ ?_
      clear hS K7 a7
      try clear hb_w5
      try clear w5
      intro W hbW
      exact hk g7 W ⟨hg7, hbW⟩
    · go_simp
      obtain ⟨g7, e7⟩ : ∃ g, g = w.heap.size + 1 + 1 := ⟨_, rfl⟩
      have hg7 : w.heap.size + 1 + 1 ≤ g7 := by omega
      refine hK.out _ _ ⟨below_alloc hS.1 _, hS.2.1.alloc _, hS.2.2.alloc _⟩ (fun hS => ?_)
      clear hK K
      refine pmark (R := fun X => (Below w.heap.size w X ∧ Blk X (w.heap.size) (#[.int .i64 0, .int .i64 0, .int .i64 0, .int .i64 0, .int .i64 0]) 33 ∧ Blk X (w.heap.size + 1) (#[.int .i64 (a / 2048), .int .i64 0, .int .i64 0, .int .i64 0, .int .i64 0]) 33) ∧ Hid (Blk X (w.heap.size + 1 + 1) #[.bool false, .bool false, .bool false, .bool false, .int .i64 0, .string ⟨#[]⟩] 81)) (F := fun X => wpAnyH _ _ _ _ _ _ _ _ X) ⟨hS, Lib.hid (by repeat' (first | (with_reducible first | exact Hid.out (by assumption) | exact Blk.new _ _ _ | (refine Blk.new_at _ _ _ _ ?_; simp; done) | refine Blk.alloc ?_ _ | refine Blk.drewN ?_ _ | refine Blk.drew ?_ | apply Blk.set | refine Blk.put ?_ (by assumption) (by first | (simp; done) | (simp; omega) | omega) | refine Blk.below ?_ (by assumption)) | (refine Blk.setAt ?_ (by first | (simp; done) | (simp; omega))) | rfl))⟩ ?_
      clear hS
      intro W7 hS
      obtain ⟨hS, a7⟩ := hS
      rw [← e7] at a7 ⊢
      clear e7
      try simp only [List.getElem_toArray, List.getElem_cons_succ, List.getElem_cons_zero, Act.put, List.setIfInBounds_toArray, List.set_cons_zero, List.set_cons_succ]
      refine wpAnyH_ready (rs := [0]) (by kernel_rfl) (by simp) (AllReadyH.cons rfl (fun K hK => ?_) AllReadyH.nil)
      go_simp
      refine (S.out _).mono ?_
      rintro e w5 ⟨rfl, hb_w5⟩
      try go_wp2_with fail
      refine hK.out _ _ ⟨below_then hS.1 hb_w5, hS.2.1.below hb_w5, hS.2.2.below hb_w5⟩ (fun hS => ?_)
      replace a7 := Lib.hid (a7.out.below hb_w5)
      clear hK K
      try simp only [List.getElem_toArray, List.getElem_cons_succ, List.getElem_cons_zero, Act.put, List.setIfInBounds_toArray, List.set_cons_zero, List.set_cons_succ]
      refine wpAnyH_take (i := 3) (v := ?v3) rfl (by kernel_rfl) (by kernel_rfl) (by kernel_rfl) (fun _ _ _ h => h) (Or.inl ⟨by rfl, ?y3⟩) hS ?_
      case y3 => (intro w hSw; have c0 := hSw.2.1.cell; have c1 := hSw.2.2.cell; go_simp; try with_reducible rfl)
      try simp only [List.getElem_toArray, List.getElem_cons_succ, List.getElem_cons_zero, Act.put, List.setIfInBounds_toArray, List.set_cons_zero, List.set_cons_succ]
      refine wpAnyH_ready (rs := [5]) (by kernel_rfl) (by simp) (AllReadyH.cons rfl (fun K hK => ?_) AllReadyH.nil)
      rw [if_pos (by rfl)]
      refine wp_store_row 81 (.tmp 7) (.tmp 19) rfl g7 #[.bool true, .bool false, .bool false, .bool true, .int .i64 c, .string m] rfl rfl 81 #[.bool false, .bool false, .bool false, .bool false, .int .i64 0, .string ⟨#[]⟩] a7.out (by kernel_rfl) rfl (by simp [Value.oneCell']) ?_
      have K7 := Lib.hid (setRow_heap _ g7 _ #[.bool true, .bool false, .bool false, .bool true, .int .i64 c, .string m] 81 (0, 0) a7.out)
      refine hK.out _ _ ⟨below_put hS.1 (put_setRow _ g7 _) (by omega), hS.2.1.put (put_setRow _ g7 _) (by omega), hS.2.2.put (put_setRow _ g7 _) (by omega)⟩ (fun hS => ?_)
      clear hK K
      try simp only [List.getElem_toArray, List.getElem_cons_succ, List.getElem_cons_zero, Act.put, List.setIfInBounds_toArray, List.set_cons_zero, List.set_cons_succ]
      refine wpAnyH_done (by kernel_rfl) ?_ _
      refine pmark (R := fun X => Below w.heap.size w X ∧ Hid (Blk X (w.heap.size) (#[.int .i64 0, .int .i64 0, .int .i64 0, .int .i64 0, .int .i64 0]) 33) ∧ Hid (Blk X (w.heap.size + 1) (#[.int .i64 (a / 2048), .int .i64 0, .int .i64 0, .int .i64 0, .int .i64 0]) 33) ∧ Hid (Blk X g7 (#[.bool true, .bool false, .bool false, .bool true, .int .i64 c, .string m]) 81)) (F := fun X => Exit.then _ _ Exit.normal _ X) ⟨hS.1, Lib.hid hS.2.1, Lib.hid hS.2.2, K7⟩ ?_
      clear hS K7 a7
      try clear hb_w5
      try clear w5
      intro W hbW
      exact hk g7 W ⟨hg7, hbW⟩
  intro g7 w6 ⟨hg7, hbw6, Kw6_0, Kw6_1, Kw6_2⟩
  obtain ⟨lw6_0, cw6_0, fw6_0⟩ := Kw6_0.out.use
  obtain ⟨lw6_1, cw6_1, fw6_1⟩ := Kw6_1.out.use
  obtain ⟨lw6_2, cw6_2, fw6_2⟩ := Kw6_2.out.use
  clear hidx S
  have n1 : ¬ w.heap.size = g7 := by omega
  have n2 : ¬ w.heap.size + 1 = g7 := by omega
  clear w1 ha' hb' hop lw6_1 lw6_2 Kw6_0 Kw6_1 Kw6_2
  go_wp2
  refine bodyPost_ret (v := .tuple #[.agg #[.int .i64 (a / 2048), .int .i64 (a / 256 % 8), .int .i64 (0), .int .i64 (0), .int .i64 (b)], .int .i64 2]) (by simp [results, Tryd.results26, go_sem, cw6_0, fw6_0, lw6_0]) rfl ⟨rfl, ?_⟩
  exact by repeat' (first | (with_reducible first | exact Below.refl _ _ | assumption | refine below_alloc ?_ _ | refine Below.drew ?_ | refine Go.Mq.below_drewN ?_ _ | refine below_then ?_ (by assumption) | refine below_put ?_ (by assumption) (by first | (simp; done) | (simp; omega) | omega) | refine Below.setCell ?_ ?_ _) | (simp; done) | (simp; omega) | omega)
theorem r0001 (a b : Int) (ha : U16 a) (hb : U16 b) (w : World) (hop : ¬ (a / 2048 = 30)) (c : Int) (m : ByteArray)
    (hidx : ∀ w, (Instr.index 82 (.agg shC) (.int .i64 (a / 2048))).run Tryd.prog w = .ok (.agg #[.bool false, .bool false, .bool false, .bool true, .int .i64 c, .string m]) w) :
    Calls Tryd.prog 26 #[.int .u16 a, .int .u16 b] w fun e w' => e = .returned (.tuple #[.agg #[.int .i64 (a / 2048), .int .i64 (0), .int .i64 (0), .int .i64 (0), .int .i64 (b)], .int .i64 2]) ∧ Below w.heap.size w w' := by
  have ha' := ha
  have hb' := hb
  unfold U16 at ha' hb'
  have w1 : wrap64 (a / 2048) = a / 2048 := by unfold wrap64; omega
  have w2 : wrap64 (a / 256 % 8) = a / 256 % 8 := by unfold wrap64; omega
  have w3 : wrap64 (a / 32 % 8) = a / 32 % 8 := by unfold wrap64; omega
  have w4 : wrap64 (a % 32) = a % 32 := by unfold wrap64; omega
  have w5 : wrap64 (a % 32 - 32) = a % 32 - 32 := by unfold wrap64; omega
  have w8 : wrap64 b = b := by unfold wrap64; omega
  have m1 : bits .and .u16 (a / 256) 7 = a / 256 % 8 := and7 _ (by unfold U16; omega)
  have m2 : bits .and .u16 (a / 32) 7 = a / 32 % 8 := and7 _ (by unfold U16; omega)
  have m3 : bits .and .u16 a 31 = a % 32 := and31 _ ha
  have m4 : bits .and .i64 (a % 32) 15 = a % 32 % 16 := and15i _ (by omega) (by omega)
  clear ha hb
  clear w2 m1 w3 m2 w4 w5 m3 m4
  have S := Lib.hid shapes_any
  generalize shC = C at *
  go_enter Tryd.func26, Tryd.ntmps26
  go_wp2_with fail
  apply gcut (fun g X => w.heap.size + 1 + 1 ≤ g ∧ Below w.heap.size w X ∧ Hid (Blk X (w.heap.size) (#[.int .i64 0, .int .i64 0, .int .i64 0, .int .i64 0, .int .i64 0]) 33) ∧ Hid (Blk X (w.heap.size + 1) (#[.int .i64 (a / 2048), .int .i64 0, .int .i64 0, .int .i64 0, .int .i64 0]) 33) ∧ Hid (Blk X (g) (#[.bool false, .bool false, .bool false, .bool true, .int .i64 c, .string m]) 81))
  · intro hk
    refine wp_region_held_drew (S := fun X => Below w.heap.size w X ∧ Blk X (w.heap.size) (#[.int .i64 0, .int .i64 0, .int .i64 0, .int .i64 0, .int .i64 0]) 33 ∧ Blk X (w.heap.size + 1) (#[.int .i64 (a / 2048), .int .i64 0, .int .i64 0, .int .i64 0, .int .i64 0]) 33) (by kernel_rfl) ⟨by repeat' (first | (with_reducible first | exact Below.refl _ _ | assumption | refine below_alloc ?_ _ | refine Below.drew ?_ | refine Go.Mq.below_drewN ?_ _ | refine below_then ?_ (by assumption) | refine below_put ?_ (by assumption) (by first | (simp; done) | (simp; omega) | omega) | refine Below.setCell ?_ ?_ _) | (simp; done) | (simp; omega) | omega), (show Blk _ (w.heap.size) (#[.int .i64 0, .int .i64 0, .int .i64 0, .int .i64 0, .int .i64 0]) (33) from (by repeat' (first | (with_reducible first | exact Hid.out (by assumption) | exact Blk.new _ _ _ | (refine Blk.new_at _ _ _ _ ?_; simp; done) | refine Blk.alloc ?_ _ | refine Blk.drewN ?_ _ | refine Blk.drew ?_ | apply Blk.set | refine Blk.put ?_ (by assumption) (by first | (simp; done) | (simp; omega) | omega) | refine Blk.below ?_ (by assumption)) | (refine Blk.setAt ?_ (by first | (simp; done) | (simp; omega))) | rfl))), (show Blk _ (w.heap.size + 1) (#[.int .i64 (a / 2048), .int .i64 0, .int .i64 0, .int .i64 0, .int .i64 0]) (33) from (by repeat' (first | (with_reducible first | exact Hid.out (by assumption) | exact Blk.new _ _ _ | (refine Blk.new_at _ _ _ _ ?_; simp; done) | refine Blk.alloc ?_ _ | refine Blk.drewN ?_ _ | refine Blk.drew ?_ | apply Blk.set | refine Blk.put ?_ (by assumption) (by first | (simp; done) | (simp; omega) | omega) | refine Blk.below ?_ (by assumption)) | (refine Blk.setAt ?_ (by first | (simp; done) | (simp; omega))) | rfl)))⟩ (fun hS => ?_)
    refine wpAnyH_take (i := 1) (v := ?v1) rfl (by kernel_rfl) (by kernel_rfl) (by kernel_rfl) (fun _ _ _ h => h) (Or.inl ⟨by rfl, ?y1⟩) hS ?_
    case y1 => (intro w hSw; have c0 := hSw.2.1.cell; have c1 := hSw.2.2.cell; go_simp; try with_reducible rfl)
    try simp only [List.getElem_toArray, List.getElem_cons_succ, List.getElem_cons_zero, Act.put, List.setIfInBounds_toArray, List.set_cons_zero, List.set_cons_succ]
    refine wpAnyH_take (i := 2) (v := ?v2) rfl (by kernel_rfl) (by kernel_rfl) (by kernel_rfl) (fun _ _ _ h => h) (Or.inl ⟨by rfl, ?y2⟩) hS ?_
    case y2 => (intro w hSw; have c0 := hSw.2.1.cell; have c1 := hSw.2.2.cell; go_simp; try with_reducible rfl)
    try simp only [List.getElem_toArray, List.getElem_cons_succ, List.getElem_cons_zero, Act.put, List.setIfInBounds_toArray, List.set_cons_zero, List.set_cons_succ]
    refine wpAnyH_ready (rs := [0, 4]) (by kernel_rfl) (by simp) ?_
    refine AllReadyH.cons rfl (fun K hK => ?_) (AllReadyH.cons rfl (fun K hK => ?_) AllReadyH.nil)
    · go_simp
      refine (S.out _).mono ?_
      rintro e w5 ⟨rfl, hb_w5⟩
      try go_wp2_with fail
      refine hK.out _ _ ⟨below_then hS.1 hb_w5, hS.2.1.below hb_w5, hS.2.2.below hb_w5⟩ (fun hS => ?_)
      clear hK K
      try simp only [List.getElem_toArray, List.getElem_cons_succ, List.getElem_cons_zero, Act.put, List.setIfInBounds_toArray, List.set_cons_zero, List.set_cons_succ]
      refine wpAnyH_take (i := 3) (v := ?v3) rfl (by kernel_rfl) (by kernel_rfl) (by kernel_rfl) (fun _ _ _ h => h) (Or.inl ⟨by rfl, ?y3⟩) hS ?_
      case y3 => (intro w hSw; have c0 := hSw.2.1.cell; have c1 := hSw.2.2.cell; go_simp; try with_reducible rfl)
      try simp only [List.getElem_toArray, List.getElem_cons_succ, List.getElem_cons_zero, Act.put, List.setIfInBounds_toArray, List.set_cons_zero, List.set_cons_succ]
      refine wpAnyH_ready (rs := [4]) (by kernel_rfl) (by simp) (AllReadyH.cons rfl (fun K hK => ?_) AllReadyH.nil)
      go_simp
      obtain ⟨g7, e7⟩ : ∃ g, g = w5.heap.size := ⟨_, rfl⟩
      have hg7 : w.heap.size + 1 + 1 ≤ g7 := by have := hS.2.2.lt; omega
      refine hK.out _ _ ⟨below_alloc hS.1 _, hS.2.1.alloc _, hS.2.2.alloc _⟩ (fun hS => ?_)
      clear hK K
      have a7 : Hid (Blk (w5.alloc (.cells #[.bool false, .bool false, .bool false, .bool false, .int .i64 0, .string ⟨#[]⟩] 81)) g7 #[.bool false, .bool false, .bool false, .bool false, .int .i64 0, .string ⟨#[]⟩] 81) := Lib.hid (Blk.new_at _ _ _ _ e7)
      rw [← e7]
      clear e7
      try simp only [List.getElem_toArray, List.getElem_cons_succ, List.getElem_cons_zero, Act.put, List.setIfInBounds_toArray, List.set_cons_zero, List.set_cons_succ]
      refine wpAnyH_ready (rs := [5]) (by kernel_rfl) (by simp) (AllReadyH.cons rfl (fun K hK => ?_) AllReadyH.nil)
      rw [if_pos (by rfl)]
      refine wp_store_row 81 (.tmp 7) (.tmp 19) rfl g7 #[.bool false, .bool false, .bool false, .bool true, .int .i64 c, .string m] rfl rfl 81 #[.bool false, .bool false, .bool false, .bool false, .int .i64 0, .string ⟨#[]⟩] a7.out (by kernel_rfl) rfl (by simp [Value.oneCell']) ?_
      have K7 := Lib.hid (setRow_heap _ g7 _ #[.bool false, .bool false, .bool false, .bool true, .int .i64 c, .string m] 81 (0, 0) a7.out)
      refine hK.out _ _ ⟨below_put hS.1 (put_setRow _ g7 _) (by omega), hS.2.1.put (put_setRow _ g7 _) (by omega), hS.2.2.put (put_setRow _ g7 _) (by omega)⟩ (fun hS => ?_)
      clear hK K
      try simp only [List.getElem_toArray, List.getElem_cons_succ, List.getElem_cons_zero, Act.put, List.setIfInBounds_toArray, List.set_cons_zero, List.set_cons_succ]
      refine wpAnyH_done (by kernel_rfl) ?_ _
      refine pmark (R := fun X => Below w.heap.size w X ∧ Hid (Blk X (w.heap.size) (#[.int .i64 0, .int .i64 0, .int .i64 0, .int .i64 0, .int .i64 0]) 33) ∧ Hid (Blk X (w.heap.size + 1) (#[.int .i64 (a / 2048), .int .i64 0, .int .i64 0, .int .i64 0, .int .i64 0]) 33) ∧ Hid (Blk X g7 (#[.bool false, .bool false, .bool false, .bool true, .int .i64 c, .string m]) 81)) (F := fun X => Exit.then _ _ Exit.normal _ X) ⟨hS.1, Lib.hid hS.2.1, Lib.hid hS.2.2, K7⟩ ?_
      clear hS K7 a7
      try clear hb_w5
      try clear w5
      intro W hbW
      exact hk g7 W ⟨hg7, hbW⟩
    · go_simp
      obtain ⟨g7, e7⟩ : ∃ g, g = w.heap.size + 1 + 1 := ⟨_, rfl⟩
      have hg7 : w.heap.size + 1 + 1 ≤ g7 := by omega
      refine hK.out _ _ ⟨below_alloc hS.1 _, hS.2.1.alloc _, hS.2.2.alloc _⟩ (fun hS => ?_)
      clear hK K
      refine pmark (R := fun X => (Below w.heap.size w X ∧ Blk X (w.heap.size) (#[.int .i64 0, .int .i64 0, .int .i64 0, .int .i64 0, .int .i64 0]) 33 ∧ Blk X (w.heap.size + 1) (#[.int .i64 (a / 2048), .int .i64 0, .int .i64 0, .int .i64 0, .int .i64 0]) 33) ∧ Hid (Blk X (w.heap.size + 1 + 1) #[.bool false, .bool false, .bool false, .bool false, .int .i64 0, .string ⟨#[]⟩] 81)) (F := fun X => wpAnyH _ _ _ _ _ _ _ _ X) ⟨hS, Lib.hid (by repeat' (first | (with_reducible first | exact Hid.out (by assumption) | exact Blk.new _ _ _ | (refine Blk.new_at _ _ _ _ ?_; simp; done) | refine Blk.alloc ?_ _ | refine Blk.drewN ?_ _ | refine Blk.drew ?_ | apply Blk.set | refine Blk.put ?_ (by assumption) (by first | (simp; done) | (simp; omega) | omega) | refine Blk.below ?_ (by assumption)) | (refine Blk.setAt ?_ (by first | (simp; done) | (simp; omega))) | rfl))⟩ ?_
      clear hS
      intro W7 hS
      obtain ⟨hS, a7⟩ := hS
      rw [← e7] at a7 ⊢
      clear e7
      try simp only [List.getElem_toArray, List.getElem_cons_succ, List.getElem_cons_zero, Act.put, List.setIfInBounds_toArray, List.set_cons_zero, List.set_cons_succ]
      refine wpAnyH_ready (rs := [0]) (by kernel_rfl) (by simp) (AllReadyH.cons rfl (fun K hK => ?_) AllReadyH.nil)
      go_simp
      refine (S.out _).mono ?_
      rintro e w5 ⟨rfl, hb_w5⟩
      try go_wp2_with fail
      refine hK.out _ _ ⟨below_then hS.1 hb_w5, hS.2.1.below hb_w5, hS.2.2.below hb_w5⟩ (fun hS => ?_)
      replace a7 := Lib.hid (a7.out.below hb_w5)
      clear hK K
      try simp only [List.getElem_toArray, List.getElem_cons_succ, List.getElem_cons_zero, Act.put, List.setIfInBounds_toArray, List.set_cons_zero, List.set_cons_succ]
      refine wpAnyH_take (i := 3) (v := ?v3) rfl (by kernel_rfl) (by kernel_rfl) (by kernel_rfl) (fun _ _ _ h => h) (Or.inl ⟨by rfl, ?y3⟩) hS ?_
      case y3 => (intro w hSw; have c0 := hSw.2.1.cell; have c1 := hSw.2.2.cell; go_simp; try with_reducible rfl)
      try simp only [List.getElem_toArray, List.getElem_cons_succ, List.getElem_cons_zero, Act.put, List.setIfInBounds_toArray, List.set_cons_zero, List.set_cons_succ]
      refine wpAnyH_ready (rs := [5]) (by kernel_rfl) (by simp) (AllReadyH.cons rfl (fun K hK => ?_) AllReadyH.nil)
      rw [if_pos (by rfl)]
      refine wp_store_row 81 (.tmp 7) (.tmp 19) rfl g7 #[.bool false, .bool false, .bool false, .bool true, .int .i64 c, .string m] rfl rfl 81 #[.bool false, .bool false, .bool false, .bool false, .int .i64 0, .string ⟨#[]⟩] a7.out (by kernel_rfl) rfl (by simp [Value.oneCell']) ?_
      have K7 := Lib.hid (setRow_heap _ g7 _ #[.bool false, .bool false, .bool false, .bool true, .int .i64 c, .string m] 81 (0, 0) a7.out)
      refine hK.out _ _ ⟨below_put hS.1 (put_setRow _ g7 _) (by omega), hS.2.1.put (put_setRow _ g7 _) (by omega), hS.2.2.put (put_setRow _ g7 _) (by omega)⟩ (fun hS => ?_)
      clear hK K
      try simp only [List.getElem_toArray, List.getElem_cons_succ, List.getElem_cons_zero, Act.put, List.setIfInBounds_toArray, List.set_cons_zero, List.set_cons_succ]
      refine wpAnyH_done (by kernel_rfl) ?_ _
      refine pmark (R := fun X => Below w.heap.size w X ∧ Hid (Blk X (w.heap.size) (#[.int .i64 0, .int .i64 0, .int .i64 0, .int .i64 0, .int .i64 0]) 33) ∧ Hid (Blk X (w.heap.size + 1) (#[.int .i64 (a / 2048), .int .i64 0, .int .i64 0, .int .i64 0, .int .i64 0]) 33) ∧ Hid (Blk X g7 (#[.bool false, .bool false, .bool false, .bool true, .int .i64 c, .string m]) 81)) (F := fun X => Exit.then _ _ Exit.normal _ X) ⟨hS.1, Lib.hid hS.2.1, Lib.hid hS.2.2, K7⟩ ?_
      clear hS K7 a7
      try clear hb_w5
      try clear w5
      intro W hbW
      exact hk g7 W ⟨hg7, hbW⟩
  intro g7 w6 ⟨hg7, hbw6, Kw6_0, Kw6_1, Kw6_2⟩
  obtain ⟨lw6_0, cw6_0, fw6_0⟩ := Kw6_0.out.use
  obtain ⟨lw6_1, cw6_1, fw6_1⟩ := Kw6_1.out.use
  obtain ⟨lw6_2, cw6_2, fw6_2⟩ := Kw6_2.out.use
  clear hidx S
  have n1 : ¬ w.heap.size = g7 := by omega
  have n2 : ¬ w.heap.size + 1 = g7 := by omega
  clear w1 ha' hb' hop lw6_1 lw6_2 Kw6_0 Kw6_1 Kw6_2
  go_wp2
  refine bodyPost_ret (v := .tuple #[.agg #[.int .i64 (a / 2048), .int .i64 (0), .int .i64 (0), .int .i64 (0), .int .i64 (b)], .int .i64 2]) (by simp [results, Tryd.results26, go_sem, cw6_0, fw6_0, lw6_0]) rfl ⟨rfl, ?_⟩
  exact by repeat' (first | (with_reducible first | exact Below.refl _ _ | assumption | refine below_alloc ?_ _ | refine Below.drew ?_ | refine Go.Mq.below_drewN ?_ _ | refine below_then ?_ (by assumption) | refine below_put ?_ (by assumption) (by first | (simp; done) | (simp; omega) | omega) | refine Below.setCell ?_ ?_ _) | (simp; done) | (simp; omega) | omega)
theorem r0100 (a b : Int) (ha : U16 a) (hb : U16 b) (w : World) (hop : ¬ (a / 2048 = 30)) (c : Int) (m : ByteArray)
    (hidx : ∀ w, (Instr.index 82 (.agg shC) (.int .i64 (a / 2048))).run Tryd.prog w = .ok (.agg #[.bool false, .bool true, .bool false, .bool false, .int .i64 c, .string m]) w) :
    Calls Tryd.prog 26 #[.int .u16 a, .int .u16 b] w fun e w' => e = .returned (.tuple #[.agg #[.int .i64 (a / 2048), .int .i64 (0), .int .i64 (a / 32 % 8), .int .i64 (0), .int .i64 (0)], .int .i64 1]) ∧ Below w.heap.size w w' := by
  have ha' := ha
  have hb' := hb
  unfold U16 at ha' hb'
  have w1 : wrap64 (a / 2048) = a / 2048 := by unfold wrap64; omega
  have w2 : wrap64 (a / 256 % 8) = a / 256 % 8 := by unfold wrap64; omega
  have w3 : wrap64 (a / 32 % 8) = a / 32 % 8 := by unfold wrap64; omega
  have w4 : wrap64 (a % 32) = a % 32 := by unfold wrap64; omega
  have w5 : wrap64 (a % 32 - 32) = a % 32 - 32 := by unfold wrap64; omega
  have w8 : wrap64 b = b := by unfold wrap64; omega
  have m1 : bits .and .u16 (a / 256) 7 = a / 256 % 8 := and7 _ (by unfold U16; omega)
  have m2 : bits .and .u16 (a / 32) 7 = a / 32 % 8 := and7 _ (by unfold U16; omega)
  have m3 : bits .and .u16 a 31 = a % 32 := and31 _ ha
  have m4 : bits .and .i64 (a % 32) 15 = a % 32 % 16 := and15i _ (by omega) (by omega)
  clear ha hb
  clear w2 m1 w4 w5 m3 m4 w8
  have S := Lib.hid shapes_any
  generalize shC = C at *
  go_enter Tryd.func26, Tryd.ntmps26
  go_wp2_with fail
  apply gcut (fun g X => w.heap.size + 1 + 1 ≤ g ∧ Below w.heap.size w X ∧ Hid (Blk X (w.heap.size) (#[.int .i64 0, .int .i64 0, .int .i64 0, .int .i64 0, .int .i64 0]) 33) ∧ Hid (Blk X (w.heap.size + 1) (#[.int .i64 (a / 2048), .int .i64 0, .int .i64 0, .int .i64 0, .int .i64 0]) 33) ∧ Hid (Blk X (g) (#[.bool false, .bool true, .bool false, .bool false, .int .i64 c, .string m]) 81))
  · intro hk
    refine wp_region_held_drew (S := fun X => Below w.heap.size w X ∧ Blk X (w.heap.size) (#[.int .i64 0, .int .i64 0, .int .i64 0, .int .i64 0, .int .i64 0]) 33 ∧ Blk X (w.heap.size + 1) (#[.int .i64 (a / 2048), .int .i64 0, .int .i64 0, .int .i64 0, .int .i64 0]) 33) (by kernel_rfl) ⟨by repeat' (first | (with_reducible first | exact Below.refl _ _ | assumption | refine below_alloc ?_ _ | refine Below.drew ?_ | refine Go.Mq.below_drewN ?_ _ | refine below_then ?_ (by assumption) | refine below_put ?_ (by assumption) (by first | (simp; done) | (simp; omega) | omega) | refine Below.setCell ?_ ?_ _) | (simp; done) | (simp; omega) | omega), (show Blk _ (w.heap.size) (#[.int .i64 0, .int .i64 0, .int .i64 0, .int .i64 0, .int .i64 0]) (33) from (by repeat' (first | (with_reducible first | exact Hid.out (by assumption) | exact Blk.new _ _ _ | (refine Blk.new_at _ _ _ _ ?_; simp; done) | refine Blk.alloc ?_ _ | refine Blk.drewN ?_ _ | refine Blk.drew ?_ | apply Blk.set | refine Blk.put ?_ (by assumption) (by first | (simp; done) | (simp; omega) | omega) | refine Blk.below ?_ (by assumption)) | (refine Blk.setAt ?_ (by first | (simp; done) | (simp; omega))) | rfl))), (show Blk _ (w.heap.size + 1) (#[.int .i64 (a / 2048), .int .i64 0, .int .i64 0, .int .i64 0, .int .i64 0]) (33) from (by repeat' (first | (with_reducible first | exact Hid.out (by assumption) | exact Blk.new _ _ _ | (refine Blk.new_at _ _ _ _ ?_; simp; done) | refine Blk.alloc ?_ _ | refine Blk.drewN ?_ _ | refine Blk.drew ?_ | apply Blk.set | refine Blk.put ?_ (by assumption) (by first | (simp; done) | (simp; omega) | omega) | refine Blk.below ?_ (by assumption)) | (refine Blk.setAt ?_ (by first | (simp; done) | (simp; omega))) | rfl)))⟩ (fun hS => ?_)
    refine wpAnyH_take (i := 1) (v := ?v1) rfl (by kernel_rfl) (by kernel_rfl) (by kernel_rfl) (fun _ _ _ h => h) (Or.inl ⟨by rfl, ?y1⟩) hS ?_
    case y1 => (intro w hSw; have c0 := hSw.2.1.cell; have c1 := hSw.2.2.cell; go_simp; try with_reducible rfl)
    try simp only [List.getElem_toArray, List.getElem_cons_succ, List.getElem_cons_zero, Act.put, List.setIfInBounds_toArray, List.set_cons_zero, List.set_cons_succ]
    refine wpAnyH_take (i := 2) (v := ?v2) rfl (by kernel_rfl) (by kernel_rfl) (by kernel_rfl) (fun _ _ _ h => h) (Or.inl ⟨by rfl, ?y2⟩) hS ?_
    case y2 => (intro w hSw; have c0 := hSw.2.1.cell; have c1 := hSw.2.2.cell; go_simp; try with_reducible rfl)
    try simp only [List.getElem_toArray, List.getElem_cons_succ, List.getElem_cons_zero, Act.put, List.setIfInBounds_toArray, List.set_cons_zero, List.set_cons_succ]
    refine wpAnyH_ready (rs := [0, 4]) (by kernel_rfl) (by simp) ?_
    refine AllReadyH.cons rfl (fun K hK => ?_) (AllReadyH.cons rfl (fun K hK => ?_) AllReadyH.nil)
    · go_simp
      refine (S.out _).mono ?_
      rintro e w5 ⟨rfl, hb_w5⟩
      try go_wp2_with fail
      refine hK.out _ _ ⟨below_then hS.1 hb_w5, hS.2.1.below hb_w5, hS.2.2.below hb_w5⟩ (fun hS => ?_)
      clear hK K
      try simp only [List.getElem_toArray, List.getElem_cons_succ, List.getElem_cons_zero, Act.put, List.setIfInBounds_toArray, List.set_cons_zero, List.set_cons_succ]
      refine wpAnyH_take (i := 3) (v := ?v3) rfl (by kernel_rfl) (by kernel_rfl) (by kernel_rfl) (fun _ _ _ h => h) (Or.inl ⟨by rfl, ?y3⟩) hS ?_
      case y3 => (intro w hSw; have c0 := hSw.2.1.cell; have c1 := hSw.2.2.cell; go_simp; try with_reducible rfl)
      try simp only [List.getElem_toArray, List.getElem_cons_succ, List.getElem_cons_zero, Act.put, List.setIfInBounds_toArray, List.set_cons_zero, List.set_cons_succ]
      refine wpAnyH_ready (rs := [4]) (by kernel_rfl) (by simp) (AllReadyH.cons rfl (fun K hK => ?_) AllReadyH.nil)
      go_simp
      obtain ⟨g7, e7⟩ : ∃ g, g = w5.heap.size := ⟨_, rfl⟩
      have hg7 : w.heap.size + 1 + 1 ≤ g7 := by have := hS.2.2.lt; omega
      refine hK.out _ _ ⟨below_alloc hS.1 _, hS.2.1.alloc _, hS.2.2.alloc _⟩ (fun hS => ?_)
      clear hK K
      have a7 : Hid (Blk (w5.alloc (.cells #[.bool false, .bool false, .bool false, .bool false, .int .i64 0, .string ⟨#[]⟩] 81)) g7 #[.bool false, .bool false, .bool false, .bool false, .int .i64 0, .string ⟨#[]⟩] 81) := Lib.hid (Blk.new_at _ _ _ _ e7)
      rw [← e7]
      clear e7
      try simp only [List.getElem_toArray, List.getElem_cons_succ, List.getElem_cons_zero, Act.put, List.setIfInBounds_toArray, List.set_cons_zero, List.set_cons_succ]
      refine wpAnyH_ready (rs := [5]) (by kernel_rfl) (by simp) (AllReadyH.cons rfl (fun K hK => ?_) AllReadyH.nil)
      rw [if_pos (by rfl)]
      refine wp_store_row 81 (.tmp 7) (.tmp 19) rfl g7 #[.bool false, .bool true, .bool false, .bool false, .int .i64 c, .string m] rfl rfl 81 #[.bool false, .bool false, .bool false, .bool false, .int .i64 0, .string ⟨#[]⟩] a7.out (by kernel_rfl) rfl (by simp [Value.oneCell']) ?_
      have K7 := Lib.hid (setRow_heap _ g7 _ #[.bool false, .bool true, .bool false, .bool false, .int .i64 c, .string m] 81 (0, 0) a7.out)
      refine hK.out _ _ ⟨below_put hS.1 (put_setRow _ g7 _) (by omega), hS.2.1.put (put_setRow _ g7 _) (by omega), hS.2.2.put (put_setRow _ g7 _) (by omega)⟩ (fun hS => ?_)
      clear hK K
      try simp only [List.getElem_toArray, List.getElem_cons_succ, List.getElem_cons_zero, Act.put, List.setIfInBounds_toArray, List.set_cons_zero, List.set_cons_succ]
      refine wpAnyH_done (by kernel_rfl) ?_ _
      refine pmark (R := fun X => Below w.heap.size w X ∧ Hid (Blk X (w.heap.size) (#[.int .i64 0, .int .i64 0, .int .i64 0, .int .i64 0, .int .i64 0]) 33) ∧ Hid (Blk X (w.heap.size + 1) (#[.int .i64 (a / 2048), .int .i64 0, .int .i64 0, .int .i64 0, .int .i64 0]) 33) ∧ Hid (Blk X g7 (#[.bool false, .bool true, .bool false, .bool false, .int .i64 c, .string m]) 81)) (F := fun X => Exit.then _ _ Exit.normal _ X) ⟨hS.1, Lib.hid hS.2.1, Lib.hid hS.2.2, K7⟩ ?_
      clear hS K7 a7
      try clear hb_w5
      try clear w5
      intro W hbW
      exact hk g7 W ⟨hg7, hbW⟩
    · go_simp
      obtain ⟨g7, e7⟩ : ∃ g, g = w.heap.size + 1 + 1 := ⟨_, rfl⟩
      have hg7 : w.heap.size + 1 + 1 ≤ g7 := by omega
      refine hK.out _ _ ⟨below_alloc hS.1 _, hS.2.1.alloc _, hS.2.2.alloc _⟩ (fun hS => ?_)
      clear hK K
      refine pmark (R := fun X => (Below w.heap.size w X ∧ Blk X (w.heap.size) (#[.int .i64 0, .int .i64 0, .int .i64 0, .int .i64 0, .int .i64 0]) 33 ∧ Blk X (w.heap.size + 1) (#[.int .i64 (a / 2048), .int .i64 0, .int .i64 0, .int .i64 0, .int .i64 0]) 33) ∧ Hid (Blk X (w.heap.size + 1 + 1) #[.bool false, .bool false, .bool false, .bool false, .int .i64 0, .string ⟨#[]⟩] 81)) (F := fun X => wpAnyH _ _ _ _ _ _ _ _ X) ⟨hS, Lib.hid (by repeat' (first | (with_reducible first | exact Hid.out (by assumption) | exact Blk.new _ _ _ | (refine Blk.new_at _ _ _ _ ?_; simp; done) | refine Blk.alloc ?_ _ | refine Blk.drewN ?_ _ | refine Blk.drew ?_ | apply Blk.set | refine Blk.put ?_ (by assumption) (by first | (simp; done) | (simp; omega) | omega) | refine Blk.below ?_ (by assumption)) | (refine Blk.setAt ?_ (by first | (simp; done) | (simp; omega))) | rfl))⟩ ?_
      clear hS
      intro W7 hS
      obtain ⟨hS, a7⟩ := hS
      rw [← e7] at a7 ⊢
      clear e7
      try simp only [List.getElem_toArray, List.getElem_cons_succ, List.getElem_cons_zero, Act.put, List.setIfInBounds_toArray, List.set_cons_zero, List.set_cons_succ]
      refine wpAnyH_ready (rs := [0]) (by kernel_rfl) (by simp) (AllReadyH.cons rfl (fun K hK => ?_) AllReadyH.nil)
      go_simp
      refine (S.out _).mono ?_
      rintro e w5 ⟨rfl, hb_w5⟩
      try go_wp2_with fail
      refine hK.out _ _ ⟨below_then hS.1 hb_w5, hS.2.1.below hb_w5, hS.2.2.below hb_w5⟩ (fun hS => ?_)
      replace a7 := Lib.hid (a7.out.below hb_w5)
      clear hK K
      try simp only [List.getElem_toArray, List.getElem_cons_succ, List.getElem_cons_zero, Act.put, List.setIfInBounds_toArray, List.set_cons_zero, List.set_cons_succ]
      refine wpAnyH_take (i := 3) (v := ?v3) rfl (by kernel_rfl) (by kernel_rfl) (by kernel_rfl) (fun _ _ _ h => h) (Or.inl ⟨by rfl, ?y3⟩) hS ?_
      case y3 => (intro w hSw; have c0 := hSw.2.1.cell; have c1 := hSw.2.2.cell; go_simp; try with_reducible rfl)
      try simp only [List.getElem_toArray, List.getElem_cons_succ, List.getElem_cons_zero, Act.put, List.setIfInBounds_toArray, List.set_cons_zero, List.set_cons_succ]
      refine wpAnyH_ready (rs := [5]) (by kernel_rfl) (by simp) (AllReadyH.cons rfl (fun K hK => ?_) AllReadyH.nil)
      rw [if_pos (by rfl)]
      refine wp_store_row 81 (.tmp 7) (.tmp 19) rfl g7 #[.bool false, .bool true, .bool false, .bool false, .int .i64 c, .string m] rfl rfl 81 #[.bool false, .bool false, .bool false, .bool false, .int .i64 0, .string ⟨#[]⟩] a7.out (by kernel_rfl) rfl (by simp [Value.oneCell']) ?_
      have K7 := Lib.hid (setRow_heap _ g7 _ #[.bool false, .bool true, .bool false, .bool false, .int .i64 c, .string m] 81 (0, 0) a7.out)
      refine hK.out _ _ ⟨below_put hS.1 (put_setRow _ g7 _) (by omega), hS.2.1.put (put_setRow _ g7 _) (by omega), hS.2.2.put (put_setRow _ g7 _) (by omega)⟩ (fun hS => ?_)
      clear hK K
      try simp only [List.getElem_toArray, List.getElem_cons_succ, List.getElem_cons_zero, Act.put, List.setIfInBounds_toArray, List.set_cons_zero, List.set_cons_succ]
      refine wpAnyH_done (by kernel_rfl) ?_ _
      refine pmark (R := fun X => Below w.heap.size w X ∧ Hid (Blk X (w.heap.size) (#[.int .i64 0, .int .i64 0, .int .i64 0, .int .i64 0, .int .i64 0]) 33) ∧ Hid (Blk X (w.heap.size + 1) (#[.int .i64 (a / 2048), .int .i64 0, .int .i64 0, .int .i64 0, .int .i64 0]) 33) ∧ Hid (Blk X g7 (#[.bool false, .bool true, .bool false, .bool false, .int .i64 c, .string m]) 81)) (F := fun X => Exit.then _ _ Exit.normal _ X) ⟨hS.1, Lib.hid hS.2.1, Lib.hid hS.2.2, K7⟩ ?_
      clear hS K7 a7
      try clear hb_w5
      try clear w5
      intro W hbW
      exact hk g7 W ⟨hg7, hbW⟩
  intro g7 w6 ⟨hg7, hbw6, Kw6_0, Kw6_1, Kw6_2⟩
  obtain ⟨lw6_0, cw6_0, fw6_0⟩ := Kw6_0.out.use
  obtain ⟨lw6_1, cw6_1, fw6_1⟩ := Kw6_1.out.use
  obtain ⟨lw6_2, cw6_2, fw6_2⟩ := Kw6_2.out.use
  clear hidx S
  have n1 : ¬ w.heap.size = g7 := by omega
  have n2 : ¬ w.heap.size + 1 = g7 := by omega
  clear w1 ha' hb' hop lw6_1 lw6_2 Kw6_0 Kw6_1 Kw6_2
  go_wp2
  refine bodyPost_ret (v := .tuple #[.agg #[.int .i64 (a / 2048), .int .i64 (0), .int .i64 (a / 32 % 8), .int .i64 (0), .int .i64 (0)], .int .i64 1]) (by simp [results, Tryd.results26, go_sem, cw6_0, fw6_0, lw6_0]) rfl ⟨rfl, ?_⟩
  exact by repeat' (first | (with_reducible first | exact Below.refl _ _ | assumption | refine below_alloc ?_ _ | refine Below.drew ?_ | refine Go.Mq.below_drewN ?_ _ | refine below_then ?_ (by assumption) | refine below_put ?_ (by assumption) (by first | (simp; done) | (simp; omega) | omega) | refine Below.setCell ?_ ?_ _) | (simp; done) | (simp; omega) | omega)
theorem r1000 (a b : Int) (ha : U16 a) (hb : U16 b) (w : World) (hop : ¬ (a / 2048 = 30)) (c : Int) (m : ByteArray)
    (hidx : ∀ w, (Instr.index 82 (.agg shC) (.int .i64 (a / 2048))).run Tryd.prog w = .ok (.agg #[.bool true, .bool false, .bool false, .bool false, .int .i64 c, .string m]) w) :
    Calls Tryd.prog 26 #[.int .u16 a, .int .u16 b] w fun e w' => e = .returned (.tuple #[.agg #[.int .i64 (a / 2048), .int .i64 (a / 256 % 8), .int .i64 (0), .int .i64 (0), .int .i64 (0)], .int .i64 1]) ∧ Below w.heap.size w w' := by
  have ha' := ha
  have hb' := hb
  unfold U16 at ha' hb'
  have w1 : wrap64 (a / 2048) = a / 2048 := by unfold wrap64; omega
  have w2 : wrap64 (a / 256 % 8) = a / 256 % 8 := by unfold wrap64; omega
  have w3 : wrap64 (a / 32 % 8) = a / 32 % 8 := by unfold wrap64; omega
  have w4 : wrap64 (a % 32) = a % 32 := by unfold wrap64; omega
  have w5 : wrap64 (a % 32 - 32) = a % 32 - 32 := by unfold wrap64; omega
  have w8 : wrap64 b = b := by unfold wrap64; omega
  have m1 : bits .and .u16 (a / 256) 7 = a / 256 % 8 := and7 _ (by unfold U16; omega)
  have m2 : bits .and .u16 (a / 32) 7 = a / 32 % 8 := and7 _ (by unfold U16; omega)
  have m3 : bits .and .u16 a 31 = a % 32 := and31 _ ha
  have m4 : bits .and .i64 (a % 32) 15 = a % 32 % 16 := and15i _ (by omega) (by omega)
  clear ha hb
  clear w3 m2 w4 w5 m3 m4 w8
  have S := Lib.hid shapes_any
  generalize shC = C at *
  go_enter Tryd.func26, Tryd.ntmps26
  go_wp2_with fail
  apply gcut (fun g X => w.heap.size + 1 + 1 ≤ g ∧ Below w.heap.size w X ∧ Hid (Blk X (w.heap.size) (#[.int .i64 0, .int .i64 0, .int .i64 0, .int .i64 0, .int .i64 0]) 33) ∧ Hid (Blk X (w.heap.size + 1) (#[.int .i64 (a / 2048), .int .i64 0, .int .i64 0, .int .i64 0, .int .i64 0]) 33) ∧ Hid (Blk X (g) (#[.bool true, .bool false, .bool false, .bool false, .int .i64 c, .string m]) 81))
  · intro hk
    refine wp_region_held_drew (S := fun X => Below w.heap.size w X ∧ Blk X (w.heap.size) (#[.int .i64 0, .int .i64 0, .int .i64 0, .int .i64 0, .int .i64 0]) 33 ∧ Blk X (w.heap.size + 1) (#[.int .i64 (a / 2048), .int .i64 0, .int .i64 0, .int .i64 0, .int .i64 0]) 33) (by kernel_rfl) ⟨by repeat' (first | (with_reducible first | exact Below.refl _ _ | assumption | refine below_alloc ?_ _ | refine Below.drew ?_ | refine Go.Mq.below_drewN ?_ _ | refine below_then ?_ (by assumption) | refine below_put ?_ (by assumption) (by first | (simp; done) | (simp; omega) | omega) | refine Below.setCell ?_ ?_ _) | (simp; done) | (simp; omega) | omega), (show Blk _ (w.heap.size) (#[.int .i64 0, .int .i64 0, .int .i64 0, .int .i64 0, .int .i64 0]) (33) from (by repeat' (first | (with_reducible first | exact Hid.out (by assumption) | exact Blk.new _ _ _ | (refine Blk.new_at _ _ _ _ ?_; simp; done) | refine Blk.alloc ?_ _ | refine Blk.drewN ?_ _ | refine Blk.drew ?_ | apply Blk.set | refine Blk.put ?_ (by assumption) (by first | (simp; done) | (simp; omega) | omega) | refine Blk.below ?_ (by assumption)) | (refine Blk.setAt ?_ (by first | (simp; done) | (simp; omega))) | rfl))), (show Blk _ (w.heap.size + 1) (#[.int .i64 (a / 2048), .int .i64 0, .int .i64 0, .int .i64 0, .int .i64 0]) (33) from (by repeat' (first | (with_reducible first | exact Hid.out (by assumption) | exact Blk.new _ _ _ | (refine Blk.new_at _ _ _ _ ?_; simp; done) | refine Blk.alloc ?_ _ | refine Blk.drewN ?_ _ | refine Blk.drew ?_ | apply Blk.set | refine Blk.put ?_ (by assumption) (by first | (simp; done) | (simp; omega) | omega) | refine Blk.below ?_ (by assumption)) | (refine Blk.setAt ?_ (by first | (simp; done) | (simp; omega))) | rfl)))⟩ (fun hS => ?_)
    refine wpAnyH_take (i := 1) (v := ?v1) rfl (by kernel_rfl) (by kernel_rfl) (by kernel_rfl) (fun _ _ _ h => h) (Or.inl ⟨by rfl, ?y1⟩) hS ?_
    case y1 => (intro w hSw; have c0 := hSw.2.1.cell; have c1 := hSw.2.2.cell; go_simp; try with_reducible rfl)
    try simp only [List.getElem_toArray, List.getElem_cons_succ, List.getElem_cons_zero, Act.put, List.setIfInBounds_toArray, List.set_cons_zero, List.set_cons_succ]
    refine wpAnyH_take (i := 2) (v := ?v2) rfl (by kernel_rfl) (by kernel_rfl) (by kernel_rfl) (fun _ _ _ h => h) (Or.inl ⟨by rfl, ?y2⟩) hS ?_
    case y2 => (intro w hSw; have c0 := hSw.2.1.cell; have c1 := hSw.2.2.cell; go_simp; try with_reducible rfl)
    try simp only [List.getElem_toArray, List.getElem_cons_succ, List.getElem_cons_zero, Act.put, List.setIfInBounds_toArray, List.set_cons_zero, List.set_cons_succ]
    refine wpAnyH_ready (rs := [0, 4]) (by kernel_rfl) (by simp) ?_
    refine AllReadyH.cons rfl (fun K hK => ?_) (AllReadyH.cons rfl (fun K hK => ?_) AllReadyH.nil)
    · go_simp
      refine (S.out _).mono ?_
      rintro e w5 ⟨rfl, hb_w5⟩
      try go_wp2_with fail
      refine hK.out _ _ ⟨below_then hS.1 hb_w5, hS.2.1.below hb_w5, hS.2.2.below hb_w5⟩ (fun hS => ?_)
      clear hK K
      try simp only [List.getElem_toArray, List.getElem_cons_succ, List.getElem_cons_zero, Act.put, List.setIfInBounds_toArray, List.set_cons_zero, List.set_cons_succ]
      refine wpAnyH_take (i := 3) (v := ?v3) rfl (by kernel_rfl) (by kernel_rfl) (by kernel_rfl) (fun _ _ _ h => h) (Or.inl ⟨by rfl, ?y3⟩) hS ?_
      case y3 => (intro w hSw; have c0 := hSw.2.1.cell; have c1 := hSw.2.2.cell; go_simp; try with_reducible rfl)
      try simp only [List.getElem_toArray, List.getElem_cons_succ, List.getElem_cons_zero, Act.put, List.setIfInBounds_toArray, List.set_cons_zero, List.set_cons_succ]
      refine wpAnyH_ready (rs := [4]) (by kernel_rfl) (by simp) (AllReadyH.cons rfl (fun K hK => ?_) AllReadyH.nil)
      go_simp
      obtain ⟨g7, e7⟩ : ∃ g, g = w5.heap.size := ⟨_, rfl⟩
      have hg7 : w.heap.size + 1 + 1 ≤ g7 := by have := hS.2.2.lt; omega
      refine hK.out _ _ ⟨below_alloc hS.1 _, hS.2.1.alloc _, hS.2.2.alloc _⟩ (fun hS => ?_)
      clear hK K
      have a7 : Hid (Blk (w5.alloc (.cells #[.bool false, .bool false, .bool false, .bool false, .int .i64 0, .string ⟨#[]⟩] 81)) g7 #[.bool false, .bool false, .bool false, .bool false, .int .i64 0, .string ⟨#[]⟩] 81) := Lib.hid (Blk.new_at _ _ _ _ e7)
      rw [← e7]
      clear e7
      try simp only [List.getElem_toArray, List.getElem_cons_succ, List.getElem_cons_zero, Act.put, List.setIfInBounds_toArray, List.set_cons_zero, List.set_cons_succ]
      refine wpAnyH_ready (rs := [5]) (by kernel_rfl) (by simp) (AllReadyH.cons rfl (fun K hK => ?_) AllReadyH.nil)
      rw [if_pos (by rfl)]
      refine wp_store_row 81 (.tmp 7) (.tmp 19) rfl g7 #[.bool true, .bool false, .bool false, .bool false, .int .i64 c, .string m] rfl rfl 81 #[.bool false, .bool false, .bool false, .bool false, .int .i64 0, .string ⟨#[]⟩] a7.out (by kernel_rfl) rfl (by simp [Value.oneCell']) ?_
      have K7 := Lib.hid (setRow_heap _ g7 _ #[.bool true, .bool false, .bool false, .bool false, .int .i64 c, .string m] 81 (0, 0) a7.out)
      refine hK.out _ _ ⟨below_put hS.1 (put_setRow _ g7 _) (by omega), hS.2.1.put (put_setRow _ g7 _) (by omega), hS.2.2.put (put_setRow _ g7 _) (by omega)⟩ (fun hS => ?_)
      clear hK K
      try simp only [List.getElem_toArray, List.getElem_cons_succ, List.getElem_cons_zero, Act.put, List.setIfInBounds_toArray, List.set_cons_zero, List.set_cons_succ]
      refine wpAnyH_done (by kernel_rfl) ?_ _
      refine pmark (R := fun X => Below w.heap.size w X ∧ Hid (Blk X (w.heap.size) (#[.int .i64 0, .int .i64 0, .int .i64 0, .int .i64 0, .int .i64 0]) 33) ∧ Hid (Blk X (w.heap.size + 1) (#[.int .i64 (a / 2048), .int .i64 0, .int .i64 0, .int .i64 0, .int .i64 0]) 33) ∧ Hid (Blk X g7 (#[.bool true, .bool false, .bool false, .bool false, .int .i64 c, .string m]) 81)) (F := fun X => Exit.then _ _ Exit.normal _ X) ⟨hS.1, Lib.hid hS.2.1, Lib.hid hS.2.2, K7⟩ ?_
      clear hS K7 a7
      try clear hb_w5
      try clear w5
      intro W hbW
      exact hk g7 W ⟨hg7, hbW⟩
    · go_simp
      obtain ⟨g7, e7⟩ : ∃ g, g = w.heap.size + 1 + 1 := ⟨_, rfl⟩
      have hg7 : w.heap.size + 1 + 1 ≤ g7 := by omega
      refine hK.out _ _ ⟨below_alloc hS.1 _, hS.2.1.alloc _, hS.2.2.alloc _⟩ (fun hS => ?_)
      clear hK K
      refine pmark (R := fun X => (Below w.heap.size w X ∧ Blk X (w.heap.size) (#[.int .i64 0, .int .i64 0, .int .i64 0, .int .i64 0, .int .i64 0]) 33 ∧ Blk X (w.heap.size + 1) (#[.int .i64 (a / 2048), .int .i64 0, .int .i64 0, .int .i64 0, .int .i64 0]) 33) ∧ Hid (Blk X (w.heap.size + 1 + 1) #[.bool false, .bool false, .bool false, .bool false, .int .i64 0, .string ⟨#[]⟩] 81)) (F := fun X => wpAnyH _ _ _ _ _ _ _ _ X) ⟨hS, Lib.hid (by repeat' (first | (with_reducible first | exact Hid.out (by assumption) | exact Blk.new _ _ _ | (refine Blk.new_at _ _ _ _ ?_; simp; done) | refine Blk.alloc ?_ _ | refine Blk.drewN ?_ _ | refine Blk.drew ?_ | apply Blk.set | refine Blk.put ?_ (by assumption) (by first | (simp; done) | (simp; omega) | omega) | refine Blk.below ?_ (by assumption)) | (refine Blk.setAt ?_ (by first | (simp; done) | (simp; omega))) | rfl))⟩ ?_
      clear hS
      intro W7 hS
      obtain ⟨hS, a7⟩ := hS
      rw [← e7] at a7 ⊢
      clear e7
      try simp only [List.getElem_toArray, List.getElem_cons_succ, List.getElem_cons_zero, Act.put, List.setIfInBounds_toArray, List.set_cons_zero, List.set_cons_succ]
      refine wpAnyH_ready (rs := [0]) (by kernel_rfl) (by simp) (AllReadyH.cons rfl (fun K hK => ?_) AllReadyH.nil)
      go_simp
      refine (S.out _).mono ?_
      rintro e w5 ⟨rfl, hb_w5⟩
      try go_wp2_with fail
      refine hK.out _ _ ⟨below_then hS.1 hb_w5, hS.2.1.below hb_w5, hS.2.2.below hb_w5⟩ (fun hS => ?_)
      replace a7 := Lib.hid (a7.out.below hb_w5)
      clear hK K
      try simp only [List.getElem_toArray, List.getElem_cons_succ, List.getElem_cons_zero, Act.put, List.setIfInBounds_toArray, List.set_cons_zero, List.set_cons_succ]
      refine wpAnyH_take (i := 3) (v := ?v3) rfl (by kernel_rfl) (by kernel_rfl) (by kernel_rfl) (fun _ _ _ h => h) (Or.inl ⟨by rfl, ?y3⟩) hS ?_
      case y3 => (intro w hSw; have c0 := hSw.2.1.cell; have c1 := hSw.2.2.cell; go_simp; try with_reducible rfl)
      try simp only [List.getElem_toArray, List.getElem_cons_succ, List.getElem_cons_zero, Act.put, List.setIfInBounds_toArray, List.set_cons_zero, List.set_cons_succ]
      refine wpAnyH_ready (rs := [5]) (by kernel_rfl) (by simp) (AllReadyH.cons rfl (fun K hK => ?_) AllReadyH.nil)
      rw [if_pos (by rfl)]
      refine wp_store_row 81 (.tmp 7) (.tmp 19) rfl g7 #[.bool true, .bool false, .bool false, .bool false, .int .i64 c, .string m] rfl rfl 81 #[.bool false, .bool false, .bool false, .bool false, .int .i64 0, .string ⟨#[]⟩] a7.out (by kernel_rfl) rfl (by simp [Value.oneCell']) ?_
      have K7 := Lib.hid (setRow_heap _ g7 _ #[.bool true, .bool false, .bool false, .bool false, .int .i64 c, .string m] 81 (0, 0) a7.out)
      refine hK.out _ _ ⟨below_put hS.1 (put_setRow _ g7 _) (by omega), hS.2.1.put (put_setRow _ g7 _) (by omega), hS.2.2.put (put_setRow _ g7 _) (by omega)⟩ (fun hS => ?_)
      clear hK K
      try simp only [List.getElem_toArray, List.getElem_cons_succ, List.getElem_cons_zero, Act.put, List.setIfInBounds_toArray, List.set_cons_zero, List.set_cons_succ]
      refine wpAnyH_done (by kernel_rfl) ?_ _
      refine pmark (R := fun X => Below w.heap.size w X ∧ Hid (Blk X (w.heap.size) (#[.int .i64 0, .int .i64 0, .int .i64 0, .int .i64 0, .int .i64 0]) 33) ∧ Hid (Blk X (w.heap.size + 1) (#[.int .i64 (a / 2048), .int .i64 0, .int .i64 0, .int .i64 0, .int .i64 0]) 33) ∧ Hid (Blk X g7 (#[.bool true, .bool false, .bool false, .bool false, .int .i64 c, .string m]) 81)) (F := fun X => Exit.then _ _ Exit.normal _ X) ⟨hS.1, Lib.hid hS.2.1, Lib.hid hS.2.2, K7⟩ ?_
      clear hS K7 a7
      try clear hb_w5
      try clear w5
      intro W hbW
      exact hk g7 W ⟨hg7, hbW⟩
  intro g7 w6 ⟨hg7, hbw6, Kw6_0, Kw6_1, Kw6_2⟩
  obtain ⟨lw6_0, cw6_0, fw6_0⟩ := Kw6_0.out.use
  obtain ⟨lw6_1, cw6_1, fw6_1⟩ := Kw6_1.out.use
  obtain ⟨lw6_2, cw6_2, fw6_2⟩ := Kw6_2.out.use
  clear hidx S
  have n1 : ¬ w.heap.size = g7 := by omega
  have n2 : ¬ w.heap.size + 1 = g7 := by omega
  clear w1 ha' hb' hop lw6_1 lw6_2 Kw6_0 Kw6_1 Kw6_2
  go_wp2
  refine bodyPost_ret (v := .tuple #[.agg #[.int .i64 (a / 2048), .int .i64 (a / 256 % 8), .int .i64 (0), .int .i64 (0), .int .i64 (0)], .int .i64 1]) (by simp [results, Tryd.results26, go_sem, cw6_0, fw6_0, lw6_0]) rfl ⟨rfl, ?_⟩
  exact by repeat' (first | (with_reducible first | exact Below.refl _ _ | assumption | refine below_alloc ?_ _ | refine Below.drew ?_ | refine Go.Mq.below_drewN ?_ _ | refine below_then ?_ (by assumption) | refine below_put ?_ (by assumption) (by first | (simp; done) | (simp; omega) | omega) | refine Below.setCell ?_ ?_ _) | (simp; done) | (simp; omega) | omega)
end Go.Proofs.YtmpdoiilakjmbaaDoor
