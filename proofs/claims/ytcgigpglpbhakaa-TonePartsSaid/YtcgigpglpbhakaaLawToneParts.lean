/- ToneParts: for every sound and numbers of clocks the law answers true. Conditions: none. -/
import Derived.Test.YtcgigpglpbhakaaTone5
import Derived.Test.YtcgigpglpbhakaaToneEq
import Derived.Test.YtcgigpglpbhakaaLibConcat
import Derived.Test.YtcgigpglpbhakaaBase2
namespace Go.Proofs.Ytcgigpglpbhakaa.toneParts
open Go.RowKit Go.Mq
set_option linter.unusedVariables false
set_option linter.unusedSimpArgs false
set_option maxHeartbeats 2000000
set_option maxRecDepth 100000
theorem alo (s : Sd) (a b : Int) (hb : I64 b) (hn : a < 0) (w : World) :
    Calls Try.prog 9 #[.agg #[.int .u16 s.a.pd, .int .u16 s.a.ct, .int .u8 s.a.ld, .bool s.a.hi, .int .u16 s.a.nz, .int .u16 s.b.pd, .int .u16 s.b.ct, .int .u8 s.b.ld, .bool s.b.hi, .int .u16 s.b.nz, .int .u16 s.c.pd, .int .u16 s.c.ct, .int .u8 s.c.ld, .bool s.c.hi, .int .u16 s.c.nz, .int .i64 s.wt], .int .i64 a, .int .i64 b] w fun e w' => e = .returned (.bool true) ∧ Below w.heap.size w w' := by
  unfold I64 at hb
  go_enter Try.func9, Try.ntmps9
  go_wp2_with fail
  refine (sounded_any _).mono ?_
  rintro e w1 ⟨rfl, hb1⟩
  go_wp2
  go_ret
  exact ⟨rfl, by repeat' (first | (with_reducible first | exact Below.refl _ _ | assumption | refine below_alloc ?_ _ | refine Below.drew ?_ | refine below_drewN ?_ _ | refine below_then ?_ (by assumption) | refine below_put ?_ (by assumption) (by first | (simp; done) | (simp; omega) | omega) | refine Below.setCell ?_ ?_ _) | (simp; done) | (simp; omega) | omega)⟩
theorem blo (s : Sd) (a b : Int) (hb : I64 b) (hn : 0 ≤ a ∧ b < 0) (w : World) :
    Calls Try.prog 9 #[.agg #[.int .u16 s.a.pd, .int .u16 s.a.ct, .int .u8 s.a.ld, .bool s.a.hi, .int .u16 s.a.nz, .int .u16 s.b.pd, .int .u16 s.b.ct, .int .u8 s.b.ld, .bool s.b.hi, .int .u16 s.b.nz, .int .u16 s.c.pd, .int .u16 s.c.ct, .int .u8 s.c.ld, .bool s.c.hi, .int .u16 s.c.nz, .int .i64 s.wt], .int .i64 a, .int .i64 b] w fun e w' => e = .returned (.bool true) ∧ Below w.heap.size w w' := by
  unfold I64 at hb
  go_enter Try.func9, Try.ntmps9
  go_wp2_with fail
  refine (sounded_any _).mono ?_
  rintro e w1 ⟨rfl, hb1⟩
  go_wp2
  go_ret
  exact ⟨rfl, by repeat' (first | (with_reducible first | exact Below.refl _ _ | assumption | refine below_alloc ?_ _ | refine Below.drew ?_ | refine below_drewN ?_ _ | refine below_then ?_ (by assumption) | refine below_put ?_ (by assumption) (by first | (simp; done) | (simp; omega) | omega) | refine Below.setCell ?_ ?_ _) | (simp; done) | (simp; omega) | omega)⟩
theorem ahi (s : Sd) (a b : Int) (hb : I64 b) (hn : 0 ≤ a ∧ 0 ≤ b ∧ 20000 < a) (w : World) :
    Calls Try.prog 9 #[.agg #[.int .u16 s.a.pd, .int .u16 s.a.ct, .int .u8 s.a.ld, .bool s.a.hi, .int .u16 s.a.nz, .int .u16 s.b.pd, .int .u16 s.b.ct, .int .u8 s.b.ld, .bool s.b.hi, .int .u16 s.b.nz, .int .u16 s.c.pd, .int .u16 s.c.ct, .int .u8 s.c.ld, .bool s.c.hi, .int .u16 s.c.nz, .int .i64 s.wt], .int .i64 a, .int .i64 b] w fun e w' => e = .returned (.bool true) ∧ Below w.heap.size w w' := by
  unfold I64 at hb
  go_enter Try.func9, Try.ntmps9
  go_wp2_with fail
  refine (sounded_any _).mono ?_
  rintro e w1 ⟨rfl, hb1⟩
  go_wp2
  go_ret
  exact ⟨rfl, by repeat' (first | (with_reducible first | exact Below.refl _ _ | assumption | refine below_alloc ?_ _ | refine Below.drew ?_ | refine below_drewN ?_ _ | refine below_then ?_ (by assumption) | refine below_put ?_ (by assumption) (by first | (simp; done) | (simp; omega) | omega) | refine Below.setCell ?_ ?_ _) | (simp; done) | (simp; omega) | omega)⟩
theorem bhi (s : Sd) (a b : Int) (hb : I64 b) (hn : 0 ≤ a ∧ 0 ≤ b ∧ a ≤ 20000 ∧ 20000 - a < b) (w : World) :
    Calls Try.prog 9 #[.agg #[.int .u16 s.a.pd, .int .u16 s.a.ct, .int .u8 s.a.ld, .bool s.a.hi, .int .u16 s.a.nz, .int .u16 s.b.pd, .int .u16 s.b.ct, .int .u8 s.b.ld, .bool s.b.hi, .int .u16 s.b.nz, .int .u16 s.c.pd, .int .u16 s.c.ct, .int .u8 s.c.ld, .bool s.c.hi, .int .u16 s.c.nz, .int .i64 s.wt], .int .i64 a, .int .i64 b] w fun e w' => e = .returned (.bool true) ∧ Below w.heap.size w w' := by
  unfold I64 at hb
  go_enter Try.func9, Try.ntmps9
  go_wp2_with fail
  refine (sounded_any _).mono ?_
  rintro e w1 ⟨rfl, hb1⟩
  go_wp2
  go_ret
  exact ⟨rfl, by repeat' (first | (with_reducible first | exact Below.refl _ _ | assumption | refine below_alloc ?_ _ | refine Below.drew ?_ | refine below_drewN ?_ _ | refine below_then ?_ (by assumption) | refine below_put ?_ (by assumption) (by first | (simp; done) | (simp; omega) | omega) | refine Below.setCell ?_ ?_ _) | (simp; done) | (simp; omega) | omega)⟩
theorem wlo (s : Sd) (a b : Int) (hn : 0 ≤ a ∧ 0 ≤ b ∧ a ≤ 20000 ∧ b ≤ 20000 - a) (hw : s.wt < 0) (w : World) :
    Calls Try.prog 9 #[.agg #[.int .u16 s.a.pd, .int .u16 s.a.ct, .int .u8 s.a.ld, .bool s.a.hi, .int .u16 s.a.nz, .int .u16 s.b.pd, .int .u16 s.b.ct, .int .u8 s.b.ld, .bool s.b.hi, .int .u16 s.b.nz, .int .u16 s.c.pd, .int .u16 s.c.ct, .int .u8 s.c.ld, .bool s.c.hi, .int .u16 s.c.nz, .int .i64 s.wt], .int .i64 a, .int .i64 b] w fun e w' => e = .returned (.bool true) ∧ Below w.heap.size w w' := by
  have CK := Lib.hid (scheck_bad s (Or.inl hw))
  go_enter Try.func9, Try.ntmps9
  go_wp2_with (first | ((with_reducible show wpList _ _ _ _ _ _); refine wpList_loadA rfl 36 (.tmp 3) rfl (w.heap.size) (0) 16 rfl 36 #[.int .u16 s.a.pd, .int .u16 s.a.ct, .int .u8 s.a.ld, .bool s.a.hi, .int .u16 s.a.nz, .int .u16 s.b.pd, .int .u16 s.b.ct, .int .u8 s.b.ld, .bool s.b.hi, .int .u16 s.b.nz, .int .u16 s.c.pd, .int .u16 s.c.ct, .int .u8 s.c.ld, .bool s.c.hi, .int .u16 s.c.nz, .int .i64 s.wt] #[.int .u16 s.a.pd, .int .u16 s.a.ct, .int .u8 s.a.ld, .bool s.a.hi, .int .u16 s.a.nz, .int .u16 s.b.pd, .int .u16 s.b.ct, .int .u8 s.b.ld, .bool s.b.hi, .int .u16 s.b.nz, .int .u16 s.c.pd, .int .u16 s.c.ct, .int .u8 s.c.ld, .bool s.c.hi, .int .u16 s.c.nz, .int .i64 s.wt] (show Blk _ (w.heap.size) #[.int .u16 s.a.pd, .int .u16 s.a.ct, .int .u8 s.a.ld, .bool s.a.hi, .int .u16 s.a.nz, .int .u16 s.b.pd, .int .u16 s.b.ct, .int .u8 s.b.ld, .bool s.b.hi, .int .u16 s.b.nz, .int .u16 s.c.pd, .int .u16 s.c.ct, .int .u8 s.c.ld, .bool s.c.hi, .int .u16 s.c.nz, .int .i64 s.wt] 36 from (by repeat' (first | (with_reducible first | exact Hid.out (by assumption) | exact Blk.new _ _ _ | (refine Blk.new_at _ _ _ _ ?_; simp; done) | refine Blk.alloc ?_ _ | refine Blk.drewN ?_ _ | refine Blk.drew ?_ | apply Blk.set | refine Blk.put ?_ (by assumption) (by first | (simp; done) | (simp; omega) | omega) | refine Blk.below ?_ (by assumption)) | (refine Blk.setAt ?_ (by first | (simp; done) | (simp; omega))) | rfl))) _ Try.underlying36 rfl (by kernel_rfl) rfl rfl ?_))
  refine (CK.out _).mono ?_
  rintro e w2 ⟨rfl, hb2⟩
  go_wp2_with (first | ((with_reducible show wpList _ _ _ _ _ _); refine wpList_loadA rfl 36 (.tmp 3) rfl (w.heap.size) (0) 16 rfl 36 #[.int .u16 s.a.pd, .int .u16 s.a.ct, .int .u8 s.a.ld, .bool s.a.hi, .int .u16 s.a.nz, .int .u16 s.b.pd, .int .u16 s.b.ct, .int .u8 s.b.ld, .bool s.b.hi, .int .u16 s.b.nz, .int .u16 s.c.pd, .int .u16 s.c.ct, .int .u8 s.c.ld, .bool s.c.hi, .int .u16 s.c.nz, .int .i64 s.wt] #[.int .u16 s.a.pd, .int .u16 s.a.ct, .int .u8 s.a.ld, .bool s.a.hi, .int .u16 s.a.nz, .int .u16 s.b.pd, .int .u16 s.b.ct, .int .u8 s.b.ld, .bool s.b.hi, .int .u16 s.b.nz, .int .u16 s.c.pd, .int .u16 s.c.ct, .int .u8 s.c.ld, .bool s.c.hi, .int .u16 s.c.nz, .int .i64 s.wt] (show Blk _ (w.heap.size) #[.int .u16 s.a.pd, .int .u16 s.a.ct, .int .u8 s.a.ld, .bool s.a.hi, .int .u16 s.a.nz, .int .u16 s.b.pd, .int .u16 s.b.ct, .int .u8 s.b.ld, .bool s.b.hi, .int .u16 s.b.nz, .int .u16 s.c.pd, .int .u16 s.c.ct, .int .u8 s.c.ld, .bool s.c.hi, .int .u16 s.c.nz, .int .i64 s.wt] 36 from (by repeat' (first | (with_reducible first | exact Hid.out (by assumption) | exact Blk.new _ _ _ | (refine Blk.new_at _ _ _ _ ?_; simp; done) | refine Blk.alloc ?_ _ | refine Blk.drewN ?_ _ | refine Blk.drew ?_ | apply Blk.set | refine Blk.put ?_ (by assumption) (by first | (simp; done) | (simp; omega) | omega) | refine Blk.below ?_ (by assumption)) | (refine Blk.setAt ?_ (by first | (simp; done) | (simp; omega))) | rfl))) _ Try.underlying36 rfl (by kernel_rfl) rfl rfl ?_))
  refine (sounded_any _).mono ?_
  rintro e w1 ⟨rfl, hb1⟩
  go_wp2_with (first | ((with_reducible show wpList _ _ _ _ _ _); refine wpList_loadA rfl 36 (.tmp 3) rfl (w.heap.size) (0) 16 rfl 36 #[.int .u16 s.a.pd, .int .u16 s.a.ct, .int .u8 s.a.ld, .bool s.a.hi, .int .u16 s.a.nz, .int .u16 s.b.pd, .int .u16 s.b.ct, .int .u8 s.b.ld, .bool s.b.hi, .int .u16 s.b.nz, .int .u16 s.c.pd, .int .u16 s.c.ct, .int .u8 s.c.ld, .bool s.c.hi, .int .u16 s.c.nz, .int .i64 s.wt] #[.int .u16 s.a.pd, .int .u16 s.a.ct, .int .u8 s.a.ld, .bool s.a.hi, .int .u16 s.a.nz, .int .u16 s.b.pd, .int .u16 s.b.ct, .int .u8 s.b.ld, .bool s.b.hi, .int .u16 s.b.nz, .int .u16 s.c.pd, .int .u16 s.c.ct, .int .u8 s.c.ld, .bool s.c.hi, .int .u16 s.c.nz, .int .i64 s.wt] (show Blk _ (w.heap.size) #[.int .u16 s.a.pd, .int .u16 s.a.ct, .int .u8 s.a.ld, .bool s.a.hi, .int .u16 s.a.nz, .int .u16 s.b.pd, .int .u16 s.b.ct, .int .u8 s.b.ld, .bool s.b.hi, .int .u16 s.b.nz, .int .u16 s.c.pd, .int .u16 s.c.ct, .int .u8 s.c.ld, .bool s.c.hi, .int .u16 s.c.nz, .int .i64 s.wt] 36 from (by repeat' (first | (with_reducible first | exact Hid.out (by assumption) | exact Blk.new _ _ _ | (refine Blk.new_at _ _ _ _ ?_; simp; done) | refine Blk.alloc ?_ _ | refine Blk.drewN ?_ _ | refine Blk.drew ?_ | apply Blk.set | refine Blk.put ?_ (by assumption) (by first | (simp; done) | (simp; omega) | omega) | refine Blk.below ?_ (by assumption)) | (refine Blk.setAt ?_ (by first | (simp; done) | (simp; omega))) | rfl))) _ Try.underlying36 rfl (by kernel_rfl) rfl rfl ?_) | go_in)
  go_ret
  exact ⟨rfl, by repeat' (first | (with_reducible first | exact Below.refl _ _ | assumption | refine below_alloc ?_ _ | refine Below.drew ?_ | refine below_drewN ?_ _ | refine below_then ?_ (by assumption) | refine below_put ?_ (by assumption) (by first | (simp; done) | (simp; omega) | omega) | refine Below.setCell ?_ ?_ _) | (simp; done) | (simp; omega) | omega)⟩
theorem whi (s : Sd) (a b : Int) (hn : 0 ≤ a ∧ 0 ≤ b ∧ a ≤ 20000 ∧ b ≤ 20000 - a) (hw : 15 < s.wt) (w : World) :
    Calls Try.prog 9 #[.agg #[.int .u16 s.a.pd, .int .u16 s.a.ct, .int .u8 s.a.ld, .bool s.a.hi, .int .u16 s.a.nz, .int .u16 s.b.pd, .int .u16 s.b.ct, .int .u8 s.b.ld, .bool s.b.hi, .int .u16 s.b.nz, .int .u16 s.c.pd, .int .u16 s.c.ct, .int .u8 s.c.ld, .bool s.c.hi, .int .u16 s.c.nz, .int .i64 s.wt], .int .i64 a, .int .i64 b] w fun e w' => e = .returned (.bool true) ∧ Below w.heap.size w w' := by
  have CK := Lib.hid (scheck_bad s (Or.inr hw))
  go_enter Try.func9, Try.ntmps9
  go_wp2_with (first | ((with_reducible show wpList _ _ _ _ _ _); refine wpList_loadA rfl 36 (.tmp 3) rfl (w.heap.size) (0) 16 rfl 36 #[.int .u16 s.a.pd, .int .u16 s.a.ct, .int .u8 s.a.ld, .bool s.a.hi, .int .u16 s.a.nz, .int .u16 s.b.pd, .int .u16 s.b.ct, .int .u8 s.b.ld, .bool s.b.hi, .int .u16 s.b.nz, .int .u16 s.c.pd, .int .u16 s.c.ct, .int .u8 s.c.ld, .bool s.c.hi, .int .u16 s.c.nz, .int .i64 s.wt] #[.int .u16 s.a.pd, .int .u16 s.a.ct, .int .u8 s.a.ld, .bool s.a.hi, .int .u16 s.a.nz, .int .u16 s.b.pd, .int .u16 s.b.ct, .int .u8 s.b.ld, .bool s.b.hi, .int .u16 s.b.nz, .int .u16 s.c.pd, .int .u16 s.c.ct, .int .u8 s.c.ld, .bool s.c.hi, .int .u16 s.c.nz, .int .i64 s.wt] (show Blk _ (w.heap.size) #[.int .u16 s.a.pd, .int .u16 s.a.ct, .int .u8 s.a.ld, .bool s.a.hi, .int .u16 s.a.nz, .int .u16 s.b.pd, .int .u16 s.b.ct, .int .u8 s.b.ld, .bool s.b.hi, .int .u16 s.b.nz, .int .u16 s.c.pd, .int .u16 s.c.ct, .int .u8 s.c.ld, .bool s.c.hi, .int .u16 s.c.nz, .int .i64 s.wt] 36 from (by repeat' (first | (with_reducible first | exact Hid.out (by assumption) | exact Blk.new _ _ _ | (refine Blk.new_at _ _ _ _ ?_; simp; done) | refine Blk.alloc ?_ _ | refine Blk.drewN ?_ _ | refine Blk.drew ?_ | apply Blk.set | refine Blk.put ?_ (by assumption) (by first | (simp; done) | (simp; omega) | omega) | refine Blk.below ?_ (by assumption)) | (refine Blk.setAt ?_ (by first | (simp; done) | (simp; omega))) | rfl))) _ Try.underlying36 rfl (by kernel_rfl) rfl rfl ?_))
  refine (CK.out _).mono ?_
  rintro e w2 ⟨rfl, hb2⟩
  go_wp2_with (first | ((with_reducible show wpList _ _ _ _ _ _); refine wpList_loadA rfl 36 (.tmp 3) rfl (w.heap.size) (0) 16 rfl 36 #[.int .u16 s.a.pd, .int .u16 s.a.ct, .int .u8 s.a.ld, .bool s.a.hi, .int .u16 s.a.nz, .int .u16 s.b.pd, .int .u16 s.b.ct, .int .u8 s.b.ld, .bool s.b.hi, .int .u16 s.b.nz, .int .u16 s.c.pd, .int .u16 s.c.ct, .int .u8 s.c.ld, .bool s.c.hi, .int .u16 s.c.nz, .int .i64 s.wt] #[.int .u16 s.a.pd, .int .u16 s.a.ct, .int .u8 s.a.ld, .bool s.a.hi, .int .u16 s.a.nz, .int .u16 s.b.pd, .int .u16 s.b.ct, .int .u8 s.b.ld, .bool s.b.hi, .int .u16 s.b.nz, .int .u16 s.c.pd, .int .u16 s.c.ct, .int .u8 s.c.ld, .bool s.c.hi, .int .u16 s.c.nz, .int .i64 s.wt] (show Blk _ (w.heap.size) #[.int .u16 s.a.pd, .int .u16 s.a.ct, .int .u8 s.a.ld, .bool s.a.hi, .int .u16 s.a.nz, .int .u16 s.b.pd, .int .u16 s.b.ct, .int .u8 s.b.ld, .bool s.b.hi, .int .u16 s.b.nz, .int .u16 s.c.pd, .int .u16 s.c.ct, .int .u8 s.c.ld, .bool s.c.hi, .int .u16 s.c.nz, .int .i64 s.wt] 36 from (by repeat' (first | (with_reducible first | exact Hid.out (by assumption) | exact Blk.new _ _ _ | (refine Blk.new_at _ _ _ _ ?_; simp; done) | refine Blk.alloc ?_ _ | refine Blk.drewN ?_ _ | refine Blk.drew ?_ | apply Blk.set | refine Blk.put ?_ (by assumption) (by first | (simp; done) | (simp; omega) | omega) | refine Blk.below ?_ (by assumption)) | (refine Blk.setAt ?_ (by first | (simp; done) | (simp; omega))) | rfl))) _ Try.underlying36 rfl (by kernel_rfl) rfl rfl ?_))
  refine (sounded_any _).mono ?_
  rintro e w1 ⟨rfl, hb1⟩
  go_wp2_with (first | ((with_reducible show wpList _ _ _ _ _ _); refine wpList_loadA rfl 36 (.tmp 3) rfl (w.heap.size) (0) 16 rfl 36 #[.int .u16 s.a.pd, .int .u16 s.a.ct, .int .u8 s.a.ld, .bool s.a.hi, .int .u16 s.a.nz, .int .u16 s.b.pd, .int .u16 s.b.ct, .int .u8 s.b.ld, .bool s.b.hi, .int .u16 s.b.nz, .int .u16 s.c.pd, .int .u16 s.c.ct, .int .u8 s.c.ld, .bool s.c.hi, .int .u16 s.c.nz, .int .i64 s.wt] #[.int .u16 s.a.pd, .int .u16 s.a.ct, .int .u8 s.a.ld, .bool s.a.hi, .int .u16 s.a.nz, .int .u16 s.b.pd, .int .u16 s.b.ct, .int .u8 s.b.ld, .bool s.b.hi, .int .u16 s.b.nz, .int .u16 s.c.pd, .int .u16 s.c.ct, .int .u8 s.c.ld, .bool s.c.hi, .int .u16 s.c.nz, .int .i64 s.wt] (show Blk _ (w.heap.size) #[.int .u16 s.a.pd, .int .u16 s.a.ct, .int .u8 s.a.ld, .bool s.a.hi, .int .u16 s.a.nz, .int .u16 s.b.pd, .int .u16 s.b.ct, .int .u8 s.b.ld, .bool s.b.hi, .int .u16 s.b.nz, .int .u16 s.c.pd, .int .u16 s.c.ct, .int .u8 s.c.ld, .bool s.c.hi, .int .u16 s.c.nz, .int .i64 s.wt] 36 from (by repeat' (first | (with_reducible first | exact Hid.out (by assumption) | exact Blk.new _ _ _ | (refine Blk.new_at _ _ _ _ ?_; simp; done) | refine Blk.alloc ?_ _ | refine Blk.drewN ?_ _ | refine Blk.drew ?_ | apply Blk.set | refine Blk.put ?_ (by assumption) (by first | (simp; done) | (simp; omega) | omega) | refine Blk.below ?_ (by assumption)) | (refine Blk.setAt ?_ (by first | (simp; done) | (simp; omega))) | rfl))) _ Try.underlying36 rfl (by kernel_rfl) rfl rfl ?_) | go_in)
  go_ret
  exact ⟨rfl, by repeat' (first | (with_reducible first | exact Below.refl _ _ | assumption | refine below_alloc ?_ _ | refine Below.drew ?_ | refine below_drewN ?_ _ | refine below_then ?_ (by assumption) | refine below_put ?_ (by assumption) (by first | (simp; done) | (simp; omega) | omega) | refine Below.setCell ?_ ?_ _) | (simp; done) | (simp; omega) | omega)⟩
theorem beq_zero_iff {x y : Int} (h : x = 0 ↔ y = 0) : (x == 0) = (y == 0) := by
  rw [Bool.eq_iff_iff]
  simp [h]
theorem ok (s : Sd) (hs : s.Ok) (a b : Nat) (hn : a + b ≤ 20000) (w : World) :
    Calls Try.prog 9 #[.agg #[.int .u16 s.a.pd, .int .u16 s.a.ct, .int .u8 s.a.ld, .bool s.a.hi, .int .u16 s.a.nz, .int .u16 s.b.pd, .int .u16 s.b.ct, .int .u8 s.b.ld, .bool s.b.hi, .int .u16 s.b.nz, .int .u16 s.c.pd, .int .u16 s.c.ct, .int .u8 s.c.ld, .bool s.c.hi, .int .u16 s.c.nz, .int .i64 s.wt], .int .i64 a, .int .i64 b] w fun e w' => e = .returned (.bool true) ∧ Below w.heap.size w w' := by
  have CK := Lib.hid (scheck_ok s hs.2.1 hs.2.2)
  have sm1 := samples_ok s hs a (by omega)
  have sm2 := samples_ok (runS s a) (runS_ok s hs a) b (by omega)
  have sm3 := samples_ok s hs (a + b) hn
  rw [smp_add, runS_add] at sm3
  have L1 := Lib.hid (Nat.le_trans (smp_le s hs a) (show a ≤ 20000 by omega))
  have L2 := Lib.hid (Nat.le_trans (smp_le _ (runS_ok s hs a) b) (show b ≤ 20000 by omega))
  have W1 := Lib.hid (smp_in s a)
  have W2 := Lib.hid (smp_in (runS s a) b)
  have ab := runS_abc s (a + b)
  have na := runV_nz s.a hs.1.1 (a + b)
  have nb := runV_nz s.b hs.1.2.1 (a + b)
  have nc := runV_nz s.c hs.1.2.2 (a + b)
  rw [← ab.1] at na
  rw [← ab.2.1] at nb
  rw [← ab.2.2] at nc
  rw [runS_add] at na nb nc
  simp only [Int.natCast_add] at sm3
  have a0 : (0 : Int) ≤ a := by omega
  have a1 : (a : Int) ≤ 20000 := by omega
  have b0 : (0 : Int) ≤ b := by omega
  have b1 : (b : Int) ≤ 20000 - (a : Int) := by omega
  clear ab hs hn
  generalize smp s a = K at *
  generalize smp (runS s a) b = L at *
  generalize runS (runS s a) b = Z at *
  generalize runS s a = X at *
  have SM1 := Lib.hid sm1
  have SM2 := Lib.hid sm2
  have SM3 := Lib.hid sm3
  have NA := Lib.hid na
  have NB := Lib.hid nb
  have NC := Lib.hid nc
  have EY := eqv_self Z
  have hwf1 : ∀ x ∈ K, (Lit.int .u8 x).wf = true := fun x hx => by
    have := W1.out x hx
    simp only [Lit.wf, Bool.and_eq_true, decide_eq_true_eq]
    exact ⟨this.1, Int.le_trans this.2 (by decide)⟩
  have hwf2 : ∀ x ∈ L, (Lit.int .u8 x).wf = true := fun x hx => by
    have := W2.out x hx
    simp only [Lit.wf, Bool.and_eq_true, decide_eq_true_eq]
    exact ⟨this.1, Int.le_trans this.2 (by decide)⟩
  have HW1 := Lib.hid hwf1
  have HW2 := Lib.hid hwf2
  have HW3 : Hid (∀ x ∈ K ++ L, (Lit.int .u8 x).wf = true) := Lib.hid (fun x hx => (List.mem_append.1 hx).elim (hwf1 x) (hwf2 x))
  clear sm1 sm2 sm3 na nb nc hwf1 hwf2
  go_enter Try.func9, Try.ntmps9
  go_wp2_with (first | ((with_reducible show wpList _ _ _ _ _ _); refine wpList_loadA rfl 36 (.tmp 3) rfl (w.heap.size) (0) 16 rfl 36 #[.int .u16 s.a.pd, .int .u16 s.a.ct, .int .u8 s.a.ld, .bool s.a.hi, .int .u16 s.a.nz, .int .u16 s.b.pd, .int .u16 s.b.ct, .int .u8 s.b.ld, .bool s.b.hi, .int .u16 s.b.nz, .int .u16 s.c.pd, .int .u16 s.c.ct, .int .u8 s.c.ld, .bool s.c.hi, .int .u16 s.c.nz, .int .i64 s.wt] #[.int .u16 s.a.pd, .int .u16 s.a.ct, .int .u8 s.a.ld, .bool s.a.hi, .int .u16 s.a.nz, .int .u16 s.b.pd, .int .u16 s.b.ct, .int .u8 s.b.ld, .bool s.b.hi, .int .u16 s.b.nz, .int .u16 s.c.pd, .int .u16 s.c.ct, .int .u8 s.c.ld, .bool s.c.hi, .int .u16 s.c.nz, .int .i64 s.wt] (show Blk _ (w.heap.size) #[.int .u16 s.a.pd, .int .u16 s.a.ct, .int .u8 s.a.ld, .bool s.a.hi, .int .u16 s.a.nz, .int .u16 s.b.pd, .int .u16 s.b.ct, .int .u8 s.b.ld, .bool s.b.hi, .int .u16 s.b.nz, .int .u16 s.c.pd, .int .u16 s.c.ct, .int .u8 s.c.ld, .bool s.c.hi, .int .u16 s.c.nz, .int .i64 s.wt] 36 from (by repeat' (first | (with_reducible first | exact Hid.out (by assumption) | exact Blk.new _ _ _ | (refine Blk.new_at _ _ _ _ ?_; simp; done) | refine Blk.alloc ?_ _ | refine Blk.drewN ?_ _ | refine Blk.drew ?_ | apply Blk.set | refine Blk.put ?_ (by assumption) (by first | (simp; done) | (simp; omega) | omega) | refine Blk.below ?_ (by assumption)) | (refine Blk.setAt ?_ (by first | (simp; done) | (simp; omega))) | rfl))) _ Try.underlying36 rfl (by kernel_rfl) rfl rfl ?_))
  refine (CK.out _).mono ?_
  rintro e w1 ⟨rfl, hb1⟩
  have Kw1_0 : Hid (Blk w1 (w.heap.size) #[.int .u16 s.a.pd, .int .u16 s.a.ct, .int .u8 s.a.ld, .bool s.a.hi, .int .u16 s.a.nz, .int .u16 s.b.pd, .int .u16 s.b.ct, .int .u8 s.b.ld, .bool s.b.hi, .int .u16 s.b.nz, .int .u16 s.c.pd, .int .u16 s.c.ct, .int .u8 s.c.ld, .bool s.c.hi, .int .u16 s.c.nz, .int .i64 s.wt] 36) := Lib.hid (by repeat' (first | (with_reducible first | exact Hid.out (by assumption) | exact Blk.new _ _ _ | (refine Blk.new_at _ _ _ _ ?_; simp; done) | refine Blk.alloc ?_ _ | refine Blk.drewN ?_ _ | refine Blk.drew ?_ | apply Blk.set | refine Blk.put ?_ (by assumption) (by first | (simp; done) | (simp; omega) | omega) | refine Blk.below ?_ (by assumption)) | (refine Blk.setAt ?_ (by first | (simp; done) | (simp; omega))) | rfl))
  obtain ⟨lw1_0, cw1_0, fw1_0⟩ := Kw1_0.out.use
  go_wp2_with (first | ((with_reducible show wpList _ _ _ _ _ _); refine wpList_loadA rfl 36 (.tmp 3) rfl (w.heap.size) (0) 16 rfl 36 #[.int .u16 s.a.pd, .int .u16 s.a.ct, .int .u8 s.a.ld, .bool s.a.hi, .int .u16 s.a.nz, .int .u16 s.b.pd, .int .u16 s.b.ct, .int .u8 s.b.ld, .bool s.b.hi, .int .u16 s.b.nz, .int .u16 s.c.pd, .int .u16 s.c.ct, .int .u8 s.c.ld, .bool s.c.hi, .int .u16 s.c.nz, .int .i64 s.wt] #[.int .u16 s.a.pd, .int .u16 s.a.ct, .int .u8 s.a.ld, .bool s.a.hi, .int .u16 s.a.nz, .int .u16 s.b.pd, .int .u16 s.b.ct, .int .u8 s.b.ld, .bool s.b.hi, .int .u16 s.b.nz, .int .u16 s.c.pd, .int .u16 s.c.ct, .int .u8 s.c.ld, .bool s.c.hi, .int .u16 s.c.nz, .int .i64 s.wt] (show Blk _ (w.heap.size) #[.int .u16 s.a.pd, .int .u16 s.a.ct, .int .u8 s.a.ld, .bool s.a.hi, .int .u16 s.a.nz, .int .u16 s.b.pd, .int .u16 s.b.ct, .int .u8 s.b.ld, .bool s.b.hi, .int .u16 s.b.nz, .int .u16 s.c.pd, .int .u16 s.c.ct, .int .u8 s.c.ld, .bool s.c.hi, .int .u16 s.c.nz, .int .i64 s.wt] 36 from (by repeat' (first | (with_reducible first | exact Hid.out (by assumption) | exact Blk.new _ _ _ | (refine Blk.new_at _ _ _ _ ?_; simp; done) | refine Blk.alloc ?_ _ | refine Blk.drewN ?_ _ | refine Blk.drew ?_ | apply Blk.set | refine Blk.put ?_ (by assumption) (by first | (simp; done) | (simp; omega) | omega) | refine Blk.below ?_ (by assumption)) | (refine Blk.setAt ?_ (by first | (simp; done) | (simp; omega))) | rfl))) _ Try.underlying36 rfl (by kernel_rfl) rfl rfl ?_))
  refine (SM1.out _).mono ?_
  rintro e w3 ⟨ao1, cp1, rfl, hown, hb3⟩
  have KO3 := Lib.hid hown
  clear hown
  have hs3 := hb3.size
  have Kw3_0 : Hid (Blk w3 (w.heap.size) #[.int .u16 s.a.pd, .int .u16 s.a.ct, .int .u8 s.a.ld, .bool s.a.hi, .int .u16 s.a.nz, .int .u16 s.b.pd, .int .u16 s.b.ct, .int .u8 s.b.ld, .bool s.b.hi, .int .u16 s.b.nz, .int .u16 s.c.pd, .int .u16 s.c.ct, .int .u8 s.c.ld, .bool s.c.hi, .int .u16 s.c.nz, .int .i64 s.wt] 36) := Lib.hid (by repeat' (first | (with_reducible first | exact Hid.out (by assumption) | exact Blk.new _ _ _ | (refine Blk.new_at _ _ _ _ ?_; simp; done) | refine Blk.alloc ?_ _ | refine Blk.drewN ?_ _ | refine Blk.drew ?_ | apply Blk.set | refine Blk.put ?_ (by assumption) (by first | (simp; done) | (simp; omega) | omega) | refine Blk.below ?_ (by assumption)) | (refine Blk.setAt ?_ (by first | (simp; done) | (simp; omega))) | rfl))
  clear Kw1_0 cw1_0 fw1_0
  obtain ⟨lw3_0, cw3_0, fw3_0⟩ := Kw3_0.out.use
  go_wp2_with (first | ((with_reducible show wpList _ _ _ _ _ _); refine wpList_storeW rfl 36 (.tmp 8) (.tmp 45) rfl (w3.heap.size) #[.int .u16 X.a.pd, .int .u16 X.a.ct, .int .u8 X.a.ld, .bool X.a.hi, .int .u16 X.a.nz, .int .u16 X.b.pd, .int .u16 X.b.ct, .int .u8 X.b.ld, .bool X.b.hi, .int .u16 X.b.nz, .int .u16 X.c.pd, .int .u16 X.c.ct, .int .u8 X.c.ld, .bool X.c.hi, .int .u16 X.c.nz, .int .i64 X.wt] rfl rfl 36 _ (show Blk _ (w3.heap.size) #[.int .u16 0, .int .u16 0, .int .u8 0, .bool false, .int .u16 0, .int .u16 0, .int .u16 0, .int .u8 0, .bool false, .int .u16 0, .int .u16 0, .int .u16 0, .int .u8 0, .bool false, .int .u16 0, .int .i64 0] 36 from (by repeat' (first | (with_reducible first | exact Hid.out (by assumption) | exact Blk.new _ _ _ | (refine Blk.new_at _ _ _ _ ?_; simp; done) | refine Blk.alloc ?_ _ | refine Blk.drewN ?_ _ | refine Blk.drew ?_ | apply Blk.set | refine Blk.put ?_ (by assumption) (by first | (simp; done) | (simp; omega) | omega) | refine Blk.below ?_ (by assumption)) | (refine Blk.setAt ?_ (by first | (simp; done) | (simp; omega))) | rfl))) (by kernel_rfl) rfl (by simp [Value.oneCell']) ?_; intro w4 hp_w4 K_w4) | ((with_reducible show wpList _ _ _ _ _ _); refine wpList_loadA rfl 36 (.tmp 8) rfl (w3.heap.size) (0) 16 rfl 36 #[.int .u16 X.a.pd, .int .u16 X.a.ct, .int .u8 X.a.ld, .bool X.a.hi, .int .u16 X.a.nz, .int .u16 X.b.pd, .int .u16 X.b.ct, .int .u8 X.b.ld, .bool X.b.hi, .int .u16 X.b.nz, .int .u16 X.c.pd, .int .u16 X.c.ct, .int .u8 X.c.ld, .bool X.c.hi, .int .u16 X.c.nz, .int .i64 X.wt] #[.int .u16 X.a.pd, .int .u16 X.a.ct, .int .u8 X.a.ld, .bool X.a.hi, .int .u16 X.a.nz, .int .u16 X.b.pd, .int .u16 X.b.ct, .int .u8 X.b.ld, .bool X.b.hi, .int .u16 X.b.nz, .int .u16 X.c.pd, .int .u16 X.c.ct, .int .u8 X.c.ld, .bool X.c.hi, .int .u16 X.c.nz, .int .i64 X.wt] (show Blk _ (w3.heap.size) #[.int .u16 X.a.pd, .int .u16 X.a.ct, .int .u8 X.a.ld, .bool X.a.hi, .int .u16 X.a.nz, .int .u16 X.b.pd, .int .u16 X.b.ct, .int .u8 X.b.ld, .bool X.b.hi, .int .u16 X.b.nz, .int .u16 X.c.pd, .int .u16 X.c.ct, .int .u8 X.c.ld, .bool X.c.hi, .int .u16 X.c.nz, .int .i64 X.wt] 36 from (by repeat' (first | (with_reducible first | exact Hid.out (by assumption) | exact Blk.new _ _ _ | (refine Blk.new_at _ _ _ _ ?_; simp; done) | refine Blk.alloc ?_ _ | refine Blk.drewN ?_ _ | refine Blk.drew ?_ | apply Blk.set | refine Blk.put ?_ (by assumption) (by first | (simp; done) | (simp; omega) | omega) | refine Blk.below ?_ (by assumption)) | (refine Blk.setAt ?_ (by first | (simp; done) | (simp; omega))) | rfl))) _ Try.underlying36 rfl (by kernel_rfl) rfl rfl ?_))
  refine (SM2.out _).mono ?_
  rintro e w5 ⟨ao2, cp2, rfl, hown, hb5⟩
  have hs4 := hp_w4.size
  have hs5 := hb5.size
  have KO5 := Lib.hid hown
  have KO5' := Lib.hid (own_below (own_made KO3.out hp_w4) hb5)
  clear hown KO3
  have Kw5_0 : Hid (Blk w5 (w.heap.size) #[.int .u16 s.a.pd, .int .u16 s.a.ct, .int .u8 s.a.ld, .bool s.a.hi, .int .u16 s.a.nz, .int .u16 s.b.pd, .int .u16 s.b.ct, .int .u8 s.b.ld, .bool s.b.hi, .int .u16 s.b.nz, .int .u16 s.c.pd, .int .u16 s.c.ct, .int .u8 s.c.ld, .bool s.c.hi, .int .u16 s.c.nz, .int .i64 s.wt] 36) := Lib.hid (by repeat' (first | (with_reducible first | exact Hid.out (by assumption) | exact Blk.new _ _ _ | (refine Blk.new_at _ _ _ _ ?_; simp; done) | refine Blk.alloc ?_ _ | refine Blk.drewN ?_ _ | refine Blk.drew ?_ | apply Blk.set | refine Blk.put ?_ (by assumption) (by first | (simp; done) | (simp; omega) | omega) | refine Blk.below ?_ (by assumption)) | (refine Blk.setAt ?_ (by first | (simp; done) | (simp; omega))) | rfl))
  clear Kw3_0 cw3_0 fw3_0
  obtain ⟨lw5_0, cw5_0, fw5_0⟩ := Kw5_0.out.use
  go_wp2_with (first | ((with_reducible show wpList _ _ _ _ _ _); refine wpList_storeW rfl 36 (.tmp 11) (.tmp 52) rfl (w5.heap.size) #[.int .u16 Z.a.pd, .int .u16 Z.a.ct, .int .u8 Z.a.ld, .bool Z.a.hi, .int .u16 Z.a.nz, .int .u16 Z.b.pd, .int .u16 Z.b.ct, .int .u8 Z.b.ld, .bool Z.b.hi, .int .u16 Z.b.nz, .int .u16 Z.c.pd, .int .u16 Z.c.ct, .int .u8 Z.c.ld, .bool Z.c.hi, .int .u16 Z.c.nz, .int .i64 Z.wt] rfl rfl 36 _ (show Blk _ (w5.heap.size) #[.int .u16 0, .int .u16 0, .int .u8 0, .bool false, .int .u16 0, .int .u16 0, .int .u16 0, .int .u8 0, .bool false, .int .u16 0, .int .u16 0, .int .u16 0, .int .u8 0, .bool false, .int .u16 0, .int .i64 0] 36 from (by repeat' (first | (with_reducible first | exact Hid.out (by assumption) | exact Blk.new _ _ _ | (refine Blk.new_at _ _ _ _ ?_; simp; done) | refine Blk.alloc ?_ _ | refine Blk.drewN ?_ _ | refine Blk.drew ?_ | apply Blk.set | refine Blk.put ?_ (by assumption) (by first | (simp; done) | (simp; omega) | omega) | refine Blk.below ?_ (by assumption)) | (refine Blk.setAt ?_ (by first | (simp; done) | (simp; omega))) | rfl))) (by kernel_rfl) rfl (by simp [Value.oneCell']) ?_; intro w6 hp_w6 K_w6) | ((with_reducible show wpList _ _ _ _ _ _); refine wpList_loadA rfl 36 (.tmp 3) rfl (w.heap.size) (0) 16 rfl 36 #[.int .u16 s.a.pd, .int .u16 s.a.ct, .int .u8 s.a.ld, .bool s.a.hi, .int .u16 s.a.nz, .int .u16 s.b.pd, .int .u16 s.b.ct, .int .u8 s.b.ld, .bool s.b.hi, .int .u16 s.b.nz, .int .u16 s.c.pd, .int .u16 s.c.ct, .int .u8 s.c.ld, .bool s.c.hi, .int .u16 s.c.nz, .int .i64 s.wt] #[.int .u16 s.a.pd, .int .u16 s.a.ct, .int .u8 s.a.ld, .bool s.a.hi, .int .u16 s.a.nz, .int .u16 s.b.pd, .int .u16 s.b.ct, .int .u8 s.b.ld, .bool s.b.hi, .int .u16 s.b.nz, .int .u16 s.c.pd, .int .u16 s.c.ct, .int .u8 s.c.ld, .bool s.c.hi, .int .u16 s.c.nz, .int .i64 s.wt] (show Blk _ (w.heap.size) #[.int .u16 s.a.pd, .int .u16 s.a.ct, .int .u8 s.a.ld, .bool s.a.hi, .int .u16 s.a.nz, .int .u16 s.b.pd, .int .u16 s.b.ct, .int .u8 s.b.ld, .bool s.b.hi, .int .u16 s.b.nz, .int .u16 s.c.pd, .int .u16 s.c.ct, .int .u8 s.c.ld, .bool s.c.hi, .int .u16 s.c.nz, .int .i64 s.wt] 36 from (by repeat' (first | (with_reducible first | exact Hid.out (by assumption) | exact Blk.new _ _ _ | (refine Blk.new_at _ _ _ _ ?_; simp; done) | refine Blk.alloc ?_ _ | refine Blk.drewN ?_ _ | refine Blk.drew ?_ | apply Blk.set | refine Blk.put ?_ (by assumption) (by first | (simp; done) | (simp; omega) | omega) | refine Blk.below ?_ (by assumption)) | (refine Blk.setAt ?_ (by first | (simp; done) | (simp; omega))) | rfl))) _ Try.underlying36 rfl (by kernel_rfl) rfl rfl ?_))
  refine (SM3.out _).mono ?_
  rintro e w7 ⟨ao3, cp3, rfl, hown, hb7⟩
  have hs6 := hp_w6.size
  have hs7 := hb7.size
  have KO7 := Lib.hid hown
  have KO7' := Lib.hid (own_below (own_made KO5.out hp_w6) hb7)
  have KO7'' := Lib.hid (own_below (own_made KO5'.out hp_w6) hb7)
  clear hown KO5 KO5'
  have Kw7_0 : Hid (Blk w7 (w.heap.size) #[.int .u16 s.a.pd, .int .u16 s.a.ct, .int .u8 s.a.ld, .bool s.a.hi, .int .u16 s.a.nz, .int .u16 s.b.pd, .int .u16 s.b.ct, .int .u8 s.b.ld, .bool s.b.hi, .int .u16 s.b.nz, .int .u16 s.c.pd, .int .u16 s.c.ct, .int .u8 s.c.ld, .bool s.c.hi, .int .u16 s.c.nz, .int .i64 s.wt] 36) := Lib.hid (by repeat' (first | (with_reducible first | exact Hid.out (by assumption) | exact Blk.new _ _ _ | (refine Blk.new_at _ _ _ _ ?_; simp; done) | refine Blk.alloc ?_ _ | refine Blk.drewN ?_ _ | refine Blk.drew ?_ | apply Blk.set | refine Blk.put ?_ (by assumption) (by first | (simp; done) | (simp; omega) | omega) | refine Blk.below ?_ (by assumption)) | (refine Blk.setAt ?_ (by first | (simp; done) | (simp; omega))) | rfl))
  have Kw7_1 : Hid (Blk w7 (w5.heap.size) #[.int .u16 Z.a.pd, .int .u16 Z.a.ct, .int .u8 Z.a.ld, .bool Z.a.hi, .int .u16 Z.a.nz, .int .u16 Z.b.pd, .int .u16 Z.b.ct, .int .u8 Z.b.ld, .bool Z.b.hi, .int .u16 Z.b.nz, .int .u16 Z.c.pd, .int .u16 Z.c.ct, .int .u8 Z.c.ld, .bool Z.c.hi, .int .u16 Z.c.nz, .int .i64 Z.wt] 36) := Lib.hid (by repeat' (first | (with_reducible first | exact Hid.out (by assumption) | exact Blk.new _ _ _ | (refine Blk.new_at _ _ _ _ ?_; simp; done) | refine Blk.alloc ?_ _ | refine Blk.drewN ?_ _ | refine Blk.drew ?_ | apply Blk.set | refine Blk.put ?_ (by assumption) (by first | (simp; done) | (simp; omega) | omega) | refine Blk.below ?_ (by assumption)) | (refine Blk.setAt ?_ (by first | (simp; done) | (simp; omega))) | rfl))
  clear Kw5_0 cw5_0 fw5_0
  obtain ⟨lw7_0, cw7_0, fw7_0⟩ := Kw7_0.out.use
  obtain ⟨lw7_1, cw7_1, fw7_1⟩ := Kw7_1.out.use
  go_wp2_with (first | ((with_reducible show wpList _ _ _ _ _ _); refine wpList_storeW rfl 36 (.tmp 14) (.tmp 61) rfl (w7.heap.size) #[.int .u16 Z.a.pd, .int .u16 Z.a.ct, .int .u8 Z.a.ld, .bool Z.a.hi, .int .u16 Z.a.nz, .int .u16 Z.b.pd, .int .u16 Z.b.ct, .int .u8 Z.b.ld, .bool Z.b.hi, .int .u16 Z.b.nz, .int .u16 Z.c.pd, .int .u16 Z.c.ct, .int .u8 Z.c.ld, .bool Z.c.hi, .int .u16 Z.c.nz, .int .i64 Z.wt] rfl rfl 36 _ (show Blk _ (w7.heap.size) #[.int .u16 0, .int .u16 0, .int .u8 0, .bool false, .int .u16 0, .int .u16 0, .int .u16 0, .int .u8 0, .bool false, .int .u16 0, .int .u16 0, .int .u16 0, .int .u8 0, .bool false, .int .u16 0, .int .i64 0] 36 from (by repeat' (first | (with_reducible first | exact Hid.out (by assumption) | exact Blk.new _ _ _ | (refine Blk.new_at _ _ _ _ ?_; simp; done) | refine Blk.alloc ?_ _ | refine Blk.drewN ?_ _ | refine Blk.drew ?_ | apply Blk.set | refine Blk.put ?_ (by assumption) (by first | (simp; done) | (simp; omega) | omega) | refine Blk.below ?_ (by assumption)) | (refine Blk.setAt ?_ (by first | (simp; done) | (simp; omega))) | rfl))) (by kernel_rfl) rfl (by simp [Value.oneCell']) ?_; intro w8 hp_w8 K_w8))
  refine (sounded_any _).mono ?_
  rintro e w9 ⟨rfl, hb9⟩
  have hs8 := hp_w8.size
  have hs9 := hb9.size
  have S1 := Lib.hid (own_slice (own_below (own_made KO7''.out hp_w8) hb9) HW1.out)
  have S2 := Lib.hid (own_slice (own_below (own_made KO7'.out hp_w8) hb9) HW2.out)
  have S3 := Lib.hid (own_slice (own_below (own_made KO7.out hp_w8) hb9) HW3.out)
  clear KO7 KO7' KO7''
  have Kw9_0 : Hid (Blk w9 (w.heap.size) #[.int .u16 s.a.pd, .int .u16 s.a.ct, .int .u8 s.a.ld, .bool s.a.hi, .int .u16 s.a.nz, .int .u16 s.b.pd, .int .u16 s.b.ct, .int .u8 s.b.ld, .bool s.b.hi, .int .u16 s.b.nz, .int .u16 s.c.pd, .int .u16 s.c.ct, .int .u8 s.c.ld, .bool s.c.hi, .int .u16 s.c.nz, .int .i64 s.wt] 36) := Lib.hid (by repeat' (first | (with_reducible first | exact Hid.out (by assumption) | exact Blk.new _ _ _ | (refine Blk.new_at _ _ _ _ ?_; simp; done) | refine Blk.alloc ?_ _ | refine Blk.drewN ?_ _ | refine Blk.drew ?_ | apply Blk.set | refine Blk.put ?_ (by assumption) (by first | (simp; done) | (simp; omega) | omega) | refine Blk.below ?_ (by assumption)) | (refine Blk.setAt ?_ (by first | (simp; done) | (simp; omega))) | rfl))
  have Kw9_1 : Hid (Blk w9 (w5.heap.size) #[.int .u16 Z.a.pd, .int .u16 Z.a.ct, .int .u8 Z.a.ld, .bool Z.a.hi, .int .u16 Z.a.nz, .int .u16 Z.b.pd, .int .u16 Z.b.ct, .int .u8 Z.b.ld, .bool Z.b.hi, .int .u16 Z.b.nz, .int .u16 Z.c.pd, .int .u16 Z.c.ct, .int .u8 Z.c.ld, .bool Z.c.hi, .int .u16 Z.c.nz, .int .i64 Z.wt] 36) := Lib.hid (by repeat' (first | (with_reducible first | exact Hid.out (by assumption) | exact Blk.new _ _ _ | (refine Blk.new_at _ _ _ _ ?_; simp; done) | refine Blk.alloc ?_ _ | refine Blk.drewN ?_ _ | refine Blk.drew ?_ | apply Blk.set | refine Blk.put ?_ (by assumption) (by first | (simp; done) | (simp; omega) | omega) | refine Blk.below ?_ (by assumption)) | (refine Blk.setAt ?_ (by first | (simp; done) | (simp; omega))) | rfl))
  have Kw9_2 : Hid (Blk w9 (w7.heap.size) #[.int .u16 Z.a.pd, .int .u16 Z.a.ct, .int .u8 Z.a.ld, .bool Z.a.hi, .int .u16 Z.a.nz, .int .u16 Z.b.pd, .int .u16 Z.b.ct, .int .u8 Z.b.ld, .bool Z.b.hi, .int .u16 Z.b.nz, .int .u16 Z.c.pd, .int .u16 Z.c.ct, .int .u8 Z.c.ld, .bool Z.c.hi, .int .u16 Z.c.nz, .int .i64 Z.wt] 36) := Lib.hid (by repeat' (first | (with_reducible first | exact Hid.out (by assumption) | exact Blk.new _ _ _ | (refine Blk.new_at _ _ _ _ ?_; simp; done) | refine Blk.alloc ?_ _ | refine Blk.drewN ?_ _ | refine Blk.drew ?_ | apply Blk.set | refine Blk.put ?_ (by assumption) (by first | (simp; done) | (simp; omega) | omega) | refine Blk.below ?_ (by assumption)) | (refine Blk.setAt ?_ (by first | (simp; done) | (simp; omega))) | rfl))
  clear Kw7_0 cw7_0 fw7_0 Kw7_1 cw7_1 fw7_1
  obtain ⟨lw9_0, cw9_0, fw9_0⟩ := Kw9_0.out.use
  obtain ⟨lw9_1, cw9_1, fw9_1⟩ := Kw9_1.out.use
  obtain ⟨lw9_2, cw9_2, fw9_2⟩ := Kw9_2.out.use
  go_wp2_with fail
  refine (concat2 _ w9.heap.size _ _ _ K L (S1.out.below ((Below.refl _ _).alloc (Nat.le_refl _) _)) (S2.out.below ((Below.refl _ _).alloc (Nat.le_refl _) _)) (Blk.new _ _ _) L1.out L2.out).mono ?_
  rintro e w10 ⟨ao4, cp4, rfl, hown, hb10⟩
  have s4 := own_slice hown HW3.out
  have s3 := S3.out.below (((Below.refl _ _).alloc (Nat.le_refl _) _).trans (hb10.mono (by simp)))
  simp only [List.length_append] at s3 s4
  have S3' := Lib.hid s3
  have S4 := Lib.hid s4
  clear hown s3 s4
  have Kw10_0 : Hid (Blk w10 (w.heap.size) #[.int .u16 s.a.pd, .int .u16 s.a.ct, .int .u8 s.a.ld, .bool s.a.hi, .int .u16 s.a.nz, .int .u16 s.b.pd, .int .u16 s.b.ct, .int .u8 s.b.ld, .bool s.b.hi, .int .u16 s.b.nz, .int .u16 s.c.pd, .int .u16 s.c.ct, .int .u8 s.c.ld, .bool s.c.hi, .int .u16 s.c.nz, .int .i64 s.wt] 36) := Lib.hid (by repeat' (first | (with_reducible first | exact Hid.out (by assumption) | exact Blk.new _ _ _ | (refine Blk.new_at _ _ _ _ ?_; simp; done) | refine Blk.alloc ?_ _ | refine Blk.drewN ?_ _ | refine Blk.drew ?_ | apply Blk.set | refine Blk.put ?_ (by assumption) (by first | (simp; done) | (simp; omega) | omega) | refine Blk.below ?_ (by assumption)) | (refine Blk.setAt ?_ (by first | (simp; done) | (simp; omega))) | rfl))
  have Kw10_1 : Hid (Blk w10 (w5.heap.size) #[.int .u16 Z.a.pd, .int .u16 Z.a.ct, .int .u8 Z.a.ld, .bool Z.a.hi, .int .u16 Z.a.nz, .int .u16 Z.b.pd, .int .u16 Z.b.ct, .int .u8 Z.b.ld, .bool Z.b.hi, .int .u16 Z.b.nz, .int .u16 Z.c.pd, .int .u16 Z.c.ct, .int .u8 Z.c.ld, .bool Z.c.hi, .int .u16 Z.c.nz, .int .i64 Z.wt] 36) := Lib.hid (by repeat' (first | (with_reducible first | exact Hid.out (by assumption) | exact Blk.new _ _ _ | (refine Blk.new_at _ _ _ _ ?_; simp; done) | refine Blk.alloc ?_ _ | refine Blk.drewN ?_ _ | refine Blk.drew ?_ | apply Blk.set | refine Blk.put ?_ (by assumption) (by first | (simp; done) | (simp; omega) | omega) | refine Blk.below ?_ (by assumption)) | (refine Blk.setAt ?_ (by first | (simp; done) | (simp; omega))) | rfl))
  have Kw10_2 : Hid (Blk w10 (w7.heap.size) #[.int .u16 Z.a.pd, .int .u16 Z.a.ct, .int .u8 Z.a.ld, .bool Z.a.hi, .int .u16 Z.a.nz, .int .u16 Z.b.pd, .int .u16 Z.b.ct, .int .u8 Z.b.ld, .bool Z.b.hi, .int .u16 Z.b.nz, .int .u16 Z.c.pd, .int .u16 Z.c.ct, .int .u8 Z.c.ld, .bool Z.c.hi, .int .u16 Z.c.nz, .int .i64 Z.wt] 36) := Lib.hid (by repeat' (first | (with_reducible first | exact Hid.out (by assumption) | exact Blk.new _ _ _ | (refine Blk.new_at _ _ _ _ ?_; simp; done) | refine Blk.alloc ?_ _ | refine Blk.drewN ?_ _ | refine Blk.drew ?_ | apply Blk.set | refine Blk.put ?_ (by assumption) (by first | (simp; done) | (simp; omega) | omega) | refine Blk.below ?_ (by assumption)) | (refine Blk.setAt ?_ (by first | (simp; done) | (simp; omega))) | rfl))
  clear Kw9_0 cw9_0 fw9_0 Kw9_1 cw9_1 fw9_1 Kw9_2 cw9_2 fw9_2
  obtain ⟨lw10_0, cw10_0, fw10_0⟩ := Kw10_0.out.use
  obtain ⟨lw10_1, cw10_1, fw10_1⟩ := Kw10_1.out.use
  obtain ⟨lw10_2, cw10_2, fw10_2⟩ := Kw10_2.out.use
  go_wp2_with (first | (go_at_call 22; refine (bytesEqual_any _ _ (K ++ L) (K ++ L) _ S4.out S3'.out).mono ?_; rintro e w11 ⟨rfl, rfl⟩) | ((with_reducible show wpList _ _ _ _ _ _); refine wpList_loadA rfl 36 (.tmp 11) rfl (w5.heap.size) (0) 16 rfl 36 #[.int .u16 Z.a.pd, .int .u16 Z.a.ct, .int .u8 Z.a.ld, .bool Z.a.hi, .int .u16 Z.a.nz, .int .u16 Z.b.pd, .int .u16 Z.b.ct, .int .u8 Z.b.ld, .bool Z.b.hi, .int .u16 Z.b.nz, .int .u16 Z.c.pd, .int .u16 Z.c.ct, .int .u8 Z.c.ld, .bool Z.c.hi, .int .u16 Z.c.nz, .int .i64 Z.wt] #[.int .u16 Z.a.pd, .int .u16 Z.a.ct, .int .u8 Z.a.ld, .bool Z.a.hi, .int .u16 Z.a.nz, .int .u16 Z.b.pd, .int .u16 Z.b.ct, .int .u8 Z.b.ld, .bool Z.b.hi, .int .u16 Z.b.nz, .int .u16 Z.c.pd, .int .u16 Z.c.ct, .int .u8 Z.c.ld, .bool Z.c.hi, .int .u16 Z.c.nz, .int .i64 Z.wt] (show Blk _ (w5.heap.size) #[.int .u16 Z.a.pd, .int .u16 Z.a.ct, .int .u8 Z.a.ld, .bool Z.a.hi, .int .u16 Z.a.nz, .int .u16 Z.b.pd, .int .u16 Z.b.ct, .int .u8 Z.b.ld, .bool Z.b.hi, .int .u16 Z.b.nz, .int .u16 Z.c.pd, .int .u16 Z.c.ct, .int .u8 Z.c.ld, .bool Z.c.hi, .int .u16 Z.c.nz, .int .i64 Z.wt] 36 from (by repeat' (first | (with_reducible first | exact Hid.out (by assumption) | exact Blk.new _ _ _ | (refine Blk.new_at _ _ _ _ ?_; simp; done) | refine Blk.alloc ?_ _ | refine Blk.drewN ?_ _ | refine Blk.drew ?_ | apply Blk.set | refine Blk.put ?_ (by assumption) (by first | (simp; done) | (simp; omega) | omega) | refine Blk.below ?_ (by assumption)) | (refine Blk.setAt ?_ (by first | (simp; done) | (simp; omega))) | rfl))) _ Try.underlying36 rfl (by kernel_rfl) rfl rfl ?_) | ((with_reducible show wpList _ _ _ _ _ _); refine wpList_loadA rfl 36 (.tmp 14) rfl (w7.heap.size) (0) 16 rfl 36 #[.int .u16 Z.a.pd, .int .u16 Z.a.ct, .int .u8 Z.a.ld, .bool Z.a.hi, .int .u16 Z.a.nz, .int .u16 Z.b.pd, .int .u16 Z.b.ct, .int .u8 Z.b.ld, .bool Z.b.hi, .int .u16 Z.b.nz, .int .u16 Z.c.pd, .int .u16 Z.c.ct, .int .u8 Z.c.ld, .bool Z.c.hi, .int .u16 Z.c.nz, .int .i64 Z.wt] #[.int .u16 Z.a.pd, .int .u16 Z.a.ct, .int .u8 Z.a.ld, .bool Z.a.hi, .int .u16 Z.a.nz, .int .u16 Z.b.pd, .int .u16 Z.b.ct, .int .u8 Z.b.ld, .bool Z.b.hi, .int .u16 Z.b.nz, .int .u16 Z.c.pd, .int .u16 Z.c.ct, .int .u8 Z.c.ld, .bool Z.c.hi, .int .u16 Z.c.nz, .int .i64 Z.wt] (show Blk _ (w7.heap.size) #[.int .u16 Z.a.pd, .int .u16 Z.a.ct, .int .u8 Z.a.ld, .bool Z.a.hi, .int .u16 Z.a.nz, .int .u16 Z.b.pd, .int .u16 Z.b.ct, .int .u8 Z.b.ld, .bool Z.b.hi, .int .u16 Z.b.nz, .int .u16 Z.c.pd, .int .u16 Z.c.ct, .int .u8 Z.c.ld, .bool Z.c.hi, .int .u16 Z.c.nz, .int .i64 Z.wt] 36 from (by repeat' (first | (with_reducible first | exact Hid.out (by assumption) | exact Blk.new _ _ _ | (refine Blk.new_at _ _ _ _ ?_; simp; done) | refine Blk.alloc ?_ _ | refine Blk.drewN ?_ _ | refine Blk.drew ?_ | apply Blk.set | refine Blk.put ?_ (by assumption) (by first | (simp; done) | (simp; omega) | omega) | refine Blk.below ?_ (by assumption)) | (refine Blk.setAt ?_ (by first | (simp; done) | (simp; omega))) | rfl))) _ Try.underlying36 rfl (by kernel_rfl) rfl rfl ?_) | ((with_reducible show wpList _ _ _ _ _ _); refine wpList_loadA rfl 34 (.tmp 91) rfl (w.heap.size) (0) 15 rfl 36 #[.int .u16 s.a.pd, .int .u16 s.a.ct, .int .u8 s.a.ld, .bool s.a.hi, .int .u16 s.a.nz, .int .u16 s.b.pd, .int .u16 s.b.ct, .int .u8 s.b.ld, .bool s.b.hi, .int .u16 s.b.nz, .int .u16 s.c.pd, .int .u16 s.c.ct, .int .u8 s.c.ld, .bool s.c.hi, .int .u16 s.c.nz, .int .i64 s.wt] #[.int .u16 s.a.pd, .int .u16 s.a.ct, .int .u8 s.a.ld, .bool s.a.hi, .int .u16 s.a.nz, .int .u16 s.b.pd, .int .u16 s.b.ct, .int .u8 s.b.ld, .bool s.b.hi, .int .u16 s.b.nz, .int .u16 s.c.pd, .int .u16 s.c.ct, .int .u8 s.c.ld, .bool s.c.hi, .int .u16 s.c.nz] (show Blk _ (w.heap.size) #[.int .u16 s.a.pd, .int .u16 s.a.ct, .int .u8 s.a.ld, .bool s.a.hi, .int .u16 s.a.nz, .int .u16 s.b.pd, .int .u16 s.b.ct, .int .u8 s.b.ld, .bool s.b.hi, .int .u16 s.b.nz, .int .u16 s.c.pd, .int .u16 s.c.ct, .int .u8 s.c.ld, .bool s.c.hi, .int .u16 s.c.nz, .int .i64 s.wt] 36 from (by repeat' (first | (with_reducible first | exact Hid.out (by assumption) | exact Blk.new _ _ _ | (refine Blk.new_at _ _ _ _ ?_; simp; done) | refine Blk.alloc ?_ _ | refine Blk.drewN ?_ _ | refine Blk.drew ?_ | apply Blk.set | refine Blk.put ?_ (by assumption) (by first | (simp; done) | (simp; omega) | omega) | refine Blk.below ?_ (by assumption)) | (refine Blk.setAt ?_ (by first | (simp; done) | (simp; omega))) | rfl))) _ Try.underlying34 rfl (by kernel_rfl) rfl rfl ?_))
  refine wp_loop_rounds 4 ?_
  have vi := vidx s
  have ea : (s.a.nz == 0) = (Z.a.nz == 0) := beq_zero_iff NA.out.symm
  have eb : (s.b.nz == 0) = (Z.b.nz == 0) := beq_zero_iff NB.out.symm
  have ec : (s.c.nz == 0) = (Z.c.nz == 0) := beq_zero_iff NC.out.symm
  have EA := Lib.hid ea
  have EB := Lib.hid eb
  have EC := Lib.hid ec
  clear ea eb ec
  clear lw10_0 cw10_0 fw10_0 lw10_1 cw10_1 fw10_1
  rw [rounds_succ]
  go_wp2_with fail
  refine wp_mark (R := fun W => Below w.heap.size w W ∧ Hid (Blk W (w7.heap.size) (#[.int .u16 Z.a.pd, .int .u16 Z.a.ct, .int .u8 Z.a.ld, .bool Z.a.hi, .int .u16 Z.a.nz, .int .u16 Z.b.pd, .int .u16 Z.b.ct, .int .u8 Z.b.ld, .bool Z.b.hi, .int .u16 Z.b.nz, .int .u16 Z.c.pd, .int .u16 Z.c.ct, .int .u8 Z.c.ld, .bool Z.c.hi, .int .u16 Z.c.nz, .int .i64 Z.wt]) 36) ∧ Hid (Blk W (w10.heap.size) (#[.int .u16 s.a.pd, .int .u16 s.a.ct, .int .u8 s.a.ld, .bool s.a.hi, .int .u16 s.a.nz]) 33)) ⟨by repeat' (first | (with_reducible first | exact Below.refl _ _ | assumption | refine below_alloc ?_ _ | refine Below.drew ?_ | refine below_drewN ?_ _ | refine below_then ?_ (by assumption) | refine below_put ?_ (by assumption) (by first | (simp; done) | (simp; omega) | omega) | refine Below.setCell ?_ ?_ _) | (simp; done) | (simp; omega) | omega), Lib.hid (by repeat' (first | (with_reducible first | exact Hid.out (by assumption) | exact Blk.new _ _ _ | (refine Blk.new_at _ _ _ _ ?_; simp; done) | refine Blk.alloc ?_ _ | refine Blk.drewN ?_ _ | refine Blk.drew ?_ | apply Blk.set | refine Blk.put ?_ (by assumption) (by first | (simp; done) | (simp; omega) | omega) | refine Blk.below ?_ (by assumption)) | (refine Blk.setAt ?_ (by first | (simp; done) | (simp; omega))) | rfl)), Lib.hid (by repeat' (first | (with_reducible first | exact Hid.out (by assumption) | exact Blk.new _ _ _ | (refine Blk.new_at _ _ _ _ ?_; simp; done) | refine Blk.alloc ?_ _ | refine Blk.drewN ?_ _ | refine Blk.drew ?_ | apply Blk.set | refine Blk.put ?_ (by assumption) (by first | (simp; done) | (simp; omega) | omega) | refine Blk.below ?_ (by assumption)) | (refine Blk.setAt ?_ (by first | (simp; done) | (simp; omega))) | rfl))⟩ ?_
  rintro w12 ⟨hbw12, Kw12_0, Kw12_1⟩
  obtain ⟨lw12_0, cw12_0, fw12_0⟩ := Kw12_0.out.use
  obtain ⟨lw12_1, cw12_1, fw12_1⟩ := Kw12_1.out.use
  go_region
  simp only [EA.out, bne_self_eq_false, beq_self_eq_true, Bool.not_true, Bool.xor_self, decide_true, decide_false]
  go_wp2_with fail
  rw [rounds_succ]
  go_wp2_with fail
  refine wp_mark (R := fun W => Below w.heap.size w W ∧ Hid (Blk W (w7.heap.size) (#[.int .u16 Z.a.pd, .int .u16 Z.a.ct, .int .u8 Z.a.ld, .bool Z.a.hi, .int .u16 Z.a.nz, .int .u16 Z.b.pd, .int .u16 Z.b.ct, .int .u8 Z.b.ld, .bool Z.b.hi, .int .u16 Z.b.nz, .int .u16 Z.c.pd, .int .u16 Z.c.ct, .int .u8 Z.c.ld, .bool Z.c.hi, .int .u16 Z.c.nz, .int .i64 Z.wt]) 36) ∧ Hid (Blk W (w12.heap.size) (#[.int .u16 s.b.pd, .int .u16 s.b.ct, .int .u8 s.b.ld, .bool s.b.hi, .int .u16 s.b.nz]) 33)) ⟨by repeat' (first | (with_reducible first | exact Below.refl _ _ | assumption | refine below_alloc ?_ _ | refine Below.drew ?_ | refine below_drewN ?_ _ | refine below_then ?_ (by assumption) | refine below_put ?_ (by assumption) (by first | (simp; done) | (simp; omega) | omega) | refine Below.setCell ?_ ?_ _) | (simp; done) | (simp; omega) | omega), Lib.hid (by repeat' (first | (with_reducible first | exact Hid.out (by assumption) | exact Blk.new _ _ _ | (refine Blk.new_at _ _ _ _ ?_; simp; done) | refine Blk.alloc ?_ _ | refine Blk.drewN ?_ _ | refine Blk.drew ?_ | apply Blk.set | refine Blk.put ?_ (by assumption) (by first | (simp; done) | (simp; omega) | omega) | refine Blk.below ?_ (by assumption)) | (refine Blk.setAt ?_ (by first | (simp; done) | (simp; omega))) | rfl)), Lib.hid (by repeat' (first | (with_reducible first | exact Hid.out (by assumption) | exact Blk.new _ _ _ | (refine Blk.new_at _ _ _ _ ?_; simp; done) | refine Blk.alloc ?_ _ | refine Blk.drewN ?_ _ | refine Blk.drew ?_ | apply Blk.set | refine Blk.put ?_ (by assumption) (by first | (simp; done) | (simp; omega) | omega) | refine Blk.below ?_ (by assumption)) | (refine Blk.setAt ?_ (by first | (simp; done) | (simp; omega))) | rfl))⟩ ?_
  rintro w13 ⟨hbw13, Kw13_0, Kw13_1⟩
  clear Kw12_0 cw12_0 fw12_0 Kw12_1 cw12_1 fw12_1
  obtain ⟨lw13_0, cw13_0, fw13_0⟩ := Kw13_0.out.use
  obtain ⟨lw13_1, cw13_1, fw13_1⟩ := Kw13_1.out.use
  go_region
  simp only [EB.out, bne_self_eq_false, beq_self_eq_true, Bool.not_true, Bool.xor_self, decide_true, decide_false]
  go_wp2_with fail
  rw [rounds_succ]
  go_wp2_with fail
  refine wp_mark (R := fun W => Below w.heap.size w W ∧ Hid (Blk W (w7.heap.size) (#[.int .u16 Z.a.pd, .int .u16 Z.a.ct, .int .u8 Z.a.ld, .bool Z.a.hi, .int .u16 Z.a.nz, .int .u16 Z.b.pd, .int .u16 Z.b.ct, .int .u8 Z.b.ld, .bool Z.b.hi, .int .u16 Z.b.nz, .int .u16 Z.c.pd, .int .u16 Z.c.ct, .int .u8 Z.c.ld, .bool Z.c.hi, .int .u16 Z.c.nz, .int .i64 Z.wt]) 36) ∧ Hid (Blk W (w13.heap.size) (#[.int .u16 s.c.pd, .int .u16 s.c.ct, .int .u8 s.c.ld, .bool s.c.hi, .int .u16 s.c.nz]) 33)) ⟨by repeat' (first | (with_reducible first | exact Below.refl _ _ | assumption | refine below_alloc ?_ _ | refine Below.drew ?_ | refine below_drewN ?_ _ | refine below_then ?_ (by assumption) | refine below_put ?_ (by assumption) (by first | (simp; done) | (simp; omega) | omega) | refine Below.setCell ?_ ?_ _) | (simp; done) | (simp; omega) | omega), Lib.hid (by repeat' (first | (with_reducible first | exact Hid.out (by assumption) | exact Blk.new _ _ _ | (refine Blk.new_at _ _ _ _ ?_; simp; done) | refine Blk.alloc ?_ _ | refine Blk.drewN ?_ _ | refine Blk.drew ?_ | apply Blk.set | refine Blk.put ?_ (by assumption) (by first | (simp; done) | (simp; omega) | omega) | refine Blk.below ?_ (by assumption)) | (refine Blk.setAt ?_ (by first | (simp; done) | (simp; omega))) | rfl)), Lib.hid (by repeat' (first | (with_reducible first | exact Hid.out (by assumption) | exact Blk.new _ _ _ | (refine Blk.new_at _ _ _ _ ?_; simp; done) | refine Blk.alloc ?_ _ | refine Blk.drewN ?_ _ | refine Blk.drew ?_ | apply Blk.set | refine Blk.put ?_ (by assumption) (by first | (simp; done) | (simp; omega) | omega) | refine Blk.below ?_ (by assumption)) | (refine Blk.setAt ?_ (by first | (simp; done) | (simp; omega))) | rfl))⟩ ?_
  rintro w14 ⟨hbw14, Kw14_0, Kw14_1⟩
  clear Kw13_0 cw13_0 fw13_0 Kw13_1 cw13_1 fw13_1
  obtain ⟨lw14_0, cw14_0, fw14_0⟩ := Kw14_0.out.use
  obtain ⟨lw14_1, cw14_1, fw14_1⟩ := Kw14_1.out.use
  go_region
  simp only [EC.out, bne_self_eq_false, beq_self_eq_true, Bool.not_true, Bool.xor_self, decide_true, decide_false]
  go_wp2_with fail
  rw [rounds_succ]
  go_wp2
  go_ret
  exact ⟨rfl, by repeat' (first | (with_reducible first | exact Below.refl _ _ | assumption | refine below_alloc ?_ _ | refine Below.drew ?_ | refine below_drewN ?_ _ | refine below_then ?_ (by assumption) | refine below_put ?_ (by assumption) (by first | (simp; done) | (simp; omega) | omega) | refine Below.setCell ?_ ?_ _) | (simp; done) | (simp; omega) | omega)⟩

theorem walk (x1 x2 x3 : Int) (x4 : Bool) (x5 y1 y2 y3 : Int) (y4 : Bool) (y5 z1 z2 z3 : Int) (z4 : Bool) (z5 wt a b : Int)
    (h1 : U16 x1) (h2 : U16 x2) (h3 : U8 x3) (h5 : U16 x5) (g1 : U16 y1) (g2 : U16 y2) (g3 : U8 y3) (g5 : U16 y5) (k1 : U16 z1) (k2 : U16 z2) (k3 : U8 z3) (k5 : U16 z5) (_hw : I64 wt) (_ha : I64 a) (hb : I64 b) (w : World) :
    Calls Try.prog 9 #[.agg #[.int .u16 x1, .int .u16 x2, .int .u8 x3, .bool x4, .int .u16 x5, .int .u16 y1, .int .u16 y2, .int .u8 y3, .bool y4, .int .u16 y5, .int .u16 z1, .int .u16 z2, .int .u8 z3, .bool z4, .int .u16 z5, .int .i64 wt], .int .i64 a, .int .i64 b] w
      fun e w' => e = .returned (.bool true) ∧ Below w.heap.size w w' := by
  have hin : (Sd.mk ⟨x1, x2, x3, x4, x5⟩ ⟨y1, y2, y3, y4, y5⟩ ⟨z1, z2, z3, z4, z5⟩ wt).In := ⟨⟨h1, h2, h3, h5⟩, ⟨g1, g2, g3, g5⟩, ⟨k1, k2, k3, k5⟩⟩
  by_cases c1 : a < 0
  · exact alo ⟨⟨x1, x2, x3, x4, x5⟩, ⟨y1, y2, y3, y4, y5⟩, ⟨z1, z2, z3, z4, z5⟩, wt⟩ a b hb c1 w
  · by_cases c2 : b < 0
    · exact blo ⟨⟨x1, x2, x3, x4, x5⟩, ⟨y1, y2, y3, y4, y5⟩, ⟨z1, z2, z3, z4, z5⟩, wt⟩ a b hb ⟨by omega, c2⟩ w
    · by_cases c3 : 20000 < a
      · exact ahi ⟨⟨x1, x2, x3, x4, x5⟩, ⟨y1, y2, y3, y4, y5⟩, ⟨z1, z2, z3, z4, z5⟩, wt⟩ a b hb ⟨by omega, by omega, c3⟩ w
      · by_cases c4 : 20000 - a < b
        · exact bhi ⟨⟨x1, x2, x3, x4, x5⟩, ⟨y1, y2, y3, y4, y5⟩, ⟨z1, z2, z3, z4, z5⟩, wt⟩ a b hb ⟨by omega, by omega, by omega, c4⟩ w
        · by_cases w0 : wt < 0
          · exact wlo ⟨⟨x1, x2, x3, x4, x5⟩, ⟨y1, y2, y3, y4, y5⟩, ⟨z1, z2, z3, z4, z5⟩, wt⟩ a b ⟨by omega, by omega, by omega, by omega⟩ w0 w
          · by_cases w1 : 15 < wt
            · exact whi ⟨⟨x1, x2, x3, x4, x5⟩, ⟨y1, y2, y3, y4, y5⟩, ⟨z1, z2, z3, z4, z5⟩, wt⟩ a b ⟨by omega, by omega, by omega, by omega⟩ w1 w
            · obtain ⟨m, rfl⟩ := Int.eq_ofNat_of_zero_le (show 0 ≤ a by omega)
              obtain ⟨k, rfl⟩ := Int.eq_ofNat_of_zero_le (show 0 ≤ b by omega)
              exact ok ⟨⟨x1, x2, x3, x4, x5⟩, ⟨y1, y2, y3, y4, y5⟩, ⟨z1, z2, z3, z4, z5⟩, wt⟩ ⟨hin, by simp only; omega, by simp only; omega⟩ m k (by omega) w
end Go.Proofs.Ytcgigpglpbhakaa.toneParts
