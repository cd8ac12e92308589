/- The closed fact on orders is true. Conditions: none. -/
import Derived.Test.YtmpdoiilakjmbaaDoorOrderAll
import Derived.Test.YtmpdoiilakjmbaaDoorLibSlEq
namespace Go.Proofs.YtmpdoiilakjmbaaDoor
open Go.RowKit Go.Mq
set_option linter.unusedVariables false
set_option linter.unusedSimpArgs false
set_option maxHeartbeats 1000000
set_option maxRecDepth 100000
theorem orders_any (w : World) : Calls Tryd.prog 16 #[] w fun e w' => e = .returned (.bool true) ∧ Below w.heap.size w w' := by
  have O : Hid (∀ w, Calls Tryd.prog 12 #[.agg #[.int .i64 15, .int .i64 1, .int .i64 0, .int .i64 (-1), .int .i64 0]] w fun e w' => ∃ v, e = .returned (.tuple #[v, .int .i64 0]) ∧ w'.ownsRow w.heap.size 48 1 v 1 [.int .u16 31007] ∧ Below w.heap.size w w') :=
    Lib.hid (fun w => words_any ⟨15, 1, 0, -1, 0⟩ (by decide) w)
  have R : Hid (∀ w, Calls Tryd.prog 26 #[.int .u16 31007, .int .u16 0] w fun e w' => e = .returned (.tuple #[.agg #[.int .i64 15, .int .i64 1, .int .i64 0, .int .i64 (-1), .int .i64 0], .int .i64 1]) ∧ Below w.heap.size w w') :=
    Lib.hid (fun w => read_any 31007 0 (by unfold U16; omega) (by unfold U16; omega) w)
  go_enter Tryd.func16, Tryd.ntmps16
  go_wp2_with fail
  refine (O.out _).mono ?_
  rintro e w1 ⟨v, rfl, ho, hb1⟩
  have hs : SliceAt w1 .u16 v [31007] := own_slice ho (by decide)
  obtain ⟨ao, cp, rfl⟩ := own_shape ho
  have HS := Lib.hid hs
  clear hs ho
  go_wp2_with fail
  refine (R.out _).mono ?_
  rintro e w2 ⟨rfl, hb2⟩
  have HS2 := Lib.hid (HS.out.below hb2)
  clear HS
  go_wp2_with fail
  refine (slEq_u16 _ _ [31007] [31007] _ (HS2.out.below (by repeat' (first | (with_reducible first | exact Below.refl _ _ | assumption | refine below_alloc ?_ _ | refine Below.drew ?_ | refine Go.Mq.below_drewN ?_ _ | refine below_then ?_ (by assumption) | refine below_put ?_ (by assumption) (by first | (simp; done) | (simp; omega) | omega) | refine Below.setCell ?_ ?_ _) | (simp; done) | (simp; omega) | omega))) (lit_slice _ _ _ _ _ rfl (by decide) (by unfold maxLen; decide) _ rfl _ (by simp))).mono ?_
  rintro e w3 ⟨rfl, hb3⟩
  have Kw3_0 : Hid (Blk w3 (w2.heap.size) #[.int .i64 15, .int .i64 1, .int .i64 0, .int .i64 (-1), .int .i64 0] 33) := Lib.hid (by repeat' (first | (with_reducible first | exact Hid.out (by assumption) | exact Blk.new _ _ _ | (refine Blk.new_at _ _ _ _ ?_; simp; done) | refine Blk.alloc ?_ _ | refine Blk.drewN ?_ _ | refine Blk.drew ?_ | apply Blk.set | refine Blk.put ?_ (by assumption) (by first | (simp; done) | (simp; omega) | omega) | refine Blk.below ?_ (by assumption)) | (refine Blk.setAt ?_ (by first | (simp; done) | (simp; omega))) | rfl))
  obtain ⟨lw3_0, cw3_0, fw3_0⟩ := Kw3_0.out.use
  go_wp2
  go_ret
  exact ⟨rfl, by repeat' (first | (with_reducible first | exact Below.refl _ _ | assumption | refine below_alloc ?_ _ | refine Below.drew ?_ | refine Go.Mq.below_drewN ?_ _ | refine below_then ?_ (by assumption) | refine below_put ?_ (by assumption) (by first | (simp; done) | (simp; omega) | omega) | refine Below.setCell ?_ ?_ _) | (simp; done) | (simp; omega) | omega)⟩
end Go.Proofs.YtmpdoiilakjmbaaDoor
