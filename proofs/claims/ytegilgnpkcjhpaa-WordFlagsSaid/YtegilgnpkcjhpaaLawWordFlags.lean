/- WordFlags: for every order's number and every two words the law answers true. Conditions: none. -/
import Derived.Test.YtegilgnpkcjhpaaWordFlags
namespace Go.Proofs.Ytegilgnpkcjhpaa.wordFlags
open Go.RowKit Go.Mq

set_option maxRecDepth 100000 in
theorem walk_7 (a b : Int) (ha : U16 a) (hb : U16 b) (w : World) :
    Calls Try.prog 11 #[.int .i64 7, .int .u16 a, .int .u16 b] w fun e w' => e = .returned (.bool true) ∧ Below w.heap.size w w' := by
  go_enter Try.func11, Try.ntmps11
  go_wp2_with fail
  refine (flags_7 a b ha hb _).mono ?_
  rintro e w1 ⟨rfl, hb1⟩
  go_wp2_with fail
  refine (result_7 a b ha hb _).mono ?_
  rintro e w2 ⟨rfl, hb2⟩
  go_wp2_with fail
  refine (reckoned_any _).mono ?_
  rintro e w' ⟨rfl, rfl⟩
  go_wp2
  go_ret
  exact ⟨rfl, hb1.trans (hb2.mono hb1.size)⟩
set_option maxRecDepth 100000 in
theorem walk_15 (a b : Int) (ha : U16 a) (hb : U16 b) (w : World) :
    Calls Try.prog 11 #[.int .i64 15, .int .u16 a, .int .u16 b] w fun e w' => e = .returned (.bool true) ∧ Below w.heap.size w w' := by
  go_enter Try.func11, Try.ntmps11
  go_wp2_with fail
  refine (flags_15 a b ha hb _).mono ?_
  rintro e w1 ⟨rfl, hb1⟩
  go_wp2_with fail
  refine (result_15 a b ha hb _).mono ?_
  rintro e w2 ⟨rfl, hb2⟩
  go_wp2_with fail
  refine (reckoned_any _).mono ?_
  rintro e w' ⟨rfl, rfl⟩
  go_wp2
  go_ret
  exact ⟨rfl, hb1.trans (hb2.mono hb1.size)⟩
set_option maxRecDepth 100000 in
theorem walk_8 (a b : Int) (ha : U16 a) (hb : U16 b) (w : World) :
    Calls Try.prog 11 #[.int .i64 8, .int .u16 a, .int .u16 b] w fun e w' => e = .returned (.bool true) ∧ Below w.heap.size w w' := by
  go_enter Try.func11, Try.ntmps11
  go_wp2_with fail
  refine (flags_8 a b ha hb _).mono ?_
  rintro e w1 ⟨rfl, hb1⟩
  go_wp2_with fail
  refine (result_8 a b ha hb _).mono ?_
  rintro e w2 ⟨rfl, hb2⟩
  go_wp2_with fail
  refine (reckoned_any _).mono ?_
  rintro e w' ⟨rfl, rfl⟩
  go_wp2
  go_ret
  exact ⟨rfl, hb1.trans (hb2.mono hb1.size)⟩
set_option maxRecDepth 100000 in
theorem walk_14 (a b : Int) (ha : U16 a) (hb : U16 b) (w : World) :
    Calls Try.prog 11 #[.int .i64 14, .int .u16 a, .int .u16 b] w fun e w' => e = .returned (.bool true) ∧ Below w.heap.size w w' := by
  go_enter Try.func11, Try.ntmps11
  go_wp2_with fail
  refine (flags_14 a b ha hb _).mono ?_
  rintro e w1 ⟨rfl, hb1⟩
  go_wp2_with fail
  refine (result_14 a b ha hb _).mono ?_
  rintro e w2 ⟨rfl, hb2⟩
  go_wp2_with fail
  refine (reckoned_any _).mono ?_
  rintro e w' ⟨rfl, rfl⟩
  go_wp2
  go_ret
  exact ⟨rfl, hb1.trans (hb2.mono hb1.size)⟩
set_option maxRecDepth 100000 in
theorem walk_9 (a b : Int) (ha : U16 a) (hb : U16 b) (w : World) :
    Calls Try.prog 11 #[.int .i64 9, .int .u16 a, .int .u16 b] w fun e w' => e = .returned (.bool true) ∧ Below w.heap.size w w' := by
  go_enter Try.func11, Try.ntmps11
  go_wp2_with fail
  refine (flags_9 a b ha hb _).mono ?_
  rintro e w1 ⟨rfl, hb1⟩
  go_wp2_with fail
  refine (result_9 a b ha hb _).mono ?_
  rintro e w2 ⟨rfl, hb2⟩
  go_wp2_with fail
  refine (reckoned_any _).mono ?_
  rintro e w' ⟨rfl, rfl⟩
  go_wp2
  go_ret
  exact ⟨rfl, hb1.trans (hb2.mono hb1.size)⟩
set_option maxRecDepth 100000 in
theorem walk_10 (a b : Int) (ha : U16 a) (hb : U16 b) (w : World) :
    Calls Try.prog 11 #[.int .i64 10, .int .u16 a, .int .u16 b] w fun e w' => e = .returned (.bool true) ∧ Below w.heap.size w w' := by
  go_enter Try.func11, Try.ntmps11
  go_wp2_with fail
  refine (flags_10 a b ha hb _).mono ?_
  rintro e w1 ⟨rfl, hb1⟩
  go_wp2_with fail
  refine (result_10 a b ha hb _).mono ?_
  rintro e w2 ⟨rfl, hb2⟩
  go_wp2_with fail
  refine (reckoned_any _).mono ?_
  rintro e w' ⟨rfl, rfl⟩
  go_wp2
  go_ret
  exact ⟨rfl, hb1.trans (hb2.mono hb1.size)⟩
set_option maxRecDepth 100000 in
theorem walk_11 (a b : Int) (ha : U16 a) (hb : U16 b) (w : World) :
    Calls Try.prog 11 #[.int .i64 11, .int .u16 a, .int .u16 b] w fun e w' => e = .returned (.bool true) ∧ Below w.heap.size w w' := by
  go_enter Try.func11, Try.ntmps11
  go_wp2_with fail
  refine (flags_11 a b ha hb _).mono ?_
  rintro e w1 ⟨rfl, hb1⟩
  go_wp2_with fail
  refine (result_11 a b ha hb _).mono ?_
  rintro e w2 ⟨rfl, hb2⟩
  go_wp2_with fail
  refine (reckoned_any _).mono ?_
  rintro e w' ⟨rfl, rfl⟩
  go_wp2
  go_ret
  exact ⟨rfl, hb1.trans (hb2.mono hb1.size)⟩
set_option maxRecDepth 100000 in
theorem walk_28 (a b : Int) (ha : U16 a) (hb : U16 b) (w : World) :
    Calls Try.prog 11 #[.int .i64 28, .int .u16 a, .int .u16 b] w fun e w' => e = .returned (.bool true) ∧ Below w.heap.size w w' := by
  go_enter Try.func11, Try.ntmps11
  go_wp2_with fail
  refine (flags_28 a b ha hb _).mono ?_
  rintro e w1 ⟨rfl, hb1⟩
  go_wp2_with fail
  refine (result_28 a b ha hb _).mono ?_
  rintro e w2 ⟨rfl, hb2⟩
  go_wp2_with fail
  refine (reckoned_any _).mono ?_
  rintro e w' ⟨rfl, rfl⟩
  go_wp2
  go_ret
  exact ⟨rfl, hb1.trans (hb2.mono hb1.size)⟩

set_option maxRecDepth 100000 in
theorem walk_no (op a b : Int) (h : NoSum op) (w : World) :
    Calls Try.prog 11 #[.int .i64 op, .int .u16 a, .int .u16 b] w fun e w' => e = .returned (.bool true) ∧ Below w.heap.size w w' := by
  go_enter Try.func11, Try.ntmps11
  go_wp2_with fail
  refine (flags_no op a b h _).mono ?_
  rintro e w1 ⟨rfl, hb1⟩
  go_wp2_with fail
  refine (result_no op a b h _).mono ?_
  rintro e w2 ⟨rfl, hb2⟩
  go_wp2_with fail
  refine (reckoned_any _).mono ?_
  rintro e w' ⟨rfl, rfl⟩
  go_wp2_with fail
  refine (reckoned_any _).mono ?_
  rintro e w' ⟨rfl, rfl⟩
  go_wp2
  go_ret
  exact ⟨rfl, hb1.trans (hb2.mono hb1.size)⟩

theorem walk (op a b : Int) (_ho : I64 op) (ha : U16 a) (hb : U16 b) (w : World) :
    Calls Try.prog 11 #[.int .i64 op, .int .u16 a, .int .u16 b] w fun e w' => e = .returned (.bool true) ∧ Below w.heap.size w w' := by
  by_cases h7 : op = 7
  · subst h7; exact walk_7 a b ha hb w
  by_cases h15 : op = 15
  · subst h15; exact walk_15 a b ha hb w
  by_cases h8 : op = 8
  · subst h8; exact walk_8 a b ha hb w
  by_cases h14 : op = 14
  · subst h14; exact walk_14 a b ha hb w
  by_cases h9 : op = 9
  · subst h9; exact walk_9 a b ha hb w
  by_cases h10 : op = 10
  · subst h10; exact walk_10 a b ha hb w
  by_cases h11 : op = 11
  · subst h11; exact walk_11 a b ha hb w
  by_cases h28 : op = 28
  · subst h28; exact walk_28 a b ha hb w
  refine walk_no op a b ?_ w
  unfold NoSum
  simp [h7, h15, h8, h14, h9, h10, h11, h28]
end Go.Proofs.Ytegilgnpkcjhpaa.wordFlags
