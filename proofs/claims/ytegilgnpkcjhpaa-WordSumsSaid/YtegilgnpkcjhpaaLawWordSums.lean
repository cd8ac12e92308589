/- WordSums: for every two words and every number the law answers true. Conditions: none. -/
import Derived.Test.YtegilgnpkcjhpaaWordRes
namespace Go.Proofs.Ytegilgnpkcjhpaa.wordSums
open Go.RowKit Go.Mq

set_option maxRecDepth 100000 in
theorem walk (a b n : Int) (ha : U16 a) (hb : U16 b) (_hn : I64 n) (w : World) :
    Calls Try.prog 7 #[.int .u16 a, .int .u16 b, .int .i64 n] w fun e w' => e = .returned (.bool true) ∧ Below w.heap.size w w' := by
  by_cases h1 : n < 0
  · go_enter Try.func7, Try.ntmps7
    go_wp2_with fail
    refine (add_any a b ha hb _).mono ?_
    rintro e w' ⟨rfl, rfl⟩
    go_wp2_with fail
    refine (sub_any a b ha hb _).mono ?_
    rintro e w' ⟨rfl, rfl⟩
    go_wp2_with fail
    refine (mul_any a b ha hb _).mono ?_
    rintro e w' ⟨rfl, rfl⟩
    go_wp2_with fail
    refine (sum_any a b ha hb _).mono ?_
    rintro e w' ⟨rfl, rfl⟩
    go_wp2_with fail
    refine (less_any a b ha hb _).mono ?_
    rintro e w' ⟨rfl, rfl⟩
    go_wp2_with fail
    refine (result_28 a b ha hb _).mono ?_
    rintro e w1 ⟨rfl, hb1⟩
    go_wp2_with fail
    refine (reckoned_any _).mono ?_
    rintro e w' ⟨rfl, rfl⟩
    go_wp2_with fail
    refine (shl_bad a n (Or.inl h1) _).mono ?_
    rintro e w' ⟨rfl, rfl⟩
    go_wp2_with fail
    refine (shr_bad a n (Or.inl h1) _).mono ?_
    rintro e w' ⟨rfl, rfl⟩
    go_wp2
    go_ret
    exact ⟨rfl, hb1⟩
  · by_cases h2 : 15 < n
    · go_enter Try.func7, Try.ntmps7
      go_wp2_with fail
      refine (add_any a b ha hb _).mono ?_
      rintro e w' ⟨rfl, rfl⟩
      go_wp2_with fail
      refine (sub_any a b ha hb _).mono ?_
      rintro e w' ⟨rfl, rfl⟩
      go_wp2_with fail
      refine (mul_any a b ha hb _).mono ?_
      rintro e w' ⟨rfl, rfl⟩
      go_wp2_with fail
      refine (sum_any a b ha hb _).mono ?_
      rintro e w' ⟨rfl, rfl⟩
      go_wp2_with fail
      refine (less_any a b ha hb _).mono ?_
      rintro e w' ⟨rfl, rfl⟩
      go_wp2_with fail
      refine (result_28 a b ha hb _).mono ?_
      rintro e w1 ⟨rfl, hb1⟩
      go_wp2_with fail
      refine (reckoned_any _).mono ?_
      rintro e w' ⟨rfl, rfl⟩
      go_wp2_with fail
      refine (shl_bad a n (Or.inr h2) _).mono ?_
      rintro e w' ⟨rfl, rfl⟩
      go_wp2_with fail
      refine (shr_bad a n (Or.inr h2) _).mono ?_
      rintro e w' ⟨rfl, rfl⟩
      go_wp2
      go_ret
      exact ⟨rfl, hb1⟩
    · go_enter Try.func7, Try.ntmps7
      go_wp2_with fail
      refine (add_any a b ha hb _).mono ?_
      rintro e w' ⟨rfl, rfl⟩
      go_wp2_with fail
      refine (sub_any a b ha hb _).mono ?_
      rintro e w' ⟨rfl, rfl⟩
      go_wp2_with fail
      refine (mul_any a b ha hb _).mono ?_
      rintro e w' ⟨rfl, rfl⟩
      go_wp2_with fail
      refine (sum_any a b ha hb _).mono ?_
      rintro e w' ⟨rfl, rfl⟩
      go_wp2_with fail
      refine (less_any a b ha hb _).mono ?_
      rintro e w' ⟨rfl, rfl⟩
      go_wp2_with fail
      refine (result_28 a b ha hb _).mono ?_
      rintro e w1 ⟨rfl, hb1⟩
      go_wp2_with fail
      refine (reckoned_any _).mono ?_
      rintro e w' ⟨rfl, rfl⟩
      go_wp2_with fail
      refine (shl_ok a n ha (by omega) (by omega) _).mono ?_
      rintro e w2 ⟨rfl, hd2⟩
      go_wp2_with fail
      refine (shr_ok a n ha (by omega) (by omega) _).mono ?_
      rintro e w3 ⟨rfl, hd3⟩
      go_wp2_with fail
      refine (up_any a n ha (by omega) (by omega) _).mono ?_
      rintro e w' ⟨rfl, rfl⟩
      go_wp2_with fail
      refine (down_any a n ha (by omega) (by omega) _).mono ?_
      rintro e w' ⟨rfl, rfl⟩
      go_wp2
      go_ret
      exact ⟨rfl, hb1.trans ((hd2.trans hd3).below _)⟩
end Go.Proofs.Ytegilgnpkcjhpaa.wordSums
