/- WordSigned: for every word, size and two bytes the law answers true. Conditions: none. -/
import Derived.Test.YtegilgnpkcjhpaaWord
namespace Go.Proofs.Ytegilgnpkcjhpaa.wordSigned
open Go.RowKit Go.Mq

set_option maxRecDepth 100000 in
theorem walk (a n h l : Int) (ha : U16 a) (_hn : I64 n) (hh : U8 h) (hl : U8 l) (w : World) :
    Calls Try.prog 4 #[.int .u16 a, .int .i64 n, .int .u8 h, .int .u8 l] w fun e w' => e = .returned (.bool true) ∧ w = w' := by
  obtain ⟨ha0, ha1⟩ := id ha; obtain ⟨hh0, hh1⟩ := id hh; obtain ⟨hl0, hl1⟩ := id hl
  have e1 : (a / 256 * 256 + a % 256 != a) = false := by rw [bne_eq_false_iff_eq]; omega
  by_cases h1 : n < 1
  · go_enter Try.func4, Try.ntmps4
    go_wp2_with fail
    refine (signed_bad a n (Or.inl h1) _).mono ?_
    rintro e w' ⟨rfl, rfl⟩
    go_wp2_with fail
    refine (bytes_any a ha _).mono ?_
    rintro e w' ⟨rfl, rfl⟩
    go_wp2_with fail
    refine (reckoned_any _).mono ?_
    rintro e w' ⟨rfl, rfl⟩
    go_wp2_with fail
    refine (of_any h l hh0 hh1 hl0 hl1 _).mono ?_
    rintro e w' ⟨rfl, rfl⟩
    go_wp2
    go_ret
    exact ⟨rfl, rfl⟩
  · by_cases h2 : 16 < n
    · go_enter Try.func4, Try.ntmps4
      go_wp2_with fail
      refine (signed_bad a n (Or.inr h2) _).mono ?_
      rintro e w' ⟨rfl, rfl⟩
      go_wp2_with fail
      refine (bytes_any a ha _).mono ?_
      rintro e w' ⟨rfl, rfl⟩
      go_wp2_with fail
      refine (reckoned_any _).mono ?_
      rintro e w' ⟨rfl, rfl⟩
      go_wp2_with fail
      refine (of_any h l hh0 hh1 hl0 hl1 _).mono ?_
      rintro e w' ⟨rfl, rfl⟩
      go_wp2
      go_ret
      exact ⟨rfl, rfl⟩
    · go_enter Try.func4, Try.ntmps4
      go_wp2_with fail
      refine (signed_ok a n ha (by omega) (by omega) _).mono ?_
      rintro e w' ⟨rfl, rfl⟩
      go_wp2_with fail
      refine (bytes_any a ha _).mono ?_
      rintro e w' ⟨rfl, rfl⟩
      go_wp2_with fail
      refine (reckoned_any _).mono ?_
      rintro e w' ⟨rfl, rfl⟩
      go_wp2_with fail
      refine (of_any h l hh0 hh1 hl0 hl1 _).mono ?_
      rintro e w' ⟨rfl, rfl⟩
      go_wp2_with fail
      refine (lowest_ok a n ha (by omega) (by omega) _).mono ?_
      rintro e w' ⟨rfl, rfl⟩
      go_wp2
      go_ret
      exact ⟨rfl, rfl⟩
end Go.Proofs.Ytegilgnpkcjhpaa.wordSigned
