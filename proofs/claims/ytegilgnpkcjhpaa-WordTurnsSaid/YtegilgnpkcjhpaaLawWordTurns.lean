/- WordTurns: for every two words the law answers true. Conditions: none. -/
import Derived.Test.YtegilgnpkcjhpaaWord
import Derived.Test.YtegilgnpkcjhpaaFrame
namespace Go.Proofs.Ytegilgnpkcjhpaa.wordTurns
open Go.RowKit Go.Mq

theorem addN_comm (a b : Int) : addN b a = addN a b := by unfold addN; omega
theorem addC_comm (a b : Int) : addC b a = addC a b := by unfold addC; rw [Bool.eq_iff_iff]; simp; omega
theorem addV_comm (a b : Int) : addV b a = addV a b := by unfold addV; rw [Bool.eq_iff_iff]; simp; omega
theorem mulN_comm (a b : Int) : mulN b a = mulN a b := by unfold mulN; rw [Int.mul_comm]
theorem mulH_comm (a b : Int) : mulH b a = mulH a b := by unfold mulH; rw [Int.mul_comm]
theorem sub_add (a b : Int) : addN a (subN 0 b) = subN a b := by unfold addN subN; omega

set_option maxRecDepth 100000 in
theorem walk (a b : Int) (ha : U16 a) (hb : U16 b) (w : World) :
    Calls Try.prog 3 #[.int .u16 a, .int .u16 b] w fun e w' => e = .returned (.bool true) ∧ w = w' := by
  have h2 := add_any b a hb ha
  rw [addN_comm, addC_comm, addV_comm] at h2
  have h3 := add_any a (subN 0 b) ha (subN_u 0 b)
  rw [sub_add] at h3
  have h4 := mul_any b a hb ha
  rw [mulN_comm, mulH_comm] at h4
  have H2 := Lib.hid h2
  have H3 := Lib.hid h3
  have H4 := Lib.hid h4
  clear h2 h3 h4
  go_enter Try.func3, Try.ntmps3
  go_wp2_with fail
  refine (add_any a b ha hb _).mono ?_
  rintro e w' ⟨rfl, rfl⟩
  go_wp2_with fail
  refine (H2.out _).mono ?_
  rintro e w' ⟨rfl, rfl⟩
  go_wp2_with fail
  refine (sub_any a b ha hb _).mono ?_
  rintro e w' ⟨rfl, rfl⟩
  go_wp2_with fail
  refine (sub_any 0 b ⟨by omega, by omega⟩ hb _).mono ?_
  rintro e w' ⟨rfl, rfl⟩
  go_wp2_with fail
  refine (H3.out _).mono ?_
  rintro e w' ⟨rfl, rfl⟩
  go_wp2_with fail
  refine (mul_any a b ha hb _).mono ?_
  rintro e w' ⟨rfl, rfl⟩
  go_wp2_with fail
  refine (H4.out _).mono ?_
  rintro e w' ⟨rfl, rfl⟩
  go_wp2_with fail
  refine (reckoned_any _).mono ?_
  rintro e w' ⟨rfl, rfl⟩
  go_wp2
  go_ret
  exact ⟨rfl, rfl⟩
end Go.Proofs.Ytegilgnpkcjhpaa.wordTurns
