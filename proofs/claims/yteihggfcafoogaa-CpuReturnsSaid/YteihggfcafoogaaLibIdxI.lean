/- slices.Contains at []int. Conditions: the slice's cells are ints. -/
import Derived.Test.YteihggfcafoogaaRows
import Derived.Test.YteihggfcafoogaaBase
namespace Go.Proofs.Yteihggfcafoogaa
open Go.RowKit Go.Mq
set_option linter.unusedVariables false
set_option linter.unusedSimpArgs false
theorem indexI_any (v : Value) (xs : List Int) (x : Int) (w : World) (h : SliceAt w .i64 v xs) (hl : xs.length ≤ 1000000) :
    Calls Try.prog 28 #[v, .int .i64 x] w fun e w' => (∃ i : Int, e = .returned (.int .i64 i) ∧ (0 ≤ i ↔ x ∈ xs) ∧ -1 ≤ i) ∧ w = w' := by
  obtain ⟨a, cap, rfl, h1, h2, hwf, h3⟩ := h
  have hmem : ∀ i, i < xs.length → xs.getD i 0 ∈ xs := fun i hi => by rw [List.getD_eq_getElem?_getD, List.getElem?_eq_getElem hi]; exact List.getElem_mem hi
  have hall : (∀ i, i < xs.length → xs.getD i 0 ≠ x) → x ∉ xs := fun h hx => by
    obtain ⟨i, hi, he⟩ := List.mem_iff_getElem.1 hx
    have := h i hi
    rw [List.getD_eq_getElem?_getD, List.getElem?_eq_getElem hi] at this
    exact this he
  have HM := Lib.hid hmem
  have HA := Lib.hid hall
  have H3 := Lib.hid h3
  have hn' : (xs.length : Int) ≤ 1000000 := by omega
  clear hwf h3 hmem hall
  go_enter Try.func28, Try.ntmps28
  go_wp2
  go_loop [8] (fun i => ∃ k : Nat, k ≤ xs.length ∧ i = .int .i64 k ∧ Hid (∀ j, j < k → xs.getD j 0 ≠ x)) (fun i => (xs.length - intOf i).toNat)
  case atStart => exact ⟨0, by omega, rfl, Lib.hid (fun j hj => by omega)⟩
  case round =>
    obtain ⟨k, hk, rfl, hx⟩ := hrel
    by_cases hkn : k < xs.length
    · obtain ⟨b, off, rfl, hb, hc⟩ := H3.out (by omega)
      have hck := hc k hkn
      have hki : (k : Int) < xs.length := by omega
      have hm := HM.out k hkn
      obtain ⟨y, ey⟩ : ∃ y, y = xs.getD k 0 := ⟨_, rfl⟩
      rw [← ey] at hck hm
      replace ey := Lib.hid ey
      clear hc
      by_cases hxy : x = y
      · subst hxy
        go_wp2
        go_ret
        refine ⟨⟨(k : Int), rfl, by omega, by omega⟩, rfl⟩
      · have hb : (x == y) = false := beq_eq_false_iff_ne.2 hxy
        go_wp2
        go_roundw
        case rel =>
          refine ⟨k + 1, by omega, by go_num, Lib.hid fun j hj => ?_⟩
          rcases (by omega : j < k ∨ j = k) with h | h
          · exact hx.out j h
          · rw [h, ← ey.out]; exact fun e => hxy e.symm
        case measure => simp [intOf]; omega
    · have hkn' : k = xs.length := by omega
      have hno := HA.out (fun i hi => hx.out i (by omega))
      subst hkn'
      go_wp2
      go_ret
      refine ⟨⟨(-1 : Int), rfl, by omega, by omega⟩, rfl⟩
theorem containsI_any (v : Value) (xs : List Int) (x : Int) (w : World) (h : SliceAt w .i64 v xs) (hl : xs.length ≤ 1000000) :
    Calls Try.prog 18 #[v, .int .i64 x] w fun e w' => e = .returned (.bool (decide (x ∈ xs))) ∧ w = w' := by
  have IX := Lib.hid (indexI_any v xs x w h hl)
  clear h
  go_enter Try.func18, Try.ntmps18
  go_wp2_with fail
  refine IX.out.mono ?_
  rintro e w1 ⟨⟨i, rfl, hi, hm⟩, rfl⟩
  have hd : decide (0 ≤ i) = decide (x ∈ xs) := by
    apply decide_eq_decide.2
    exact hi
  have HD := Lib.hid hd
  clear hd hi
  go_wp2
  go_ret
  exact ⟨by rw [← HD.out]; first | rfl | simp, rfl⟩
end Go.Proofs.Yteihggfcafoogaa
