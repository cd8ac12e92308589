/- slices.ContainsFunc at bytes, where the function asks whether a byte is not zero. Conditions: the slice's cells are bytes. -/
import Derived.Test.YtcgigpglpbhakaaRows
import Derived.Test.YtcgigpglpbhakaaBase
namespace Go.Proofs.Ytcgigpglpbhakaa
open Go.RowKit Go.Mq
set_option linter.unusedVariables false
set_option linter.unusedSimpArgs false

theorem notZero_any (x : Int) (w : World) : Calls Try.prog 24 #[.int .u8 x] w fun e w' => e = .returned (.bool (!(x == 0))) ∧ w = w' := by
  go_enter Try.func24, Try.ntmps24
  go_wp2
  go_ret
  exact ⟨rfl, rfl⟩

/-- none of them answers -/
theorem indexFunc_none (v : Value) (xs : List Int) (w : World) (h : SliceAt w .u8 v xs) (hz : ∀ x ∈ xs, x = 0) (hl : xs.length ≤ 20000) :
    Calls Try.prog 43 #[v, .func (.func 24) #[] #[]] w fun e w' => e = .returned (.int .i64 (-1)) ∧ w = w' := by
  obtain ⟨a, cap, rfl, h1, h2, hwf, h3⟩ := h
  have hzi : ∀ i, i < xs.length → xs.getD i 0 = 0 := fun i hi => by rw [List.getD_eq_getElem?_getD, List.getElem?_eq_getElem hi]; exact hz _ (List.getElem_mem hi)
  generalize hn : xs.length = n at *
  have hn' : (n : Int) ≤ 20000 := by omega
  have HZ := Lib.hid hzi
  have H3 := Lib.hid h3
  clear hz hwf hzi h3 hn
  go_enter Try.func43, Try.ntmps43
  go_wp2
  go_loop [8] (fun i => ∃ k : Nat, k ≤ n ∧ i = .int .i64 k) (fun i => (n - intOf i).toNat)
  case atStart => exact ⟨0, by omega, rfl⟩
  case round =>
    obtain ⟨k, hk, rfl⟩ := hrel
    by_cases hkn : k < n
    · obtain ⟨b, off, rfl, hb, hc⟩ := H3.out (by omega)
      have hck := hc k hkn
      rw [HZ.out k hkn] at hck
      have hki : (k : Int) < n := by omega
      clear hc
      go_wp2_with (go_at_call 24; refine (notZero_any 0 _).mono ?_; rintro e w1 ⟨rfl, rfl⟩)
      go_roundw
      case rel => exact ⟨k + 1, by omega, by go_num⟩
      case measure => simp [intOf]; omega
    · have hkn' : k = n := by omega
      subst hkn'
      go_wp2
      go_ret
      exact ⟨rfl, rfl⟩

theorem containsFunc_none (v : Value) (xs : List Int) (w : World) (h : SliceAt w .u8 v xs) (hz : ∀ x ∈ xs, x = 0) (hl : xs.length ≤ 20000) :
    Calls Try.prog 23 #[v, .func (.func 24) #[] #[]] w fun e w' => e = .returned (.bool false) ∧ w = w' := by
  have hi := Lib.hid (indexFunc_none v xs w h hz hl)
  clear h hz
  go_enter Try.func23, Try.ntmps23
  go_wp2_with fail
  refine (hi.out).mono ?_
  rintro e w' ⟨rfl, rfl⟩
  go_wp2
  go_ret
  exact ⟨rfl, rfl⟩
end Go.Proofs.Ytcgigpglpbhakaa
