/- bytes.Equal by its contract: two slices of bytes, each whatever, nil too. Conditions: their cells are bytes. -/
import Derived.Test.YtmpdoiilakjmbaaDoorRows
import Derived.Test.YtmpdoiilakjmbaaDoorBase
import Derived.Laws.BytesArg
import Derived.Lib.Bytes
namespace Go.Proofs.YtmpdoiilakjmbaaDoor
open Go.RowKit Go.Mq
set_option linter.unusedVariables false
set_option linter.unusedSimpArgs false

theorem conv_any {w : World} {v : Value} {xs : List Int} (h : SliceAt w .u8 v xs) : (convert 22 9 v).run Tryd.prog w = .ok (.string (strOfNums xs)) w := by
  obtain ⟨a, cap, rfl, h1, h2, hwf, h3⟩ := h
  by_cases h0 : 0 < xs.length
  · obtain ⟨b, off, rfl, hlt, hc⟩ := h3 h0
    exact run_convert_bytes_arg w _ _ Tryd.underlying22 Tryd.underlying5 b off xs.length cap xs rfl hc _ Tryd.underlying9
  · have hn : xs = [] := List.length_eq_zero_iff.1 (by omega)
    subst hn
    cases a with
    | none => exact run_convert_bytes_nil w _ _ Tryd.underlying22 Tryd.underlying5 0 cap _ Tryd.underlying9
    | some ad =>
      rw [run_convert_bytes_string w _ _ _ _ _ _ Tryd.underlying22 Tryd.underlying5 Tryd.underlying9]
      have hl : (loadCells ad 0).run Tryd.prog w = .ok #[] w := rfl
      simp [Conv.bytesToString, hl, strOfNums]
      rfl

theorem byte_in {x : Int} (h : (Lit.int .u8 x).wf = true) : 0 ≤ x ∧ x ≤ 255 := by
  have := bounds_u8 h
  omega
theorem str_inj {xs ys : List Int} (hx : ∀ x ∈ xs, (Lit.int .u8 x).wf = true) (hy : ∀ x ∈ ys, (Lit.int .u8 x).wf = true) (h : (strOfNums xs).toList = (strOfNums ys).toList) : xs = ys := by
  have h' := h
  rw [Lib.strOfNums_toList, Lib.strOfNums_toList] at h'
  unfold Lib.bytesOf at h'
  clear h
  induction xs generalizing ys with
  | nil => cases ys with
    | nil => rfl
    | cons y ys => simp at h'
  | cons x xs ih =>
    cases ys with
    | nil => simp at h'
    | cons y ys =>
      simp only [List.map_cons, List.cons.injEq] at h'
      have b1 := byte_in (hx x (by simp))
      have b2 := byte_in (hy y (by simp))
      have e : x = y := by
        have := congrArg UInt8.toNat h'.1
        simp at this
        omega
      rw [e, ih (fun z hz => hx z (by simp [hz])) (fun z hz => hy z (by simp [hz])) h'.2]
theorem str_eq {xs ys : List Int} (hx : ∀ x ∈ xs, (Lit.int .u8 x).wf = true) (hy : ∀ x ∈ ys, (Lit.int .u8 x).wf = true) : ((strOfNums xs).toList == (strOfNums ys).toList) = decide (xs = ys) := by
  by_cases h : xs = ys
  · subst h; simp
  · rw [decide_eq_false h, beq_eq_false_iff_ne]
    exact fun e => h (str_inj hx hy e)

theorem bytesEqual_any (v u : Value) (xs ys : List Int) (w : World) (h1 : SliceAt w .u8 v xs) (h2 : SliceAt w .u8 u ys) :
    Calls Tryd.prog 11 #[v, u] w fun e w' => e = .returned (.bool (decide (xs = ys))) ∧ w = w' := by
  have c1 := conv_any h1
  have c2 := conv_any h2
  have hw : ∀ {v : Value} {xs : List Int}, SliceAt w .u8 v xs → ∀ x ∈ xs, (Lit.int .u8 x).wf = true := fun h => by obtain ⟨_, _, _, _, _, hwf, _⟩ := h; exact hwf
  have he := str_eq (hw h1) (hw h2)
  obtain ⟨a, cap, rfl, h1', -⟩ := h1
  obtain ⟨a', cap', rfl, h2', -⟩ := h2
  generalize strOfNums xs = S1 at *
  generalize strOfNums ys = S2 at *
  rw [← he]
  clear he hw
  go_enter Tryd.func11, Tryd.ntmps11
  go_wp2
  go_ret
  exact ⟨rfl, rfl⟩
end Go.Proofs.YtmpdoiilakjmbaaDoor
