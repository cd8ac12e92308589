/- The row of BeamRuns: for every input the law answers true, and each argument reads as it did. Conditions: none. -/
import Derived.Test.YtegilgnpkcjhpaaLawBeamRuns
import Derived.Test.YtegilgnpkcjhpaaFrame

namespace Go.Proofs.Ytegilgnpkcjhpaa.beamRuns
open Go.ChangeShapes Go.WideShapes Go.ChangeAt Go.RowKit Go.Mq
set_option linter.unusedVariables false
theorem own : ownKnob Try.prog.godebug = none := by kernel_rfl
theorem laid : laidOutB Try.prog = true := by kernel_rfl
theorem cells59 : Try.prog.cellsOf 59 = 4 := by kernel_rfl
theorem lok59 : leavesOk Try.prog 4 59 = true := by kernel_rfl
theorem cells4 : Try.prog.cellsOf 4 = 1 := by kernel_rfl
theorem cells3 : Try.prog.cellsOf 3 = 1 := by kernel_rfl
theorem leaves59 : leaves Try.prog 4 59 0 = [(0, 3), (1, 3), (2, 4), (3, 3)] := by kernel_rfl
set_option maxRecDepth 100000 in
theorem lifted (os : Os) (started : os.Started) (H : Type) (enc : TypeId × Value → H) :
    ReturnsInHanded {} Try.checked os 14 .any (Rows.beamRunsSpec.pre6 enc Try.prog Try.f14 Rows.beamRunsRow.domain false) (Rows.beamRunsSpec.post enc Try.prog Try.f14 false true false false) := by
  refine returnsInHanded_of_change (C := Try.checked) own started (by kernel_rfl) Try.func14
    (ChangeSpec.witness6 (enc := enc) (C := Try.checked) false ⟨#[], #[.agg #[.int .i64 0, .int .i64 0, .bool false, .int .i64 0], .int .i64 0], []⟩ 8 (by kernel_rfl) (by kernel_rfl) (by kernel_rfl) (by kernel_rfl)) ?_
  intro W base args ds gs before hval0 hW hcnd _
  have hval : ∀ (j : Nat) t v, Try.f14.params[j]? = some t → args[j]? = some v → Value.okWide Try.prog W .any base t v := hval0
  have hW' := hW
  obtain ⟨p, q, hA0, hV, rfl, hfz, hnd⟩ := hW
  have hA : DataW.TrodAll enc Try.prog W 0 (fun _ => true) true Try.f14.params.toList args.toList ds p := hA0
  rw [Try.params14] at hA hval
  obtain ⟨v0, vs0, d0, ds0, p0, q0, hargs, rfl, rfl, h0, r0⟩ := trodAll_cons hA
  obtain ⟨v1, vs1, d1, ds1, p1, q1, rfl, rfl, rfl, h1, r1⟩ := trodAll_cons r0
  obtain ⟨rfl, rfl, rfl⟩ := trodAll_nil r1
  obtain rfl : args = #[v0, v1] := by cases args; simp_all
  obtain ⟨rfl, rfl⟩ := trodVars_none hV
  obtain ⟨cs0, rfl, hl0, fu0, hf0⟩ := open_row Try.underlying59 (hval 0 59 v0 rfl rfl) h0
  obtain ⟨a0_0, e0_0, w0_0⟩ := leaf_int (n := 4) (i := 0) (t' := 3) (k := .i64) lok59 (by rw [leaves59]; simp) Try.underlying3 cells3 hl0 hf0
  obtain ⟨a0_1, e0_1, w0_1⟩ := leaf_int (n := 4) (i := 1) (t' := 3) (k := .i64) lok59 (by rw [leaves59]; simp) Try.underlying3 cells3 hl0 hf0
  obtain ⟨a0_2, e0_2⟩ := leaf_bool (n := 4) (i := 2) (t' := 4) lok59 (by rw [leaves59]; simp) Try.underlying4 cells4 hl0 hf0
  obtain ⟨a0_3, e0_3, w0_3⟩ := leaf_int (n := 4) (i := 3) (t' := 3) (k := .i64) lok59 (by rw [leaves59]; simp) Try.underlying3 cells3 hl0 hf0
  have q0x : cs0 = #[.int .i64 a0_0, .int .i64 a0_1, .bool a0_2, .int .i64 a0_3] := cells_lit (eq_cons e0_0 ( eq_cons e0_1 ( eq_cons e0_2 ( eq_cons e0_3 (List.drop_eq_nil_of_le (by rw [hl0, cells59]; exact Nat.le_refl _))))))
  subst q0x
  obtain ⟨a1, rfl, rfl, rfl, w1⟩ := open_int Try.underlying3 (hval 1 3 v1 rfl rfl) h1
  clear hA0 hval0
  refine (walk a0_0 a0_1 a0_2 a0_3 a1 (bounds_i64 w0_0) (bounds_i64 w0_1) (bounds_i64 w0_3) (bounds_i64 w1) W).mono fun e W' ⟨he, hb⟩ => ?_
  subst he
  have hb' : Below W.heap.size W W' := by first | exact hb | (subst hb; exact Below.refl _ _)
  exact ⟨_, rfl, law_post laid (by kernel_rfl) rfl Try.underlying4 rfl rfl hW' hb'⟩

theorem over : Rows.beamRunsRow.holds Try.pinned (OpenSpec.ofChange Rows.beamRunsSpec) :=
  OpenClaim.holds_of_wide 14 Try.f14 rfl rfl rfl rfl rfl rfl rfl ⟨rfl, rfl, rfl, rfl, rfl⟩ rfl rfl rfl rfl rfl (by kernel_rfl) Try.func14 (by kernel_rfl)
    (of_decide_eq_true (by kernel_rfl)) (by unfold Func.isWrapper; first | (rw [if_pos (by decide +kernel)]; kernel_rfl) | (rw [if_neg (by decide +kernel)]; exact ⟨rfl, rfl⟩))
    (fun os started H enc _ => lifted os started H enc)

theorem proved : Rows.BeamRunsSaid :=
  over
#print axioms proved
end Go.Proofs.Ytegilgnpkcjhpaa.beamRuns
