/- The row of TimerParts: for every input the law answers true, and each argument reads as it did. Conditions: none. -/
import Derived.Test.YtncnjdkabkeepaaLawTimerParts
import Derived.Test.YtncnjdkabkeepaaFrame

namespace Go.Proofs.Ytncnjdkabkeepaa.timerParts
open Go.ChangeShapes Go.WideShapes Go.ChangeAt Go.RowKit Go.Mq
set_option linter.unusedVariables false
theorem own : ownKnob Try.prog.godebug = none := by kernel_rfl
theorem laid : laidOutB Try.prog = true := by kernel_rfl
theorem cells24 : Try.prog.cellsOf 24 = 4 := by kernel_rfl
theorem lok24 : leavesOk Try.prog 4 24 = true := by kernel_rfl
theorem cells4 : Try.prog.cellsOf 4 = 1 := by kernel_rfl
theorem cells22 : Try.prog.cellsOf 22 = 1 := by kernel_rfl
theorem leaves24 : leaves Try.prog 4 24 0 = [(0, 22), (1, 22), (2, 4), (3, 4)] := by kernel_rfl
set_option maxRecDepth 100000 in
theorem lifted (os : Os) (started : os.Started) (H : Type) (enc : TypeId × Value → H) :
    ReturnsInHanded {} Try.checked os 3 .any (Rows.timerPartsSpec.pre6 enc Try.prog Try.f3 Rows.timerPartsRow.domain false) (Rows.timerPartsSpec.post enc Try.prog Try.f3 false true false false) := by
  refine returnsInHanded_of_change (C := Try.checked) own started (by kernel_rfl) Try.func3
    (ChangeSpec.witness6 (enc := enc) (C := Try.checked) false ⟨#[], #[.agg #[.int .u16 0, .int .u16 0, .bool false, .bool false], .int .i64 0, .int .i64 0], []⟩ 8 (by kernel_rfl) (by kernel_rfl) (by kernel_rfl) (by kernel_rfl)) ?_
  intro W base args ds gs before hval0 hW hcnd _
  have hval : ∀ (j : Nat) t v, Try.f3.params[j]? = some t → args[j]? = some v → Value.okWide Try.prog W .any base t v := hval0
  have hW' := hW
  obtain ⟨p, q, hA0, hV, rfl, hfz, hnd⟩ := hW
  have hA : DataW.TrodAll enc Try.prog W 0 (fun _ => true) true Try.f3.params.toList args.toList ds p := hA0
  rw [Try.params3] at hA hval
  obtain ⟨v0, vs0, d0, ds0, p0, q0, hargs, rfl, rfl, h0, r0⟩ := trodAll_cons hA
  obtain ⟨v1, vs1, d1, ds1, p1, q1, rfl, rfl, rfl, h1, r1⟩ := trodAll_cons r0
  obtain ⟨v2, vs2, d2, ds2, p2, q2, rfl, rfl, rfl, h2, r2⟩ := trodAll_cons r1
  obtain ⟨rfl, rfl, rfl⟩ := trodAll_nil r2
  obtain rfl : args = #[v0, v1, v2] := by cases args; simp_all
  obtain ⟨rfl, rfl⟩ := trodVars_none hV
  obtain ⟨cs0, rfl, hl0, fu0, hf0⟩ := open_row Try.underlying24 (hval 0 24 v0 rfl rfl) h0
  obtain ⟨a0_0, e0_0, w0_0⟩ := leaf_int (n := 4) (i := 0) (t' := 22) (k := .u16) lok24 (by rw [leaves24]; simp) Try.underlying22 cells22 hl0 hf0
  obtain ⟨a0_1, e0_1, w0_1⟩ := leaf_int (n := 4) (i := 1) (t' := 22) (k := .u16) lok24 (by rw [leaves24]; simp) Try.underlying22 cells22 hl0 hf0
  obtain ⟨a0_2, e0_2⟩ := leaf_bool (n := 4) (i := 2) (t' := 4) lok24 (by rw [leaves24]; simp) Try.underlying4 cells4 hl0 hf0
  obtain ⟨a0_3, e0_3⟩ := leaf_bool (n := 4) (i := 3) (t' := 4) lok24 (by rw [leaves24]; simp) Try.underlying4 cells4 hl0 hf0
  have q0x : cs0 = #[.int .u16 a0_0, .int .u16 a0_1, .bool a0_2, .bool a0_3] := cells_lit (eq_cons e0_0 ( eq_cons e0_1 ( eq_cons e0_2 ( eq_cons e0_3 (List.drop_eq_nil_of_le (by rw [hl0, cells24]; exact Nat.le_refl _))))))
  subst q0x
  obtain ⟨a1, rfl, rfl, rfl, w1⟩ := open_int Try.underlying3 (hval 1 3 v1 rfl rfl) h1
  obtain ⟨a2, rfl, rfl, rfl, w2⟩ := open_int Try.underlying3 (hval 2 3 v2 rfl rfl) h2
  clear hA0 hval0
  refine (walk a0_0 a0_1 a0_2 a0_3 a1 a2 (bounds_u16 w0_0) (bounds_u16 w0_1) (bounds_i64 w1) (bounds_i64 w2) W).mono fun e W' ⟨he, hb⟩ => ?_
  subst he
  have hb' : Below W.heap.size W W' := by first | exact hb | (subst hb; exact Below.refl _ _)
  exact ⟨_, rfl, law_post laid (by kernel_rfl) rfl Try.underlying4 rfl rfl hW' hb'⟩

theorem over : Rows.timerPartsRow.holds Try.pinned (OpenSpec.ofChange Rows.timerPartsSpec) :=
  OpenClaim.holds_of_wide 3 Try.f3 rfl rfl rfl rfl rfl rfl rfl ⟨rfl, rfl, rfl, rfl, rfl⟩ rfl rfl rfl rfl rfl (by kernel_rfl) Try.func3 (by kernel_rfl)
    (of_decide_eq_true (by kernel_rfl)) (by unfold Func.isWrapper; first | (rw [if_pos (by decide +kernel)]; kernel_rfl) | (rw [if_neg (by decide +kernel)]; exact ⟨rfl, rfl⟩))
    (fun os started H enc _ => lifted os started H enc)

theorem proved : Rows.TimerPartsSaid :=
  over
#print axioms proved
end Go.Proofs.Ytncnjdkabkeepaa.timerParts
