/- The row of CpuReturns: for every input the law answers true, and each argument reads as it did. Conditions: none. -/
import Derived.Test.YteihggfcafoogaaLawCpuReturns
import Derived.Test.YteihggfcafoogaaFrame2

namespace Go.Proofs.Yteihggfcafoogaa.cpuReturns
open Go.ChangeShapes Go.WideShapes Go.ChangeAt Go.RowKit Go.Mq
set_option linter.unusedVariables false
theorem own : ownKnob Try.prog.godebug = none := by kernel_rfl
theorem laid : laidOutB Try.prog = true := by kernel_rfl
theorem cells28 : Try.prog.cellsOf 28 = 15 := by kernel_rfl
theorem lok28 : leavesOk Try.prog 4 28 = true := by kernel_rfl
theorem cells4 : Try.prog.cellsOf 4 = 1 := by kernel_rfl
theorem cells25 : Try.prog.cellsOf 25 = 1 := by kernel_rfl
theorem leaves28 : leaves Try.prog 4 28 0 = [(0, 25), (1, 25), (2, 25), (3, 25), (4, 25), (5, 25), (6, 25), (7, 25), (8, 25), (9, 4), (10, 4), (11, 4), (12, 4), (13, 4), (14, 4)] := by kernel_rfl
theorem cells24 : Try.prog.cellsOf 24 = 2 := by kernel_rfl
theorem lok24 : leavesOk Try.prog 4 24 = true := by kernel_rfl
theorem cells22 : Try.prog.cellsOf 22 = 1 := by kernel_rfl
theorem cells5 : Try.prog.cellsOf 5 = 1 := by kernel_rfl
theorem leaves24 : leaves Try.prog 4 24 0 = [(0, 22), (1, 22)] := by kernel_rfl
set_option maxRecDepth 100000 in
theorem lifted (os : Os) (started : os.Started) (H : Type) (enc : TypeId × Value → H) :
    ReturnsInHanded {} Try.checked os 4 .any (Rows.cpuReturnsSpec.pre6 enc Try.prog Try.f4 Rows.cpuReturnsRow.domain false) (Rows.cpuReturnsSpec.post enc Try.prog Try.f4 false true false false) := by
  refine returnsInHanded_of_change (C := Try.checked) own started (by kernel_rfl) Try.func4
    (ChangeSpec.witness6 (enc := enc) (C := Try.checked) false ⟨#[], #[.agg #[.int .u16 0, .int .u16 0, .int .u16 0, .int .u16 0, .int .u16 0, .int .u16 0, .int .u16 0, .int .u16 0, .int .u16 0, .bool false, .bool false, .bool false, .bool false, .bool false, .bool false], .agg #[.slice none 0 0, .slice none 0 0]], []⟩ 8 (by kernel_rfl) (by kernel_rfl) (by kernel_rfl) (by kernel_rfl)) ?_
  intro W base args ds gs before hval0 hW hcnd _
  have hval : ∀ (j : Nat) t v, Try.f4.params[j]? = some t → args[j]? = some v → Value.okWide Try.prog W .any base t v := hval0
  have hW' := hW
  obtain ⟨p, q, hA0, hV, rfl, hfz, hnd⟩ := hW
  have hA : DataW.TrodAll enc Try.prog W 0 (fun _ => true) true Try.f4.params.toList args.toList ds p := hA0
  rw [Try.params4] at hA hval
  obtain ⟨v0, vs0, d0, ds0, p0, q0, hargs, rfl, rfl, h0, r0⟩ := trodAll_cons hA
  obtain ⟨v1, vs1, d1, ds1, p1, q1, rfl, rfl, rfl, h1, r1⟩ := trodAll_cons r0
  obtain ⟨rfl, rfl, rfl⟩ := trodAll_nil r1
  obtain rfl : args = #[v0, v1] := by cases args; simp_all
  obtain ⟨rfl, rfl⟩ := trodVars_none hV
  obtain ⟨cs0, rfl, hl0, fu0, hf0⟩ := open_row Try.underlying28 (hval 0 28 v0 rfl rfl) h0
  obtain ⟨a0_0, e0_0, w0_0⟩ := leaf_int (n := 4) (i := 0) (t' := 25) (k := .u16) lok28 (by rw [leaves28]; simp) Try.underlying25 cells25 hl0 hf0
  obtain ⟨a0_1, e0_1, w0_1⟩ := leaf_int (n := 4) (i := 1) (t' := 25) (k := .u16) lok28 (by rw [leaves28]; simp) Try.underlying25 cells25 hl0 hf0
  obtain ⟨a0_2, e0_2, w0_2⟩ := leaf_int (n := 4) (i := 2) (t' := 25) (k := .u16) lok28 (by rw [leaves28]; simp) Try.underlying25 cells25 hl0 hf0
  obtain ⟨a0_3, e0_3, w0_3⟩ := leaf_int (n := 4) (i := 3) (t' := 25) (k := .u16) lok28 (by rw [leaves28]; simp) Try.underlying25 cells25 hl0 hf0
  obtain ⟨a0_4, e0_4, w0_4⟩ := leaf_int (n := 4) (i := 4) (t' := 25) (k := .u16) lok28 (by rw [leaves28]; simp) Try.underlying25 cells25 hl0 hf0
  obtain ⟨a0_5, e0_5, w0_5⟩ := leaf_int (n := 4) (i := 5) (t' := 25) (k := .u16) lok28 (by rw [leaves28]; simp) Try.underlying25 cells25 hl0 hf0
  obtain ⟨a0_6, e0_6, w0_6⟩ := leaf_int (n := 4) (i := 6) (t' := 25) (k := .u16) lok28 (by rw [leaves28]; simp) Try.underlying25 cells25 hl0 hf0
  obtain ⟨a0_7, e0_7, w0_7⟩ := leaf_int (n := 4) (i := 7) (t' := 25) (k := .u16) lok28 (by rw [leaves28]; simp) Try.underlying25 cells25 hl0 hf0
  obtain ⟨a0_8, e0_8, w0_8⟩ := leaf_int (n := 4) (i := 8) (t' := 25) (k := .u16) lok28 (by rw [leaves28]; simp) Try.underlying25 cells25 hl0 hf0
  obtain ⟨a0_9, e0_9⟩ := leaf_bool (n := 4) (i := 9) (t' := 4) lok28 (by rw [leaves28]; simp) Try.underlying4 cells4 hl0 hf0
  obtain ⟨a0_10, e0_10⟩ := leaf_bool (n := 4) (i := 10) (t' := 4) lok28 (by rw [leaves28]; simp) Try.underlying4 cells4 hl0 hf0
  obtain ⟨a0_11, e0_11⟩ := leaf_bool (n := 4) (i := 11) (t' := 4) lok28 (by rw [leaves28]; simp) Try.underlying4 cells4 hl0 hf0
  obtain ⟨a0_12, e0_12⟩ := leaf_bool (n := 4) (i := 12) (t' := 4) lok28 (by rw [leaves28]; simp) Try.underlying4 cells4 hl0 hf0
  obtain ⟨a0_13, e0_13⟩ := leaf_bool (n := 4) (i := 13) (t' := 4) lok28 (by rw [leaves28]; simp) Try.underlying4 cells4 hl0 hf0
  obtain ⟨a0_14, e0_14⟩ := leaf_bool (n := 4) (i := 14) (t' := 4) lok28 (by rw [leaves28]; simp) Try.underlying4 cells4 hl0 hf0
  have q0x : cs0 = #[.int .u16 a0_0, .int .u16 a0_1, .int .u16 a0_2, .int .u16 a0_3, .int .u16 a0_4, .int .u16 a0_5, .int .u16 a0_6, .int .u16 a0_7, .int .u16 a0_8, .bool a0_9, .bool a0_10, .bool a0_11, .bool a0_12, .bool a0_13, .bool a0_14] := cells_lit (eq_cons e0_0 ( eq_cons e0_1 ( eq_cons e0_2 ( eq_cons e0_3 ( eq_cons e0_4 ( eq_cons e0_5 ( eq_cons e0_6 ( eq_cons e0_7 ( eq_cons e0_8 ( eq_cons e0_9 ( eq_cons e0_10 ( eq_cons e0_11 ( eq_cons e0_12 ( eq_cons e0_13 ( eq_cons e0_14 (List.drop_eq_nil_of_le (by rw [hl0, cells28]; exact Nat.le_refl _)))))))))))))))))
  subst q0x
  obtain ⟨cs1, rfl, hl1, fu1, hf1⟩ := open_row Try.underlying24 (hval 1 24 v1 rfl rfl) h1
  obtain ⟨a1_0, xs1_0, e1_0, hx1_0⟩ := leaf_slice (n := 4) (i := 0) (t' := 22) (k := .u8) lok24 (by rw [leaves24]; simp) Try.underlying22 Try.underlying5 cells5 cells22 hl1 hf1
  obtain ⟨a1_1, xs1_1, e1_1, hx1_1⟩ := leaf_slice (n := 4) (i := 1) (t' := 22) (k := .u8) lok24 (by rw [leaves24]; simp) Try.underlying22 Try.underlying5 cells5 cells22 hl1 hf1
  have q1x : cs1 = #[a1_0, a1_1] := cells_lit (eq_cons e1_0 ( eq_cons e1_1 (List.drop_eq_nil_of_le (by rw [hl1, cells24]; exact Nat.le_refl _))))
  subst q1x
  clear hA0 hval0
  refine (walk a0_0 a0_1 a0_2 a0_3 a0_4 a0_5 a0_6 a0_7 a0_8 a0_9 a0_10 a0_11 a0_12 a0_13 a0_14 a1_0 xs1_0 a1_1 xs1_1 W (bounds_u16 w0_0) (bounds_u16 w0_1) (bounds_u16 w0_2) (bounds_u16 w0_3) (bounds_u16 w0_4) (bounds_u16 w0_5) (bounds_u16 w0_6) (bounds_u16 w0_7) (bounds_u16 w0_8) hx1_0 hx1_1).mono fun e W' ⟨he, hb⟩ => ?_
  subst he
  have hb' : Below W.heap.size W W' := by first | exact hb | (subst hb; exact Below.refl _ _)
  exact ⟨_, rfl, law_post laid (by kernel_rfl) rfl Try.underlying4 rfl rfl hW' hb'⟩

theorem over : Rows.cpuReturnsRow.holds Try.pinned (OpenSpec.ofChange Rows.cpuReturnsSpec) :=
  OpenClaim.holds_of_wide 4 Try.f4 rfl rfl rfl rfl rfl rfl rfl ⟨rfl, rfl, rfl, rfl, rfl⟩ rfl rfl rfl rfl rfl (by kernel_rfl) Try.func4 (by kernel_rfl)
    (of_decide_eq_true (by kernel_rfl)) (by unfold Func.isWrapper; first | (rw [if_pos (by decide +kernel)]; kernel_rfl) | (rw [if_neg (by decide +kernel)]; exact ⟨rfl, rfl⟩))
    (fun os started H enc _ => lifted os started H enc)

theorem proved : Rows.CpuReturnsSaid :=
  over
#print axioms proved
end Go.Proofs.Yteihggfcafoogaa.cpuReturns
