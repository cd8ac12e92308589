/- The row of ToneRuns: for every input the law answers true, and each argument reads as it did. Conditions: none. -/
import Derived.Test.YtcgigpglpbhakaaLawToneRuns
import Derived.Test.YtcgigpglpbhakaaFrame

namespace Go.Proofs.Ytcgigpglpbhakaa.toneRuns
open Go.ChangeShapes Go.WideShapes Go.ChangeAt Go.RowKit Go.Mq
set_option linter.unusedVariables false
theorem own : ownKnob Try.prog.godebug = none := by kernel_rfl
theorem laid : laidOutB Try.prog = true := by kernel_rfl
theorem cells33 : Try.prog.cellsOf 33 = 5 := by kernel_rfl
theorem lok33 : leavesOk Try.prog 4 33 = true := by kernel_rfl
theorem cells4 : Try.prog.cellsOf 4 = 1 := by kernel_rfl
theorem cells31 : Try.prog.cellsOf 31 = 1 := by kernel_rfl
theorem cells5 : Try.prog.cellsOf 5 = 1 := by kernel_rfl
theorem leaves33 : leaves Try.prog 4 33 0 = [(0, 31), (1, 31), (2, 5), (3, 4), (4, 31)] := by kernel_rfl
theorem cells36 : Try.prog.cellsOf 36 = 16 := by kernel_rfl
theorem lok36 : leavesOk Try.prog 4 36 = true := by kernel_rfl
theorem cells3 : Try.prog.cellsOf 3 = 1 := by kernel_rfl
theorem leaves36 : leaves Try.prog 4 36 0 = [(0, 31), (1, 31), (2, 5), (3, 4), (4, 31), (5, 31), (6, 31), (7, 5), (8, 4), (9, 31), (10, 31), (11, 31), (12, 5), (13, 4), (14, 31), (15, 3)] := by kernel_rfl
set_option maxRecDepth 100000 in
theorem lifted (os : Os) (started : os.Started) (H : Type) (enc : TypeId × Value → H) :
    ReturnsInHanded {} Try.checked os 5 .any (Rows.toneRunsSpec.pre6 enc Try.prog Try.f5 Rows.toneRunsRow.domain false) (Rows.toneRunsSpec.post enc Try.prog Try.f5 false true false false) := by
  refine returnsInHanded_of_change (C := Try.checked) own started (by kernel_rfl) Try.func5
    (ChangeSpec.witness6 (enc := enc) (C := Try.checked) false ⟨#[], #[.agg #[.int .u16 0, .int .u16 0, .int .u8 0, .bool false, .int .u16 0], .agg #[.int .u16 0, .int .u16 0, .int .u8 0, .bool false, .int .u16 0, .int .u16 0, .int .u16 0, .int .u8 0, .bool false, .int .u16 0, .int .u16 0, .int .u16 0, .int .u8 0, .bool false, .int .u16 0, .int .i64 0], .int .i64 0], []⟩ 8 (by kernel_rfl) (by kernel_rfl) (by kernel_rfl) (by kernel_rfl)) ?_
  intro W base args ds gs before hval0 hW hcnd _
  have hval : ∀ (j : Nat) t v, Try.f5.params[j]? = some t → args[j]? = some v → Value.okWide Try.prog W .any base t v := hval0
  have hW' := hW
  obtain ⟨p, q, hA0, hV, rfl, hfz, hnd⟩ := hW
  have hA : DataW.TrodAll enc Try.prog W 0 (fun _ => true) true Try.f5.params.toList args.toList ds p := hA0
  rw [Try.params5] at hA hval
  obtain ⟨v0, vs0, d0, ds0, p0, q0, hargs, rfl, rfl, h0, r0⟩ := trodAll_cons hA
  obtain ⟨v1, vs1, d1, ds1, p1, q1, rfl, rfl, rfl, h1, r1⟩ := trodAll_cons r0
  obtain ⟨v2, vs2, d2, ds2, p2, q2, rfl, rfl, rfl, h2, r2⟩ := trodAll_cons r1
  obtain ⟨rfl, rfl, rfl⟩ := trodAll_nil r2
  obtain rfl : args = #[v0, v1, v2] := by cases args; simp_all
  obtain ⟨rfl, rfl⟩ := trodVars_none hV
  obtain ⟨cs0, rfl, hl0, fu0, hf0⟩ := open_row Try.underlying33 (hval 0 33 v0 rfl rfl) h0
  obtain ⟨a0_0, e0_0, w0_0⟩ := leaf_int (n := 4) (i := 0) (t' := 31) (k := .u16) lok33 (by rw [leaves33]; simp) Try.underlying31 cells31 hl0 hf0
  obtain ⟨a0_1, e0_1, w0_1⟩ := leaf_int (n := 4) (i := 1) (t' := 31) (k := .u16) lok33 (by rw [leaves33]; simp) Try.underlying31 cells31 hl0 hf0
  obtain ⟨a0_2, e0_2, w0_2⟩ := leaf_int (n := 4) (i := 2) (t' := 5) (k := .u8) lok33 (by rw [leaves33]; simp) Try.underlying5 cells5 hl0 hf0
  obtain ⟨a0_3, e0_3⟩ := leaf_bool (n := 4) (i := 3) (t' := 4) lok33 (by rw [leaves33]; simp) Try.underlying4 cells4 hl0 hf0
  obtain ⟨a0_4, e0_4, w0_4⟩ := leaf_int (n := 4) (i := 4) (t' := 31) (k := .u16) lok33 (by rw [leaves33]; simp) Try.underlying31 cells31 hl0 hf0
  have q0x : cs0 = #[.int .u16 a0_0, .int .u16 a0_1, .int .u8 a0_2, .bool a0_3, .int .u16 a0_4] := cells_lit (eq_cons e0_0 ( eq_cons e0_1 ( eq_cons e0_2 ( eq_cons e0_3 ( eq_cons e0_4 (List.drop_eq_nil_of_le (by rw [hl0, cells33]; exact Nat.le_refl _)))))))
  subst q0x
  obtain ⟨cs1, rfl, hl1, fu1, hf1⟩ := open_row Try.underlying36 (hval 1 36 v1 rfl rfl) h1
  obtain ⟨a1_0, e1_0, w1_0⟩ := leaf_int (n := 4) (i := 0) (t' := 31) (k := .u16) lok36 (by rw [leaves36]; simp) Try.underlying31 cells31 hl1 hf1
  obtain ⟨a1_1, e1_1, w1_1⟩ := leaf_int (n := 4) (i := 1) (t' := 31) (k := .u16) lok36 (by rw [leaves36]; simp) Try.underlying31 cells31 hl1 hf1
  obtain ⟨a1_2, e1_2, w1_2⟩ := leaf_int (n := 4) (i := 2) (t' := 5) (k := .u8) lok36 (by rw [leaves36]; simp) Try.underlying5 cells5 hl1 hf1
  obtain ⟨a1_3, e1_3⟩ := leaf_bool (n := 4) (i := 3) (t' := 4) lok36 (by rw [leaves36]; simp) Try.underlying4 cells4 hl1 hf1
  obtain ⟨a1_4, e1_4, w1_4⟩ := leaf_int (n := 4) (i := 4) (t' := 31) (k := .u16) lok36 (by rw [leaves36]; simp) Try.underlying31 cells31 hl1 hf1
  obtain ⟨a1_5, e1_5, w1_5⟩ := leaf_int (n := 4) (i := 5) (t' := 31) (k := .u16) lok36 (by rw [leaves36]; simp) Try.underlying31 cells31 hl1 hf1
  obtain ⟨a1_6, e1_6, w1_6⟩ := leaf_int (n := 4) (i := 6) (t' := 31) (k := .u16) lok36 (by rw [leaves36]; simp) Try.underlying31 cells31 hl1 hf1
  obtain ⟨a1_7, e1_7, w1_7⟩ := leaf_int (n := 4) (i := 7) (t' := 5) (k := .u8) lok36 (by rw [leaves36]; simp) Try.underlying5 cells5 hl1 hf1
  obtain ⟨a1_8, e1_8⟩ := leaf_bool (n := 4) (i := 8) (t' := 4) lok36 (by rw [leaves36]; simp) Try.underlying4 cells4 hl1 hf1
  obtain ⟨a1_9, e1_9, w1_9⟩ := leaf_int (n := 4) (i := 9) (t' := 31) (k := .u16) lok36 (by rw [leaves36]; simp) Try.underlying31 cells31 hl1 hf1
  obtain ⟨a1_10, e1_10, w1_10⟩ := leaf_int (n := 4) (i := 10) (t' := 31) (k := .u16) lok36 (by rw [leaves36]; simp) Try.underlying31 cells31 hl1 hf1
  obtain ⟨a1_11, e1_11, w1_11⟩ := leaf_int (n := 4) (i := 11) (t' := 31) (k := .u16) lok36 (by rw [leaves36]; simp) Try.underlying31 cells31 hl1 hf1
  obtain ⟨a1_12, e1_12, w1_12⟩ := leaf_int (n := 4) (i := 12) (t' := 5) (k := .u8) lok36 (by rw [leaves36]; simp) Try.underlying5 cells5 hl1 hf1
  obtain ⟨a1_13, e1_13⟩ := leaf_bool (n := 4) (i := 13) (t' := 4) lok36 (by rw [leaves36]; simp) Try.underlying4 cells4 hl1 hf1
  obtain ⟨a1_14, e1_14, w1_14⟩ := leaf_int (n := 4) (i := 14) (t' := 31) (k := .u16) lok36 (by rw [leaves36]; simp) Try.underlying31 cells31 hl1 hf1
  obtain ⟨a1_15, e1_15, w1_15⟩ := leaf_int (n := 4) (i := 15) (t' := 3) (k := .i64) lok36 (by rw [leaves36]; simp) Try.underlying3 cells3 hl1 hf1
  have q1x : cs1 = #[.int .u16 a1_0, .int .u16 a1_1, .int .u8 a1_2, .bool a1_3, .int .u16 a1_4, .int .u16 a1_5, .int .u16 a1_6, .int .u8 a1_7, .bool a1_8, .int .u16 a1_9, .int .u16 a1_10, .int .u16 a1_11, .int .u8 a1_12, .bool a1_13, .int .u16 a1_14, .int .i64 a1_15] := cells_lit (eq_cons e1_0 ( eq_cons e1_1 ( eq_cons e1_2 ( eq_cons e1_3 ( eq_cons e1_4 ( eq_cons e1_5 ( eq_cons e1_6 ( eq_cons e1_7 ( eq_cons e1_8 ( eq_cons e1_9 ( eq_cons e1_10 ( eq_cons e1_11 ( eq_cons e1_12 ( eq_cons e1_13 ( eq_cons e1_14 ( eq_cons e1_15 (List.drop_eq_nil_of_le (by rw [hl1, cells36]; exact Nat.le_refl _))))))))))))))))))
  subst q1x
  obtain ⟨a2, rfl, rfl, rfl, w2⟩ := open_int Try.underlying3 (hval 2 3 v2 rfl rfl) h2
  clear hA0 hval0
  refine (walk a0_0 a0_1 a0_2 a0_3 a0_4 a1_0 a1_1 a1_2 a1_3 a1_4 a1_5 a1_6 a1_7 a1_8 a1_9 a1_10 a1_11 a1_12 a1_13 a1_14 a1_15 a2 (bounds_u16 w0_0) (bounds_u16 w0_1) (bounds_u8 w0_2) (bounds_u16 w0_4) (bounds_u16 w1_0) (bounds_u16 w1_1) (bounds_u8 w1_2) (bounds_u16 w1_4) (bounds_u16 w1_5) (bounds_u16 w1_6) (bounds_u8 w1_7) (bounds_u16 w1_9) (bounds_u16 w1_10) (bounds_u16 w1_11) (bounds_u8 w1_12) (bounds_u16 w1_14) (bounds_i64 w1_15) (bounds_i64 w2) W).mono fun e W' ⟨he, hb⟩ => ?_
  subst he
  have hb' : Below W.heap.size W W' := by first | exact hb | (subst hb; exact Below.refl _ _)
  exact ⟨_, rfl, law_post laid (by kernel_rfl) rfl Try.underlying4 rfl rfl hW' hb'⟩

theorem over : Rows.toneRunsRow.holds Try.pinned (OpenSpec.ofChange Rows.toneRunsSpec) :=
  OpenClaim.holds_of_wide 5 Try.f5 rfl rfl rfl rfl rfl rfl rfl ⟨rfl, rfl, rfl, rfl, rfl⟩ rfl rfl rfl rfl rfl (by kernel_rfl) Try.func5 (by kernel_rfl)
    (of_decide_eq_true (by kernel_rfl)) (by unfold Func.isWrapper; first | (rw [if_pos (by decide +kernel)]; kernel_rfl) | (rw [if_neg (by decide +kernel)]; exact ⟨rfl, rfl⟩))
    (fun os started H enc _ => lifted os started H enc)

theorem proved : Rows.ToneRunsSaid :=
  over
#print axioms proved
end Go.Proofs.Ytcgigpglpbhakaa.toneRuns
