/- The row of ToneParts: for every input the law answers true, and each argument reads as it did. Conditions: none. -/
import Derived.Test.YtcgigpglpbhakaaLawToneParts
import Derived.Test.YtcgigpglpbhakaaFrame

namespace Go.Proofs.Ytcgigpglpbhakaa.toneParts
open Go.ChangeShapes Go.WideShapes Go.ChangeAt Go.RowKit Go.Mq
set_option linter.unusedVariables false
theorem own : ownKnob Try.prog.godebug = none := by kernel_rfl
theorem laid : laidOutB Try.prog = true := by kernel_rfl
theorem cells36 : Try.prog.cellsOf 36 = 16 := by kernel_rfl
theorem lok36 : leavesOk Try.prog 4 36 = true := by kernel_rfl
theorem cells4 : Try.prog.cellsOf 4 = 1 := by kernel_rfl
theorem cells3 : Try.prog.cellsOf 3 = 1 := by kernel_rfl
theorem cells31 : Try.prog.cellsOf 31 = 1 := by kernel_rfl
theorem cells5 : Try.prog.cellsOf 5 = 1 := by kernel_rfl
theorem leaves36 : leaves Try.prog 4 36 0 = [(0, 31), (1, 31), (2, 5), (3, 4), (4, 31), (5, 31), (6, 31), (7, 5), (8, 4), (9, 31), (10, 31), (11, 31), (12, 5), (13, 4), (14, 31), (15, 3)] := by kernel_rfl
set_option maxRecDepth 100000 in
theorem lifted (os : Os) (started : os.Started) (H : Type) (enc : TypeId × Value → H) :
    ReturnsInHanded {} Try.checked os 9 .any (Rows.tonePartsSpec.pre6 enc Try.prog Try.f9 Rows.tonePartsRow.domain false) (Rows.tonePartsSpec.post enc Try.prog Try.f9 false true false false) := by
  refine returnsInHanded_of_change (C := Try.checked) own started (by kernel_rfl) Try.func9
    (ChangeSpec.witness6 (enc := enc) (C := Try.checked) false ⟨#[], #[.agg #[.int .u16 0, .int .u16 0, .int .u8 0, .bool false, .int .u16 0, .int .u16 0, .int .u16 0, .int .u8 0, .bool false, .int .u16 0, .int .u16 0, .int .u16 0, .int .u8 0, .bool false, .int .u16 0, .int .i64 0], .int .i64 0, .int .i64 0], []⟩ 8 (by kernel_rfl) (by kernel_rfl) (by kernel_rfl) (by kernel_rfl)) ?_
  intro W base args ds gs before hval0 hW hcnd _
  have hval : ∀ (j : Nat) t v, Try.f9.params[j]? = some t → args[j]? = some v → Value.okWide Try.prog W .any base t v := hval0
  have hW' := hW
  obtain ⟨p, q, hA0, hV, rfl, hfz, hnd⟩ := hW
  have hA : DataW.TrodAll enc Try.prog W 0 (fun _ => true) true Try.f9.params.toList args.toList ds p := hA0
  rw [Try.params9] at hA hval
  obtain ⟨v0, vs0, d0, ds0, p0, q0, hargs, rfl, rfl, h0, r0⟩ := trodAll_cons hA
  obtain ⟨v1, vs1, d1, ds1, p1, q1, rfl, rfl, rfl, h1, r1⟩ := trodAll_cons r0
  obtain ⟨v2, vs2, d2, ds2, p2, q2, rfl, rfl, rfl, h2, r2⟩ := trodAll_cons r1
  obtain ⟨rfl, rfl, rfl⟩ := trodAll_nil r2
  obtain rfl : args = #[v0, v1, v2] := by cases args; simp_all
  obtain ⟨rfl, rfl⟩ := trodVars_none hV
  obtain ⟨cs0, rfl, hl0, fu0, hf0⟩ := open_row Try.underlying36 (hval 0 36 v0 rfl rfl) h0
  obtain ⟨a0_0, e0_0, w0_0⟩ := leaf_int (n := 4) (i := 0) (t' := 31) (k := .u16) lok36 (by rw [leaves36]; simp) Try.underlying31 cells31 hl0 hf0
  obtain ⟨a0_1, e0_1, w0_1⟩ := leaf_int (n := 4) (i := 1) (t' := 31) (k := .u16) lok36 (by rw [leaves36]; simp) Try.underlying31 cells31 hl0 hf0
  obtain ⟨a0_2, e0_2, w0_2⟩ := leaf_int (n := 4) (i := 2) (t' := 5) (k := .u8) lok36 (by rw [leaves36]; simp) Try.underlying5 cells5 hl0 hf0
  obtain ⟨a0_3, e0_3⟩ := leaf_bool (n := 4) (i := 3) (t' := 4) lok36 (by rw [leaves36]; simp) Try.underlying4 cells4 hl0 hf0
  obtain ⟨a0_4, e0_4, w0_4⟩ := leaf_int (n := 4) (i := 4) (t' := 31) (k := .u16) lok36 (by rw [leaves36]; simp) Try.underlying31 cells31 hl0 hf0
  obtain ⟨a0_5, e0_5, w0_5⟩ := leaf_int (n := 4) (i := 5) (t' := 31) (k := .u16) lok36 (by rw [leaves36]; simp) Try.underlying31 cells31 hl0 hf0
  obtain ⟨a0_6, e0_6, w0_6⟩ := leaf_int (n := 4) (i := 6) (t' := 31) (k := .u16) lok36 (by rw [leaves36]; simp) Try.underlying31 cells31 hl0 hf0
  obtain ⟨a0_7, e0_7, w0_7⟩ := leaf_int (n := 4) (i := 7) (t' := 5) (k := .u8) lok36 (by rw [leaves36]; simp) Try.underlying5 cells5 hl0 hf0
  obtain ⟨a0_8, e0_8⟩ := leaf_bool (n := 4) (i := 8) (t' := 4) lok36 (by rw [leaves36]; simp) Try.underlying4 cells4 hl0 hf0
  obtain ⟨a0_9, e0_9, w0_9⟩ := leaf_int (n := 4) (i := 9) (t' := 31) (k := .u16) lok36 (by rw [leaves36]; simp) Try.underlying31 cells31 hl0 hf0
  obtain ⟨a0_10, e0_10, w0_10⟩ := leaf_int (n := 4) (i := 10) (t' := 31) (k := .u16) lok36 (by rw [leaves36]; simp) Try.underlying31 cells31 hl0 hf0
  obtain ⟨a0_11, e0_11, w0_11⟩ := leaf_int (n := 4) (i := 11) (t' := 31) (k := .u16) lok36 (by rw [leaves36]; simp) Try.underlying31 cells31 hl0 hf0
  obtain ⟨a0_12, e0_12, w0_12⟩ := leaf_int (n := 4) (i := 12) (t' := 5) (k := .u8) lok36 (by rw [leaves36]; simp) Try.underlying5 cells5 hl0 hf0
  obtain ⟨a0_13, e0_13⟩ := leaf_bool (n := 4) (i := 13) (t' := 4) lok36 (by rw [leaves36]; simp) Try.underlying4 cells4 hl0 hf0
  obtain ⟨a0_14, e0_14, w0_14⟩ := leaf_int (n := 4) (i := 14) (t' := 31) (k := .u16) lok36 (by rw [leaves36]; simp) Try.underlying31 cells31 hl0 hf0
  obtain ⟨a0_15, e0_15, w0_15⟩ := leaf_int (n := 4) (i := 15) (t' := 3) (k := .i64) lok36 (by rw [leaves36]; simp) Try.underlying3 cells3 hl0 hf0
  have q0x : cs0 = #[.int .u16 a0_0, .int .u16 a0_1, .int .u8 a0_2, .bool a0_3, .int .u16 a0_4, .int .u16 a0_5, .int .u16 a0_6, .int .u8 a0_7, .bool a0_8, .int .u16 a0_9, .int .u16 a0_10, .int .u16 a0_11, .int .u8 a0_12, .bool a0_13, .int .u16 a0_14, .int .i64 a0_15] := cells_lit (eq_cons e0_0 ( eq_cons e0_1 ( eq_cons e0_2 ( eq_cons e0_3 ( eq_cons e0_4 ( eq_cons e0_5 ( eq_cons e0_6 ( eq_cons e0_7 ( eq_cons e0_8 ( eq_cons e0_9 ( eq_cons e0_10 ( eq_cons e0_11 ( eq_cons e0_12 ( eq_cons e0_13 ( eq_cons e0_14 ( eq_cons e0_15 (List.drop_eq_nil_of_le (by rw [hl0, cells36]; exact Nat.le_refl _))))))))))))))))))
  subst q0x
  obtain ⟨a1, rfl, rfl, rfl, w1⟩ := open_int Try.underlying3 (hval 1 3 v1 rfl rfl) h1
  obtain ⟨a2, rfl, rfl, rfl, w2⟩ := open_int Try.underlying3 (hval 2 3 v2 rfl rfl) h2
  clear hA0 hval0
  refine (walk a0_0 a0_1 a0_2 a0_3 a0_4 a0_5 a0_6 a0_7 a0_8 a0_9 a0_10 a0_11 a0_12 a0_13 a0_14 a0_15 a1 a2 (bounds_u16 w0_0) (bounds_u16 w0_1) (bounds_u8 w0_2) (bounds_u16 w0_4) (bounds_u16 w0_5) (bounds_u16 w0_6) (bounds_u8 w0_7) (bounds_u16 w0_9) (bounds_u16 w0_10) (bounds_u16 w0_11) (bounds_u8 w0_12) (bounds_u16 w0_14) (bounds_i64 w0_15) (bounds_i64 w1) (bounds_i64 w2) W).mono fun e W' ⟨he, hb⟩ => ?_
  subst he
  have hb' : Below W.heap.size W W' := by first | exact hb | (subst hb; exact Below.refl _ _)
  exact ⟨_, rfl, law_post laid (by kernel_rfl) rfl Try.underlying4 rfl rfl hW' hb'⟩

theorem over : Rows.tonePartsRow.holds Try.pinned (OpenSpec.ofChange Rows.tonePartsSpec) :=
  OpenClaim.holds_of_wide 9 Try.f9 rfl rfl rfl rfl rfl rfl rfl ⟨rfl, rfl, rfl, rfl, rfl⟩ rfl rfl rfl rfl rfl (by kernel_rfl) Try.func9 (by kernel_rfl)
    (of_decide_eq_true (by kernel_rfl)) (by unfold Func.isWrapper; first | (rw [if_pos (by decide +kernel)]; kernel_rfl) | (rw [if_neg (by decide +kernel)]; exact ⟨rfl, rfl⟩))
    (fun os started H enc _ => lifted os started H enc)

theorem proved : Rows.TonePartsSaid :=
  over
#print axioms proved
end Go.Proofs.Ytcgigpglpbhakaa.toneParts
