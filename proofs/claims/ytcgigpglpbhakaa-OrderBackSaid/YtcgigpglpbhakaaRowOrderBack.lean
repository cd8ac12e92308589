/- The row of OrderBack: for every input the law answers true, and each argument reads as it did. Conditions: none. -/
import Derived.Test.YtcgigpglpbhakaaLawOrderBack
import Derived.Test.YtcgigpglpbhakaaFrame

namespace Go.Proofs.Ytcgigpglpbhakaa.orderBack
open Go.ChangeShapes Go.WideShapes Go.ChangeAt Go.RowKit Go.Mq
set_option linter.unusedVariables false
theorem own : ownKnob Try.prog.godebug = none := by kernel_rfl
theorem laid : laidOutB Try.prog = true := by kernel_rfl
theorem cells51 : Try.prog.cellsOf 51 = 5 := by kernel_rfl
theorem lok51 : leavesOk Try.prog 4 51 = true := by kernel_rfl
theorem cells3 : Try.prog.cellsOf 3 = 1 := by kernel_rfl
theorem leaves51 : leaves Try.prog 4 51 0 = [(0, 3), (1, 3), (2, 3), (3, 3), (4, 3)] := by kernel_rfl
set_option maxRecDepth 100000 in
theorem lifted (os : Os) (started : os.Started) (H : Type) (enc : TypeId × Value → H) :
    ReturnsInHanded {} Try.checked os 7 .any (Rows.orderBackSpec.pre6 enc Try.prog Try.f7 Rows.orderBackRow.domain false) (Rows.orderBackSpec.post enc Try.prog Try.f7 false true false false) := by
  refine returnsInHanded_of_change (C := Try.checked) own started (by kernel_rfl) Try.func7
    (ChangeSpec.witness6 (enc := enc) (C := Try.checked) false ⟨#[], #[.agg #[.int .i64 0, .int .i64 0, .int .i64 0, .int .i64 0, .int .i64 0], .int .u16 0, .int .u16 0], []⟩ 8 (by kernel_rfl) (by kernel_rfl) (by kernel_rfl) (by kernel_rfl)) ?_
  intro W base args ds gs before hval0 hW hcnd _
  have hval : ∀ (j : Nat) t v, Try.f7.params[j]? = some t → args[j]? = some v → Value.okWide Try.prog W .any base t v := hval0
  have hW' := hW
  obtain ⟨p, q, hA0, hV, rfl, hfz, hnd⟩ := hW
  have hA : DataW.TrodAll enc Try.prog W 0 (fun _ => true) true Try.f7.params.toList args.toList ds p := hA0
  rw [Try.params7] at hA hval
  obtain ⟨v0, vs0, d0, ds0, p0, q0, hargs, rfl, rfl, h0, r0⟩ := trodAll_cons hA
  obtain ⟨v1, vs1, d1, ds1, p1, q1, rfl, rfl, rfl, h1, r1⟩ := trodAll_cons r0
  obtain ⟨v2, vs2, d2, ds2, p2, q2, rfl, rfl, rfl, h2, r2⟩ := trodAll_cons r1
  obtain ⟨rfl, rfl, rfl⟩ := trodAll_nil r2
  obtain rfl : args = #[v0, v1, v2] := by cases args; simp_all
  obtain ⟨rfl, rfl⟩ := trodVars_none hV
  obtain ⟨cs0, rfl, hl0, fu0, hf0⟩ := open_row Try.underlying51 (hval 0 51 v0 rfl rfl) h0
  obtain ⟨a0_0, e0_0, w0_0⟩ := leaf_int (n := 4) (i := 0) (t' := 3) (k := .i64) lok51 (by rw [leaves51]; simp) Try.underlying3 cells3 hl0 hf0
  obtain ⟨a0_1, e0_1, w0_1⟩ := leaf_int (n := 4) (i := 1) (t' := 3) (k := .i64) lok51 (by rw [leaves51]; simp) Try.underlying3 cells3 hl0 hf0
  obtain ⟨a0_2, e0_2, w0_2⟩ := leaf_int (n := 4) (i := 2) (t' := 3) (k := .i64) lok51 (by rw [leaves51]; simp) Try.underlying3 cells3 hl0 hf0
  obtain ⟨a0_3, e0_3, w0_3⟩ := leaf_int (n := 4) (i := 3) (t' := 3) (k := .i64) lok51 (by rw [leaves51]; simp) Try.underlying3 cells3 hl0 hf0
  obtain ⟨a0_4, e0_4, w0_4⟩ := leaf_int (n := 4) (i := 4) (t' := 3) (k := .i64) lok51 (by rw [leaves51]; simp) Try.underlying3 cells3 hl0 hf0
  have q0x : cs0 = #[.int .i64 a0_0, .int .i64 a0_1, .int .i64 a0_2, .int .i64 a0_3, .int .i64 a0_4] := cells_lit (eq_cons e0_0 ( eq_cons e0_1 ( eq_cons e0_2 ( eq_cons e0_3 ( eq_cons e0_4 (List.drop_eq_nil_of_le (by rw [hl0, cells51]; exact Nat.le_refl _)))))))
  subst q0x
  obtain ⟨a1, rfl, rfl, rfl, w1⟩ := open_int Try.underlying31 (hval 1 31 v1 rfl rfl) h1
  obtain ⟨a2, rfl, rfl, rfl, w2⟩ := open_int Try.underlying31 (hval 2 31 v2 rfl rfl) h2
  clear hA0 hval0
  refine (walk a0_0 a0_1 a0_2 a0_3 a0_4 a1 a2 (bounds_i64 w0_0) (bounds_i64 w0_1) (bounds_i64 w0_2) (bounds_i64 w0_3) (bounds_i64 w0_4) (bounds_u16 w1) (bounds_u16 w2) W).mono fun e W' ⟨he, hb⟩ => ?_
  subst he
  have hb' : Below W.heap.size W W' := by first | exact hb | (subst hb; exact Below.refl _ _)
  exact ⟨_, rfl, law_post laid (by kernel_rfl) rfl Try.underlying4 rfl rfl hW' hb'⟩

theorem over : Rows.orderBackRow.holds Try.pinned (OpenSpec.ofChange Rows.orderBackSpec) :=
  OpenClaim.holds_of_wide 7 Try.f7 rfl rfl rfl rfl rfl rfl rfl ⟨rfl, rfl, rfl, rfl, rfl⟩ rfl rfl rfl rfl rfl (by kernel_rfl) Try.func7 (by kernel_rfl)
    (of_decide_eq_true (by kernel_rfl)) (by unfold Func.isWrapper; first | (rw [if_pos (by decide +kernel)]; kernel_rfl) | (rw [if_neg (by decide +kernel)]; exact ⟨rfl, rfl⟩))
    (fun os started H enc _ => lifted os started H enc)

theorem proved : Rows.OrderBackSaid :=
  over
#print axioms proved
end Go.Proofs.Ytcgigpglpbhakaa.orderBack
