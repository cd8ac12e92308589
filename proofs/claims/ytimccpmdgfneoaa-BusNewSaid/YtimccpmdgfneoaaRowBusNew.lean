/- The row of BusNew: for every input the law answers true, and each argument reads as it did. Conditions: none. -/
import Derived.Test.YtimccpmdgfneoaaLawBusNew
import Derived.Test.YtimccpmdgfneoaaFrame2

namespace Go.Proofs.Ytimccpmdgfneoaa.busNew
open Go.ChangeShapes Go.WideShapes Go.ChangeAt Go.RowKit Go.Mq
set_option linter.unusedVariables false
theorem own : ownKnob Try.prog.godebug = none := by kernel_rfl
theorem laid : laidOutB Try.prog = true := by kernel_rfl
theorem cells5 : Try.prog.cellsOf 5 = 1 := by kernel_rfl
theorem cells41 : Try.prog.cellsOf 41 = 75 := by kernel_rfl
theorem lok41 : leavesOk Try.prog 4 41 = true := by kernel_rfl
theorem cells22 : Try.prog.cellsOf 22 = 1 := by kernel_rfl
theorem cells4 : Try.prog.cellsOf 4 = 1 := by kernel_rfl
theorem cells3 : Try.prog.cellsOf 3 = 1 := by kernel_rfl
theorem cells23 : Try.prog.cellsOf 23 = 1 := by kernel_rfl
theorem leaves41 : leaves Try.prog 4 41 0 = [(0, 23), (1, 23), (2, 23), (3, 23), (4, 23), (5, 23), (6, 23), (7, 23), (8, 23), (9, 4), (10, 4), (11, 4), (12, 4), (13, 4), (14, 4), (15, 23), (16, 23), (17, 23), (18, 23), (19, 23), (20, 23), (21, 23), (22, 23), (23, 23), (24, 4), (25, 4), (26, 4), (27, 4), (28, 4), (29, 4), (30, 22), (31, 22), (32, 22), (33, 22), (34, 22), (35, 5), (36, 4), (37, 5), (38, 5), (39, 4), (40, 5), (41, 23), (42, 23), (43, 4), (44, 4), (45, 23), (46, 23), (47, 5), (48, 4), (49, 23), (50, 23), (51, 23), (52, 5), (53, 4), (54, 23), (55, 23), (56, 23), (57, 5), (58, 4), (59, 23), (60, 3), (61, 3), (62, 3), (63, 4), (64, 3), (65, 23), (66, 23), (67, 4), (68, 4), (69, 5), (70, 5), (71, 4), (72, 3), (73, 3), (74, 3)] := by kernel_rfl
set_option maxRecDepth 100000 in
theorem lifted (os : Os) (started : os.Started) (H : Type) (enc : TypeId × Value → H) :
    ReturnsInHanded {} Try.checked os 3 .any (Rows.busNewSpec.pre6 enc Try.prog Try.f3 Rows.busNewRow.domain false) (Rows.busNewSpec.post enc Try.prog Try.f3 false true false false) := by
  refine returnsInHanded_of_change (C := Try.checked) own started (by kernel_rfl) Try.func3
    (ChangeSpec.witness6 (enc := enc) (C := Try.checked) false ⟨#[], #[.slice none 0 0, .slice none 0 0, .agg #[.int .u16 0, .int .u16 0, .int .u16 0, .int .u16 0, .int .u16 0, .int .u16 0, .int .u16 0, .int .u16 0, .int .u16 0, .bool false, .bool false, .bool false, .bool false, .bool false, .bool false, .int .u16 0, .int .u16 0, .int .u16 0, .int .u16 0, .int .u16 0, .int .u16 0, .int .u16 0, .int .u16 0, .int .u16 0, .bool false, .bool false, .bool false, .bool false, .bool false, .bool false, .slice none 0 0, .slice none 0 0, .slice none 0 0, .slice none 0 0, .slice none 0 0, .int .u8 0, .bool false, .int .u8 0, .int .u8 0, .bool false, .int .u8 0, .int .u16 0, .int .u16 0, .bool false, .bool false, .int .u16 0, .int .u16 0, .int .u8 0, .bool false, .int .u16 0, .int .u16 0, .int .u16 0, .int .u8 0, .bool false, .int .u16 0, .int .u16 0, .int .u16 0, .int .u8 0, .bool false, .int .u16 0, .int .i64 0, .int .i64 0, .int .i64 0, .bool false, .int .i64 0, .int .u16 0, .int .u16 0, .bool false, .bool false, .int .u8 0, .int .u8 0, .bool false, .int .i64 0, .int .i64 0, .int .i64 0]], []⟩ 8 (by kernel_rfl) (by kernel_rfl) (by kernel_rfl) (by kernel_rfl)) ?_
  intro W base args ds gs before hval0 hW hcnd _
  have hval : ∀ (j : Nat) t v, Try.f3.params[j]? = some t → args[j]? = some v → Value.okWide Try.prog W .any base t v := hval0
  have hW' := hW
  obtain ⟨p, q, hA0, hV, rfl, hfz, hnd⟩ := hW
  have hA : DataW.TrodAll enc Try.prog W 0 (fun _ => true) true Try.f3.params.toList args.toList ds p := hA0
  rw [Try.params3] at hA hval
  obtain ⟨v0, vs0, d0, ds0, p0, q0, hargs, rfl, rfl, h0, r0⟩ := trodAll_cons hA
  obtain ⟨v1, vs1, d1, ds1, p1, q1, rfl, rfl, rfl, h1, r1⟩ := trodAll_cons r0
  obtain ⟨v2, vs2, d2, ds2, p2, q2, rfl, rfl, rfl, h2, r2⟩ := trodAll_cons r1
  obtain ⟨rfl, rfl, rfl⟩ := trodAll_nil r2
  obtain rfl : args = #[v0, v1, v2] := by cases args; simp_all
  obtain ⟨rfl, rfl⟩ := trodVars_none hV
  obtain ⟨xs0, hx0⟩ := open_slice_at (k := .u8) Try.underlying22 Try.underlying5 cells5 (hval 0 22 v0 rfl rfl) h0
  obtain ⟨xs1, hx1⟩ := open_slice_at (k := .u8) Try.underlying22 Try.underlying5 cells5 (hval 1 22 v1 rfl rfl) h1
  obtain ⟨cs2, rfl, hl2, fu2, hf2⟩ := open_row Try.underlying41 (hval 2 41 v2 rfl rfl) h2
  obtain ⟨a2_0, e2_0, w2_0⟩ := leaf_int (n := 4) (i := 0) (t' := 23) (k := .u16) lok41 (by rw [leaves41]; simp) Try.underlying23 cells23 hl2 hf2
  obtain ⟨a2_1, e2_1, w2_1⟩ := leaf_int (n := 4) (i := 1) (t' := 23) (k := .u16) lok41 (by rw [leaves41]; simp) Try.underlying23 cells23 hl2 hf2
  obtain ⟨a2_2, e2_2, w2_2⟩ := leaf_int (n := 4) (i := 2) (t' := 23) (k := .u16) lok41 (by rw [leaves41]; simp) Try.underlying23 cells23 hl2 hf2
  obtain ⟨a2_3, e2_3, w2_3⟩ := leaf_int (n := 4) (i := 3) (t' := 23) (k := .u16) lok41 (by rw [leaves41]; simp) Try.underlying23 cells23 hl2 hf2
  obtain ⟨a2_4, e2_4, w2_4⟩ := leaf_int (n := 4) (i := 4) (t' := 23) (k := .u16) lok41 (by rw [leaves41]; simp) Try.underlying23 cells23 hl2 hf2
  obtain ⟨a2_5, e2_5, w2_5⟩ := leaf_int (n := 4) (i := 5) (t' := 23) (k := .u16) lok41 (by rw [leaves41]; simp) Try.underlying23 cells23 hl2 hf2
  obtain ⟨a2_6, e2_6, w2_6⟩ := leaf_int (n := 4) (i := 6) (t' := 23) (k := .u16) lok41 (by rw [leaves41]; simp) Try.underlying23 cells23 hl2 hf2
  obtain ⟨a2_7, e2_7, w2_7⟩ := leaf_int (n := 4) (i := 7) (t' := 23) (k := .u16) lok41 (by rw [leaves41]; simp) Try.underlying23 cells23 hl2 hf2
  obtain ⟨a2_8, e2_8, w2_8⟩ := leaf_int (n := 4) (i := 8) (t' := 23) (k := .u16) lok41 (by rw [leaves41]; simp) Try.underlying23 cells23 hl2 hf2
  obtain ⟨a2_9, e2_9⟩ := leaf_bool (n := 4) (i := 9) (t' := 4) lok41 (by rw [leaves41]; simp) Try.underlying4 cells4 hl2 hf2
  obtain ⟨a2_10, e2_10⟩ := leaf_bool (n := 4) (i := 10) (t' := 4) lok41 (by rw [leaves41]; simp) Try.underlying4 cells4 hl2 hf2
  obtain ⟨a2_11, e2_11⟩ := leaf_bool (n := 4) (i := 11) (t' := 4) lok41 (by rw [leaves41]; simp) Try.underlying4 cells4 hl2 hf2
  obtain ⟨a2_12, e2_12⟩ := leaf_bool (n := 4) (i := 12) (t' := 4) lok41 (by rw [leaves41]; simp) Try.underlying4 cells4 hl2 hf2
  obtain ⟨a2_13, e2_13⟩ := leaf_bool (n := 4) (i := 13) (t' := 4) lok41 (by rw [leaves41]; simp) Try.underlying4 cells4 hl2 hf2
  obtain ⟨a2_14, e2_14⟩ := leaf_bool (n := 4) (i := 14) (t' := 4) lok41 (by rw [leaves41]; simp) Try.underlying4 cells4 hl2 hf2
  obtain ⟨a2_15, e2_15, w2_15⟩ := leaf_int (n := 4) (i := 15) (t' := 23) (k := .u16) lok41 (by rw [leaves41]; simp) Try.underlying23 cells23 hl2 hf2
  obtain ⟨a2_16, e2_16, w2_16⟩ := leaf_int (n := 4) (i := 16) (t' := 23) (k := .u16) lok41 (by rw [leaves41]; simp) Try.underlying23 cells23 hl2 hf2
  obtain ⟨a2_17, e2_17, w2_17⟩ := leaf_int (n := 4) (i := 17) (t' := 23) (k := .u16) lok41 (by rw [leaves41]; simp) Try.underlying23 cells23 hl2 hf2
  obtain ⟨a2_18, e2_18, w2_18⟩ := leaf_int (n := 4) (i := 18) (t' := 23) (k := .u16) lok41 (by rw [leaves41]; simp) Try.underlying23 cells23 hl2 hf2
  obtain ⟨a2_19, e2_19, w2_19⟩ := leaf_int (n := 4) (i := 19) (t' := 23) (k := .u16) lok41 (by rw [leaves41]; simp) Try.underlying23 cells23 hl2 hf2
  obtain ⟨a2_20, e2_20, w2_20⟩ := leaf_int (n := 4) (i := 20) (t' := 23) (k := .u16) lok41 (by rw [leaves41]; simp) Try.underlying23 cells23 hl2 hf2
  obtain ⟨a2_21, e2_21, w2_21⟩ := leaf_int (n := 4) (i := 21) (t' := 23) (k := .u16) lok41 (by rw [leaves41]; simp) Try.underlying23 cells23 hl2 hf2
  obtain ⟨a2_22, e2_22, w2_22⟩ := leaf_int (n := 4) (i := 22) (t' := 23) (k := .u16) lok41 (by rw [leaves41]; simp) Try.underlying23 cells23 hl2 hf2
  obtain ⟨a2_23, e2_23, w2_23⟩ := leaf_int (n := 4) (i := 23) (t' := 23) (k := .u16) lok41 (by rw [leaves41]; simp) Try.underlying23 cells23 hl2 hf2
  obtain ⟨a2_24, e2_24⟩ := leaf_bool (n := 4) (i := 24) (t' := 4) lok41 (by rw [leaves41]; simp) Try.underlying4 cells4 hl2 hf2
  obtain ⟨a2_25, e2_25⟩ := leaf_bool (n := 4) (i := 25) (t' := 4) lok41 (by rw [leaves41]; simp) Try.underlying4 cells4 hl2 hf2
  obtain ⟨a2_26, e2_26⟩ := leaf_bool (n := 4) (i := 26) (t' := 4) lok41 (by rw [leaves41]; simp) Try.underlying4 cells4 hl2 hf2
  obtain ⟨a2_27, e2_27⟩ := leaf_bool (n := 4) (i := 27) (t' := 4) lok41 (by rw [leaves41]; simp) Try.underlying4 cells4 hl2 hf2
  obtain ⟨a2_28, e2_28⟩ := leaf_bool (n := 4) (i := 28) (t' := 4) lok41 (by rw [leaves41]; simp) Try.underlying4 cells4 hl2 hf2
  obtain ⟨a2_29, e2_29⟩ := leaf_bool (n := 4) (i := 29) (t' := 4) lok41 (by rw [leaves41]; simp) Try.underlying4 cells4 hl2 hf2
  obtain ⟨a2_30, xs2_30, e2_30, hx2_30⟩ := leaf_slice (n := 4) (i := 30) (t' := 22) (k := .u8) lok41 (by rw [leaves41]; simp) Try.underlying22 Try.underlying5 cells5 cells22 hl2 hf2
  obtain ⟨a2_31, xs2_31, e2_31, hx2_31⟩ := leaf_slice (n := 4) (i := 31) (t' := 22) (k := .u8) lok41 (by rw [leaves41]; simp) Try.underlying22 Try.underlying5 cells5 cells22 hl2 hf2
  obtain ⟨a2_32, xs2_32, e2_32, hx2_32⟩ := leaf_slice (n := 4) (i := 32) (t' := 22) (k := .u8) lok41 (by rw [leaves41]; simp) Try.underlying22 Try.underlying5 cells5 cells22 hl2 hf2
  obtain ⟨a2_33, xs2_33, e2_33, hx2_33⟩ := leaf_slice (n := 4) (i := 33) (t' := 22) (k := .u8) lok41 (by rw [leaves41]; simp) Try.underlying22 Try.underlying5 cells5 cells22 hl2 hf2
  obtain ⟨a2_34, xs2_34, e2_34, hx2_34⟩ := leaf_slice (n := 4) (i := 34) (t' := 22) (k := .u8) lok41 (by rw [leaves41]; simp) Try.underlying22 Try.underlying5 cells5 cells22 hl2 hf2
  obtain ⟨a2_35, e2_35, w2_35⟩ := leaf_int (n := 4) (i := 35) (t' := 5) (k := .u8) lok41 (by rw [leaves41]; simp) Try.underlying5 cells5 hl2 hf2
  obtain ⟨a2_36, e2_36⟩ := leaf_bool (n := 4) (i := 36) (t' := 4) lok41 (by rw [leaves41]; simp) Try.underlying4 cells4 hl2 hf2
  obtain ⟨a2_37, e2_37, w2_37⟩ := leaf_int (n := 4) (i := 37) (t' := 5) (k := .u8) lok41 (by rw [leaves41]; simp) Try.underlying5 cells5 hl2 hf2
  obtain ⟨a2_38, e2_38, w2_38⟩ := leaf_int (n := 4) (i := 38) (t' := 5) (k := .u8) lok41 (by rw [leaves41]; simp) Try.underlying5 cells5 hl2 hf2
  obtain ⟨a2_39, e2_39⟩ := leaf_bool (n := 4) (i := 39) (t' := 4) lok41 (by rw [leaves41]; simp) Try.underlying4 cells4 hl2 hf2
  obtain ⟨a2_40, e2_40, w2_40⟩ := leaf_int (n := 4) (i := 40) (t' := 5) (k := .u8) lok41 (by rw [leaves41]; simp) Try.underlying5 cells5 hl2 hf2
  obtain ⟨a2_41, e2_41, w2_41⟩ := leaf_int (n := 4) (i := 41) (t' := 23) (k := .u16) lok41 (by rw [leaves41]; simp) Try.underlying23 cells23 hl2 hf2
  obtain ⟨a2_42, e2_42, w2_42⟩ := leaf_int (n := 4) (i := 42) (t' := 23) (k := .u16) lok41 (by rw [leaves41]; simp) Try.underlying23 cells23 hl2 hf2
  obtain ⟨a2_43, e2_43⟩ := leaf_bool (n := 4) (i := 43) (t' := 4) lok41 (by rw [leaves41]; simp) Try.underlying4 cells4 hl2 hf2
  obtain ⟨a2_44, e2_44⟩ := leaf_bool (n := 4) (i := 44) (t' := 4) lok41 (by rw [leaves41]; simp) Try.underlying4 cells4 hl2 hf2
  obtain ⟨a2_45, e2_45, w2_45⟩ := leaf_int (n := 4) (i := 45) (t' := 23) (k := .u16) lok41 (by rw [leaves41]; simp) Try.underlying23 cells23 hl2 hf2
  obtain ⟨a2_46, e2_46, w2_46⟩ := leaf_int (n := 4) (i := 46) (t' := 23) (k := .u16) lok41 (by rw [leaves41]; simp) Try.underlying23 cells23 hl2 hf2
  obtain ⟨a2_47, e2_47, w2_47⟩ := leaf_int (n := 4) (i := 47) (t' := 5) (k := .u8) lok41 (by rw [leaves41]; simp) Try.underlying5 cells5 hl2 hf2
  obtain ⟨a2_48, e2_48⟩ := leaf_bool (n := 4) (i := 48) (t' := 4) lok41 (by rw [leaves41]; simp) Try.underlying4 cells4 hl2 hf2
  obtain ⟨a2_49, e2_49, w2_49⟩ := leaf_int (n := 4) (i := 49) (t' := 23) (k := .u16) lok41 (by rw [leaves41]; simp) Try.underlying23 cells23 hl2 hf2
  obtain ⟨a2_50, e2_50, w2_50⟩ := leaf_int (n := 4) (i := 50) (t' := 23) (k := .u16) lok41 (by rw [leaves41]; simp) Try.underlying23 cells23 hl2 hf2
  obtain ⟨a2_51, e2_51, w2_51⟩ := leaf_int (n := 4) (i := 51) (t' := 23) (k := .u16) lok41 (by rw [leaves41]; simp) Try.underlying23 cells23 hl2 hf2
  obtain ⟨a2_52, e2_52, w2_52⟩ := leaf_int (n := 4) (i := 52) (t' := 5) (k := .u8) lok41 (by rw [leaves41]; simp) Try.underlying5 cells5 hl2 hf2
  obtain ⟨a2_53, e2_53⟩ := leaf_bool (n := 4) (i := 53) (t' := 4) lok41 (by rw [leaves41]; simp) Try.underlying4 cells4 hl2 hf2
  obtain ⟨a2_54, e2_54, w2_54⟩ := leaf_int (n := 4) (i := 54) (t' := 23) (k := .u16) lok41 (by rw [leaves41]; simp) Try.underlying23 cells23 hl2 hf2
  obtain ⟨a2_55, e2_55, w2_55⟩ := leaf_int (n := 4) (i := 55) (t' := 23) (k := .u16) lok41 (by rw [leaves41]; simp) Try.underlying23 cells23 hl2 hf2
  obtain ⟨a2_56, e2_56, w2_56⟩ := leaf_int (n := 4) (i := 56) (t' := 23) (k := .u16) lok41 (by rw [leaves41]; simp) Try.underlying23 cells23 hl2 hf2
  obtain ⟨a2_57, e2_57, w2_57⟩ := leaf_int (n := 4) (i := 57) (t' := 5) (k := .u8) lok41 (by rw [leaves41]; simp) Try.underlying5 cells5 hl2 hf2
  obtain ⟨a2_58, e2_58⟩ := leaf_bool (n := 4) (i := 58) (t' := 4) lok41 (by rw [leaves41]; simp) Try.underlying4 cells4 hl2 hf2
  obtain ⟨a2_59, e2_59, w2_59⟩ := leaf_int (n := 4) (i := 59) (t' := 23) (k := .u16) lok41 (by rw [leaves41]; simp) Try.underlying23 cells23 hl2 hf2
  obtain ⟨a2_60, e2_60, w2_60⟩ := leaf_int (n := 4) (i := 60) (t' := 3) (k := .i64) lok41 (by rw [leaves41]; simp) Try.underlying3 cells3 hl2 hf2
  obtain ⟨a2_61, e2_61, w2_61⟩ := leaf_int (n := 4) (i := 61) (t' := 3) (k := .i64) lok41 (by rw [leaves41]; simp) Try.underlying3 cells3 hl2 hf2
  obtain ⟨a2_62, e2_62, w2_62⟩ := leaf_int (n := 4) (i := 62) (t' := 3) (k := .i64) lok41 (by rw [leaves41]; simp) Try.underlying3 cells3 hl2 hf2
  obtain ⟨a2_63, e2_63⟩ := leaf_bool (n := 4) (i := 63) (t' := 4) lok41 (by rw [leaves41]; simp) Try.underlying4 cells4 hl2 hf2
  obtain ⟨a2_64, e2_64, w2_64⟩ := leaf_int (n := 4) (i := 64) (t' := 3) (k := .i64) lok41 (by rw [leaves41]; simp) Try.underlying3 cells3 hl2 hf2
  obtain ⟨a2_65, e2_65, w2_65⟩ := leaf_int (n := 4) (i := 65) (t' := 23) (k := .u16) lok41 (by rw [leaves41]; simp) Try.underlying23 cells23 hl2 hf2
  obtain ⟨a2_66, e2_66, w2_66⟩ := leaf_int (n := 4) (i := 66) (t' := 23) (k := .u16) lok41 (by rw [leaves41]; simp) Try.underlying23 cells23 hl2 hf2
  obtain ⟨a2_67, e2_67⟩ := leaf_bool (n := 4) (i := 67) (t' := 4) lok41 (by rw [leaves41]; simp) Try.underlying4 cells4 hl2 hf2
  obtain ⟨a2_68, e2_68⟩ := leaf_bool (n := 4) (i := 68) (t' := 4) lok41 (by rw [leaves41]; simp) Try.underlying4 cells4 hl2 hf2
  obtain ⟨a2_69, e2_69, w2_69⟩ := leaf_int (n := 4) (i := 69) (t' := 5) (k := .u8) lok41 (by rw [leaves41]; simp) Try.underlying5 cells5 hl2 hf2
  obtain ⟨a2_70, e2_70, w2_70⟩ := leaf_int (n := 4) (i := 70) (t' := 5) (k := .u8) lok41 (by rw [leaves41]; simp) Try.underlying5 cells5 hl2 hf2
  obtain ⟨a2_71, e2_71⟩ := leaf_bool (n := 4) (i := 71) (t' := 4) lok41 (by rw [leaves41]; simp) Try.underlying4 cells4 hl2 hf2
  obtain ⟨a2_72, e2_72, w2_72⟩ := leaf_int (n := 4) (i := 72) (t' := 3) (k := .i64) lok41 (by rw [leaves41]; simp) Try.underlying3 cells3 hl2 hf2
  obtain ⟨a2_73, e2_73, w2_73⟩ := leaf_int (n := 4) (i := 73) (t' := 3) (k := .i64) lok41 (by rw [leaves41]; simp) Try.underlying3 cells3 hl2 hf2
  obtain ⟨a2_74, e2_74, w2_74⟩ := leaf_int (n := 4) (i := 74) (t' := 3) (k := .i64) lok41 (by rw [leaves41]; simp) Try.underlying3 cells3 hl2 hf2
  have q2x : cs2 = #[.int .u16 a2_0, .int .u16 a2_1, .int .u16 a2_2, .int .u16 a2_3, .int .u16 a2_4, .int .u16 a2_5, .int .u16 a2_6, .int .u16 a2_7, .int .u16 a2_8, .bool a2_9, .bool a2_10, .bool a2_11, .bool a2_12, .bool a2_13, .bool a2_14, .int .u16 a2_15, .int .u16 a2_16, .int .u16 a2_17, .int .u16 a2_18, .int .u16 a2_19, .int .u16 a2_20, .int .u16 a2_21, .int .u16 a2_22, .int .u16 a2_23, .bool a2_24, .bool a2_25, .bool a2_26, .bool a2_27, .bool a2_28, .bool a2_29, a2_30, a2_31, a2_32, a2_33, a2_34, .int .u8 a2_35, .bool a2_36, .int .u8 a2_37, .int .u8 a2_38, .bool a2_39, .int .u8 a2_40, .int .u16 a2_41, .int .u16 a2_42, .bool a2_43, .bool a2_44, .int .u16 a2_45, .int .u16 a2_46, .int .u8 a2_47, .bool a2_48, .int .u16 a2_49, .int .u16 a2_50, .int .u16 a2_51, .int .u8 a2_52, .bool a2_53, .int .u16 a2_54, .int .u16 a2_55, .int .u16 a2_56, .int .u8 a2_57, .bool a2_58, .int .u16 a2_59, .int .i64 a2_60, .int .i64 a2_61, .int .i64 a2_62, .bool a2_63, .int .i64 a2_64, .int .u16 a2_65, .int .u16 a2_66, .bool a2_67, .bool a2_68, .int .u8 a2_69, .int .u8 a2_70, .bool a2_71, .int .i64 a2_72, .int .i64 a2_73, .int .i64 a2_74] := cells_lit (eq_cons e2_0 ( eq_cons e2_1 ( eq_cons e2_2 ( eq_cons e2_3 ( eq_cons e2_4 ( eq_cons e2_5 ( eq_cons e2_6 ( eq_cons e2_7 ( eq_cons e2_8 ( eq_cons e2_9 ( eq_cons e2_10 ( eq_cons e2_11 ( eq_cons e2_12 ( eq_cons e2_13 ( eq_cons e2_14 ( eq_cons e2_15 ( eq_cons e2_16 ( eq_cons e2_17 ( eq_cons e2_18 ( eq_cons e2_19 ( eq_cons e2_20 ( eq_cons e2_21 ( eq_cons e2_22 ( eq_cons e2_23 ( eq_cons e2_24 ( eq_cons e2_25 ( eq_cons e2_26 ( eq_cons e2_27 ( eq_cons e2_28 ( eq_cons e2_29 ( eq_cons e2_30 ( eq_cons e2_31 ( eq_cons e2_32 ( eq_cons e2_33 ( eq_cons e2_34 ( eq_cons e2_35 ( eq_cons e2_36 ( eq_cons e2_37 ( eq_cons e2_38 ( eq_cons e2_39 ( eq_cons e2_40 ( eq_cons e2_41 ( eq_cons e2_42 ( eq_cons e2_43 ( eq_cons e2_44 ( eq_cons e2_45 ( eq_cons e2_46 ( eq_cons e2_47 ( eq_cons e2_48 ( eq_cons e2_49 ( eq_cons e2_50 ( eq_cons e2_51 ( eq_cons e2_52 ( eq_cons e2_53 ( eq_cons e2_54 ( eq_cons e2_55 ( eq_cons e2_56 ( eq_cons e2_57 ( eq_cons e2_58 ( eq_cons e2_59 ( eq_cons e2_60 ( eq_cons e2_61 ( eq_cons e2_62 ( eq_cons e2_63 ( eq_cons e2_64 ( eq_cons e2_65 ( eq_cons e2_66 ( eq_cons e2_67 ( eq_cons e2_68 ( eq_cons e2_69 ( eq_cons e2_70 ( eq_cons e2_71 ( eq_cons e2_72 ( eq_cons e2_73 ( eq_cons e2_74 (List.drop_eq_nil_of_le (by rw [hl2, cells41]; exact Nat.le_refl _)))))))))))))))))))))))))))))))))))))))))))))))))))))))))))))))))))))))))))))
  subst q2x
  clear hA0 hval0
  refine (walk v0 xs0 v1 xs1 (mkV a2_30 a2_31 a2_32 a2_33 a2_34) (⟨⟨mkR a2_0 a2_1 a2_2 a2_3 a2_4 a2_5 a2_6 a2_7, a2_8, a2_9, a2_10, a2_11, a2_12, a2_13, a2_14⟩, ⟨mkR a2_15 a2_16 a2_17 a2_18 a2_19 a2_20 a2_21 a2_22, a2_23, a2_24, a2_25, a2_26, a2_27, a2_28, a2_29⟩, mkL xs2_30 xs2_31 xs2_32 xs2_33 xs2_34, ⟨a2_35, a2_36, a2_37⟩, ⟨a2_38, a2_39, a2_40⟩, ⟨a2_41, a2_42, a2_43, a2_44⟩, ⟨⟨a2_45, a2_46, a2_47, a2_48, a2_49⟩, ⟨a2_50, a2_51, a2_52, a2_53, a2_54⟩, ⟨a2_55, a2_56, a2_57, a2_58, a2_59⟩, a2_60⟩, ⟨a2_61, a2_62, a2_63, a2_64⟩, a2_65, a2_66, a2_67, a2_68, a2_69, a2_70, a2_71, a2_72, a2_73, a2_74⟩ : Mach) W hx0 hx1 (mkMV rfl hx2_30 hx2_31 hx2_32 hx2_33 hx2_34) (⟨mkR_in (bounds_u16 w2_0) (bounds_u16 w2_1) (bounds_u16 w2_2) (bounds_u16 w2_3) (bounds_u16 w2_4) (bounds_u16 w2_5) (bounds_u16 w2_6) (bounds_u16 w2_7) (bounds_u16 w2_8), mkR_in (bounds_u16 w2_15) (bounds_u16 w2_16) (bounds_u16 w2_17) (bounds_u16 w2_18) (bounds_u16 w2_19) (bounds_u16 w2_20) (bounds_u16 w2_21) (bounds_u16 w2_22) (bounds_u16 w2_23), mkL_in hx2_30 hx2_31 hx2_32 hx2_33 hx2_34, ⟨(bounds_u8 w2_35), (bounds_u8 w2_37)⟩, ⟨(bounds_u8 w2_38), (bounds_u8 w2_40)⟩, ⟨(bounds_u16 w2_41), (bounds_u16 w2_42)⟩, ⟨⟨(bounds_u16 w2_45), (bounds_u16 w2_46), (bounds_u8 w2_47), (bounds_u16 w2_49)⟩, ⟨(bounds_u16 w2_50), (bounds_u16 w2_51), (bounds_u8 w2_52), (bounds_u16 w2_54)⟩, ⟨(bounds_u16 w2_55), (bounds_u16 w2_56), (bounds_u8 w2_57), (bounds_u16 w2_59)⟩⟩, (bounds_i64 w2_60), (bounds_i64 w2_61), (bounds_i64 w2_62), (bounds_i64 w2_64), (bounds_u16 w2_65), (bounds_u16 w2_66), (bounds_u8 w2_69), (bounds_u8 w2_70), (bounds_i64 w2_72), (bounds_i64 w2_73), (bounds_i64 w2_74)⟩ : Mach.In (⟨⟨mkR a2_0 a2_1 a2_2 a2_3 a2_4 a2_5 a2_6 a2_7, a2_8, a2_9, a2_10, a2_11, a2_12, a2_13, a2_14⟩, ⟨mkR a2_15 a2_16 a2_17 a2_18 a2_19 a2_20 a2_21 a2_22, a2_23, a2_24, a2_25, a2_26, a2_27, a2_28, a2_29⟩, mkL xs2_30 xs2_31 xs2_32 xs2_33 xs2_34, ⟨a2_35, a2_36, a2_37⟩, ⟨a2_38, a2_39, a2_40⟩, ⟨a2_41, a2_42, a2_43, a2_44⟩, ⟨⟨a2_45, a2_46, a2_47, a2_48, a2_49⟩, ⟨a2_50, a2_51, a2_52, a2_53, a2_54⟩, ⟨a2_55, a2_56, a2_57, a2_58, a2_59⟩, a2_60⟩, ⟨a2_61, a2_62, a2_63, a2_64⟩, a2_65, a2_66, a2_67, a2_68, a2_69, a2_70, a2_71, a2_72, a2_73, a2_74⟩ : Mach))).mono fun e W' ⟨he, hb⟩ => ?_
  subst he
  have hb' : Below W.heap.size W W' := by first | exact hb | (subst hb; exact Below.refl _ _)
  exact ⟨_, rfl, law_post laid (by kernel_rfl) rfl Try.underlying4 rfl rfl hW' hb'⟩

theorem over : Rows.busNewRow.holds Try.pinned (OpenSpec.ofChange Rows.busNewSpec) :=
  OpenClaim.holds_of_wide 3 Try.f3 rfl rfl rfl rfl rfl rfl rfl ⟨rfl, rfl, rfl, rfl, rfl⟩ rfl rfl rfl rfl rfl (by kernel_rfl) Try.func3 (by kernel_rfl)
    (of_decide_eq_true (by kernel_rfl)) (by unfold Func.isWrapper; first | (rw [if_pos (by decide +kernel)]; kernel_rfl) | (rw [if_neg (by decide +kernel)]; exact ⟨rfl, rfl⟩))
    (fun os started H enc _ => lifted os started H enc)

theorem proved : Rows.BusNewSaid :=
  over
#print axioms proved
end Go.Proofs.Ytimccpmdgfneoaa.busNew
