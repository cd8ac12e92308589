/- The row of OrderWords, and its card: for every input the law answers true, and each argument reads as it did. Conditions: the variables that the row lists hold what their initialisers lay (the card ties them to the text). -/
import Derived.Test.YtmpdoiilakjmbaaDoorLawOrderWords
import Derived.Test.YtmpdoiilakjmbaaDoorDoorL9
import Derived.Test.YtmpdoiilakjmbaaDoorFrameD
import Derived.Test.YtmpdoiilakjmbaaDoorCards
import Derived.Test.YtmpdoiilakjmbaaDoorTie

namespace Go.Proofs.YtmpdoiilakjmbaaDoor.orderWords
open Go.ChangeShapes Go.WideShapes Go.ChangeAt Go.RowKit Go.Mq
set_option linter.unusedVariables false
theorem own : ownKnob Tryd.prog.godebug = none := by kernel_rfl
theorem laid : laidOutB Tryd.prog = true := by kernel_rfl
theorem cells33 : Tryd.prog.cellsOf 33 = 5 := by kernel_rfl
theorem lok33 : leavesOk Tryd.prog 4 33 = true := by kernel_rfl
theorem cells3 : Tryd.prog.cellsOf 3 = 1 := by kernel_rfl
theorem leaves33 : leaves Tryd.prog 4 33 0 = [(0, 3), (1, 3), (2, 3), (3, 3), (4, 3)] := by kernel_rfl
set_option maxRecDepth 100000 in
theorem contract (H : Type) (enc : TypeId × Value → H) (W : World) (base : Nat) (args : Array Value) (ds gs : List (DataW H)) (before : List MemPlace)
    (hval : ∀ (j : Nat) t v, Tryd.f4.params[j]? = some t → args[j]? = some v → Value.okWide Tryd.prog W .any base t v)
    (hW : DataW.Whole enc Tryd.prog Tryd.f4.params.toList Rows.orderWordsSpec.vars false W args.toList ds gs before)
    (hsz : (DataW.weightsEach Tryd.prog (Tryd.f4.params.toList ++ (OpenSpec.ofChange Rows.orderWordsSpec).bare.plain.varTypes Tryd.prog) (ds ++ gs)).all (· ≤ reachBytes) = true) (hK : Lk9 W) :
    Calls Tryd.prog 4 args W fun e W' => ∃ v, e = .returned v ∧ Rows.orderWordsSpec.post enc Tryd.prog Tryd.f4 false true false false W args v W' := by
  have hW' := hW
  obtain ⟨p, q, hA0, hV, rfl, hfz, hnd⟩ := hW
  have hA : DataW.TrodAll enc Tryd.prog W 0 (fun _ => true) true Tryd.f4.params.toList args.toList ds p := hA0
  rw [Tryd.params4] at hA hval hsz
  obtain ⟨v0, vs0, d0, ds0, p0, q0, hargs, rfl, rfl, h0, r0⟩ := trodAll_cons hA
  obtain ⟨v1, vs1, d1, ds1, p1, q1, rfl, rfl, rfl, h1, r1⟩ := trodAll_cons r0
  obtain ⟨rfl, rfl, rfl⟩ := trodAll_nil r1
  obtain rfl : args = #[v0, v1] := by cases args; simp_all
  obtain ⟨rfl, rfl⟩ := trodVars_none hV
  obtain ⟨cs0, rfl, hl0, fu0, hf0⟩ := Go.Mq.open_row Tryd.underlying33 (hval 0 33 v0 rfl rfl) h0
  obtain ⟨a0_0, e0_0, w0_0⟩ := leaf_int (n := 4) (i := 0) (t' := 3) (k := .i64) lok33 (by rw [leaves33]; simp) Tryd.underlying3 cells3 hl0 hf0
  obtain ⟨a0_1, e0_1, w0_1⟩ := leaf_int (n := 4) (i := 1) (t' := 3) (k := .i64) lok33 (by rw [leaves33]; simp) Tryd.underlying3 cells3 hl0 hf0
  obtain ⟨a0_2, e0_2, w0_2⟩ := leaf_int (n := 4) (i := 2) (t' := 3) (k := .i64) lok33 (by rw [leaves33]; simp) Tryd.underlying3 cells3 hl0 hf0
  obtain ⟨a0_3, e0_3, w0_3⟩ := leaf_int (n := 4) (i := 3) (t' := 3) (k := .i64) lok33 (by rw [leaves33]; simp) Tryd.underlying3 cells3 hl0 hf0
  obtain ⟨a0_4, e0_4, w0_4⟩ := leaf_int (n := 4) (i := 4) (t' := 3) (k := .i64) lok33 (by rw [leaves33]; simp) Tryd.underlying3 cells3 hl0 hf0
  have q0x : cs0 = #[.int .i64 a0_0, .int .i64 a0_1, .int .i64 a0_2, .int .i64 a0_3, .int .i64 a0_4] := cells_lit (eq_cons e0_0 ( eq_cons e0_1 ( eq_cons e0_2 ( eq_cons e0_3 ( eq_cons e0_4 (List.drop_eq_nil_of_le (by rw [hl0, cells33]; exact Nat.le_refl _)))))))
  subst q0x
  obtain ⟨a1, rfl, rfl, rfl, w1⟩ := open_int Tryd.underlying3 (hval 1 3 v1 rfl rfl) h1
  clear hA0
  refine (walk a0_0 a0_1 a0_2 a0_3 a0_4 a1 W (bounds_i64 w0_0) (bounds_i64 w0_1) (bounds_i64 w0_2) (bounds_i64 w0_3) (bounds_i64 w0_4) (bounds_i64 w1) hK).mono fun e W' ⟨he, hb⟩ => ?_
  subst he
  exact ⟨_, rfl, law_post laid (by kernel_rfl) rfl Tryd.underlying4 rfl rfl hW' hb⟩
theorem reads (os : Os) {H : Type} (enc : TypeId × Value → H) : ∃ places, DataW.whole enc Tryd.prog ((laidWorld os).forCall (fun _ _ => 0) ⟨#[], #[.agg #[.int .i64 0, .int .i64 0, .int .i64 0, .int .i64 0, .int .i64 0], .int .i64 0], []⟩).memory Tryd.f4.params.toList Rows.orderWordsSpec.vars false (#[.agg #[.int .i64 0, .int .i64 0, .int .i64 0, .int .i64 0, .int .i64 0], .int .i64 0] : Array Value).toList 8 = some ([.agg [.lit (.int .i64 0), .lit (.int .i64 0), .lit (.int .i64 0), .lit (.int .i64 0), .lit (.int .i64 0)], .lit (.int .i64 0)], [], places) :=
  ⟨[], by kernel_rfl⟩
set_option maxRecDepth 100000 in
theorem lifted (os : Os) (started : os.Started) (H : Type) (enc : TypeId × Value → H) (F : Stop.Interp) :
    ReturnsInHanded {} Tryd.checked os 4 .any ((OpenSpec.ofChange Rows.orderWordsSpec).preRow enc Tryd.prog Tryd.f4 Rows.orderWordsRow.domain false Rows.orderWordsRow.laid) (((OpenSpec.ofChange Rows.orderWordsSpec).at F).post enc Tryd.prog Tryd.f4 false true false false) := by
  obtain ⟨places, hx⟩ := reads os enc
  refine returnsInHanded_of_row (C := Tryd.checked) (s := OpenSpec.ofChange Rows.orderWordsSpec) own started (by kernel_rfl) Tryd.func4
    (witness_shaped_row (enc := enc) (C := Tryd.checked) false (laidWorld os) #[.agg #[.int .i64 0, .int .i64 0, .int .i64 0, .int .i64 0, .int .i64 0], .int .i64 0] rfl (laid_shaped os _) (by kernel_rfl)
      (OpenSpec.preRow_of_cond 8 hx (by kernel_rfl) (fun k hk => by cases hk) (by kernel_rfl) (laid9_met os _))) ?_
  intro W base args ds gs before hval hW _ _ hsz hL hsh _
  exact contract H enc W base args ds gs before hval hW hsz (lk9 hL hsh)
theorem said : Rows.OrderWordsSaid :=
  OpenClaim.holds_of_cond 4 Tryd.f4 rfl rfl rfl rfl rfl rfl rfl ⟨rfl, rfl, rfl, rfl, rfl⟩ rfl rfl rfl rfl rfl (by kernel_rfl) Tryd.func4 (by kernel_rfl)
    (of_decide_eq_true (by kernel_rfl)) (by unfold Func.isWrapper; first | (rw [if_pos (by decide +kernel)]; kernel_rfl) | (rw [if_neg (by decide +kernel)]; exact ⟨rfl, rfl⟩))
    (fun os started H enc _ F => by rw [OpenClaim.pre_eq_preRow]; exact lifted os started H enc F)
theorem plain (f : FuncId) (fn : Func) (hf : Tryd.pinned.checked.prog.funcNamed "marquee/marqueelaw.OrderWords" = some f) (hfn : Tryd.pinned.checked.prog.funcs[f]? = some fn) :
    true = Tryd.pinned.checked.prog.looks [] ∧ ∀ (j : Nat) t, fn.params[j]? = some t → Tryd.pinned.checked.prog.wantsStandIn t = false := by
  obtain rfl : f = 4 := Option.some.inj ((show Tryd.prog.funcNamed "marquee/marqueelaw.OrderWords" = some 4 by kernel_rfl).symm.trans hf) |>.symm
  obtain rfl : fn = Tryd.f4 := (Option.some.inj (Tryd.func4.symm.trans hfn)).symm
  refine ⟨by kernel_rfl, fun j t ht => ?_⟩
  rw [Tryd.params4] at ht
  have hm : t ∈ [33, 3] := by simpa using Array.mem_of_getElem? ht
  have hall : ([33, 3].all fun u => !Tryd.prog.wantsStandIn u) = true := by kernel_rfl
  exact (show Tryd.prog.wantsStandIn t = false by simpa using List.all_eq_true.1 hall t hm)
theorem proved : Rows.OrderWordsCardSaid :=
  Claim7.holds_tied_plain_at .later [] _ _ _ _ said (fun _ h => by cases h) (by kernel_rfl) (fun _ h => by cases h) orderWords_row_tie rfl ⟨rfl, rfl⟩ (by kernel_rfl) rfl plain (by kernel_rfl)
#print axioms proved
end Go.Proofs.YtmpdoiilakjmbaaDoor.orderWords
