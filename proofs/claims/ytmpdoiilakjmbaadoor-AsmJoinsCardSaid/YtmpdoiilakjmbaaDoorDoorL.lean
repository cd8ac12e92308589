/- What a row's list of variables gives, and a world for the witness in which the list is met. Conditions: none of its own. -/
import Derived.Test.YtmpdoiilakjmbaaDoorTie
import Derived.Test.YtmpdoiilakjmbaaDoorCards
import Derived.Test.YtmpdoiilakjmbaaDoorLibS
import Derived.Test.YtmpdoiilakjmbaaDoorFrame
import Derived.WalkKit
import Derived.ProofKit
import Derived.OpenShut
import Derived.Deep.DeepHandedRow
import Derived.LaidMore
namespace Go.Proofs.YtmpdoiilakjmbaaDoor
open Go.ChangeShapes Go.WideShapes Go.ChangeAt Go.RowKit Go.Mq
set_option maxRecDepth 100000
theorem pow_eq : (Rows.laid_internal_strconv_uint64pow10 : DataW Unit) = Lib.tabData .u64 Lib.pow10Tab := by kernel_rfl
abbrev laid7 : List (String × DataW Unit) := Rows.asmBackRow.laid
theorem plain7 : laid7.filter (fun x => x.2.handleName?.isSome) = [] := by kernel_rfl
theorem met7 {W : World} (h : laidMetH Tryd.prog laid7 W) : laidMet Tryd.prog laid7 W := by
  unfold laidMetH at h
  rw [plain7] at h
  exact h
theorem gES : (Tryd.prog).globalNamed "strconv.ErrSyntax" = some 3 := by kernel_rfl
theorem gER : (Tryd.prog).globalNamed "strconv.ErrRange" = some 4 := by kernel_rfl
theorem gPW : (Tryd.prog).globalNamed "internal/strconv.uint64pow10" = some 7 := by kernel_rfl
theorem tES : ((Tryd.prog).globals[3]?).map (·.type) = some 61 := by kernel_rfl
theorem tER : ((Tryd.prog).globals[4]?).map (·.type) = some 61 := by kernel_rfl
theorem tPW : ((Tryd.prog).globals[7]?).map (·.type) = some 173 := by kernel_rfl
theorem cellsES : (Tryd.prog).cellsOf 182 = 1 := by kernel_rfl
theorem cellsSt : (Tryd.prog).cellsOf 9 = 1 := by kernel_rfl
theorem cellsPW : (Tryd.prog).cellsOf 173 = 20 := by kernel_rfl
theorem cellsU64 : (Tryd.prog).cellsOf 140 = 1 := by kernel_rfl
theorem star : "*" ++ "errors.errorString" = "*errors.errorString" := by decide
theorem rowES (u : TypeId) (h : (Tryd.prog).typeName? 3 u = some "*errors.errorString") : u = 180 :=
  typeName_ptr_named (nm := "errors.errorString") (by rw [star]; kernel_rfl) (by kernel_rfl) (by decide) u (by rw [star]; exact h)
theorem lk_of {l : List (String × DataW Unit)} {W : World} (h : laidMet Tryd.prog l W) (hsh : W.ShapedOpen Tryd.prog) (hp : ("internal/strconv.uint64pow10", Rows.laid_internal_strconv_uint64pow10) ∈ l) (r1 r2 : List (String × DataW Unit))
    (h1 : laidMet Tryd.prog (("strconv.ErrRange", Rows.laid_strconv_ErrRange) :: r1) W) (h2 : laidMet Tryd.prog (("strconv.ErrSyntax", Rows.laid_strconv_ErrSyntax) :: r2) W) : Lk W := by
  refine ⟨?_, ?_, ?_, Tryd.laysM146.s1_3 W hsh⟩
  · obtain ⟨g, t, cs, fuel, p, hg, ht, hv, hd⟩ := Lib.laidMet.reads h hp
    obtain rfl := Option.some.inj (gPW.symm.trans hg)
    obtain rfl := Option.some.inj (tPW.symm.trans ht)
    rw [pow_eq] at hd
    unfold Lib.TabIs
    rw [hv, ← Lib.cells_of_tab Tryd.underlying173 Tryd.underlying140 cellsU64 cellsPW hd]
  · obtain ⟨a0, s0, hv0, -, -, -⟩ := laid_sentinel h2 gES tES Tryd.underlying61 rowES Tryd.underlying180 Tryd.underlying182 rfl rfl Tryd.underlying9 cellsES cellsSt
    exact ⟨_, _, hv0⟩
  · obtain ⟨a0, s0, hv0, -, -, -⟩ := laid_sentinel h1 gER tER Tryd.underlying61 rowES Tryd.underlying180 Tryd.underlying182 rfl rfl Tryd.underlying9 cellsES cellsSt
    exact ⟨_, _, hv0⟩
theorem lk7 {W : World} (h : laidMetH Tryd.prog laid7 W) (hsh : W.ShapedOpen Tryd.prog) : Lk W := by
  have hm := met7 h
  refine lk_of hm hsh (by simp [laid7, Rows.asmBackRow]) _ _ (laidMet.tail (laidMet.tail (laidMet.tail (laidMet.tail hm)))) (laidMet.tail (laidMet.tail (laidMet.tail (laidMet.tail (laidMet.tail hm)))))
/-- a world in which all listed variables hold what they were laid with -/
noncomputable def laidWorld (os : Os) : World :=
  { World.doorLaid Tryd.prog 96 os with heap := (World.doorLaid Tryd.prog 96 os).heap.modify 5 fun
      | .cells _ t frozen => .cells (Go.Pinned.utf8FirstZ.map fun z : Nat => Value.int .u8 z).toArray t frozen
      | o => o }
theorem laid7_met (os : Os) (args : Array Value) : laidMetH Tryd.prog laid7 ((laidWorld os).forCall (fun _ _ => 0) ⟨#[], args, []⟩).memory :=
  laidMetH_of_parts3 (fuel := 8) (laidMet_of_run' 8 (by kernel_rfl) (by kernel_rfl)) (by kernel_rfl) (by kernel_rfl)
theorem laid_shaped (os : Os) (args : Array Value) : ((laidWorld os).forCall (fun _ _ => 0) ⟨#[], args, []⟩).Shaped Tryd.prog :=
  World.shaped_of_RefB (by kernel_rfl) (by kernel_rfl)
/-- 'there is an input that fits', at a world that is written out -/
theorem witness_shaped_row {H : Type} {enc : TypeId × Value → H} {C : Checked} {os : Os} {f : FuncId} {fn : Func} {s : OpenSpec} {conds : List PathCond} {apart : Bool} {laid : List (String × DataW Unit)} (modest : Bool) (w0 : World) (args : Array Value) (hos : w0.os = os)
    (hsh : (w0.forCall (fun _ _ => 0) ⟨#[], args, []⟩).Shaped C.prog) (hok : Input.okWideB C.prog (w0.forCall (fun _ _ => 0) ⟨#[], args, []⟩) f ⟨#[], args, []⟩ = true)
    (hrow : s.preRow enc C.prog fn conds apart laid (w0.forCall (fun _ _ => 0) ⟨#[], args, []⟩).memory args) :
    ∃ (w : World) (tape : Tape) (i : Input), w.os = os ∧ (w.forCall tape i).Shaped C.prog ∧ i.vars = [] ∧ Input.okWide C.prog (w.forCall tape i) .any w.heap.size f i ∧
      s.preRow enc C.prog fn conds apart laid (w.forCall tape i).memory i.args ∧ ({ modest := modest } : Assume).holds C.prog (lone (Frame.enter C.prog f i.args .normal) [] (w.forCall tape i)) :=
  ⟨w0, fun _ _ => 0, ⟨#[], args, []⟩, hos, hsh, (Input.okWide_of_okWideB (base := 0) hok).1, (Input.okWide_of_okWideB hok).2, hrow, by
    simp only [Assume.holds]
    exact ⟨by simp, by simp, fun _ => Modest.zero, by simp, by simp⟩⟩
end Go.Proofs.YtmpdoiilakjmbaaDoor
