/- What a row's list of nine variables gives. Conditions: none of its own. -/
import Derived.Test.YtmpdoiilakjmbaaDoorDoorL
import Derived.Test.YtmpdoiilakjmbaaDoorKinds
import Derived.LaidOnce
namespace Go.Proofs.YtmpdoiilakjmbaaDoor
open Go.ChangeShapes Go.WideShapes Go.ChangeAt Go.RowKit Go.Mq
set_option maxRecDepth 100000
theorem sp_eq : (Rows.laid_strings_asciiSpace : DataW Unit) = Lib.tabData .u8 Lib.asciiSpaceTab := by kernel_rfl
abbrev laid9 : List (String × DataW Unit) := Rows.orderWordsRow.laid
theorem plain9 : laid9.filter (fun x => x.2.handleName?.isSome) = [] := by kernel_rfl
theorem met9 {W : World} (h : laidMetH Tryd.prog laid9 W) : laidMet Tryd.prog laid9 W := by
  unfold laidMetH at h
  rw [plain9] at h
  exact h
theorem gSP : (Tryd.prog).globalNamed "strings.asciiSpace" = some 1 := by kernel_rfl
theorem tSP : ((Tryd.prog).globals[1]?).map (·.type) = some 111 := by kernel_rfl
theorem cells256 : (Tryd.prog).cellsOf 111 = 256 := by kernel_rfl
theorem cellsU8 : (Tryd.prog).cellsOf 5 = 1 := by kernel_rfl
theorem lk9 {W : World} (h : laidMetH Tryd.prog laid9 W) (hsh : W.ShapedOpen Tryd.prog) : Lk9 W := by
  have hm := met9 h
  refine ⟨lk_of hm hsh (by simp [laid9, Rows.orderWordsRow]) _ _ (laidMet.tail (laidMet.tail (laidMet.tail (laidMet.tail hm)))) (laidMet.tail (laidMet.tail (laidMet.tail (laidMet.tail (laidMet.tail hm))))), ?_⟩
  obtain ⟨g, t, cs, fuel, p, hg, ht, hv, hd⟩ := Lib.laidMet.reads hm (show ("strings.asciiSpace", Rows.laid_strings_asciiSpace) ∈ laid9 by simp [laid9, Rows.orderWordsRow])
  obtain rfl := Option.some.inj (gSP.symm.trans hg)
  obtain rfl := Option.some.inj (tSP.symm.trans ht)
  rw [sp_eq] at hd
  unfold Lib.TabIs
  rw [hv, ← Lib.cells_of_tab Tryd.underlying111 Tryd.underlying5 cellsU8 cells256 hd]
theorem laidMet_of_bits {P : Program} {w : World} {l : List (String × DataW Unit)} (fuel M : Nat) (h : (DataW.laidRun P w fuel (l.map (·.1))).map (·.1) = some l)
    (hr : (DataW.laidRun P w fuel (l.map (·.1))).map (fun x => nodupBits M x.2 0 && laidRowsB P w x.2) = some true) : laidMet P l w := by
  cases hx : DataW.laidRun P w fuel (l.map (·.1)) with
  | none => simp [hx] at h
  | some x =>
    obtain ⟨l', ps⟩ := x
    simp only [hx, Option.map_some, Option.some.injEq] at h hr
    subst h
    simp only [Bool.and_eq_true] at hr
    exact laidMet_of_run fuel hx (decide_eq_true (nodupBits_sound hr.1).1) hr.2
theorem laid9_run (os : Os) (args : Array Value) : (DataW.laidRun Tryd.prog ((laidWorld os).forCall (fun _ _ => 0) ⟨#[], args, []⟩).memory 8 (laid9.map (·.1))).map (·.1) = some laid9 := by kernel_rfl
theorem laid9_rows (os : Os) (args : Array Value) : (DataW.laidRun Tryd.prog ((laidWorld os).forCall (fun _ _ => 0) ⟨#[], args, []⟩).memory 8 (laid9.map (·.1))).map (fun x => nodupBits 1000 x.2 0 && laidRowsB Tryd.prog ((laidWorld os).forCall (fun _ _ => 0) ⟨#[], args, []⟩).memory x.2) = some true := by kernel_rfl
theorem laid9_met (os : Os) (args : Array Value) : laidMetH Tryd.prog laid9 ((laidWorld os).forCall (fun _ _ => 0) ⟨#[], args, []⟩).memory :=
  laidMetH_of_parts3 (fuel := 8) (laidMet_of_bits 8 1000 (by rw [show laid9.filter (fun x => x.2.handleName?.isNone) = laid9 from by kernel_rfl]; exact laid9_run os args) (by rw [show laid9.filter (fun x => x.2.handleName?.isNone) = laid9 from by kernel_rfl]; exact laid9_rows os args)) (by kernel_rfl) (by kernel_rfl)
end Go.Proofs.YtmpdoiilakjmbaaDoor
