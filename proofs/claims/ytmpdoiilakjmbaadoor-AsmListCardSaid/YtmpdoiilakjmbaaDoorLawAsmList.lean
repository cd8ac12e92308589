/- The law AsmList answers true for every input. Conditions: the program lies in memory; the library's variables hold what they were laid with. -/
import Derived.Test.YtmpdoiilakjmbaaDoorAsmFact
import Derived.Test.YtmpdoiilakjmbaaDoorRefLst
namespace Go.Proofs.YtmpdoiilakjmbaaDoor.asmList
open Go.RowKit Go.Mq
set_option linter.unusedVariables false
set_option linter.unusedSimpArgs false
set_option maxHeartbeats 2000000
set_option maxRecDepth 100000
theorem walk (v : Value) (xs : List Int) (w : World) (hx : SliceAt w .u8 v xs) (hL : Lk9 w) : Calls Tryd.prog 6 #[v] w fun e w' => e = .returned (.bool true) ∧ Below w.heap.size w w' := by
  have HX := Lib.hid hx
  have HL := Lib.hid hL
  have LA := Lib.hid (list_any v xs w hL.lk hx)
  obtain ⟨a, cp, rfl, h1, h2, hwf, h3⟩ := hx
  have hlm : xs.length ≤ maxLen := by omega
  unfold maxLen at hlm
  clear hL h1 h2 hwf h3
  go_enter Tryd.func6, Tryd.ntmps6
  go_wp2_with fail
  refine (LA.out).mono ?_
  rintro e w2 ⟨he, hb2⟩
  have B2 := Lib.hid hb2
  clear hb2
  by_cases hm : 1024 < xs.length
  · rw [if_pos hm] at he
    subst he
    have hi : 1024 < (xs.length : Int) := by omega
    clear hm
    go_wp2_with fail
    refine (built_any _ (HL.out.lk.below B2.out)).mono ?_
    rintro e w3 ⟨rfl, hb3⟩
    have B3 := Lib.hid (below_then B2.out hb3)
    clear hb3
    go_wp2
    go_ret
    exact ⟨rfl, B3.out⟩
  by_cases ho : xs.length % 2 = 1
  · rw [if_neg hm, if_pos ho] at he
    subst he
    have hi : ¬ 1024 < (xs.length : Int) := by omega
    have hr : Int.tmod (xs.length : Int) 2 = 1 := by rw [Int.tmod_eq_emod_of_nonneg (by omega)]; omega
    have hr2 : (xs.length : Int) % 2 = 1 := by omega
    clear hm ho
    go_wp2_with fail
    refine (built_any _ (HL.out.lk.below B2.out)).mono ?_
    rintro e w3 ⟨rfl, hb3⟩
    have B3 := Lib.hid (below_then B2.out hb3)
    clear hb3
    go_wp2
    go_ret
    exact ⟨rfl, B3.out⟩
  · rw [if_neg hm, if_neg ho] at he
    subst he
    have LR : Hid (∀ W, Below w.heap.size w W → Calls Tryd.prog 24 #[.slice a xs.length cp] W fun e w' => e = .returned (.string ⟨(listF xs).toArray⟩) ∧ Below W.heap.size W w') := Lib.hid (fun W hW => listed_any _ xs W (HL.out.below hW) (HX.out.below hW) (by omega) (by omega))
    have hi : ¬ 1024 < (xs.length : Int) := by omega
    have hr : Int.tmod (xs.length : Int) 2 = 0 := by rw [Int.tmod_eq_emod_of_nonneg (by omega)]; omega
    have hr2 : (xs.length : Int) % 2 = 0 := by omega
    obtain ⟨t, ht⟩ : ∃ t, t = listF xs := ⟨_, rfl⟩
    rw [← ht] at LR ⊢
    clear hm ho ht
    go_wp2_with fail
    refine (built_any _ (HL.out.lk.below B2.out)).mono ?_
    rintro e w3 ⟨rfl, hb3⟩
    have B3 := Lib.hid (below_then B2.out hb3)
    clear hb3
    go_wp2_with fail
    refine (LR.out _ B3.out).mono ?_
    rintro e w4 ⟨rfl, hb4⟩
    have B4 := Lib.hid (below_then B3.out hb4)
    clear hb4
    go_wp2
    go_ret
    exact ⟨by simp, B4.out⟩
end Go.Proofs.YtmpdoiilakjmbaaDoor.asmList
