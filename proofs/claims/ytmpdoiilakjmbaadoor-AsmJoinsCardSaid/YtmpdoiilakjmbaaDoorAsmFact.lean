/- The closed fact of the assembler's laws. Conditions: the library's variables hold what they were laid with. -/
import Derived.Test.YtmpdoiilakjmbaaDoorAsmBld
import Derived.Test.YtmpdoiilakjmbaaDoorAsmLst
import Derived.Test.YtmpdoiilakjmbaaDoorLibEq
namespace Go.Proofs.YtmpdoiilakjmbaaDoor
open Go.RowKit Go.Mq
set_option linter.unusedVariables false
set_option linter.unusedSimpArgs false
set_option maxHeartbeats 2000000
set_option maxRecDepth 100000
theorem bld_a : buildF [103, 111, 58, 10, 97, 100, 100, 105, 32, 114, 49, 44, 32, 45, 49, 10, 106, 110, 122, 32, 103, 111, 10, 46, 119, 111, 114, 100, 32, 55, 10] = ([121, 31, 232, 0, 0, 0, 0, 7], 0, 0) := by decide +kernel
theorem lst_a : listF [121, 31, 232, 0, 0, 0, 0, 7] = [97, 100, 100, 105, 32, 114, 49, 44, 32, 45, 49, 10, 106, 110, 122, 32, 48, 10, 46, 119, 111, 114, 100, 32, 55, 10] := by decide +kernel
theorem cell_new (W : World) (cs : Array Value) (t : TypeId) (f : Nat × Nat) (n i : Nat) (hn : n = W.heap.size) : (W.alloc (.cells cs t f)).cell? ⟨n, i, none⟩ = cs[i]? := by
  subst hn
  have h := (MapKept.heap_alloc W (.cells cs t f)).1
  simp only [World.cell?]
  rw [h]
  rfl
theorem lit_slice (W : World) (xs : List Int) (t : TypeId) (h : ∀ x ∈ xs, U8 x) (hl : xs.length ≤ 1000) : SliceAt (W.alloc (.cells (xs.map (Value.int .u8)).toArray t)) .u8 (.slice (some ⟨W.heap.size, 0, none⟩) xs.length xs.length) xs := by
  refine ⟨_, _, rfl, Nat.le_refl _, by unfold maxLen; omega, fun x hx => ?_, fun h0 => ⟨_, 0, rfl, by simp, fun i hi => ?_⟩⟩
  · have := h x hx
    unfold U8 at this
    simp only [Lit.wf, Bool.and_eq_true, decide_eq_true_eq]
    exact ⟨this.1, this.2⟩
  · rw [cell_new _ _ _ _ _ _ rfl, Nat.zero_add, List.getD_eq_getElem?_getD, List.getElem?_eq_getElem hi]
    simp [List.getElem?_eq_getElem hi]
theorem built_any (w : World) (hL : Lk w) : Calls Tryd.prog 8 #[] w fun e w' => e = .returned (.bool true) ∧ Below w.heap.size w w' := by
  have HL := Lib.hid hL
  have BA := Lib.hid (build_any [103, 111, 58, 10, 97, 100, 100, 105, 32, 114, 49, 44, 32, 45, 49, 10, 106, 110, 122, 32, 103, 111, 10, 46, 119, 111, 114, 100, 32, 55, 10] (by decide))
  clear hL
  go_enter Tryd.func8, Tryd.ntmps8
  go_wp2_with fail
  refine (BA.out _ HL.out).mono ?_
  rintro e w2 ⟨v, rfl, hs, hb2⟩
  rw [bld_a] at hs ⊢
  have HS := Lib.hid hs
  obtain ⟨a, cp, rfl, hrest⟩ := hs
  have B2 := Lib.hid hb2
  clear hrest hb2
  go_wp2_with fail
  refine (list_any _ _ _ (HL.out.below B2.out) HS.out).mono ?_
  rintro e w3 ⟨he, hb3⟩
  rw [if_neg (by decide), if_neg (by decide), lst_a] at he
  subst he
  have B3 := Lib.hid (below_then B2.out hb3)
  have HS3 := Lib.hid (HS.out.below hb3)
  clear hb3
  go_wp2_with fail
  have LS := Lib.hid (lit_slice w3 [121, 31, 232, 0, 0, 0, 0, 7] 5 (by simp [U8]) (by decide))
  refine (bytesEqual_any _ _ _ _ _ (HS3.out.below (below_alloc (Below.refl _ _) _)) LS.out).mono ?_
  rintro e w5 ⟨rfl, rfl⟩
  have hd : decide (([121, 31, 232, 0, 0, 0, 0, 7] : List Int) = [121, 31, 232, 0, 0, 0, 0, 7]) = true := rfl
  rw [hd]
  go_wp2
  go_ret
  exact ⟨rfl, below_alloc B3.out _⟩
end Go.Proofs.YtmpdoiilakjmbaaDoor
