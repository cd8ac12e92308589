/- Bytes cloned. Conditions: the slice's cells are bytes. -/
import Derived.Test.YtimccpmdgfneoaaLibAppend
import Derived.Test.YtimccpmdgfneoaaOwnB
namespace Go.Proofs.Ytimccpmdgfneoaa
open Go.RowKit Go.Mq
set_option linter.unusedVariables false
set_option linter.unusedSimpArgs false
set_option maxHeartbeats 1000000
set_option maxRecDepth 100000
theorem clone_any (w : World) (v : Value) (xs : List Int) (h : SliceAt w .u8 v xs) (hl : xs.length ≤ 1000000) :
    Calls Try.prog 21 #[v] w fun e w' => ∃ u, e = .returned u ∧ w'.ownsRow w.heap.size 5 1 u xs.length (xs.map (Value.int .u8)) ∧ Below w.heap.size w w' := by
  have HS := Lib.hid h
  obtain ⟨a, c, rfl, h1, h2, hwf, h3⟩ := h
  cases a with
  | none =>
    have h0 : xs = [] := by
      cases xs with
      | nil => rfl
      | cons y t => obtain ⟨b, off, he, -⟩ := h3 (by simp); cases he
    subst h0
    clear h3 hwf
    have E : ∀ w, (binOp .eql 22 (.slice none 0 c) (.slice none 0 0)).run Try.prog w = .ok (.bool true) w := fun w => Lib.run_eql_slice_nil w 22 5 none 0 c 0 0 Try.underlying22
    go_enter Try.func21, Try.ntmps21
    go_wp2
    go_ret
    exact ⟨_, rfl, World.ownsRow_nil _ _ _ _, Below.refl _ _⟩
  | some ad =>
    clear h3 hwf h1 h2
    have ho : (w.alloc (.cells #[] 5)).ownsRow w.heap.size 5 1 (.slice (some ⟨w.heap.size, 0, none⟩) 0 0) ([] : List Int).length (([] : List Int).map (Value.int .u8)) :=
      ⟨rfl, .inr ⟨w.heap.size, 0, #[], rfl, Nat.le_refl _, Blk.new _ _ _, Nat.le_refl _, by decide, rfl, rfl⟩⟩
    obtain ⟨v2, w2, hr2, ho2, hg2⟩ := run_append_slice _ w.heap.size _ [] ho _ xs (HS.out.below ((Below.refl _ _).alloc (Nat.le_refl _) _)) (by simp; omega) (by simp) 22
    have hb2 : Below w.heap.size w w2 := below_grown ((Below.refl w.heap.size w).alloc (Nat.le_refl _) _) (by simp) hg2 ho (Nat.le_refl _)
    rw [List.nil_append] at ho2
    have R2 := Lib.hid hr2
    have HO := Lib.hid ho2
    clear hr2 ho2 hg2 ho
    have E : ∀ w, (binOp .eql 22 (.slice (some ad) xs.length c) (.slice none 0 0)).run Try.prog w = .ok (.bool false) w := fun w => Lib.run_eql_slice_nil w 22 5 (some ad) xs.length c 0 0 Try.underlying22
    go_enter Try.func21, Try.ntmps21
    go_wp2_with (at_builtin; refine Lib.wpList_append_run _ rfl _ _ _ _ rfl _ _ rfl rfl _ _ R2.out ?_)
    go_ret
    exact ⟨_, rfl, HO.out, hb2⟩
end Go.Proofs.Ytimccpmdgfneoaa
