/- A space checked; bytes cloned. Conditions: the slices' cells are bytes. -/
import Derived.Test.YteihggfcafoogaaLibAppend
import Derived.Test.YteihggfcafoogaaCpuBus
namespace Go.Proofs.Yteihggfcafoogaa
open Go.RowKit Go.Mq
set_option linter.unusedVariables false
set_option linter.unusedSimpArgs false
set_option maxHeartbeats 1000000
set_option maxRecDepth 100000
theorem clone_any (w : World) (v : Value) (xs : List Int) (h : SliceAt w .u8 v xs) (hl : xs.length ≤ 1000000) :
    Calls Try.prog 14 #[v] w fun e w' => ∃ u, e = .returned u ∧ w'.ownsRow w.heap.size 5 1 u xs.length (xs.map (Value.int .u8)) ∧ Below w.heap.size w w' := by
  have HS := Lib.hid h
  obtain ⟨a, c, rfl, h1, h2, hwf, h3⟩ := h
  cases a with
  | none =>
    have h0 : xs = [] := by
      cases xs with
      | nil => rfl
      | cons y t => obtain ⟨b, off, he, -⟩ := h3 (by simp); cases he
    subst h0
    clear h3 hwf
    have E : ∀ w, (binOp .eql 22 (.slice none 0 c) (.slice none 0 0)).run Try.prog w = .ok (.bool true) w := fun w => Lib.run_eql_slice_nil w 22 5 none 0 c 0 0 Try.underlying22
    go_enter Try.func14, Try.ntmps14
    go_wp2
    go_ret
    exact ⟨_, rfl, World.ownsRow_nil _ _ _ _, Below.refl _ _⟩
  | some ad =>
    clear h3 hwf h1 h2
    have ho : (w.alloc (.cells #[] 5)).ownsRow w.heap.size 5 1 (.slice (some ⟨w.heap.size, 0, none⟩) 0 0) ([] : List Int).length (([] : List Int).map (Value.int .u8)) :=
      ⟨rfl, .inr ⟨w.heap.size, 0, #[], rfl, Nat.le_refl _, Blk.new _ _ _, Nat.le_refl _, by decide, rfl, rfl⟩⟩
    obtain ⟨v2, w2, hr2, ho2, hg2⟩ := run_append_slice _ w.heap.size _ [] ho _ xs (HS.out.below ((Below.refl _ _).alloc (Nat.le_refl _) _)) (by simp; omega) (by simp) 22
    have hb2 : Below w.heap.size w w2 := below_grown ((Below.refl w.heap.size w).alloc (Nat.le_refl _) _) (by simp) hg2 ho (Nat.le_refl _)
    rw [List.nil_append] at ho2
    have R2 := Lib.hid hr2
    have HO := Lib.hid ho2
    clear hr2 ho2 hg2 ho
    have E : ∀ w, (binOp .eql 22 (.slice (some ad) xs.length c) (.slice none 0 0)).run Try.prog w = .ok (.bool false) w := fun w => Lib.run_eql_slice_nil w 22 5 (some ad) xs.length c 0 0 Try.underlying22
    go_enter Try.func14, Try.ntmps14
    go_wp2_with (at_builtin; refine Lib.wpList_append_run _ rfl _ _ _ _ rfl _ _ rfl rfl _ _ R2.out ?_)
    go_ret
    exact ⟨_, rfl, HO.out, hb2⟩
theorem checkS_any (v u : Value) (xs ys : List Int) (w : World) (h1 : SliceAt w .u8 v xs) (h2 : SliceAt w .u8 u ys) :
    Calls Try.prog 10 #[.agg #[v, u]] w fun e w' => e = .returned (.int .i64 (if 1024 < xs.length ∨ 256 < ys.length then 2 else 0)) ∧ Below w.heap.size w w' := by
  obtain ⟨a, c, rfl, l1, l2, -, -⟩ := h1
  obtain ⟨a', c', rfl, m1, m2, -, -⟩ := h2
  by_cases c1 : 1024 < xs.length
  · rw [if_pos (Or.inl c1)]
    have e1 : (1024 : Int) < xs.length := by omega
    go_enter Try.func10, Try.ntmps10
    go_wp2
    go_ret
    exact ⟨rfl, by repeat' (first | (with_reducible first | exact Below.refl _ _ | assumption | refine below_alloc ?_ _ | refine Below.drew ?_ | refine below_drewN ?_ _ | refine below_then ?_ (by assumption) | refine below_put ?_ (by assumption) (by first | (simp; done) | (simp; omega) | omega) | refine Below.setCell ?_ ?_ _) | (simp; done) | (simp; omega) | omega)⟩
  · have e1 : ¬ (1024 : Int) < xs.length := by omega
    by_cases c2 : 256 < ys.length
    · rw [if_pos (Or.inr c2)]
      have e2 : (256 : Int) < ys.length := by omega
      go_enter Try.func10, Try.ntmps10
      go_wp2
      go_ret
      exact ⟨rfl, by repeat' (first | (with_reducible first | exact Below.refl _ _ | assumption | refine below_alloc ?_ _ | refine Below.drew ?_ | refine below_drewN ?_ _ | refine below_then ?_ (by assumption) | refine below_put ?_ (by assumption) (by first | (simp; done) | (simp; omega) | omega) | refine Below.setCell ?_ ?_ _) | (simp; done) | (simp; omega) | omega)⟩
    · rw [if_neg (by omega)]
      have e2 : ¬ (256 : Int) < ys.length := by omega
      go_enter Try.func10, Try.ntmps10
      go_wp2
      go_ret
      exact ⟨rfl, by repeat' (first | (with_reducible first | exact Below.refl _ _ | assumption | refine below_alloc ?_ _ | refine Below.drew ?_ | refine below_drewN ?_ _ | refine below_then ?_ (by assumption) | refine below_put ?_ (by assumption) (by first | (simp; done) | (simp; omega) | omega) | refine Below.setCell ?_ ?_ _) | (simp; done) | (simp; omega) | omega)⟩
end Go.Proofs.Yteihggfcafoogaa
