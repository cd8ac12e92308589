/- Are two spaces alike? Conditions: their slices' cells are bytes. -/
import Derived.Test.YteihggfcafoogaaLibEq
import Derived.Test.YteihggfcafoogaaCpuBus
namespace Go.Proofs.Yteihggfcafoogaa
open Go.RowKit Go.Mq
set_option linter.unusedVariables false
set_option linter.unusedSimpArgs false
theorem same_any (v1 v2 u1 u2 : Value) (xs ys xs' ys' : List Int) (w : World) (h1 : SliceAt w .u8 v1 xs) (h2 : SliceAt w .u8 v2 ys) (k1 : SliceAt w .u8 u1 xs') (k2 : SliceAt w .u8 u2 ys') :
    Calls Try.prog 9 #[.agg #[v1, v2], .agg #[u1, u2]] w fun e w' => e = .returned (.bool (decide (xs = xs') && decide (ys = ys'))) ∧ Below w.heap.size w w' := by
  have E1 := Lib.hid (fun w' (h : Below w.heap.size w w') => bytesEqual_any v1 u1 xs xs' w' (h1.below h) (k1.below h))
  have E2 := Lib.hid (fun w' (h : Below w.heap.size w w') => bytesEqual_any v2 u2 ys ys' w' (h2.below h) (k2.below h))
  obtain ⟨a1, c1, rfl, -⟩ := h1
  obtain ⟨a2, c2, rfl, -⟩ := h2
  obtain ⟨a3, c3, rfl, -⟩ := k1
  obtain ⟨a4, c4, rfl, -⟩ := k2
  by_cases hx : xs = xs'
  · have t1 : decide (xs = xs') = true := by simpa using hx
    rw [t1] at E1 ⊢
    clear hx t1
    go_enter Try.func9, Try.ntmps9
    go_wp2_with fail
    refine (E1.out _ (by repeat' (first | (with_reducible first | exact Below.refl _ _ | assumption | refine below_alloc ?_ _ | refine Below.drew ?_ | refine below_drewN ?_ _ | refine below_then ?_ (by assumption) | refine below_put ?_ (by assumption) (by first | (simp; done) | (simp; omega) | omega) | refine Below.setCell ?_ ?_ _) | (simp; done) | (simp; omega) | omega))).mono ?_
    rintro e w1 ⟨rfl, rfl⟩
    go_wp2_with fail
    refine (E2.out _ (by repeat' (first | (with_reducible first | exact Below.refl _ _ | assumption | refine below_alloc ?_ _ | refine Below.drew ?_ | refine below_drewN ?_ _ | refine below_then ?_ (by assumption) | refine below_put ?_ (by assumption) (by first | (simp; done) | (simp; omega) | omega) | refine Below.setCell ?_ ?_ _) | (simp; done) | (simp; omega) | omega))).mono ?_
    rintro e w2 ⟨rfl, rfl⟩
    go_wp2
    go_ret
    exact ⟨by simp, by repeat' (first | (with_reducible first | exact Below.refl _ _ | assumption | refine below_alloc ?_ _ | refine Below.drew ?_ | refine below_drewN ?_ _ | refine below_then ?_ (by assumption) | refine below_put ?_ (by assumption) (by first | (simp; done) | (simp; omega) | omega) | refine Below.setCell ?_ ?_ _) | (simp; done) | (simp; omega) | omega)⟩
  · have t1 : decide (xs = xs') = false := by simpa using hx
    rw [t1] at E1 ⊢
    clear hx t1
    go_enter Try.func9, Try.ntmps9
    go_wp2_with fail
    refine (E1.out _ (by repeat' (first | (with_reducible first | exact Below.refl _ _ | assumption | refine below_alloc ?_ _ | refine Below.drew ?_ | refine below_drewN ?_ _ | refine below_then ?_ (by assumption) | refine below_put ?_ (by assumption) (by first | (simp; done) | (simp; omega) | omega) | refine Below.setCell ?_ ?_ _) | (simp; done) | (simp; omega) | omega))).mono ?_
    rintro e w1 ⟨rfl, rfl⟩
    go_wp2
    go_ret
    exact ⟨by simp, by repeat' (first | (with_reducible first | exact Below.refl _ _ | assumption | refine below_alloc ?_ _ | refine Below.drew ?_ | refine below_drewN ?_ _ | refine below_then ?_ (by assumption) | refine below_put ?_ (by assumption) (by first | (simp; done) | (simp; omega) | omega) | refine Below.setCell ?_ ?_ _) | (simp; done) | (simp; omega) | omega)⟩
end Go.Proofs.Yteihggfcafoogaa
