/- slices.Equal at what was pressed: two slices of the same. Conditions: they lie in memory. -/
import Derived.Test.YtlhjoclclbhjgaaDoorInpW
import Derived.Test.YtlhjoclclbhjgaaDoorRows
import Derived.LoopTactic
namespace Go.Proofs.YtlhjoclclbhjgaaDoor
open Go.RowKit Go.Mq
set_option linter.unusedVariables false
set_option linter.unusedSimpArgs false
set_option maxHeartbeats 1000000
set_option maxRecDepth 100000
theorem inpEq_same (v u : Value) (xs : List Inp) (w : World) (h : InpsAt w v xs) (g : InpsAt w u xs) (hl : xs.length ≤ 100000) :
    Calls Tryd.prog 22 #[v, u] w fun e w' => e = .returned (.bool true) ∧ Below w.heap.size w w' := by
  obtain ⟨a, ca, rfl, h1, h2, -, h3⟩ := h
  obtain ⟨b, cb, rfl, g1, g2, -, g3⟩ := g
  have H3 := Lib.hid h3
  have G3 := Lib.hid g3
  clear h3 g3
  go_enter Tryd.func22, Tryd.ntmps22
  go_wp2
  go_loopw [13] (fun i wr => ∃ k : Nat, k ≤ xs.length ∧ i = .int .i64 k ∧ Below w.heap.size w wr) (fun i _ => (xs.length - intOf i).toNat)
  case atStart => exact ⟨0, by omega, rfl, Below.refl _ _⟩
  case round =>
    obtain ⟨k, hk, rfl, hbr⟩ := hrel
    by_cases hkn : k < xs.length
    · obtain ⟨b1, o1, rfl, l1, c1⟩ := H3.out (by omega)
      obtain ⟨b2, o2, rfl, l2, c2⟩ := G3.out (by omega)
      obtain ⟨d0, d1, d2⟩ := c1 k hkn
      obtain ⟨f0, f1, f2⟩ := c2 k hkn
      replace d0 := (hbr.cell (p := ⟨b1, _, none⟩) l1).trans d0
      replace d1 := (hbr.cell (p := ⟨b1, _, none⟩) l1).trans d1
      replace d2 := (hbr.cell (p := ⟨b1, _, none⟩) l1).trans d2
      replace f0 := (hbr.cell (p := ⟨b2, _, none⟩) l2).trans f0
      replace f1 := (hbr.cell (p := ⟨b2, _, none⟩) l2).trans f1
      replace f2 := (hbr.cell (p := ⟨b2, _, none⟩) l2).trans f2
      have hki : (k : Int) < xs.length := by omega
      clear c1 c2
      generalize xs.getD k Inp0 = y at *
      go_wp2_with fail
      go_quiet (fail)
      go_wp2
      go_roundw
      case rel => exact ⟨k + 1, by omega, by go_num, by repeat' (first | (with_reducible first | exact Below.refl _ _ | assumption | refine below_alloc ?_ _ | refine Below.drew ?_ | refine Go.Mq.below_drewN ?_ _ | refine below_then ?_ (by assumption) | refine below_put ?_ (by assumption) (by first | (simp; done) | (simp; omega) | omega) | refine Below.setCell ?_ ?_ _) | (simp; done) | (simp; omega) | omega)⟩
      case measure => simp [intOf]; omega
    · have hkn' : k = xs.length := by omega
      subst hkn'
      go_wp2
      go_ret
      exact ⟨rfl, by repeat' (first | (with_reducible first | exact Below.refl _ _ | assumption | refine below_alloc ?_ _ | refine Below.drew ?_ | refine Go.Mq.below_drewN ?_ _ | refine below_then ?_ (by assumption) | refine below_put ?_ (by assumption) (by first | (simp; done) | (simp; omega) | omega) | refine Below.setCell ?_ ?_ _) | (simp; done) | (simp; omega) | omega)⟩
end Go.Proofs.YtlhjoclclbhjgaaDoor
