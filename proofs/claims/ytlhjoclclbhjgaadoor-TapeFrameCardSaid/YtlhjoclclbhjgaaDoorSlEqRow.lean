/- slices.Equal at lines of pixels: two slices of the same. Conditions: they lie in memory. -/
import Derived.Test.YtlhjoclclbhjgaaDoorRowsP
import Derived.Test.YtlhjoclclbhjgaaDoorRows
import Derived.LoopTactic
namespace Go.Proofs.YtlhjoclclbhjgaaDoor
open Go.RowKit Go.Mq
set_option linter.unusedVariables false
set_option linter.unusedSimpArgs false
set_option maxHeartbeats 1000000
set_option maxRecDepth 100000
theorem arr_self (X : Array Value) (xs : List Int) (hX : X = (xs.map (Value.int .u8)).toArray) (hl : xs.length = 16) (w : World) : (Op.equalIn 10000 59 (.agg X) (.agg X)).run Tryd.prog w = .ok true w := by
  obtain ⟨i, hi⟩ : ∃ i, (Tryd.prog).info? 5 = some i := Option.isSome_iff_exists.1 (by kernel_rfl)
  rw [run_equalIn_array w 9999 _ _ Tryd.underlying59 hi]
  have hc : (Tryd.prog).cellsOf 5 = 1 := by kernel_rfl
  rw [hc]
  subst hX
  match xs, hl with
  | [a0, a1, a2, a3, a4, a5, a6, a7, a8, a9, b0, b1, b2, b3, b4, b5], _ =>
    simp [Op.eqItems, List.range, List.range.loop, go_sem]
theorem rowEq_same (v u : Value) (rs : List (List Int)) (w : World) (h : RowsAt w v rs) (g : RowsAt w u rs) (hl : rs.length ≤ 100000) :
    Calls Tryd.prog 28 #[v, u] w fun e w' => e = .returned (.bool true) ∧ Below w.heap.size w w' := by
  obtain ⟨a, ca, rfl, h1, h2, hok, h3⟩ := h
  obtain ⟨b, cb, rfl, g1, g2, -, g3⟩ := g
  have H3 := Lib.hid h3
  have G3 := Lib.hid g3
  have HO := Lib.hid hok
  clear h3 g3 hok
  go_enter Tryd.func28, Tryd.ntmps28
  go_wp2
  go_loopw [13] (fun i wr => ∃ k : Nat, k ≤ rs.length ∧ i = .int .i64 k ∧ Below w.heap.size w wr) (fun i _ => (rs.length - intOf i).toNat)
  case atStart => exact ⟨0, by omega, rfl, Below.refl _ _⟩
  case round =>
    obtain ⟨k, hk, rfl, hbr⟩ := hrel
    by_cases hkn : k < rs.length
    · obtain ⟨b1, o1, rfl, l1, c1⟩ := H3.out (by omega)
      obtain ⟨b2, o2, rfl, l2, c2⟩ := G3.out (by omega)
      have hki : (k : Int) < rs.length := by omega
      replace c1 : ∀ j, j < 16 → wr.cell? ⟨b1, o1 + k * 16 + j, none⟩ = some (.int .u8 ((rs.getD k []).getD j 0)) := fun j hj => (hbr.cell (p := ⟨b1, _, none⟩) l1).trans (c1 k hkn j hj)
      replace c2 : ∀ j, j < 16 → wr.cell? ⟨b2, o2 + k * 16 + j, none⟩ = some (.int .u8 ((rs.getD k []).getD j 0)) := fun j hj => (hbr.cell (p := ⟨b2, _, none⟩) l2).trans (c2 k hkn j hj)
      have h16 : (rs.getD k []).length = 16 := by
        rw [List.getD_eq_getElem?_getD, List.getElem?_eq_getElem hkn]
        exact (HO.out _ (List.getElem_mem hkn)).1
      generalize rs.getD k [] = y at *
      obtain ⟨p0, p1, p2, p3, p4, p5, p6, p7, p8, p9, pa, pb, pc, pd, pe, pf, rfl⟩ := row_16 h16
      have EX := arr_self #[.int .u8 p0, .int .u8 p1, .int .u8 p2, .int .u8 p3, .int .u8 p4, .int .u8 p5, .int .u8 p6, .int .u8 p7, .int .u8 p8, .int .u8 p9, .int .u8 pa, .int .u8 pb, .int .u8 pc, .int .u8 pd, .int .u8 pe, .int .u8 pf] _ rfl h16
      have d0 : wr.cell? ⟨b1, o1 + k * 16 + 0, none⟩ = some (.int .u8 p0) := c1 0 (by omega)
      have e0 : wr.cell? ⟨b2, o2 + k * 16 + 0, none⟩ = some (.int .u8 p0) := c2 0 (by omega)
      have d1 : wr.cell? ⟨b1, o1 + k * 16 + 1, none⟩ = some (.int .u8 p1) := c1 1 (by omega)
      have e1 : wr.cell? ⟨b2, o2 + k * 16 + 1, none⟩ = some (.int .u8 p1) := c2 1 (by omega)
      have d2 : wr.cell? ⟨b1, o1 + k * 16 + 2, none⟩ = some (.int .u8 p2) := c1 2 (by omega)
      have e2 : wr.cell? ⟨b2, o2 + k * 16 + 2, none⟩ = some (.int .u8 p2) := c2 2 (by omega)
      have d3 : wr.cell? ⟨b1, o1 + k * 16 + 3, none⟩ = some (.int .u8 p3) := c1 3 (by omega)
      have e3 : wr.cell? ⟨b2, o2 + k * 16 + 3, none⟩ = some (.int .u8 p3) := c2 3 (by omega)
      have d4 : wr.cell? ⟨b1, o1 + k * 16 + 4, none⟩ = some (.int .u8 p4) := c1 4 (by omega)
      have e4 : wr.cell? ⟨b2, o2 + k * 16 + 4, none⟩ = some (.int .u8 p4) := c2 4 (by omega)
      have d5 : wr.cell? ⟨b1, o1 + k * 16 + 5, none⟩ = some (.int .u8 p5) := c1 5 (by omega)
      have e5 : wr.cell? ⟨b2, o2 + k * 16 + 5, none⟩ = some (.int .u8 p5) := c2 5 (by omega)
      have d6 : wr.cell? ⟨b1, o1 + k * 16 + 6, none⟩ = some (.int .u8 p6) := c1 6 (by omega)
      have e6 : wr.cell? ⟨b2, o2 + k * 16 + 6, none⟩ = some (.int .u8 p6) := c2 6 (by omega)
      have d7 : wr.cell? ⟨b1, o1 + k * 16 + 7, none⟩ = some (.int .u8 p7) := c1 7 (by omega)
      have e7 : wr.cell? ⟨b2, o2 + k * 16 + 7, none⟩ = some (.int .u8 p7) := c2 7 (by omega)
      have d8 : wr.cell? ⟨b1, o1 + k * 16 + 8, none⟩ = some (.int .u8 p8) := c1 8 (by omega)
      have e8 : wr.cell? ⟨b2, o2 + k * 16 + 8, none⟩ = some (.int .u8 p8) := c2 8 (by omega)
      have d9 : wr.cell? ⟨b1, o1 + k * 16 + 9, none⟩ = some (.int .u8 p9) := c1 9 (by omega)
      have e9 : wr.cell? ⟨b2, o2 + k * 16 + 9, none⟩ = some (.int .u8 p9) := c2 9 (by omega)
      have d10 : wr.cell? ⟨b1, o1 + k * 16 + 10, none⟩ = some (.int .u8 pa) := c1 10 (by omega)
      have e10 : wr.cell? ⟨b2, o2 + k * 16 + 10, none⟩ = some (.int .u8 pa) := c2 10 (by omega)
      have d11 : wr.cell? ⟨b1, o1 + k * 16 + 11, none⟩ = some (.int .u8 pb) := c1 11 (by omega)
      have e11 : wr.cell? ⟨b2, o2 + k * 16 + 11, none⟩ = some (.int .u8 pb) := c2 11 (by omega)
      have d12 : wr.cell? ⟨b1, o1 + k * 16 + 12, none⟩ = some (.int .u8 pc) := c1 12 (by omega)
      have e12 : wr.cell? ⟨b2, o2 + k * 16 + 12, none⟩ = some (.int .u8 pc) := c2 12 (by omega)
      have d13 : wr.cell? ⟨b1, o1 + k * 16 + 13, none⟩ = some (.int .u8 pd) := c1 13 (by omega)
      have e13 : wr.cell? ⟨b2, o2 + k * 16 + 13, none⟩ = some (.int .u8 pd) := c2 13 (by omega)
      have d14 : wr.cell? ⟨b1, o1 + k * 16 + 14, none⟩ = some (.int .u8 pe) := c1 14 (by omega)
      have e14 : wr.cell? ⟨b2, o2 + k * 16 + 14, none⟩ = some (.int .u8 pe) := c2 14 (by omega)
      have d15 : wr.cell? ⟨b1, o1 + k * 16 + 15, none⟩ = some (.int .u8 pf) := c1 15 (by omega)
      have e15 : wr.cell? ⟨b2, o2 + k * 16 + 15, none⟩ = some (.int .u8 pf) := c2 15 (by omega)
      rw [Nat.add_zero] at d0 e0
      clear c1 c2 h16
      go_wp2_with fail
      go_quiet (fail)
      go_wp2
      go_roundw
      case rel => exact ⟨k + 1, by omega, by go_num, by repeat' (first | (with_reducible first | exact Below.refl _ _ | assumption | refine below_alloc ?_ _ | refine Below.drew ?_ | refine Go.Mq.below_drewN ?_ _ | refine below_then ?_ (by assumption) | refine below_put ?_ (by assumption) (by first | (simp; done) | (simp; omega) | omega) | refine Below.setCell ?_ ?_ _) | (simp; done) | (simp; omega) | omega)⟩
      case measure => simp [intOf]; omega
    · have hkn' : k = rs.length := by omega
      subst hkn'
      go_wp2
      go_ret
      exact ⟨rfl, by repeat' (first | (with_reducible first | exact Below.refl _ _ | assumption | refine below_alloc ?_ _ | refine Below.drew ?_ | refine Go.Mq.below_drewN ?_ _ | refine below_then ?_ (by assumption) | refine below_put ?_ (by assumption) (by first | (simp; done) | (simp; omega) | omega) | refine Below.setCell ?_ ?_ _) | (simp; done) | (simp; omega) | omega)⟩
end Go.Proofs.YtlhjoclclbhjgaaDoor
