/- slices.Equal at words, at ints: any two slices. Conditions: none of its own. -/
import Derived.Test.YtmpdoiilakjmbaaDoorRows
import Derived.Test.YtmpdoiilakjmbaaDoorBase
namespace Go.Proofs.YtmpdoiilakjmbaaDoor
open Go.RowKit Go.Mq
set_option linter.unusedVariables false
set_option linter.unusedSimpArgs false
set_option maxHeartbeats 1000000
set_option maxRecDepth 100000
theorem take_eq_step {xs ys : List Int} {n k : Nat} (hx : xs.length = n) (hy : ys.length = n) (hk : k < n) (h : xs.take k = ys.take k) (he : xs.getD k 0 = ys.getD k 0) : xs.take (k + 1) = ys.take (k + 1) := by
  rw [List.take_add_one, List.take_add_one, h]
  have h1 : xs[k]? = some (xs.getD k 0) := by rw [List.getD_eq_getElem?_getD, List.getElem?_eq_getElem (by omega)]; rfl
  have h2 : ys[k]? = some (ys.getD k 0) := by rw [List.getD_eq_getElem?_getD, List.getElem?_eq_getElem (by omega)]; rfl
  rw [h1, h2, he]
theorem neq_of {xs ys : List Int} {k : Nat} (he : ¬ xs.getD k 0 = ys.getD k 0) : (xs == ys) = false := by
  rw [beq_eq_false_iff_ne]
  rintro rfl
  exact he rfl
theorem slEq_u16 (v u : Value) (xs ys : List Int) (w : World) (h : SliceAt w .u16 v xs) (g : SliceAt w .u16 u ys) :
    Calls Tryd.prog 21 #[v, u] w fun e w' => e = .returned (.bool (xs == ys)) ∧ Below w.heap.size w w' := by
  obtain ⟨a, ca, rfl, h1, h2, hwf, h3⟩ := h
  obtain ⟨b, cb, rfl, g1, g2, gwf, g3⟩ := g
  by_cases hl : xs.length = ys.length
  · generalize hm : ys.length = n at *
    have hnm : n ≤ maxLen := by omega
    unfold maxLen at hnm
    have H3 := Lib.hid h3
    have G3 := Lib.hid g3
    have HL := Lib.hid (And.intro hl hm)
    rw [hl] at H3 ⊢
    clear hwf gwf h3 g3 h1 h2 g1 g2 hl hm
    go_enter Tryd.func21, Tryd.ntmps21
    go_wp2
    go_loopw [13] (fun i wr => ∃ k : Nat, k ≤ n ∧ i = .int .i64 k ∧ Hid (xs.take k = ys.take k) ∧ Below w.heap.size w wr) (fun i _ => (n - intOf i).toNat)
    case atStart => exact ⟨0, by omega, rfl, Lib.hid (by simp), Below.refl _ _⟩
    case round =>
      obtain ⟨k, hk, rfl, HT, hbr⟩ := hrel
      by_cases hkn : k < n
      · obtain ⟨b1, o1, rfl, l1, c1⟩ := H3.out (by omega)
        obtain ⟨b2, o2, rfl, l2, c2⟩ := G3.out (by omega)
        have e1 := c1 k hkn
        have e2 := c2 k hkn
        rw [← hbr.cell (p := ⟨b1, o1 + k, none⟩) l1] at e1
        rw [← hbr.cell (p := ⟨b2, o2 + k, none⟩) l2] at e2
        have hki : (k : Int) < n := by omega
        clear c1 c2
        have T := Lib.hid (fun q => take_eq_step HL.out.1 HL.out.2 hkn HT.out q)
        have NQ := Lib.hid (@neq_of xs ys k)
        generalize xs.getD k 0 = x at *
        generalize ys.getD k 0 = y at *
        by_cases hxy : x = y
        · subst hxy
          go_wp2_with fail
          go_quiet (fail)
          go_wp2
          go_roundw
          case rel => exact ⟨k + 1, by omega, by go_num, Lib.hid (T.out (by first | rfl | trivial)), by repeat' (first | (with_reducible first | exact Below.refl _ _ | assumption | refine below_alloc ?_ _ | refine Below.drew ?_ | refine Go.Mq.below_drewN ?_ _ | refine below_then ?_ (by assumption) | refine below_put ?_ (by assumption) (by first | (simp; done) | (simp; omega) | omega) | refine Below.setCell ?_ ?_ _) | (simp; done) | (simp; omega) | omega)⟩
          case measure => simp [intOf]; omega
        · go_wp2_with fail
          go_quiet (fail)
          go_wp2
          go_ret
          exact ⟨by rw [NQ.out hxy]; rfl, by repeat' (first | (with_reducible first | exact Below.refl _ _ | assumption | refine below_alloc ?_ _ | refine Below.drew ?_ | refine Go.Mq.below_drewN ?_ _ | refine below_then ?_ (by assumption) | refine below_put ?_ (by assumption) (by first | (simp; done) | (simp; omega) | omega) | refine Below.setCell ?_ ?_ _) | (simp; done) | (simp; omega) | omega)⟩
      · have hkn' : k = n := by omega
        subst hkn'
        go_wp2
        go_ret
        refine ⟨?_, by repeat' (first | (with_reducible first | exact Below.refl _ _ | assumption | refine below_alloc ?_ _ | refine Below.drew ?_ | refine Go.Mq.below_drewN ?_ _ | refine below_then ?_ (by assumption) | refine below_put ?_ (by assumption) (by first | (simp; done) | (simp; omega) | omega) | refine Below.setCell ?_ ?_ _) | (simp; done) | (simp; omega) | omega)⟩
        have := HT.out
        rw [List.take_of_length_le (by have := HL.out.1; omega), List.take_of_length_le (by have := HL.out.2; omega)] at this
        rw [this]; simp
  · have hne : (xs == ys) = false := by
      rw [beq_eq_false_iff_ne]; rintro rfl; exact hl rfl
    have hl' : ¬ ((xs.length : Int) = ys.length) := by omega
    rw [hne]
    clear h3 g3 hwf gwf hne
    go_enter Tryd.func21, Tryd.ntmps21
    go_wp2
    go_ret
    exact ⟨rfl, by repeat' (first | (with_reducible first | exact Below.refl _ _ | assumption | refine below_alloc ?_ _ | refine Below.drew ?_ | refine Go.Mq.below_drewN ?_ _ | refine below_then ?_ (by assumption) | refine below_put ?_ (by assumption) (by first | (simp; done) | (simp; omega) | omega) | refine Below.setCell ?_ ?_ _) | (simp; done) | (simp; omega) | omega)⟩
end Go.Proofs.YtmpdoiilakjmbaaDoor
