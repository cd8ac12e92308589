/- The document checks what was pressed. Conditions: it lies in memory. -/
import Derived.Test.YtlhjoclclbhjgaaDoorInpW
import Derived.Test.YtlhjoclclbhjgaaDoorRows
import Derived.LoopTactic
namespace Go.Proofs.YtlhjoclclbhjgaaDoor
open Go.RowKit Go.Mq
set_option linter.unusedVariables false
set_option linter.unusedSimpArgs false
set_option maxHeartbeats 1000000
set_option maxRecDepth 100000
theorem refinputs_any (v : Value) (xs : List Inp) (f : Int) (w : World) (h : InpsAt w v xs) (hf : I64 f) :
    Calls Tryd.prog 19 #[v, .int .i64 f] w fun e w' => e = .returned (.int .i64 (chkI xs f)) ∧ Below w.heap.size w w' := by
  obtain ⟨a, cap, rfl, h1, h2, h4, h5⟩ := h
  unfold chkI
  by_cases h40 : 40 < xs.length
  · rw [if_pos h40]
    have h40' : (40 : Int) < xs.length := by omega
    go_enter Tryd.func19, Tryd.ntmps19
    go_wp2
    go_ret
    exact ⟨rfl, by repeat' (first | (with_reducible first | exact Below.refl _ _ | assumption | refine below_alloc ?_ _ | refine Below.drew ?_ | refine below_drewN ?_ _ | refine below_then ?_ (by assumption) | refine below_put ?_ (by assumption) (by first | (simp; done) | (simp; omega) | omega) | refine Below.setCell ?_ ?_ _) | (simp; done) | (simp; omega) | omega)⟩
  · rw [if_neg h40]
    have h40' : ¬ (40 : Int) < xs.length := by omega
    have H5 := Lib.hid h5
    have H4 := Lib.hid h4
    have HN := Lib.hid h40
    clear h4 h5 h40
    go_enter Tryd.func19, Tryd.ntmps19
    go_wp2
    go_loopw [5, 14] (fun z i wr => ∃ k : Nat, k ≤ xs.length ∧ z = .int .i64 (lastAt f xs k) ∧ i = .int .i64 k ∧ Hid (chkFrom f xs = chkFrom (lastAt f xs k) (xs.drop k)) ∧ Below w.heap.size w wr) (fun _ i _ => xs.length - (intOf i).toNat)
    case atStart => exact ⟨0, by omega, rfl, rfl, Lib.hid rfl, Below.refl _ _⟩
    case round =>
      obtain ⟨k, hk, rfl, rfl, hx, hb⟩ := hrel
      by_cases hkn : k < xs.length
      · obtain ⟨b, off, rfl, hbl, hc⟩ := H5.out (by omega)
        have hck := hc k hkn
        obtain ⟨c0, c1, c2⟩ := hck
        replace c0 := (hb.cell (p := ⟨b, _, none⟩) hbl).trans c0
        replace c1 := (hb.cell (p := ⟨b, _, none⟩) hbl).trans c1
        replace c2 := (hb.cell (p := ⟨b, _, none⟩) hbl).trans c2
        have hki : (k : Int) < xs.length := by omega
        have hbs := hb.size
        have CA := Lib.hid (chk_at (f := f) hkn)
        obtain ⟨y, ey⟩ : ∃ y, y = xs.getD k Inp0 := ⟨_, rfl⟩
        have EL : Hid (lastAt f xs (k + 1) = y.ck) := Lib.hid (by rw [ey]; rfl)
        generalize lastAt f xs k = z at *
        rw [← ey] at c0 c1 c2
        rw [← ey] at CA
        replace ey := Lib.hid ey
        clear hc
        by_cases g1 : y.ck < z
        · have E : Hid (chkFrom f xs = 3) := Lib.hid (by rw [hx.out, CA.out, if_pos (Or.inl g1)])
          clear CA hx
          go_wp2
          go_ret
          exact ⟨by rw [E.out]; rfl, by repeat' (first | (with_reducible first | exact Below.refl _ _ | assumption | refine below_alloc ?_ _ | refine Below.drew ?_ | refine below_drewN ?_ _ | refine below_then ?_ (by assumption) | refine below_put ?_ (by assumption) (by first | (simp; done) | (simp; omega) | omega) | refine Below.setCell ?_ ?_ _) | (simp; done) | (simp; omega) | omega)⟩
        · have t1 : decide (y.ck < z) = false := decide_eq_false g1
          by_cases g2 : 400000 < y.ck
          · have E : Hid (chkFrom f xs = 3) := Lib.hid (by rw [hx.out, CA.out, if_pos (Or.inr g2)])
            clear CA hx
            go_wp2
            go_ret
            exact ⟨by rw [E.out]; rfl, by repeat' (first | (with_reducible first | exact Below.refl _ _ | assumption | refine below_alloc ?_ _ | refine Below.drew ?_ | refine below_drewN ?_ _ | refine below_then ?_ (by assumption) | refine below_put ?_ (by assumption) (by first | (simp; done) | (simp; omega) | omega) | refine Below.setCell ?_ ?_ _) | (simp; done) | (simp; omega) | omega)⟩
          · have t2 : decide (400000 < y.ck) = false := decide_eq_false g2
            have hx1 : Hid (¬ (y.ck < z ∨ 400000 < y.ck)) := Lib.hid (by omega)
            by_cases g3 : y.pd < 0
            · have E : Hid (chkFrom f xs = 5) := Lib.hid (by rw [hx.out, CA.out, if_neg hx1.out, if_pos (by omega)])
              clear CA hx
              go_wp2
              go_ret
              exact ⟨by rw [E.out]; rfl, by repeat' (first | (with_reducible first | exact Below.refl _ _ | assumption | refine below_alloc ?_ _ | refine Below.drew ?_ | refine below_drewN ?_ _ | refine below_then ?_ (by assumption) | refine below_put ?_ (by assumption) (by first | (simp; done) | (simp; omega) | omega) | refine Below.setCell ?_ ?_ _) | (simp; done) | (simp; omega) | omega)⟩
            · have t3 : decide (y.pd < 0) = false := decide_eq_false g3
              by_cases g4 : 1 < y.pd
              · have E : Hid (chkFrom f xs = 5) := Lib.hid (by rw [hx.out, CA.out, if_neg hx1.out, if_pos (by omega)])
                clear CA hx
                go_wp2
                go_ret
                exact ⟨by rw [E.out]; rfl, by repeat' (first | (with_reducible first | exact Below.refl _ _ | assumption | refine below_alloc ?_ _ | refine Below.drew ?_ | refine below_drewN ?_ _ | refine below_then ?_ (by assumption) | refine below_put ?_ (by assumption) (by first | (simp; done) | (simp; omega) | omega) | refine Below.setCell ?_ ?_ _) | (simp; done) | (simp; omega) | omega)⟩
              · have t4 : decide (1 < y.pd) = false := decide_eq_false g4
                have E : Hid (chkFrom f xs = chkFrom (lastAt f xs (k + 1)) (xs.drop (k + 1))) := Lib.hid (by rw [hx.out, CA.out, if_neg hx1.out, if_neg (by omega)])
                clear CA hx hx1
                go_wp2
                go_roundw
                case rel => exact ⟨k + 1, by omega, by rw [EL.out], by go_num, E, by repeat' (first | (with_reducible first | exact Below.refl _ _ | assumption | refine below_alloc ?_ _ | refine Below.drew ?_ | refine below_drewN ?_ _ | refine below_then ?_ (by assumption) | refine below_put ?_ (by assumption) (by first | (simp; done) | (simp; omega) | omega) | refine Below.setCell ?_ ?_ _) | (simp; done) | (simp; omega) | omega)⟩
                case measure => simp [intOf]; omega
      · have hkn' : k = xs.length := by omega
        have hc0 : chkFrom f xs = 0 := by rw [hx.out, hkn', List.drop_length]; rfl
        have HC0 := Lib.hid hc0
        clear hc0
        subst hkn'
        clear hx
        go_wp2
        go_ret
        exact ⟨by rw [HC0.out]; rfl, by repeat' (first | (with_reducible first | exact Below.refl _ _ | assumption | refine below_alloc ?_ _ | refine Below.drew ?_ | refine below_drewN ?_ _ | refine below_then ?_ (by assumption) | refine below_put ?_ (by assumption) (by first | (simp; done) | (simp; omega) | omega) | refine Below.setCell ?_ ?_ _) | (simp; done) | (simp; omega) | omega)⟩
end Go.Proofs.YtlhjoclclbhjgaaDoor
