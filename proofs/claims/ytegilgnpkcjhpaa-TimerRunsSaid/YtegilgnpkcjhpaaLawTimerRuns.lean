/- TimerRuns: for every timer, switch and number the law answers true. Conditions: none. -/
import Derived.Test.YtegilgnpkcjhpaaTimer
namespace Go.Proofs.Ytegilgnpkcjhpaa.timerRuns
open Go.RowKit Go.Mq
set_option linter.unusedVariables false
set_option linter.unusedSimpArgs false

set_option maxHeartbeats 2000000 in
set_option maxRecDepth 100000 in
theorem bad_ff (rl ct n : Int) (rg : Bool) (hr : U16 rl) (hc : U16 ct) (h : n < 0 ∨ 20000 < n) (w : World) :
    Calls Try.prog 12 #[.agg #[.int .u16 rl, .int .u16 ct, .bool false, .bool rg], .bool false, .int .i64 n] w fun e w' => e = .returned (.bool true) ∧ Below w.heap.size w w' := by
  have hrun := run_bad ⟨rl, ct, false, rg⟩ n h
  have htk := tick_any ⟨rl, ct, false, rg⟩ ⟨hr, hc⟩
  have hrt := reftick_any ⟨rl, ct, false, rg⟩ ⟨hr, hc⟩
  have hst := set_any ⟨rl, ct, false, rg⟩ ⟨hr, hc⟩ false
  have hnx := next_any ⟨rl, ct, false, rg⟩ ⟨hr, hc⟩
  simp only [setTm, nextTm, Bool.false_eq_true, if_false, if_true] at hrun htk hrt hst hnx
  have R := Lib.hid hrun
  have TK := Lib.hid htk
  have RT := Lib.hid hrt
  have ST := Lib.hid hst
  have NX := Lib.hid hnx
  obtain ⟨hc0, hc1⟩ := hc
  clear hrun htk hrt hst hnx
  go_enter Try.func12, Try.ntmps12
  go_wp2_with fail
  refine (R.out _).mono ?_
  rintro e w1 ⟨rfl, hb1⟩
  have Kw1_0 : Hid (Blk w1 (w.heap.size) #[.int .u16 rl, .int .u16 ct, .bool false, .bool rg] 38) := Lib.hid (by repeat' (first | (with_reducible first | exact Hid.out (by assumption) | exact Blk.new _ _ _ | refine Blk.alloc ?_ _ | refine Blk.drewN ?_ _ | apply Blk.set | refine Blk.below ?_ (by assumption)) | refine Blk.setAt ?_ (by simp; omega) | (with_reducible exact Blk.new_at _ _ _ _ (by simp)) | rfl))
  obtain ⟨lw1_0, cw1_0, fw1_0⟩ := Kw1_0.out.use
  go_wp2_with fail
  refine wp_mark (R := fun W => Below w.heap.size w W ∧ Hid (Blk W (w.heap.size) (#[.int .u16 rl, .int .u16 ct, .bool false, .bool rg]) 38) ∧ Hid (Blk W (w1.heap.size) (#[.int .u16 0, .int .u16 0, .bool false, .bool false]) 38)) ⟨by repeat' (first | exact Below.refl _ _ | assumption | refine below_alloc ?_ _ | refine Below.drew ?_ | refine below_drewN ?_ _ | refine below_then ?_ (by assumption) | refine Below.setCell ?_ ?_ _ | (simp; done) | (simp; omega) | omega), Lib.hid (by repeat' (first | (with_reducible first | exact Hid.out (by assumption) | exact Blk.new _ _ _ | refine Blk.alloc ?_ _ | refine Blk.drewN ?_ _ | apply Blk.set | refine Blk.below ?_ (by assumption)) | refine Blk.setAt ?_ (by simp; omega) | (with_reducible exact Blk.new_at _ _ _ _ (by simp)) | rfl)), Lib.hid (by repeat' (first | (with_reducible first | exact Hid.out (by assumption) | exact Blk.new _ _ _ | refine Blk.alloc ?_ _ | refine Blk.drewN ?_ _ | apply Blk.set | refine Blk.below ?_ (by assumption)) | refine Blk.setAt ?_ (by simp; omega) | (with_reducible exact Blk.new_at _ _ _ _ (by simp)) | rfl))⟩ ?_
  rintro w2 ⟨hbw2, Kw2_0, Kw2_1⟩
  clear Kw1_0 cw1_0 fw1_0
  obtain ⟨lw2_0, cw2_0, fw2_0⟩ := Kw2_0.out.use
  obtain ⟨lw2_1, cw2_1, fw2_1⟩ := Kw2_1.out.use
  have S0 := held1_of (Below.refl w2.heap.size w2) (show Blk w2 (w.heap.size) (#[.int .u16 rl, .int .u16 ct, .bool false, .bool rg]) 38 from (by repeat' (first | (with_reducible first | exact Hid.out (by assumption) | exact Blk.new _ _ _ | refine Blk.alloc ?_ _ | refine Blk.drewN ?_ _ | apply Blk.set | refine Blk.below ?_ (by assumption)) | refine Blk.setAt ?_ (by simp; omega) | (with_reducible exact Blk.new_at _ _ _ _ (by simp)) | rfl)))
  go_region_held3 (fun w' => Below w2.heap.size w2 w' ∧ Blk w' (w.heap.size) (#[.int .u16 rl, .int .u16 ct, .bool false, .bool rg]) 38 ∧ (∀ i, w'.cell? ⟨w.heap.size, i, none⟩ = (#[.int .u16 rl, .int .u16 ct, .bool false, .bool rg] : Array Value)[i]?) ∧ w.heap.size < w'.heap.size) ((first | exact held1_drew S0 | exact held1_below (by assumption) (by assumption))) (first | (go_at_call 23; refine (timed_any _).mono ?_; rintro e w3 ⟨rfl, hb_w3⟩) | (go_at_call 45; refine (TK.out _).mono ?_; rintro e w3 ⟨rfl, hb_w3⟩) | (go_at_call 46; refine (RT.out _).mono ?_; rintro e w3 ⟨rfl, hb_w3⟩))
  have hbw3 : Below w2.heap.size w2 w3 := And.left (show Below w2.heap.size w2 w3 ∧ Blk w3 (w.heap.size) (#[.int .u16 rl, .int .u16 ct, .bool false, .bool rg]) 38 ∧ (∀ i, w3.cell? ⟨w.heap.size, i, none⟩ = (#[.int .u16 rl, .int .u16 ct, .bool false, .bool rg] : Array Value)[i]?) ∧ w.heap.size < w3.heap.size by assumption)
  clear S0
  have Kw3_0 : Hid (Blk w3 (w.heap.size) #[.int .u16 rl, .int .u16 ct, .bool false, .bool rg] 38) := Lib.hid (by repeat' (first | (with_reducible first | exact Hid.out (by assumption) | exact Blk.new _ _ _ | refine Blk.alloc ?_ _ | refine Blk.drewN ?_ _ | apply Blk.set | refine Blk.below ?_ (by assumption)) | refine Blk.setAt ?_ (by simp; omega) | (with_reducible exact Blk.new_at _ _ _ _ (by simp)) | rfl))
  have Kw3_1 : Hid (Blk w3 (w1.heap.size) #[.int .u16 0, .int .u16 0, .bool false, .bool false] 38) := Lib.hid (by repeat' (first | (with_reducible first | exact Hid.out (by assumption) | exact Blk.new _ _ _ | refine Blk.alloc ?_ _ | refine Blk.drewN ?_ _ | apply Blk.set | refine Blk.below ?_ (by assumption)) | refine Blk.setAt ?_ (by simp; omega) | (with_reducible exact Blk.new_at _ _ _ _ (by simp)) | rfl))
  clear Kw2_0 cw2_0 fw2_0 Kw2_1 cw2_1 fw2_1
  obtain ⟨lw3_0, cw3_0, fw3_0⟩ := Kw3_0.out.use
  obtain ⟨lw3_1, cw3_1, fw3_1⟩ := Kw3_1.out.use
  go_wp2_with fail
  refine wp_mark (R := fun W => Below w.heap.size w W ∧ Hid (Blk W (w.heap.size) (#[.int .u16 rl, .int .u16 ct, .bool false, .bool rg]) 38) ∧ Hid (Blk W (w1.heap.size) (#[.int .u16 0, .int .u16 0, .bool false, .bool false]) 38) ∧ Hid (Blk W (w3.heap.size) (#[.int .u16 rl, .int .u16 ct, .bool false, .bool rg]) 38)) ⟨by repeat' (first | exact Below.refl _ _ | assumption | refine below_alloc ?_ _ | refine Below.drew ?_ | refine below_drewN ?_ _ | refine below_then ?_ (by assumption) | refine Below.setCell ?_ ?_ _ | (simp; done) | (simp; omega) | omega), Lib.hid (by repeat' (first | (with_reducible first | exact Hid.out (by assumption) | exact Blk.new _ _ _ | refine Blk.alloc ?_ _ | refine Blk.drewN ?_ _ | apply Blk.set | refine Blk.below ?_ (by assumption)) | refine Blk.setAt ?_ (by simp; omega) | (with_reducible exact Blk.new_at _ _ _ _ (by simp)) | rfl)), Lib.hid (by repeat' (first | (with_reducible first | exact Hid.out (by assumption) | exact Blk.new _ _ _ | refine Blk.alloc ?_ _ | refine Blk.drewN ?_ _ | apply Blk.set | refine Blk.below ?_ (by assumption)) | refine Blk.setAt ?_ (by simp; omega) | (with_reducible exact Blk.new_at _ _ _ _ (by simp)) | rfl)), Lib.hid (by repeat' (first | (with_reducible first | exact Hid.out (by assumption) | exact Blk.new _ _ _ | refine Blk.alloc ?_ _ | refine Blk.drewN ?_ _ | apply Blk.set | refine Blk.below ?_ (by assumption)) | refine Blk.setAt ?_ (by simp; omega) | (with_reducible exact Blk.new_at _ _ _ _ (by simp)) | rfl))⟩ ?_
  rintro w4 ⟨hbw4, Kw4_0, Kw4_1, Kw4_2⟩
  clear Kw3_0 cw3_0 fw3_0 Kw3_1 cw3_1 fw3_1
  obtain ⟨lw4_0, cw4_0, fw4_0⟩ := Kw4_0.out.use
  obtain ⟨lw4_1, cw4_1, fw4_1⟩ := Kw4_1.out.use
  obtain ⟨lw4_2, cw4_2, fw4_2⟩ := Kw4_2.out.use
  have S0 := held2_of (Below.refl w4.heap.size w4) (show Blk w4 (w.heap.size) (#[.int .u16 rl, .int .u16 ct, .bool false, .bool rg]) 38 from (by repeat' (first | (with_reducible first | exact Hid.out (by assumption) | exact Blk.new _ _ _ | refine Blk.alloc ?_ _ | refine Blk.drewN ?_ _ | apply Blk.set | refine Blk.below ?_ (by assumption)) | refine Blk.setAt ?_ (by simp; omega) | (with_reducible exact Blk.new_at _ _ _ _ (by simp)) | rfl))) (show Blk w4 (w3.heap.size) (#[.int .u16 rl, .int .u16 ct, .bool false, .bool rg]) 38 from (by repeat' (first | (with_reducible first | exact Hid.out (by assumption) | exact Blk.new _ _ _ | refine Blk.alloc ?_ _ | refine Blk.drewN ?_ _ | apply Blk.set | refine Blk.below ?_ (by assumption)) | refine Blk.setAt ?_ (by simp; omega) | (with_reducible exact Blk.new_at _ _ _ _ (by simp)) | rfl)))
  go_region_held3 (fun w' => Below w4.heap.size w4 w' ∧ Blk w' (w.heap.size) (#[.int .u16 rl, .int .u16 ct, .bool false, .bool rg]) 38 ∧ (∀ i, w'.cell? ⟨w.heap.size, i, none⟩ = (#[.int .u16 rl, .int .u16 ct, .bool false, .bool rg] : Array Value)[i]?) ∧ w.heap.size < w'.heap.size ∧ Blk w' (w3.heap.size) (#[.int .u16 rl, .int .u16 ct, .bool false, .bool rg]) 38 ∧ (∀ i, w'.cell? ⟨w3.heap.size, i, none⟩ = (#[.int .u16 rl, .int .u16 ct, .bool false, .bool rg] : Array Value)[i]?) ∧ w3.heap.size < w'.heap.size) ((first | exact held2_drew S0 | exact held2_below (by assumption) (by assumption))) (first | (go_at_call 47; refine (ST.out _).mono ?_; rintro e w5 ⟨rfl, hb_w5⟩))
  have hbw5 : Below w4.heap.size w4 w5 := And.left (show Below w4.heap.size w4 w5 ∧ Blk w5 (w.heap.size) (#[.int .u16 rl, .int .u16 ct, .bool false, .bool rg]) 38 ∧ (∀ i, w5.cell? ⟨w.heap.size, i, none⟩ = (#[.int .u16 rl, .int .u16 ct, .bool false, .bool rg] : Array Value)[i]?) ∧ w.heap.size < w5.heap.size ∧ Blk w5 (w3.heap.size) (#[.int .u16 rl, .int .u16 ct, .bool false, .bool rg]) 38 ∧ (∀ i, w5.cell? ⟨w3.heap.size, i, none⟩ = (#[.int .u16 rl, .int .u16 ct, .bool false, .bool rg] : Array Value)[i]?) ∧ w3.heap.size < w5.heap.size by assumption)
  clear S0
  have Kw5_0 : Hid (Blk w5 (w.heap.size) #[.int .u16 rl, .int .u16 ct, .bool false, .bool rg] 38) := Lib.hid (by repeat' (first | (with_reducible first | exact Hid.out (by assumption) | exact Blk.new _ _ _ | refine Blk.alloc ?_ _ | refine Blk.drewN ?_ _ | apply Blk.set | refine Blk.below ?_ (by assumption)) | refine Blk.setAt ?_ (by simp; omega) | (with_reducible exact Blk.new_at _ _ _ _ (by simp)) | rfl))
  have Kw5_1 : Hid (Blk w5 (w1.heap.size) #[.int .u16 0, .int .u16 0, .bool false, .bool false] 38) := Lib.hid (by repeat' (first | (with_reducible first | exact Hid.out (by assumption) | exact Blk.new _ _ _ | refine Blk.alloc ?_ _ | refine Blk.drewN ?_ _ | apply Blk.set | refine Blk.below ?_ (by assumption)) | refine Blk.setAt ?_ (by simp; omega) | (with_reducible exact Blk.new_at _ _ _ _ (by simp)) | rfl))
  clear Kw4_0 cw4_0 fw4_0 Kw4_1 cw4_1 fw4_1 Kw4_2 cw4_2 fw4_2
  obtain ⟨lw5_0, cw5_0, fw5_0⟩ := Kw5_0.out.use
  obtain ⟨lw5_1, cw5_1, fw5_1⟩ := Kw5_1.out.use
  go_wp2_with fail
  refine (NX.out _).mono ?_
  rintro e w6 ⟨rfl, hb6⟩
  have Kw6_0 : Hid (Blk w6 (w1.heap.size) #[.int .u16 0, .int .u16 0, .bool false, .bool false] 38) := Lib.hid (by repeat' (first | (with_reducible first | exact Hid.out (by assumption) | exact Blk.new _ _ _ | refine Blk.alloc ?_ _ | refine Blk.drewN ?_ _ | apply Blk.set | refine Blk.below ?_ (by assumption)) | refine Blk.setAt ?_ (by simp; omega) | (with_reducible exact Blk.new_at _ _ _ _ (by simp)) | rfl))
  clear Kw5_0 cw5_0 fw5_0 Kw5_1 cw5_1 fw5_1
  obtain ⟨lw6_0, cw6_0, fw6_0⟩ := Kw6_0.out.use
  by_cases h1 : n < 0
  · go_wp2
    go_ret
    exact ⟨rfl, by repeat' (first | exact Below.refl _ _ | assumption | refine below_alloc ?_ _ | refine Below.drew ?_ | refine below_drewN ?_ _ | refine below_then ?_ (by assumption) | refine Below.setCell ?_ ?_ _ | (simp; done) | (simp; omega) | omega)⟩
  · have h2 : 20000 < n := by omega
    go_wp2
    go_ret
    exact ⟨rfl, by repeat' (first | exact Below.refl _ _ | assumption | refine below_alloc ?_ _ | refine Below.drew ?_ | refine below_drewN ?_ _ | refine below_then ?_ (by assumption) | refine Below.setCell ?_ ?_ _ | (simp; done) | (simp; omega) | omega)⟩
set_option maxHeartbeats 2000000 in
set_option maxRecDepth 100000 in
theorem bad_ft (rl ct n : Int) (rg : Bool) (hr : U16 rl) (hc : U16 ct) (h : n < 0 ∨ 20000 < n) (w : World) :
    Calls Try.prog 12 #[.agg #[.int .u16 rl, .int .u16 ct, .bool true, .bool rg], .bool false, .int .i64 n] w fun e w' => e = .returned (.bool true) ∧ Below w.heap.size w w' := by
  have hrun := run_bad ⟨rl, ct, true, rg⟩ n h
  have htk := tick_any ⟨rl, ct, true, rg⟩ ⟨hr, hc⟩
  have hrt := reftick_any ⟨rl, ct, true, rg⟩ ⟨hr, hc⟩
  have hst := set_any ⟨rl, ct, true, rg⟩ ⟨hr, hc⟩ false
  have hnx := next_any ⟨rl, ct, true, rg⟩ ⟨hr, hc⟩
  simp only [setTm, nextTm, Bool.false_eq_true, if_false, if_true] at hrun htk hrt hst hnx
  have R := Lib.hid hrun
  have TK := Lib.hid htk
  have RT := Lib.hid hrt
  have ST := Lib.hid hst
  have NX := Lib.hid hnx
  obtain ⟨hc0, hc1⟩ := hc
  clear hrun htk hrt hst hnx
  go_enter Try.func12, Try.ntmps12
  go_wp2_with fail
  refine (R.out _).mono ?_
  rintro e w1 ⟨rfl, hb1⟩
  have Kw1_0 : Hid (Blk w1 (w.heap.size) #[.int .u16 rl, .int .u16 ct, .bool true, .bool rg] 38) := Lib.hid (by repeat' (first | (with_reducible first | exact Hid.out (by assumption) | exact Blk.new _ _ _ | refine Blk.alloc ?_ _ | refine Blk.drewN ?_ _ | apply Blk.set | refine Blk.below ?_ (by assumption)) | refine Blk.setAt ?_ (by simp; omega) | (with_reducible exact Blk.new_at _ _ _ _ (by simp)) | rfl))
  obtain ⟨lw1_0, cw1_0, fw1_0⟩ := Kw1_0.out.use
  go_wp2_with fail
  refine wp_mark (R := fun W => Below w.heap.size w W ∧ Hid (Blk W (w.heap.size) (#[.int .u16 rl, .int .u16 ct, .bool true, .bool rg]) 38) ∧ Hid (Blk W (w1.heap.size) (#[.int .u16 0, .int .u16 0, .bool false, .bool false]) 38)) ⟨by repeat' (first | exact Below.refl _ _ | assumption | refine below_alloc ?_ _ | refine Below.drew ?_ | refine below_drewN ?_ _ | refine below_then ?_ (by assumption) | refine Below.setCell ?_ ?_ _ | (simp; done) | (simp; omega) | omega), Lib.hid (by repeat' (first | (with_reducible first | exact Hid.out (by assumption) | exact Blk.new _ _ _ | refine Blk.alloc ?_ _ | refine Blk.drewN ?_ _ | apply Blk.set | refine Blk.below ?_ (by assumption)) | refine Blk.setAt ?_ (by simp; omega) | (with_reducible exact Blk.new_at _ _ _ _ (by simp)) | rfl)), Lib.hid (by repeat' (first | (with_reducible first | exact Hid.out (by assumption) | exact Blk.new _ _ _ | refine Blk.alloc ?_ _ | refine Blk.drewN ?_ _ | apply Blk.set | refine Blk.below ?_ (by assumption)) | refine Blk.setAt ?_ (by simp; omega) | (with_reducible exact Blk.new_at _ _ _ _ (by simp)) | rfl))⟩ ?_
  rintro w2 ⟨hbw2, Kw2_0, Kw2_1⟩
  clear Kw1_0 cw1_0 fw1_0
  obtain ⟨lw2_0, cw2_0, fw2_0⟩ := Kw2_0.out.use
  obtain ⟨lw2_1, cw2_1, fw2_1⟩ := Kw2_1.out.use
  have S0 := held1_of (Below.refl w2.heap.size w2) (show Blk w2 (w.heap.size) (#[.int .u16 rl, .int .u16 ct, .bool true, .bool rg]) 38 from (by repeat' (first | (with_reducible first | exact Hid.out (by assumption) | exact Blk.new _ _ _ | refine Blk.alloc ?_ _ | refine Blk.drewN ?_ _ | apply Blk.set | refine Blk.below ?_ (by assumption)) | refine Blk.setAt ?_ (by simp; omega) | (with_reducible exact Blk.new_at _ _ _ _ (by simp)) | rfl)))
  go_region_held3 (fun w' => Below w2.heap.size w2 w' ∧ Blk w' (w.heap.size) (#[.int .u16 rl, .int .u16 ct, .bool true, .bool rg]) 38 ∧ (∀ i, w'.cell? ⟨w.heap.size, i, none⟩ = (#[.int .u16 rl, .int .u16 ct, .bool true, .bool rg] : Array Value)[i]?) ∧ w.heap.size < w'.heap.size) ((first | exact held1_drew S0 | exact held1_below (by assumption) (by assumption))) (first | (go_at_call 23; refine (timed_any _).mono ?_; rintro e w3 ⟨rfl, hb_w3⟩) | (go_at_call 45; refine (TK.out _).mono ?_; rintro e w3 ⟨rfl, hb_w3⟩) | (go_at_call 46; refine (RT.out _).mono ?_; rintro e w3 ⟨rfl, hb_w3⟩))
  have hbw3 : Below w2.heap.size w2 w3 := And.left (show Below w2.heap.size w2 w3 ∧ Blk w3 (w.heap.size) (#[.int .u16 rl, .int .u16 ct, .bool true, .bool rg]) 38 ∧ (∀ i, w3.cell? ⟨w.heap.size, i, none⟩ = (#[.int .u16 rl, .int .u16 ct, .bool true, .bool rg] : Array Value)[i]?) ∧ w.heap.size < w3.heap.size by assumption)
  clear S0
  have Kw3_0 : Hid (Blk w3 (w.heap.size) #[.int .u16 rl, .int .u16 ct, .bool true, .bool rg] 38) := Lib.hid (by repeat' (first | (with_reducible first | exact Hid.out (by assumption) | exact Blk.new _ _ _ | refine Blk.alloc ?_ _ | refine Blk.drewN ?_ _ | apply Blk.set | refine Blk.below ?_ (by assumption)) | refine Blk.setAt ?_ (by simp; omega) | (with_reducible exact Blk.new_at _ _ _ _ (by simp)) | rfl))
  have Kw3_1 : Hid (Blk w3 (w1.heap.size) #[.int .u16 0, .int .u16 0, .bool false, .bool false] 38) := Lib.hid (by repeat' (first | (with_reducible first | exact Hid.out (by assumption) | exact Blk.new _ _ _ | refine Blk.alloc ?_ _ | refine Blk.drewN ?_ _ | apply Blk.set | refine Blk.below ?_ (by assumption)) | refine Blk.setAt ?_ (by simp; omega) | (with_reducible exact Blk.new_at _ _ _ _ (by simp)) | rfl))
  clear Kw2_0 cw2_0 fw2_0 Kw2_1 cw2_1 fw2_1
  obtain ⟨lw3_0, cw3_0, fw3_0⟩ := Kw3_0.out.use
  obtain ⟨lw3_1, cw3_1, fw3_1⟩ := Kw3_1.out.use
  go_wp2_with fail
  refine wp_mark (R := fun W => Below w.heap.size w W ∧ Hid (Blk W (w.heap.size) (#[.int .u16 rl, .int .u16 ct, .bool true, .bool rg]) 38) ∧ Hid (Blk W (w1.heap.size) (#[.int .u16 0, .int .u16 0, .bool false, .bool false]) 38) ∧ Hid (Blk W (w3.heap.size) (#[.int .u16 rl, .int .u16 ct, .bool false, .bool rg]) 38)) ⟨by repeat' (first | exact Below.refl _ _ | assumption | refine below_alloc ?_ _ | refine Below.drew ?_ | refine below_drewN ?_ _ | refine below_then ?_ (by assumption) | refine Below.setCell ?_ ?_ _ | (simp; done) | (simp; omega) | omega), Lib.hid (by repeat' (first | (with_reducible first | exact Hid.out (by assumption) | exact Blk.new _ _ _ | refine Blk.alloc ?_ _ | refine Blk.drewN ?_ _ | apply Blk.set | refine Blk.below ?_ (by assumption)) | refine Blk.setAt ?_ (by simp; omega) | (with_reducible exact Blk.new_at _ _ _ _ (by simp)) | rfl)), Lib.hid (by repeat' (first | (with_reducible first | exact Hid.out (by assumption) | exact Blk.new _ _ _ | refine Blk.alloc ?_ _ | refine Blk.drewN ?_ _ | apply Blk.set | refine Blk.below ?_ (by assumption)) | refine Blk.setAt ?_ (by simp; omega) | (with_reducible exact Blk.new_at _ _ _ _ (by simp)) | rfl)), Lib.hid (by repeat' (first | (with_reducible first | exact Hid.out (by assumption) | exact Blk.new _ _ _ | refine Blk.alloc ?_ _ | refine Blk.drewN ?_ _ | apply Blk.set | refine Blk.below ?_ (by assumption)) | refine Blk.setAt ?_ (by simp; omega) | (with_reducible exact Blk.new_at _ _ _ _ (by simp)) | rfl))⟩ ?_
  rintro w4 ⟨hbw4, Kw4_0, Kw4_1, Kw4_2⟩
  clear Kw3_0 cw3_0 fw3_0 Kw3_1 cw3_1 fw3_1
  obtain ⟨lw4_0, cw4_0, fw4_0⟩ := Kw4_0.out.use
  obtain ⟨lw4_1, cw4_1, fw4_1⟩ := Kw4_1.out.use
  obtain ⟨lw4_2, cw4_2, fw4_2⟩ := Kw4_2.out.use
  have S0 := held2_of (Below.refl w4.heap.size w4) (show Blk w4 (w.heap.size) (#[.int .u16 rl, .int .u16 ct, .bool true, .bool rg]) 38 from (by repeat' (first | (with_reducible first | exact Hid.out (by assumption) | exact Blk.new _ _ _ | refine Blk.alloc ?_ _ | refine Blk.drewN ?_ _ | apply Blk.set | refine Blk.below ?_ (by assumption)) | refine Blk.setAt ?_ (by simp; omega) | (with_reducible exact Blk.new_at _ _ _ _ (by simp)) | rfl))) (show Blk w4 (w3.heap.size) (#[.int .u16 rl, .int .u16 ct, .bool false, .bool rg]) 38 from (by repeat' (first | (with_reducible first | exact Hid.out (by assumption) | exact Blk.new _ _ _ | refine Blk.alloc ?_ _ | refine Blk.drewN ?_ _ | apply Blk.set | refine Blk.below ?_ (by assumption)) | refine Blk.setAt ?_ (by simp; omega) | (with_reducible exact Blk.new_at _ _ _ _ (by simp)) | rfl)))
  go_region_held3 (fun w' => Below w4.heap.size w4 w' ∧ Blk w' (w.heap.size) (#[.int .u16 rl, .int .u16 ct, .bool true, .bool rg]) 38 ∧ (∀ i, w'.cell? ⟨w.heap.size, i, none⟩ = (#[.int .u16 rl, .int .u16 ct, .bool true, .bool rg] : Array Value)[i]?) ∧ w.heap.size < w'.heap.size ∧ Blk w' (w3.heap.size) (#[.int .u16 rl, .int .u16 ct, .bool false, .bool rg]) 38 ∧ (∀ i, w'.cell? ⟨w3.heap.size, i, none⟩ = (#[.int .u16 rl, .int .u16 ct, .bool false, .bool rg] : Array Value)[i]?) ∧ w3.heap.size < w'.heap.size) ((first | exact held2_drew S0 | exact held2_below (by assumption) (by assumption))) (first | (go_at_call 47; refine (ST.out _).mono ?_; rintro e w5 ⟨rfl, hb_w5⟩))
  have hbw5 : Below w4.heap.size w4 w5 := And.left (show Below w4.heap.size w4 w5 ∧ Blk w5 (w.heap.size) (#[.int .u16 rl, .int .u16 ct, .bool true, .bool rg]) 38 ∧ (∀ i, w5.cell? ⟨w.heap.size, i, none⟩ = (#[.int .u16 rl, .int .u16 ct, .bool true, .bool rg] : Array Value)[i]?) ∧ w.heap.size < w5.heap.size ∧ Blk w5 (w3.heap.size) (#[.int .u16 rl, .int .u16 ct, .bool false, .bool rg]) 38 ∧ (∀ i, w5.cell? ⟨w3.heap.size, i, none⟩ = (#[.int .u16 rl, .int .u16 ct, .bool false, .bool rg] : Array Value)[i]?) ∧ w3.heap.size < w5.heap.size by assumption)
  clear S0
  have Kw5_0 : Hid (Blk w5 (w.heap.size) #[.int .u16 rl, .int .u16 ct, .bool true, .bool rg] 38) := Lib.hid (by repeat' (first | (with_reducible first | exact Hid.out (by assumption) | exact Blk.new _ _ _ | refine Blk.alloc ?_ _ | refine Blk.drewN ?_ _ | apply Blk.set | refine Blk.below ?_ (by assumption)) | refine Blk.setAt ?_ (by simp; omega) | (with_reducible exact Blk.new_at _ _ _ _ (by simp)) | rfl))
  have Kw5_1 : Hid (Blk w5 (w1.heap.size) #[.int .u16 0, .int .u16 0, .bool false, .bool false] 38) := Lib.hid (by repeat' (first | (with_reducible first | exact Hid.out (by assumption) | exact Blk.new _ _ _ | refine Blk.alloc ?_ _ | refine Blk.drewN ?_ _ | apply Blk.set | refine Blk.below ?_ (by assumption)) | refine Blk.setAt ?_ (by simp; omega) | (with_reducible exact Blk.new_at _ _ _ _ (by simp)) | rfl))
  clear Kw4_0 cw4_0 fw4_0 Kw4_1 cw4_1 fw4_1 Kw4_2 cw4_2 fw4_2
  obtain ⟨lw5_0, cw5_0, fw5_0⟩ := Kw5_0.out.use
  obtain ⟨lw5_1, cw5_1, fw5_1⟩ := Kw5_1.out.use
  go_wp2_with fail
  refine (NX.out _).mono ?_
  rintro e w6 ⟨rfl, hb6⟩
  have Kw6_0 : Hid (Blk w6 (w1.heap.size) #[.int .u16 0, .int .u16 0, .bool false, .bool false] 38) := Lib.hid (by repeat' (first | (with_reducible first | exact Hid.out (by assumption) | exact Blk.new _ _ _ | refine Blk.alloc ?_ _ | refine Blk.drewN ?_ _ | apply Blk.set | refine Blk.below ?_ (by assumption)) | refine Blk.setAt ?_ (by simp; omega) | (with_reducible exact Blk.new_at _ _ _ _ (by simp)) | rfl))
  clear Kw5_0 cw5_0 fw5_0 Kw5_1 cw5_1 fw5_1
  obtain ⟨lw6_0, cw6_0, fw6_0⟩ := Kw6_0.out.use
  by_cases h1 : n < 0
  · go_wp2
    go_ret
    exact ⟨rfl, by repeat' (first | exact Below.refl _ _ | assumption | refine below_alloc ?_ _ | refine Below.drew ?_ | refine below_drewN ?_ _ | refine below_then ?_ (by assumption) | refine Below.setCell ?_ ?_ _ | (simp; done) | (simp; omega) | omega)⟩
  · have h2 : 20000 < n := by omega
    go_wp2
    go_ret
    exact ⟨rfl, by repeat' (first | exact Below.refl _ _ | assumption | refine below_alloc ?_ _ | refine Below.drew ?_ | refine below_drewN ?_ _ | refine below_then ?_ (by assumption) | refine Below.setCell ?_ ?_ _ | (simp; done) | (simp; omega) | omega)⟩
set_option maxHeartbeats 2000000 in
set_option maxRecDepth 100000 in
theorem bad_tf (rl ct n : Int) (rg : Bool) (hr : U16 rl) (hc : U16 ct) (h : n < 0 ∨ 20000 < n) (w : World) :
    Calls Try.prog 12 #[.agg #[.int .u16 rl, .int .u16 ct, .bool false, .bool rg], .bool true, .int .i64 n] w fun e w' => e = .returned (.bool true) ∧ Below w.heap.size w w' := by
  have hrun := run_bad ⟨rl, ct, false, rg⟩ n h
  have htk := tick_any ⟨rl, ct, false, rg⟩ ⟨hr, hc⟩
  have hrt := reftick_any ⟨rl, ct, false, rg⟩ ⟨hr, hc⟩
  have hst := set_any ⟨rl, ct, false, rg⟩ ⟨hr, hc⟩ true
  have hnx := next_any ⟨rl, ct, false, rg⟩ ⟨hr, hc⟩
  simp only [setTm, nextTm, Bool.false_eq_true, if_false, if_true] at hrun htk hrt hst hnx
  have R := Lib.hid hrun
  have TK := Lib.hid htk
  have RT := Lib.hid hrt
  have ST := Lib.hid hst
  have NX := Lib.hid hnx
  obtain ⟨hc0, hc1⟩ := hc
  clear hrun htk hrt hst hnx
  go_enter Try.func12, Try.ntmps12
  go_wp2_with fail
  refine (R.out _).mono ?_
  rintro e w1 ⟨rfl, hb1⟩
  have Kw1_0 : Hid (Blk w1 (w.heap.size) #[.int .u16 rl, .int .u16 ct, .bool false, .bool rg] 38) := Lib.hid (by repeat' (first | (with_reducible first | exact Hid.out (by assumption) | exact Blk.new _ _ _ | refine Blk.alloc ?_ _ | refine Blk.drewN ?_ _ | apply Blk.set | refine Blk.below ?_ (by assumption)) | refine Blk.setAt ?_ (by simp; omega) | (with_reducible exact Blk.new_at _ _ _ _ (by simp)) | rfl))
  obtain ⟨lw1_0, cw1_0, fw1_0⟩ := Kw1_0.out.use
  go_wp2_with fail
  refine wp_mark (R := fun W => Below w.heap.size w W ∧ Hid (Blk W (w.heap.size) (#[.int .u16 rl, .int .u16 ct, .bool false, .bool rg]) 38) ∧ Hid (Blk W (w1.heap.size) (#[.int .u16 0, .int .u16 0, .bool false, .bool false]) 38)) ⟨by repeat' (first | exact Below.refl _ _ | assumption | refine below_alloc ?_ _ | refine Below.drew ?_ | refine below_drewN ?_ _ | refine below_then ?_ (by assumption) | refine Below.setCell ?_ ?_ _ | (simp; done) | (simp; omega) | omega), Lib.hid (by repeat' (first | (with_reducible first | exact Hid.out (by assumption) | exact Blk.new _ _ _ | refine Blk.alloc ?_ _ | refine Blk.drewN ?_ _ | apply Blk.set | refine Blk.below ?_ (by assumption)) | refine Blk.setAt ?_ (by simp; omega) | (with_reducible exact Blk.new_at _ _ _ _ (by simp)) | rfl)), Lib.hid (by repeat' (first | (with_reducible first | exact Hid.out (by assumption) | exact Blk.new _ _ _ | refine Blk.alloc ?_ _ | refine Blk.drewN ?_ _ | apply Blk.set | refine Blk.below ?_ (by assumption)) | refine Blk.setAt ?_ (by simp; omega) | (with_reducible exact Blk.new_at _ _ _ _ (by simp)) | rfl))⟩ ?_
  rintro w2 ⟨hbw2, Kw2_0, Kw2_1⟩
  clear Kw1_0 cw1_0 fw1_0
  obtain ⟨lw2_0, cw2_0, fw2_0⟩ := Kw2_0.out.use
  obtain ⟨lw2_1, cw2_1, fw2_1⟩ := Kw2_1.out.use
  have S0 := held1_of (Below.refl w2.heap.size w2) (show Blk w2 (w.heap.size) (#[.int .u16 rl, .int .u16 ct, .bool false, .bool rg]) 38 from (by repeat' (first | (with_reducible first | exact Hid.out (by assumption) | exact Blk.new _ _ _ | refine Blk.alloc ?_ _ | refine Blk.drewN ?_ _ | apply Blk.set | refine Blk.below ?_ (by assumption)) | refine Blk.setAt ?_ (by simp; omega) | (with_reducible exact Blk.new_at _ _ _ _ (by simp)) | rfl)))
  go_region_held3 (fun w' => Below w2.heap.size w2 w' ∧ Blk w' (w.heap.size) (#[.int .u16 rl, .int .u16 ct, .bool false, .bool rg]) 38 ∧ (∀ i, w'.cell? ⟨w.heap.size, i, none⟩ = (#[.int .u16 rl, .int .u16 ct, .bool false, .bool rg] : Array Value)[i]?) ∧ w.heap.size < w'.heap.size) ((first | exact held1_drew S0 | exact held1_below (by assumption) (by assumption))) (first | (go_at_call 23; refine (timed_any _).mono ?_; rintro e w3 ⟨rfl, hb_w3⟩) | (go_at_call 45; refine (TK.out _).mono ?_; rintro e w3 ⟨rfl, hb_w3⟩) | (go_at_call 46; refine (RT.out _).mono ?_; rintro e w3 ⟨rfl, hb_w3⟩))
  have hbw3 : Below w2.heap.size w2 w3 := And.left (show Below w2.heap.size w2 w3 ∧ Blk w3 (w.heap.size) (#[.int .u16 rl, .int .u16 ct, .bool false, .bool rg]) 38 ∧ (∀ i, w3.cell? ⟨w.heap.size, i, none⟩ = (#[.int .u16 rl, .int .u16 ct, .bool false, .bool rg] : Array Value)[i]?) ∧ w.heap.size < w3.heap.size by assumption)
  clear S0
  have Kw3_0 : Hid (Blk w3 (w.heap.size) #[.int .u16 rl, .int .u16 ct, .bool false, .bool rg] 38) := Lib.hid (by repeat' (first | (with_reducible first | exact Hid.out (by assumption) | exact Blk.new _ _ _ | refine Blk.alloc ?_ _ | refine Blk.drewN ?_ _ | apply Blk.set | refine Blk.below ?_ (by assumption)) | refine Blk.setAt ?_ (by simp; omega) | (with_reducible exact Blk.new_at _ _ _ _ (by simp)) | rfl))
  have Kw3_1 : Hid (Blk w3 (w1.heap.size) #[.int .u16 0, .int .u16 0, .bool false, .bool false] 38) := Lib.hid (by repeat' (first | (with_reducible first | exact Hid.out (by assumption) | exact Blk.new _ _ _ | refine Blk.alloc ?_ _ | refine Blk.drewN ?_ _ | apply Blk.set | refine Blk.below ?_ (by assumption)) | refine Blk.setAt ?_ (by simp; omega) | (with_reducible exact Blk.new_at _ _ _ _ (by simp)) | rfl))
  clear Kw2_0 cw2_0 fw2_0 Kw2_1 cw2_1 fw2_1
  obtain ⟨lw3_0, cw3_0, fw3_0⟩ := Kw3_0.out.use
  obtain ⟨lw3_1, cw3_1, fw3_1⟩ := Kw3_1.out.use
  go_wp2_with fail
  refine wp_mark (R := fun W => Below w.heap.size w W ∧ Hid (Blk W (w.heap.size) (#[.int .u16 rl, .int .u16 ct, .bool false, .bool rg]) 38) ∧ Hid (Blk W (w1.heap.size) (#[.int .u16 0, .int .u16 0, .bool false, .bool false]) 38) ∧ Hid (Blk W (w3.heap.size) (#[.int .u16 rl, .int .u16 rl, .bool true, .bool rg]) 38)) ⟨by repeat' (first | exact Below.refl _ _ | assumption | refine below_alloc ?_ _ | refine Below.drew ?_ | refine below_drewN ?_ _ | refine below_then ?_ (by assumption) | refine Below.setCell ?_ ?_ _ | (simp; done) | (simp; omega) | omega), Lib.hid (by repeat' (first | (with_reducible first | exact Hid.out (by assumption) | exact Blk.new _ _ _ | refine Blk.alloc ?_ _ | refine Blk.drewN ?_ _ | apply Blk.set | refine Blk.below ?_ (by assumption)) | refine Blk.setAt ?_ (by simp; omega) | (with_reducible exact Blk.new_at _ _ _ _ (by simp)) | rfl)), Lib.hid (by repeat' (first | (with_reducible first | exact Hid.out (by assumption) | exact Blk.new _ _ _ | refine Blk.alloc ?_ _ | refine Blk.drewN ?_ _ | apply Blk.set | refine Blk.below ?_ (by assumption)) | refine Blk.setAt ?_ (by simp; omega) | (with_reducible exact Blk.new_at _ _ _ _ (by simp)) | rfl)), Lib.hid (by repeat' (first | (with_reducible first | exact Hid.out (by assumption) | exact Blk.new _ _ _ | refine Blk.alloc ?_ _ | refine Blk.drewN ?_ _ | apply Blk.set | refine Blk.below ?_ (by assumption)) | refine Blk.setAt ?_ (by simp; omega) | (with_reducible exact Blk.new_at _ _ _ _ (by simp)) | rfl))⟩ ?_
  rintro w4 ⟨hbw4, Kw4_0, Kw4_1, Kw4_2⟩
  clear Kw3_0 cw3_0 fw3_0 Kw3_1 cw3_1 fw3_1
  obtain ⟨lw4_0, cw4_0, fw4_0⟩ := Kw4_0.out.use
  obtain ⟨lw4_1, cw4_1, fw4_1⟩ := Kw4_1.out.use
  obtain ⟨lw4_2, cw4_2, fw4_2⟩ := Kw4_2.out.use
  have S0 := held2_of (Below.refl w4.heap.size w4) (show Blk w4 (w.heap.size) (#[.int .u16 rl, .int .u16 ct, .bool false, .bool rg]) 38 from (by repeat' (first | (with_reducible first | exact Hid.out (by assumption) | exact Blk.new _ _ _ | refine Blk.alloc ?_ _ | refine Blk.drewN ?_ _ | apply Blk.set | refine Blk.below ?_ (by assumption)) | refine Blk.setAt ?_ (by simp; omega) | (with_reducible exact Blk.new_at _ _ _ _ (by simp)) | rfl))) (show Blk w4 (w3.heap.size) (#[.int .u16 rl, .int .u16 rl, .bool true, .bool rg]) 38 from (by repeat' (first | (with_reducible first | exact Hid.out (by assumption) | exact Blk.new _ _ _ | refine Blk.alloc ?_ _ | refine Blk.drewN ?_ _ | apply Blk.set | refine Blk.below ?_ (by assumption)) | refine Blk.setAt ?_ (by simp; omega) | (with_reducible exact Blk.new_at _ _ _ _ (by simp)) | rfl)))
  go_region_held3 (fun w' => Below w4.heap.size w4 w' ∧ Blk w' (w.heap.size) (#[.int .u16 rl, .int .u16 ct, .bool false, .bool rg]) 38 ∧ (∀ i, w'.cell? ⟨w.heap.size, i, none⟩ = (#[.int .u16 rl, .int .u16 ct, .bool false, .bool rg] : Array Value)[i]?) ∧ w.heap.size < w'.heap.size ∧ Blk w' (w3.heap.size) (#[.int .u16 rl, .int .u16 rl, .bool true, .bool rg]) 38 ∧ (∀ i, w'.cell? ⟨w3.heap.size, i, none⟩ = (#[.int .u16 rl, .int .u16 rl, .bool true, .bool rg] : Array Value)[i]?) ∧ w3.heap.size < w'.heap.size) ((first | exact held2_drew S0 | exact held2_below (by assumption) (by assumption))) (first | (go_at_call 47; refine (ST.out _).mono ?_; rintro e w5 ⟨rfl, hb_w5⟩))
  have hbw5 : Below w4.heap.size w4 w5 := And.left (show Below w4.heap.size w4 w5 ∧ Blk w5 (w.heap.size) (#[.int .u16 rl, .int .u16 ct, .bool false, .bool rg]) 38 ∧ (∀ i, w5.cell? ⟨w.heap.size, i, none⟩ = (#[.int .u16 rl, .int .u16 ct, .bool false, .bool rg] : Array Value)[i]?) ∧ w.heap.size < w5.heap.size ∧ Blk w5 (w3.heap.size) (#[.int .u16 rl, .int .u16 rl, .bool true, .bool rg]) 38 ∧ (∀ i, w5.cell? ⟨w3.heap.size, i, none⟩ = (#[.int .u16 rl, .int .u16 rl, .bool true, .bool rg] : Array Value)[i]?) ∧ w3.heap.size < w5.heap.size by assumption)
  clear S0
  have Kw5_0 : Hid (Blk w5 (w.heap.size) #[.int .u16 rl, .int .u16 ct, .bool false, .bool rg] 38) := Lib.hid (by repeat' (first | (with_reducible first | exact Hid.out (by assumption) | exact Blk.new _ _ _ | refine Blk.alloc ?_ _ | refine Blk.drewN ?_ _ | apply Blk.set | refine Blk.below ?_ (by assumption)) | refine Blk.setAt ?_ (by simp; omega) | (with_reducible exact Blk.new_at _ _ _ _ (by simp)) | rfl))
  have Kw5_1 : Hid (Blk w5 (w1.heap.size) #[.int .u16 0, .int .u16 0, .bool false, .bool false] 38) := Lib.hid (by repeat' (first | (with_reducible first | exact Hid.out (by assumption) | exact Blk.new _ _ _ | refine Blk.alloc ?_ _ | refine Blk.drewN ?_ _ | apply Blk.set | refine Blk.below ?_ (by assumption)) | refine Blk.setAt ?_ (by simp; omega) | (with_reducible exact Blk.new_at _ _ _ _ (by simp)) | rfl))
  clear Kw4_0 cw4_0 fw4_0 Kw4_1 cw4_1 fw4_1 Kw4_2 cw4_2 fw4_2
  obtain ⟨lw5_0, cw5_0, fw5_0⟩ := Kw5_0.out.use
  obtain ⟨lw5_1, cw5_1, fw5_1⟩ := Kw5_1.out.use
  go_wp2_with fail
  refine (NX.out _).mono ?_
  rintro e w6 ⟨rfl, hb6⟩
  have Kw6_0 : Hid (Blk w6 (w1.heap.size) #[.int .u16 0, .int .u16 0, .bool false, .bool false] 38) := Lib.hid (by repeat' (first | (with_reducible first | exact Hid.out (by assumption) | exact Blk.new _ _ _ | refine Blk.alloc ?_ _ | refine Blk.drewN ?_ _ | apply Blk.set | refine Blk.below ?_ (by assumption)) | refine Blk.setAt ?_ (by simp; omega) | (with_reducible exact Blk.new_at _ _ _ _ (by simp)) | rfl))
  clear Kw5_0 cw5_0 fw5_0 Kw5_1 cw5_1 fw5_1
  obtain ⟨lw6_0, cw6_0, fw6_0⟩ := Kw6_0.out.use
  by_cases h1 : n < 0
  · go_wp2
    go_ret
    exact ⟨rfl, by repeat' (first | exact Below.refl _ _ | assumption | refine below_alloc ?_ _ | refine Below.drew ?_ | refine below_drewN ?_ _ | refine below_then ?_ (by assumption) | refine Below.setCell ?_ ?_ _ | (simp; done) | (simp; omega) | omega)⟩
  · have h2 : 20000 < n := by omega
    go_wp2
    go_ret
    exact ⟨rfl, by repeat' (first | exact Below.refl _ _ | assumption | refine below_alloc ?_ _ | refine Below.drew ?_ | refine below_drewN ?_ _ | refine below_then ?_ (by assumption) | refine Below.setCell ?_ ?_ _ | (simp; done) | (simp; omega) | omega)⟩
set_option maxHeartbeats 2000000 in
set_option maxRecDepth 100000 in
theorem bad_tt (rl ct n : Int) (rg : Bool) (hr : U16 rl) (hc : U16 ct) (h : n < 0 ∨ 20000 < n) (w : World) :
    Calls Try.prog 12 #[.agg #[.int .u16 rl, .int .u16 ct, .bool true, .bool rg], .bool true, .int .i64 n] w fun e w' => e = .returned (.bool true) ∧ Below w.heap.size w w' := by
  have hrun := run_bad ⟨rl, ct, true, rg⟩ n h
  have htk := tick_any ⟨rl, ct, true, rg⟩ ⟨hr, hc⟩
  have hrt := reftick_any ⟨rl, ct, true, rg⟩ ⟨hr, hc⟩
  have hst := set_any ⟨rl, ct, true, rg⟩ ⟨hr, hc⟩ true
  have hnx := next_any ⟨rl, ct, true, rg⟩ ⟨hr, hc⟩
  simp only [setTm, nextTm, Bool.false_eq_true, if_false, if_true] at hrun htk hrt hst hnx
  have R := Lib.hid hrun
  have TK := Lib.hid htk
  have RT := Lib.hid hrt
  have ST := Lib.hid hst
  have NX := Lib.hid hnx
  obtain ⟨hc0, hc1⟩ := hc
  clear hrun htk hrt hst hnx
  go_enter Try.func12, Try.ntmps12
  go_wp2_with fail
  refine (R.out _).mono ?_
  rintro e w1 ⟨rfl, hb1⟩
  have Kw1_0 : Hid (Blk w1 (w.heap.size) #[.int .u16 rl, .int .u16 ct, .bool true, .bool rg] 38) := Lib.hid (by repeat' (first | (with_reducible first | exact Hid.out (by assumption) | exact Blk.new _ _ _ | refine Blk.alloc ?_ _ | refine Blk.drewN ?_ _ | apply Blk.set | refine Blk.below ?_ (by assumption)) | refine Blk.setAt ?_ (by simp; omega) | (with_reducible exact Blk.new_at _ _ _ _ (by simp)) | rfl))
  obtain ⟨lw1_0, cw1_0, fw1_0⟩ := Kw1_0.out.use
  go_wp2_with fail
  refine wp_mark (R := fun W => Below w.heap.size w W ∧ Hid (Blk W (w.heap.size) (#[.int .u16 rl, .int .u16 ct, .bool true, .bool rg]) 38) ∧ Hid (Blk W (w1.heap.size) (#[.int .u16 0, .int .u16 0, .bool false, .bool false]) 38)) ⟨by repeat' (first | exact Below.refl _ _ | assumption | refine below_alloc ?_ _ | refine Below.drew ?_ | refine below_drewN ?_ _ | refine below_then ?_ (by assumption) | refine Below.setCell ?_ ?_ _ | (simp; done) | (simp; omega) | omega), Lib.hid (by repeat' (first | (with_reducible first | exact Hid.out (by assumption) | exact Blk.new _ _ _ | refine Blk.alloc ?_ _ | refine Blk.drewN ?_ _ | apply Blk.set | refine Blk.below ?_ (by assumption)) | refine Blk.setAt ?_ (by simp; omega) | (with_reducible exact Blk.new_at _ _ _ _ (by simp)) | rfl)), Lib.hid (by repeat' (first | (with_reducible first | exact Hid.out (by assumption) | exact Blk.new _ _ _ | refine Blk.alloc ?_ _ | refine Blk.drewN ?_ _ | apply Blk.set | refine Blk.below ?_ (by assumption)) | refine Blk.setAt ?_ (by simp; omega) | (with_reducible exact Blk.new_at _ _ _ _ (by simp)) | rfl))⟩ ?_
  rintro w2 ⟨hbw2, Kw2_0, Kw2_1⟩
  clear Kw1_0 cw1_0 fw1_0
  obtain ⟨lw2_0, cw2_0, fw2_0⟩ := Kw2_0.out.use
  obtain ⟨lw2_1, cw2_1, fw2_1⟩ := Kw2_1.out.use
  have S0 := held1_of (Below.refl w2.heap.size w2) (show Blk w2 (w.heap.size) (#[.int .u16 rl, .int .u16 ct, .bool true, .bool rg]) 38 from (by repeat' (first | (with_reducible first | exact Hid.out (by assumption) | exact Blk.new _ _ _ | refine Blk.alloc ?_ _ | refine Blk.drewN ?_ _ | apply Blk.set | refine Blk.below ?_ (by assumption)) | refine Blk.setAt ?_ (by simp; omega) | (with_reducible exact Blk.new_at _ _ _ _ (by simp)) | rfl)))
  go_region_held3 (fun w' => Below w2.heap.size w2 w' ∧ Blk w' (w.heap.size) (#[.int .u16 rl, .int .u16 ct, .bool true, .bool rg]) 38 ∧ (∀ i, w'.cell? ⟨w.heap.size, i, none⟩ = (#[.int .u16 rl, .int .u16 ct, .bool true, .bool rg] : Array Value)[i]?) ∧ w.heap.size < w'.heap.size) ((first | exact held1_drew S0 | exact held1_below (by assumption) (by assumption))) (first | (go_at_call 23; refine (timed_any _).mono ?_; rintro e w3 ⟨rfl, hb_w3⟩) | (go_at_call 45; refine (TK.out _).mono ?_; rintro e w3 ⟨rfl, hb_w3⟩) | (go_at_call 46; refine (RT.out _).mono ?_; rintro e w3 ⟨rfl, hb_w3⟩))
  have hbw3 : Below w2.heap.size w2 w3 := And.left (show Below w2.heap.size w2 w3 ∧ Blk w3 (w.heap.size) (#[.int .u16 rl, .int .u16 ct, .bool true, .bool rg]) 38 ∧ (∀ i, w3.cell? ⟨w.heap.size, i, none⟩ = (#[.int .u16 rl, .int .u16 ct, .bool true, .bool rg] : Array Value)[i]?) ∧ w.heap.size < w3.heap.size by assumption)
  clear S0
  have Kw3_0 : Hid (Blk w3 (w.heap.size) #[.int .u16 rl, .int .u16 ct, .bool true, .bool rg] 38) := Lib.hid (by repeat' (first | (with_reducible first | exact Hid.out (by assumption) | exact Blk.new _ _ _ | refine Blk.alloc ?_ _ | refine Blk.drewN ?_ _ | apply Blk.set | refine Blk.below ?_ (by assumption)) | refine Blk.setAt ?_ (by simp; omega) | (with_reducible exact Blk.new_at _ _ _ _ (by simp)) | rfl))
  have Kw3_1 : Hid (Blk w3 (w1.heap.size) #[.int .u16 0, .int .u16 0, .bool false, .bool false] 38) := Lib.hid (by repeat' (first | (with_reducible first | exact Hid.out (by assumption) | exact Blk.new _ _ _ | refine Blk.alloc ?_ _ | refine Blk.drewN ?_ _ | apply Blk.set | refine Blk.below ?_ (by assumption)) | refine Blk.setAt ?_ (by simp; omega) | (with_reducible exact Blk.new_at _ _ _ _ (by simp)) | rfl))
  clear Kw2_0 cw2_0 fw2_0 Kw2_1 cw2_1 fw2_1
  obtain ⟨lw3_0, cw3_0, fw3_0⟩ := Kw3_0.out.use
  obtain ⟨lw3_1, cw3_1, fw3_1⟩ := Kw3_1.out.use
  go_wp2_with fail
  refine wp_mark (R := fun W => Below w.heap.size w W ∧ Hid (Blk W (w.heap.size) (#[.int .u16 rl, .int .u16 ct, .bool true, .bool rg]) 38) ∧ Hid (Blk W (w1.heap.size) (#[.int .u16 0, .int .u16 0, .bool false, .bool false]) 38) ∧ Hid (Blk W (w3.heap.size) (#[.int .u16 rl, .int .u16 rl, .bool true, .bool rg]) 38)) ⟨by repeat' (first | exact Below.refl _ _ | assumption | refine below_alloc ?_ _ | refine Below.drew ?_ | refine below_drewN ?_ _ | refine below_then ?_ (by assumption) | refine Below.setCell ?_ ?_ _ | (simp; done) | (simp; omega) | omega), Lib.hid (by repeat' (first | (with_reducible first | exact Hid.out (by assumption) | exact Blk.new _ _ _ | refine Blk.alloc ?_ _ | refine Blk.drewN ?_ _ | apply Blk.set | refine Blk.below ?_ (by assumption)) | refine Blk.setAt ?_ (by simp; omega) | (with_reducible exact Blk.new_at _ _ _ _ (by simp)) | rfl)), Lib.hid (by repeat' (first | (with_reducible first | exact Hid.out (by assumption) | exact Blk.new _ _ _ | refine Blk.alloc ?_ _ | refine Blk.drewN ?_ _ | apply Blk.set | refine Blk.below ?_ (by assumption)) | refine Blk.setAt ?_ (by simp; omega) | (with_reducible exact Blk.new_at _ _ _ _ (by simp)) | rfl)), Lib.hid (by repeat' (first | (with_reducible first | exact Hid.out (by assumption) | exact Blk.new _ _ _ | refine Blk.alloc ?_ _ | refine Blk.drewN ?_ _ | apply Blk.set | refine Blk.below ?_ (by assumption)) | refine Blk.setAt ?_ (by simp; omega) | (with_reducible exact Blk.new_at _ _ _ _ (by simp)) | rfl))⟩ ?_
  rintro w4 ⟨hbw4, Kw4_0, Kw4_1, Kw4_2⟩
  clear Kw3_0 cw3_0 fw3_0 Kw3_1 cw3_1 fw3_1
  obtain ⟨lw4_0, cw4_0, fw4_0⟩ := Kw4_0.out.use
  obtain ⟨lw4_1, cw4_1, fw4_1⟩ := Kw4_1.out.use
  obtain ⟨lw4_2, cw4_2, fw4_2⟩ := Kw4_2.out.use
  have S0 := held2_of (Below.refl w4.heap.size w4) (show Blk w4 (w.heap.size) (#[.int .u16 rl, .int .u16 ct, .bool true, .bool rg]) 38 from (by repeat' (first | (with_reducible first | exact Hid.out (by assumption) | exact Blk.new _ _ _ | refine Blk.alloc ?_ _ | refine Blk.drewN ?_ _ | apply Blk.set | refine Blk.below ?_ (by assumption)) | refine Blk.setAt ?_ (by simp; omega) | (with_reducible exact Blk.new_at _ _ _ _ (by simp)) | rfl))) (show Blk w4 (w3.heap.size) (#[.int .u16 rl, .int .u16 rl, .bool true, .bool rg]) 38 from (by repeat' (first | (with_reducible first | exact Hid.out (by assumption) | exact Blk.new _ _ _ | refine Blk.alloc ?_ _ | refine Blk.drewN ?_ _ | apply Blk.set | refine Blk.below ?_ (by assumption)) | refine Blk.setAt ?_ (by simp; omega) | (with_reducible exact Blk.new_at _ _ _ _ (by simp)) | rfl)))
  go_region_held3 (fun w' => Below w4.heap.size w4 w' ∧ Blk w' (w.heap.size) (#[.int .u16 rl, .int .u16 ct, .bool true, .bool rg]) 38 ∧ (∀ i, w'.cell? ⟨w.heap.size, i, none⟩ = (#[.int .u16 rl, .int .u16 ct, .bool true, .bool rg] : Array Value)[i]?) ∧ w.heap.size < w'.heap.size ∧ Blk w' (w3.heap.size) (#[.int .u16 rl, .int .u16 rl, .bool true, .bool rg]) 38 ∧ (∀ i, w'.cell? ⟨w3.heap.size, i, none⟩ = (#[.int .u16 rl, .int .u16 rl, .bool true, .bool rg] : Array Value)[i]?) ∧ w3.heap.size < w'.heap.size) ((first | exact held2_drew S0 | exact held2_below (by assumption) (by assumption))) (first | (go_at_call 47; refine (ST.out _).mono ?_; rintro e w5 ⟨rfl, hb_w5⟩))
  have hbw5 : Below w4.heap.size w4 w5 := And.left (show Below w4.heap.size w4 w5 ∧ Blk w5 (w.heap.size) (#[.int .u16 rl, .int .u16 ct, .bool true, .bool rg]) 38 ∧ (∀ i, w5.cell? ⟨w.heap.size, i, none⟩ = (#[.int .u16 rl, .int .u16 ct, .bool true, .bool rg] : Array Value)[i]?) ∧ w.heap.size < w5.heap.size ∧ Blk w5 (w3.heap.size) (#[.int .u16 rl, .int .u16 rl, .bool true, .bool rg]) 38 ∧ (∀ i, w5.cell? ⟨w3.heap.size, i, none⟩ = (#[.int .u16 rl, .int .u16 rl, .bool true, .bool rg] : Array Value)[i]?) ∧ w3.heap.size < w5.heap.size by assumption)
  clear S0
  have Kw5_0 : Hid (Blk w5 (w.heap.size) #[.int .u16 rl, .int .u16 ct, .bool true, .bool rg] 38) := Lib.hid (by repeat' (first | (with_reducible first | exact Hid.out (by assumption) | exact Blk.new _ _ _ | refine Blk.alloc ?_ _ | refine Blk.drewN ?_ _ | apply Blk.set | refine Blk.below ?_ (by assumption)) | refine Blk.setAt ?_ (by simp; omega) | (with_reducible exact Blk.new_at _ _ _ _ (by simp)) | rfl))
  have Kw5_1 : Hid (Blk w5 (w1.heap.size) #[.int .u16 0, .int .u16 0, .bool false, .bool false] 38) := Lib.hid (by repeat' (first | (with_reducible first | exact Hid.out (by assumption) | exact Blk.new _ _ _ | refine Blk.alloc ?_ _ | refine Blk.drewN ?_ _ | apply Blk.set | refine Blk.below ?_ (by assumption)) | refine Blk.setAt ?_ (by simp; omega) | (with_reducible exact Blk.new_at _ _ _ _ (by simp)) | rfl))
  clear Kw4_0 cw4_0 fw4_0 Kw4_1 cw4_1 fw4_1 Kw4_2 cw4_2 fw4_2
  obtain ⟨lw5_0, cw5_0, fw5_0⟩ := Kw5_0.out.use
  obtain ⟨lw5_1, cw5_1, fw5_1⟩ := Kw5_1.out.use
  go_wp2_with fail
  refine (NX.out _).mono ?_
  rintro e w6 ⟨rfl, hb6⟩
  have Kw6_0 : Hid (Blk w6 (w1.heap.size) #[.int .u16 0, .int .u16 0, .bool false, .bool false] 38) := Lib.hid (by repeat' (first | (with_reducible first | exact Hid.out (by assumption) | exact Blk.new _ _ _ | refine Blk.alloc ?_ _ | refine Blk.drewN ?_ _ | apply Blk.set | refine Blk.below ?_ (by assumption)) | refine Blk.setAt ?_ (by simp; omega) | (with_reducible exact Blk.new_at _ _ _ _ (by simp)) | rfl))
  clear Kw5_0 cw5_0 fw5_0 Kw5_1 cw5_1 fw5_1
  obtain ⟨lw6_0, cw6_0, fw6_0⟩ := Kw6_0.out.use
  by_cases h1 : n < 0
  · go_wp2
    go_ret
    exact ⟨rfl, by repeat' (first | exact Below.refl _ _ | assumption | refine below_alloc ?_ _ | refine Below.drew ?_ | refine below_drewN ?_ _ | refine below_then ?_ (by assumption) | refine Below.setCell ?_ ?_ _ | (simp; done) | (simp; omega) | omega)⟩
  · have h2 : 20000 < n := by omega
    go_wp2
    go_ret
    exact ⟨rfl, by repeat' (first | exact Below.refl _ _ | assumption | refine below_alloc ?_ _ | refine Below.drew ?_ | refine below_drewN ?_ _ | refine below_then ?_ (by assumption) | refine Below.setCell ?_ ?_ _ | (simp; done) | (simp; omega) | omega)⟩

set_option maxHeartbeats 2000000 in
set_option maxRecDepth 100000 in
theorem good_ff (rl ct n : Int) (rg : Bool) (hr : U16 rl) (hc : U16 ct) (n0 : 0 ≤ n) (n1 : n ≤ 20000) (w : World) :
    Calls Try.prog 12 #[.agg #[.int .u16 rl, .int .u16 ct, .bool false, .bool rg], .bool false, .int .i64 n] w fun e w' => e = .returned (.bool true) ∧ Below w.heap.size w w' := by
  have hrun := run_ok ⟨rl, ct, false, rg⟩ ⟨hr, hc⟩ n n0 n1
  have hok : (⟨rl, ct, false, rg⟩ : Tim).Ok := ⟨hr, hc⟩
  have hz := runTm_zero _ hok
  have htk := tick_any ⟨rl, ct, false, rg⟩ ⟨hr, hc⟩
  have hrt := reftick_any ⟨rl, ct, false, rg⟩ ⟨hr, hc⟩
  have hst := set_any ⟨rl, ct, false, rg⟩ ⟨hr, hc⟩ false
  have hnx := next_any ⟨rl, ct, false, rg⟩ ⟨hr, hc⟩
  simp only [setTm, nextTm, Bool.false_eq_true, if_false, if_true] at hrun htk hrt hst hnx
  generalize hT : (⟨rl, ct, false, rg⟩ : Tim) = T at hrun hok hz
  generalize hX : runTm T n = X at hrun
  have HT := Lib.hid hT
  have HX := Lib.hid hX
  have HZ := Lib.hid hz
  have OK := Lib.hid hok
  have R := Lib.hid hrun
  have TK := Lib.hid htk
  have RT := Lib.hid hrt
  have ST := Lib.hid hst
  have NX := Lib.hid hnx
  obtain ⟨hc0, hc1⟩ := hc
  clear hT hX hz hok hrun htk hrt hst hnx
  go_enter Try.func12, Try.ntmps12
  go_wp2_with fail
  refine (R.out _).mono ?_
  rintro e w1 ⟨rfl, hb1⟩
  have Kw1_0 : Hid (Blk w1 (w.heap.size) #[.int .u16 rl, .int .u16 ct, .bool false, .bool rg] 38) := Lib.hid (by repeat' (first | (with_reducible first | exact Hid.out (by assumption) | exact Blk.new _ _ _ | refine Blk.alloc ?_ _ | refine Blk.drewN ?_ _ | apply Blk.set | refine Blk.below ?_ (by assumption)) | refine Blk.setAt ?_ (by simp; omega) | (with_reducible exact Blk.new_at _ _ _ _ (by simp)) | rfl))
  obtain ⟨lw1_0, cw1_0, fw1_0⟩ := Kw1_0.out.use
  go_wp2_with fail
  refine wp_mark (R := fun W => Below w.heap.size w W ∧ Hid (Blk W (w.heap.size) (#[.int .u16 rl, .int .u16 ct, .bool false, .bool rg]) 38) ∧ Hid (Blk W (w1.heap.size) (#[.int .u16 X.rl, .int .u16 X.ct, .bool X.on, .bool X.rg]) 38)) ⟨by repeat' (first | exact Below.refl _ _ | assumption | refine below_alloc ?_ _ | refine Below.drew ?_ | refine below_drewN ?_ _ | refine below_then ?_ (by assumption) | refine Below.setCell ?_ ?_ _ | (simp; done) | (simp; omega) | omega), Lib.hid (by repeat' (first | (with_reducible first | exact Hid.out (by assumption) | exact Blk.new _ _ _ | refine Blk.alloc ?_ _ | refine Blk.drewN ?_ _ | apply Blk.set | refine Blk.below ?_ (by assumption)) | refine Blk.setAt ?_ (by simp; omega) | (with_reducible exact Blk.new_at _ _ _ _ (by simp)) | rfl)), Lib.hid (by repeat' (first | (with_reducible first | exact Hid.out (by assumption) | exact Blk.new _ _ _ | refine Blk.alloc ?_ _ | refine Blk.drewN ?_ _ | apply Blk.set | refine Blk.below ?_ (by assumption)) | refine Blk.setAt ?_ (by simp; omega) | (with_reducible exact Blk.new_at _ _ _ _ (by simp)) | rfl))⟩ ?_
  rintro w2 ⟨hbw2, Kw2_0, Kw2_1⟩
  clear Kw1_0 cw1_0 fw1_0
  obtain ⟨lw2_0, cw2_0, fw2_0⟩ := Kw2_0.out.use
  obtain ⟨lw2_1, cw2_1, fw2_1⟩ := Kw2_1.out.use
  have S0 := held1_of (Below.refl w2.heap.size w2) (show Blk w2 (w.heap.size) (#[.int .u16 rl, .int .u16 ct, .bool false, .bool rg]) 38 from (by repeat' (first | (with_reducible first | exact Hid.out (by assumption) | exact Blk.new _ _ _ | refine Blk.alloc ?_ _ | refine Blk.drewN ?_ _ | apply Blk.set | refine Blk.below ?_ (by assumption)) | refine Blk.setAt ?_ (by simp; omega) | (with_reducible exact Blk.new_at _ _ _ _ (by simp)) | rfl)))
  go_region_held3 (fun w' => Below w2.heap.size w2 w' ∧ Blk w' (w.heap.size) (#[.int .u16 rl, .int .u16 ct, .bool false, .bool rg]) 38 ∧ (∀ i, w'.cell? ⟨w.heap.size, i, none⟩ = (#[.int .u16 rl, .int .u16 ct, .bool false, .bool rg] : Array Value)[i]?) ∧ w.heap.size < w'.heap.size) ((first | exact held1_drew S0 | exact held1_below (by assumption) (by assumption))) (first | (go_at_call 23; refine (timed_any _).mono ?_; rintro e w3 ⟨rfl, hb_w3⟩) | (go_at_call 45; refine (TK.out _).mono ?_; rintro e w3 ⟨rfl, hb_w3⟩) | (go_at_call 46; refine (RT.out _).mono ?_; rintro e w3 ⟨rfl, hb_w3⟩))
  have hbw3 : Below w2.heap.size w2 w3 := And.left (show Below w2.heap.size w2 w3 ∧ Blk w3 (w.heap.size) (#[.int .u16 rl, .int .u16 ct, .bool false, .bool rg]) 38 ∧ (∀ i, w3.cell? ⟨w.heap.size, i, none⟩ = (#[.int .u16 rl, .int .u16 ct, .bool false, .bool rg] : Array Value)[i]?) ∧ w.heap.size < w3.heap.size by assumption)
  clear S0
  have Kw3_0 : Hid (Blk w3 (w.heap.size) #[.int .u16 rl, .int .u16 ct, .bool false, .bool rg] 38) := Lib.hid (by repeat' (first | (with_reducible first | exact Hid.out (by assumption) | exact Blk.new _ _ _ | refine Blk.alloc ?_ _ | refine Blk.drewN ?_ _ | apply Blk.set | refine Blk.below ?_ (by assumption)) | refine Blk.setAt ?_ (by simp; omega) | (with_reducible exact Blk.new_at _ _ _ _ (by simp)) | rfl))
  have Kw3_1 : Hid (Blk w3 (w1.heap.size) #[.int .u16 X.rl, .int .u16 X.ct, .bool X.on, .bool X.rg] 38) := Lib.hid (by repeat' (first | (with_reducible first | exact Hid.out (by assumption) | exact Blk.new _ _ _ | refine Blk.alloc ?_ _ | refine Blk.drewN ?_ _ | apply Blk.set | refine Blk.below ?_ (by assumption)) | refine Blk.setAt ?_ (by simp; omega) | (with_reducible exact Blk.new_at _ _ _ _ (by simp)) | rfl))
  clear Kw2_0 cw2_0 fw2_0 Kw2_1 cw2_1 fw2_1
  obtain ⟨lw3_0, cw3_0, fw3_0⟩ := Kw3_0.out.use
  obtain ⟨lw3_1, cw3_1, fw3_1⟩ := Kw3_1.out.use
  go_wp2_with fail
  refine wp_mark (R := fun W => Below w.heap.size w W ∧ Hid (Blk W (w.heap.size) (#[.int .u16 rl, .int .u16 ct, .bool false, .bool rg]) 38) ∧ Hid (Blk W (w1.heap.size) (#[.int .u16 X.rl, .int .u16 X.ct, .bool X.on, .bool X.rg]) 38) ∧ Hid (Blk W (w3.heap.size) (#[.int .u16 rl, .int .u16 ct, .bool false, .bool rg]) 38)) ⟨by repeat' (first | exact Below.refl _ _ | assumption | refine below_alloc ?_ _ | refine Below.drew ?_ | refine below_drewN ?_ _ | refine below_then ?_ (by assumption) | refine Below.setCell ?_ ?_ _ | (simp; done) | (simp; omega) | omega), Lib.hid (by repeat' (first | (with_reducible first | exact Hid.out (by assumption) | exact Blk.new _ _ _ | refine Blk.alloc ?_ _ | refine Blk.drewN ?_ _ | apply Blk.set | refine Blk.below ?_ (by assumption)) | refine Blk.setAt ?_ (by simp; omega) | (with_reducible exact Blk.new_at _ _ _ _ (by simp)) | rfl)), Lib.hid (by repeat' (first | (with_reducible first | exact Hid.out (by assumption) | exact Blk.new _ _ _ | refine Blk.alloc ?_ _ | refine Blk.drewN ?_ _ | apply Blk.set | refine Blk.below ?_ (by assumption)) | refine Blk.setAt ?_ (by simp; omega) | (with_reducible exact Blk.new_at _ _ _ _ (by simp)) | rfl)), Lib.hid (by repeat' (first | (with_reducible first | exact Hid.out (by assumption) | exact Blk.new _ _ _ | refine Blk.alloc ?_ _ | refine Blk.drewN ?_ _ | apply Blk.set | refine Blk.below ?_ (by assumption)) | refine Blk.setAt ?_ (by simp; omega) | (with_reducible exact Blk.new_at _ _ _ _ (by simp)) | rfl))⟩ ?_
  rintro w4 ⟨hbw4, Kw4_0, Kw4_1, Kw4_2⟩
  clear Kw3_0 cw3_0 fw3_0 Kw3_1 cw3_1 fw3_1
  obtain ⟨lw4_0, cw4_0, fw4_0⟩ := Kw4_0.out.use
  obtain ⟨lw4_1, cw4_1, fw4_1⟩ := Kw4_1.out.use
  obtain ⟨lw4_2, cw4_2, fw4_2⟩ := Kw4_2.out.use
  have S0 := held2_of (Below.refl w4.heap.size w4) (show Blk w4 (w.heap.size) (#[.int .u16 rl, .int .u16 ct, .bool false, .bool rg]) 38 from (by repeat' (first | (with_reducible first | exact Hid.out (by assumption) | exact Blk.new _ _ _ | refine Blk.alloc ?_ _ | refine Blk.drewN ?_ _ | apply Blk.set | refine Blk.below ?_ (by assumption)) | refine Blk.setAt ?_ (by simp; omega) | (with_reducible exact Blk.new_at _ _ _ _ (by simp)) | rfl))) (show Blk w4 (w3.heap.size) (#[.int .u16 rl, .int .u16 ct, .bool false, .bool rg]) 38 from (by repeat' (first | (with_reducible first | exact Hid.out (by assumption) | exact Blk.new _ _ _ | refine Blk.alloc ?_ _ | refine Blk.drewN ?_ _ | apply Blk.set | refine Blk.below ?_ (by assumption)) | refine Blk.setAt ?_ (by simp; omega) | (with_reducible exact Blk.new_at _ _ _ _ (by simp)) | rfl)))
  go_region_held3 (fun w' => Below w4.heap.size w4 w' ∧ Blk w' (w.heap.size) (#[.int .u16 rl, .int .u16 ct, .bool false, .bool rg]) 38 ∧ (∀ i, w'.cell? ⟨w.heap.size, i, none⟩ = (#[.int .u16 rl, .int .u16 ct, .bool false, .bool rg] : Array Value)[i]?) ∧ w.heap.size < w'.heap.size ∧ Blk w' (w3.heap.size) (#[.int .u16 rl, .int .u16 ct, .bool false, .bool rg]) 38 ∧ (∀ i, w'.cell? ⟨w3.heap.size, i, none⟩ = (#[.int .u16 rl, .int .u16 ct, .bool false, .bool rg] : Array Value)[i]?) ∧ w3.heap.size < w'.heap.size) ((first | exact held2_drew S0 | exact held2_below (by assumption) (by assumption))) (first | (go_at_call 47; refine (ST.out _).mono ?_; rintro e w5 ⟨rfl, hb_w5⟩))
  have hbw5 : Below w4.heap.size w4 w5 := And.left (show Below w4.heap.size w4 w5 ∧ Blk w5 (w.heap.size) (#[.int .u16 rl, .int .u16 ct, .bool false, .bool rg]) 38 ∧ (∀ i, w5.cell? ⟨w.heap.size, i, none⟩ = (#[.int .u16 rl, .int .u16 ct, .bool false, .bool rg] : Array Value)[i]?) ∧ w.heap.size < w5.heap.size ∧ Blk w5 (w3.heap.size) (#[.int .u16 rl, .int .u16 ct, .bool false, .bool rg]) 38 ∧ (∀ i, w5.cell? ⟨w3.heap.size, i, none⟩ = (#[.int .u16 rl, .int .u16 ct, .bool false, .bool rg] : Array Value)[i]?) ∧ w3.heap.size < w5.heap.size by assumption)
  clear S0
  have Kw5_0 : Hid (Blk w5 (w.heap.size) #[.int .u16 rl, .int .u16 ct, .bool false, .bool rg] 38) := Lib.hid (by repeat' (first | (with_reducible first | exact Hid.out (by assumption) | exact Blk.new _ _ _ | refine Blk.alloc ?_ _ | refine Blk.drewN ?_ _ | apply Blk.set | refine Blk.below ?_ (by assumption)) | refine Blk.setAt ?_ (by simp; omega) | (with_reducible exact Blk.new_at _ _ _ _ (by simp)) | rfl))
  have Kw5_1 : Hid (Blk w5 (w1.heap.size) #[.int .u16 X.rl, .int .u16 X.ct, .bool X.on, .bool X.rg] 38) := Lib.hid (by repeat' (first | (with_reducible first | exact Hid.out (by assumption) | exact Blk.new _ _ _ | refine Blk.alloc ?_ _ | refine Blk.drewN ?_ _ | apply Blk.set | refine Blk.below ?_ (by assumption)) | refine Blk.setAt ?_ (by simp; omega) | (with_reducible exact Blk.new_at _ _ _ _ (by simp)) | rfl))
  clear Kw4_0 cw4_0 fw4_0 Kw4_1 cw4_1 fw4_1 Kw4_2 cw4_2 fw4_2
  obtain ⟨lw5_0, cw5_0, fw5_0⟩ := Kw5_0.out.use
  obtain ⟨lw5_1, cw5_1, fw5_1⟩ := Kw5_1.out.use
  go_wp2_with fail
  refine (NX.out _).mono ?_
  rintro e w6 ⟨rfl, hb6⟩
  have Kw6_0 : Hid (Blk w6 (w.heap.size) #[.int .u16 rl, .int .u16 ct, .bool false, .bool rg] 38) := Lib.hid (by repeat' (first | (with_reducible first | exact Hid.out (by assumption) | exact Blk.new _ _ _ | refine Blk.alloc ?_ _ | refine Blk.drewN ?_ _ | apply Blk.set | refine Blk.below ?_ (by assumption)) | refine Blk.setAt ?_ (by simp; omega) | (with_reducible exact Blk.new_at _ _ _ _ (by simp)) | rfl))
  have Kw6_1 : Hid (Blk w6 (w1.heap.size) #[.int .u16 X.rl, .int .u16 X.ct, .bool X.on, .bool X.rg] 38) := Lib.hid (by repeat' (first | (with_reducible first | exact Hid.out (by assumption) | exact Blk.new _ _ _ | refine Blk.alloc ?_ _ | refine Blk.drewN ?_ _ | apply Blk.set | refine Blk.below ?_ (by assumption)) | refine Blk.setAt ?_ (by simp; omega) | (with_reducible exact Blk.new_at _ _ _ _ (by simp)) | rfl))
  clear Kw5_0 cw5_0 fw5_0 Kw5_1 cw5_1 fw5_1
  obtain ⟨lw6_0, cw6_0, fw6_0⟩ := Kw6_0.out.use
  obtain ⟨lw6_1, cw6_1, fw6_1⟩ := Kw6_1.out.use
  have hb6' : Below w.heap.size w w6 := by repeat' (first | exact Below.refl _ _ | assumption | refine below_alloc ?_ _ | refine Below.drew ?_ | refine below_drewN ?_ _ | refine below_then ?_ (by assumption) | refine Below.setCell ?_ ?_ _ | (simp; done) | (simp; omega) | omega)
  have L0 : Hid (Blk w6 w.heap.size #[.int .u16 (runTm T 0).rl, .int .u16 (runTm T 0).ct, .bool (runTm T 0).on, .bool (runTm T 0).rg] 38) := Lib.hid (by rw [HZ.out, ← HT.out]; exact Kw6_0.out)
  go_wp2
  go_loopw [62] (fun i wr => ∃ k : Nat, (k : Int) ≤ n ∧ i = .int .i64 k ∧ Below w.heap.size w wr ∧ Hid (Blk wr w.heap.size #[.int .u16 (runTm T k).rl, .int .u16 (runTm T k).ct, .bool (runTm T k).on, .bool (runTm T k).rg] 38) ∧ Hid (Blk wr w1.heap.size #[.int .u16 X.rl, .int .u16 X.ct, .bool X.on, .bool X.rg] 38)) (fun i _ => (n - intOf i).toNat)
  case atStart => exact ⟨0, by omega, rfl, hb6', L0, Kw6_1⟩
  case round =>
    obtain ⟨k, hk, rfl, hbr, KA, KB⟩ := hrel
    clear Kw6_0 Kw6_1 cw6_0 cw6_1 fw6_0 fw6_1 L0
    obtain ⟨lA, cA, fA⟩ := KA.out.use
    obtain ⟨lB, cB, fB⟩ := KB.out.use
    by_cases hlt : (k : Int) < n
    · have hs := reftick_any (runTm T k) (runTm_ok T OK.out k (by omega))
      rw [← runTm_succ T OK.out k] at hs
      have HS := Lib.hid hs
      clear hs
      generalize hY : runTm T (k : Int) = Y at KA cA HS
      generalize hZ : runTm T ((k : Int) + 1) = Z at HS
      have HY := Lib.hid hY
      have HZ2 := Lib.hid hZ
      clear hY hZ
      go_wp2_with fail
      refine (HS.out _).mono ?_
      rintro e w7 ⟨rfl, hb7⟩
      have K7 : Hid (Blk w7 w.heap.size #[.int .u16 Y.rl, .int .u16 Y.ct, .bool Y.on, .bool Y.rg] 38) := Lib.hid (KA.out.below hb7)
      have K8 : Hid (Blk w7 w1.heap.size #[.int .u16 X.rl, .int .u16 X.ct, .bool X.on, .bool X.rg] 38) := Lib.hid (KB.out.below hb7)
      obtain ⟨l7, c7, f7⟩ := K7.out.use
      obtain ⟨l8, c8, f8⟩ := K8.out.use
      have hs7 := hb7.size
      go_wp2
      go_roundw
      case rel =>
        refine ⟨k + 1, by omega, by go_num, by repeat' (first | exact Below.refl _ _ | assumption | refine below_alloc ?_ _ | refine Below.drew ?_ | refine below_drewN ?_ _ | refine below_then ?_ (by assumption) | refine Below.setCell ?_ ?_ _ | (simp; done) | (simp; omega) | omega), Lib.hid ?_, Lib.hid ?_⟩
        · rw [show ((k + 1 : Nat) : Int) = (k : Int) + 1 from by omega, HZ2.out]
          exact Blk.set (Blk.set (Blk.set (Blk.set K7.out rfl) rfl) rfl) rfl
        · exact Blk.setAt (Blk.setAt (Blk.setAt (Blk.setAt K8.out (by simp; omega)) (by simp; omega)) (by simp; omega)) (by simp; omega)
      case measure => simp [intOf]; omega
    · have hkn : (k : Int) = n := by omega
      rw [hkn, HX.out] at KA
      obtain ⟨lC, cC, fC⟩ := KA.out.use
      clear cA fA
      go_wp2
      go_ret
      exact ⟨rfl, hbr⟩
set_option maxHeartbeats 2000000 in
set_option maxRecDepth 100000 in
theorem good_ft (rl ct n : Int) (rg : Bool) (hr : U16 rl) (hc : U16 ct) (n0 : 0 ≤ n) (n1 : n ≤ 20000) (w : World) :
    Calls Try.prog 12 #[.agg #[.int .u16 rl, .int .u16 ct, .bool true, .bool rg], .bool false, .int .i64 n] w fun e w' => e = .returned (.bool true) ∧ Below w.heap.size w w' := by
  have hrun := run_ok ⟨rl, ct, true, rg⟩ ⟨hr, hc⟩ n n0 n1
  have hok : (⟨rl, ct, true, rg⟩ : Tim).Ok := ⟨hr, hc⟩
  have hz := runTm_zero _ hok
  have htk := tick_any ⟨rl, ct, true, rg⟩ ⟨hr, hc⟩
  have hrt := reftick_any ⟨rl, ct, true, rg⟩ ⟨hr, hc⟩
  have hst := set_any ⟨rl, ct, true, rg⟩ ⟨hr, hc⟩ false
  have hnx := next_any ⟨rl, ct, true, rg⟩ ⟨hr, hc⟩
  simp only [setTm, nextTm, Bool.false_eq_true, if_false, if_true] at hrun htk hrt hst hnx
  generalize hT : (⟨rl, ct, true, rg⟩ : Tim) = T at hrun hok hz
  generalize hX : runTm T n = X at hrun
  have HT := Lib.hid hT
  have HX := Lib.hid hX
  have HZ := Lib.hid hz
  have OK := Lib.hid hok
  have R := Lib.hid hrun
  have TK := Lib.hid htk
  have RT := Lib.hid hrt
  have ST := Lib.hid hst
  have NX := Lib.hid hnx
  obtain ⟨hc0, hc1⟩ := hc
  clear hT hX hz hok hrun htk hrt hst hnx
  go_enter Try.func12, Try.ntmps12
  go_wp2_with fail
  refine (R.out _).mono ?_
  rintro e w1 ⟨rfl, hb1⟩
  have Kw1_0 : Hid (Blk w1 (w.heap.size) #[.int .u16 rl, .int .u16 ct, .bool true, .bool rg] 38) := Lib.hid (by repeat' (first | (with_reducible first | exact Hid.out (by assumption) | exact Blk.new _ _ _ | refine Blk.alloc ?_ _ | refine Blk.drewN ?_ _ | apply Blk.set | refine Blk.below ?_ (by assumption)) | refine Blk.setAt ?_ (by simp; omega) | (with_reducible exact Blk.new_at _ _ _ _ (by simp)) | rfl))
  obtain ⟨lw1_0, cw1_0, fw1_0⟩ := Kw1_0.out.use
  go_wp2_with fail
  refine wp_mark (R := fun W => Below w.heap.size w W ∧ Hid (Blk W (w.heap.size) (#[.int .u16 rl, .int .u16 ct, .bool true, .bool rg]) 38) ∧ Hid (Blk W (w1.heap.size) (#[.int .u16 X.rl, .int .u16 X.ct, .bool X.on, .bool X.rg]) 38)) ⟨by repeat' (first | exact Below.refl _ _ | assumption | refine below_alloc ?_ _ | refine Below.drew ?_ | refine below_drewN ?_ _ | refine below_then ?_ (by assumption) | refine Below.setCell ?_ ?_ _ | (simp; done) | (simp; omega) | omega), Lib.hid (by repeat' (first | (with_reducible first | exact Hid.out (by assumption) | exact Blk.new _ _ _ | refine Blk.alloc ?_ _ | refine Blk.drewN ?_ _ | apply Blk.set | refine Blk.below ?_ (by assumption)) | refine Blk.setAt ?_ (by simp; omega) | (with_reducible exact Blk.new_at _ _ _ _ (by simp)) | rfl)), Lib.hid (by repeat' (first | (with_reducible first | exact Hid.out (by assumption) | exact Blk.new _ _ _ | refine Blk.alloc ?_ _ | refine Blk.drewN ?_ _ | apply Blk.set | refine Blk.below ?_ (by assumption)) | refine Blk.setAt ?_ (by simp; omega) | (with_reducible exact Blk.new_at _ _ _ _ (by simp)) | rfl))⟩ ?_
  rintro w2 ⟨hbw2, Kw2_0, Kw2_1⟩
  clear Kw1_0 cw1_0 fw1_0
  obtain ⟨lw2_0, cw2_0, fw2_0⟩ := Kw2_0.out.use
  obtain ⟨lw2_1, cw2_1, fw2_1⟩ := Kw2_1.out.use
  have S0 := held1_of (Below.refl w2.heap.size w2) (show Blk w2 (w.heap.size) (#[.int .u16 rl, .int .u16 ct, .bool true, .bool rg]) 38 from (by repeat' (first | (with_reducible first | exact Hid.out (by assumption) | exact Blk.new _ _ _ | refine Blk.alloc ?_ _ | refine Blk.drewN ?_ _ | apply Blk.set | refine Blk.below ?_ (by assumption)) | refine Blk.setAt ?_ (by simp; omega) | (with_reducible exact Blk.new_at _ _ _ _ (by simp)) | rfl)))
  go_region_held3 (fun w' => Below w2.heap.size w2 w' ∧ Blk w' (w.heap.size) (#[.int .u16 rl, .int .u16 ct, .bool true, .bool rg]) 38 ∧ (∀ i, w'.cell? ⟨w.heap.size, i, none⟩ = (#[.int .u16 rl, .int .u16 ct, .bool true, .bool rg] : Array Value)[i]?) ∧ w.heap.size < w'.heap.size) ((first | exact held1_drew S0 | exact held1_below (by assumption) (by assumption))) (first | (go_at_call 23; refine (timed_any _).mono ?_; rintro e w3 ⟨rfl, hb_w3⟩) | (go_at_call 45; refine (TK.out _).mono ?_; rintro e w3 ⟨rfl, hb_w3⟩) | (go_at_call 46; refine (RT.out _).mono ?_; rintro e w3 ⟨rfl, hb_w3⟩))
  have hbw3 : Below w2.heap.size w2 w3 := And.left (show Below w2.heap.size w2 w3 ∧ Blk w3 (w.heap.size) (#[.int .u16 rl, .int .u16 ct, .bool true, .bool rg]) 38 ∧ (∀ i, w3.cell? ⟨w.heap.size, i, none⟩ = (#[.int .u16 rl, .int .u16 ct, .bool true, .bool rg] : Array Value)[i]?) ∧ w.heap.size < w3.heap.size by assumption)
  clear S0
  have Kw3_0 : Hid (Blk w3 (w.heap.size) #[.int .u16 rl, .int .u16 ct, .bool true, .bool rg] 38) := Lib.hid (by repeat' (first | (with_reducible first | exact Hid.out (by assumption) | exact Blk.new _ _ _ | refine Blk.alloc ?_ _ | refine Blk.drewN ?_ _ | apply Blk.set | refine Blk.below ?_ (by assumption)) | refine Blk.setAt ?_ (by simp; omega) | (with_reducible exact Blk.new_at _ _ _ _ (by simp)) | rfl))
  have Kw3_1 : Hid (Blk w3 (w1.heap.size) #[.int .u16 X.rl, .int .u16 X.ct, .bool X.on, .bool X.rg] 38) := Lib.hid (by repeat' (first | (with_reducible first | exact Hid.out (by assumption) | exact Blk.new _ _ _ | refine Blk.alloc ?_ _ | refine Blk.drewN ?_ _ | apply Blk.set | refine Blk.below ?_ (by assumption)) | refine Blk.setAt ?_ (by simp; omega) | (with_reducible exact Blk.new_at _ _ _ _ (by simp)) | rfl))
  clear Kw2_0 cw2_0 fw2_0 Kw2_1 cw2_1 fw2_1
  obtain ⟨lw3_0, cw3_0, fw3_0⟩ := Kw3_0.out.use
  obtain ⟨lw3_1, cw3_1, fw3_1⟩ := Kw3_1.out.use
  go_wp2_with fail
  refine wp_mark (R := fun W => Below w.heap.size w W ∧ Hid (Blk W (w.heap.size) (#[.int .u16 rl, .int .u16 ct, .bool true, .bool rg]) 38) ∧ Hid (Blk W (w1.heap.size) (#[.int .u16 X.rl, .int .u16 X.ct, .bool X.on, .bool X.rg]) 38) ∧ Hid (Blk W (w3.heap.size) (#[.int .u16 rl, .int .u16 ct, .bool false, .bool rg]) 38)) ⟨by repeat' (first | exact Below.refl _ _ | assumption | refine below_alloc ?_ _ | refine Below.drew ?_ | refine below_drewN ?_ _ | refine below_then ?_ (by assumption) | refine Below.setCell ?_ ?_ _ | (simp; done) | (simp; omega) | omega), Lib.hid (by repeat' (first | (with_reducible first | exact Hid.out (by assumption) | exact Blk.new _ _ _ | refine Blk.alloc ?_ _ | refine Blk.drewN ?_ _ | apply Blk.set | refine Blk.below ?_ (by assumption)) | refine Blk.setAt ?_ (by simp; omega) | (with_reducible exact Blk.new_at _ _ _ _ (by simp)) | rfl)), Lib.hid (by repeat' (first | (with_reducible first | exact Hid.out (by assumption) | exact Blk.new _ _ _ | refine Blk.alloc ?_ _ | refine Blk.drewN ?_ _ | apply Blk.set | refine Blk.below ?_ (by assumption)) | refine Blk.setAt ?_ (by simp; omega) | (with_reducible exact Blk.new_at _ _ _ _ (by simp)) | rfl)), Lib.hid (by repeat' (first | (with_reducible first | exact Hid.out (by assumption) | exact Blk.new _ _ _ | refine Blk.alloc ?_ _ | refine Blk.drewN ?_ _ | apply Blk.set | refine Blk.below ?_ (by assumption)) | refine Blk.setAt ?_ (by simp; omega) | (with_reducible exact Blk.new_at _ _ _ _ (by simp)) | rfl))⟩ ?_
  rintro w4 ⟨hbw4, Kw4_0, Kw4_1, Kw4_2⟩
  clear Kw3_0 cw3_0 fw3_0 Kw3_1 cw3_1 fw3_1
  obtain ⟨lw4_0, cw4_0, fw4_0⟩ := Kw4_0.out.use
  obtain ⟨lw4_1, cw4_1, fw4_1⟩ := Kw4_1.out.use
  obtain ⟨lw4_2, cw4_2, fw4_2⟩ := Kw4_2.out.use
  have S0 := held2_of (Below.refl w4.heap.size w4) (show Blk w4 (w.heap.size) (#[.int .u16 rl, .int .u16 ct, .bool true, .bool rg]) 38 from (by repeat' (first | (with_reducible first | exact Hid.out (by assumption) | exact Blk.new _ _ _ | refine Blk.alloc ?_ _ | refine Blk.drewN ?_ _ | apply Blk.set | refine Blk.below ?_ (by assumption)) | refine Blk.setAt ?_ (by simp; omega) | (with_reducible exact Blk.new_at _ _ _ _ (by simp)) | rfl))) (show Blk w4 (w3.heap.size) (#[.int .u16 rl, .int .u16 ct, .bool false, .bool rg]) 38 from (by repeat' (first | (with_reducible first | exact Hid.out (by assumption) | exact Blk.new _ _ _ | refine Blk.alloc ?_ _ | refine Blk.drewN ?_ _ | apply Blk.set | refine Blk.below ?_ (by assumption)) | refine Blk.setAt ?_ (by simp; omega) | (with_reducible exact Blk.new_at _ _ _ _ (by simp)) | rfl)))
  go_region_held3 (fun w' => Below w4.heap.size w4 w' ∧ Blk w' (w.heap.size) (#[.int .u16 rl, .int .u16 ct, .bool true, .bool rg]) 38 ∧ (∀ i, w'.cell? ⟨w.heap.size, i, none⟩ = (#[.int .u16 rl, .int .u16 ct, .bool true, .bool rg] : Array Value)[i]?) ∧ w.heap.size < w'.heap.size ∧ Blk w' (w3.heap.size) (#[.int .u16 rl, .int .u16 ct, .bool false, .bool rg]) 38 ∧ (∀ i, w'.cell? ⟨w3.heap.size, i, none⟩ = (#[.int .u16 rl, .int .u16 ct, .bool false, .bool rg] : Array Value)[i]?) ∧ w3.heap.size < w'.heap.size) ((first | exact held2_drew S0 | exact held2_below (by assumption) (by assumption))) (first | (go_at_call 47; refine (ST.out _).mono ?_; rintro e w5 ⟨rfl, hb_w5⟩))
  have hbw5 : Below w4.heap.size w4 w5 := And.left (show Below w4.heap.size w4 w5 ∧ Blk w5 (w.heap.size) (#[.int .u16 rl, .int .u16 ct, .bool true, .bool rg]) 38 ∧ (∀ i, w5.cell? ⟨w.heap.size, i, none⟩ = (#[.int .u16 rl, .int .u16 ct, .bool true, .bool rg] : Array Value)[i]?) ∧ w.heap.size < w5.heap.size ∧ Blk w5 (w3.heap.size) (#[.int .u16 rl, .int .u16 ct, .bool false, .bool rg]) 38 ∧ (∀ i, w5.cell? ⟨w3.heap.size, i, none⟩ = (#[.int .u16 rl, .int .u16 ct, .bool false, .bool rg] : Array Value)[i]?) ∧ w3.heap.size < w5.heap.size by assumption)
  clear S0
  have Kw5_0 : Hid (Blk w5 (w.heap.size) #[.int .u16 rl, .int .u16 ct, .bool true, .bool rg] 38) := Lib.hid (by repeat' (first | (with_reducible first | exact Hid.out (by assumption) | exact Blk.new _ _ _ | refine Blk.alloc ?_ _ | refine Blk.drewN ?_ _ | apply Blk.set | refine Blk.below ?_ (by assumption)) | refine Blk.setAt ?_ (by simp; omega) | (with_reducible exact Blk.new_at _ _ _ _ (by simp)) | rfl))
  have Kw5_1 : Hid (Blk w5 (w1.heap.size) #[.int .u16 X.rl, .int .u16 X.ct, .bool X.on, .bool X.rg] 38) := Lib.hid (by repeat' (first | (with_reducible first | exact Hid.out (by assumption) | exact Blk.new _ _ _ | refine Blk.alloc ?_ _ | refine Blk.drewN ?_ _ | apply Blk.set | refine Blk.below ?_ (by assumption)) | refine Blk.setAt ?_ (by simp; omega) | (with_reducible exact Blk.new_at _ _ _ _ (by simp)) | rfl))
  clear Kw4_0 cw4_0 fw4_0 Kw4_1 cw4_1 fw4_1 Kw4_2 cw4_2 fw4_2
  obtain ⟨lw5_0, cw5_0, fw5_0⟩ := Kw5_0.out.use
  obtain ⟨lw5_1, cw5_1, fw5_1⟩ := Kw5_1.out.use
  go_wp2_with fail
  refine (NX.out _).mono ?_
  rintro e w6 ⟨rfl, hb6⟩
  have Kw6_0 : Hid (Blk w6 (w.heap.size) #[.int .u16 rl, .int .u16 ct, .bool true, .bool rg] 38) := Lib.hid (by repeat' (first | (with_reducible first | exact Hid.out (by assumption) | exact Blk.new _ _ _ | refine Blk.alloc ?_ _ | refine Blk.drewN ?_ _ | apply Blk.set | refine Blk.below ?_ (by assumption)) | refine Blk.setAt ?_ (by simp; omega) | (with_reducible exact Blk.new_at _ _ _ _ (by simp)) | rfl))
  have Kw6_1 : Hid (Blk w6 (w1.heap.size) #[.int .u16 X.rl, .int .u16 X.ct, .bool X.on, .bool X.rg] 38) := Lib.hid (by repeat' (first | (with_reducible first | exact Hid.out (by assumption) | exact Blk.new _ _ _ | refine Blk.alloc ?_ _ | refine Blk.drewN ?_ _ | apply Blk.set | refine Blk.below ?_ (by assumption)) | refine Blk.setAt ?_ (by simp; omega) | (with_reducible exact Blk.new_at _ _ _ _ (by simp)) | rfl))
  clear Kw5_0 cw5_0 fw5_0 Kw5_1 cw5_1 fw5_1
  obtain ⟨lw6_0, cw6_0, fw6_0⟩ := Kw6_0.out.use
  obtain ⟨lw6_1, cw6_1, fw6_1⟩ := Kw6_1.out.use
  have hb6' : Below w.heap.size w w6 := by repeat' (first | exact Below.refl _ _ | assumption | refine below_alloc ?_ _ | refine Below.drew ?_ | refine below_drewN ?_ _ | refine below_then ?_ (by assumption) | refine Below.setCell ?_ ?_ _ | (simp; done) | (simp; omega) | omega)
  have L0 : Hid (Blk w6 w.heap.size #[.int .u16 (runTm T 0).rl, .int .u16 (runTm T 0).ct, .bool (runTm T 0).on, .bool (runTm T 0).rg] 38) := Lib.hid (by rw [HZ.out, ← HT.out]; exact Kw6_0.out)
  go_wp2
  go_loopw [62] (fun i wr => ∃ k : Nat, (k : Int) ≤ n ∧ i = .int .i64 k ∧ Below w.heap.size w wr ∧ Hid (Blk wr w.heap.size #[.int .u16 (runTm T k).rl, .int .u16 (runTm T k).ct, .bool (runTm T k).on, .bool (runTm T k).rg] 38) ∧ Hid (Blk wr w1.heap.size #[.int .u16 X.rl, .int .u16 X.ct, .bool X.on, .bool X.rg] 38)) (fun i _ => (n - intOf i).toNat)
  case atStart => exact ⟨0, by omega, rfl, hb6', L0, Kw6_1⟩
  case round =>
    obtain ⟨k, hk, rfl, hbr, KA, KB⟩ := hrel
    clear Kw6_0 Kw6_1 cw6_0 cw6_1 fw6_0 fw6_1 L0
    obtain ⟨lA, cA, fA⟩ := KA.out.use
    obtain ⟨lB, cB, fB⟩ := KB.out.use
    by_cases hlt : (k : Int) < n
    · have hs := reftick_any (runTm T k) (runTm_ok T OK.out k (by omega))
      rw [← runTm_succ T OK.out k] at hs
      have HS := Lib.hid hs
      clear hs
      generalize hY : runTm T (k : Int) = Y at KA cA HS
      generalize hZ : runTm T ((k : Int) + 1) = Z at HS
      have HY := Lib.hid hY
      have HZ2 := Lib.hid hZ
      clear hY hZ
      go_wp2_with fail
      refine (HS.out _).mono ?_
      rintro e w7 ⟨rfl, hb7⟩
      have K7 : Hid (Blk w7 w.heap.size #[.int .u16 Y.rl, .int .u16 Y.ct, .bool Y.on, .bool Y.rg] 38) := Lib.hid (KA.out.below hb7)
      have K8 : Hid (Blk w7 w1.heap.size #[.int .u16 X.rl, .int .u16 X.ct, .bool X.on, .bool X.rg] 38) := Lib.hid (KB.out.below hb7)
      obtain ⟨l7, c7, f7⟩ := K7.out.use
      obtain ⟨l8, c8, f8⟩ := K8.out.use
      have hs7 := hb7.size
      go_wp2
      go_roundw
      case rel =>
        refine ⟨k + 1, by omega, by go_num, by repeat' (first | exact Below.refl _ _ | assumption | refine below_alloc ?_ _ | refine Below.drew ?_ | refine below_drewN ?_ _ | refine below_then ?_ (by assumption) | refine Below.setCell ?_ ?_ _ | (simp; done) | (simp; omega) | omega), Lib.hid ?_, Lib.hid ?_⟩
        · rw [show ((k + 1 : Nat) : Int) = (k : Int) + 1 from by omega, HZ2.out]
          exact Blk.set (Blk.set (Blk.set (Blk.set K7.out rfl) rfl) rfl) rfl
        · exact Blk.setAt (Blk.setAt (Blk.setAt (Blk.setAt K8.out (by simp; omega)) (by simp; omega)) (by simp; omega)) (by simp; omega)
      case measure => simp [intOf]; omega
    · have hkn : (k : Int) = n := by omega
      rw [hkn, HX.out] at KA
      obtain ⟨lC, cC, fC⟩ := KA.out.use
      clear cA fA
      go_wp2
      go_ret
      exact ⟨rfl, hbr⟩
set_option maxHeartbeats 2000000 in
set_option maxRecDepth 100000 in
theorem good_tf (rl ct n : Int) (rg : Bool) (hr : U16 rl) (hc : U16 ct) (n0 : 0 ≤ n) (n1 : n ≤ 20000) (w : World) :
    Calls Try.prog 12 #[.agg #[.int .u16 rl, .int .u16 ct, .bool false, .bool rg], .bool true, .int .i64 n] w fun e w' => e = .returned (.bool true) ∧ Below w.heap.size w w' := by
  have hrun := run_ok ⟨rl, ct, false, rg⟩ ⟨hr, hc⟩ n n0 n1
  have hok : (⟨rl, ct, false, rg⟩ : Tim).Ok := ⟨hr, hc⟩
  have hz := runTm_zero _ hok
  have htk := tick_any ⟨rl, ct, false, rg⟩ ⟨hr, hc⟩
  have hrt := reftick_any ⟨rl, ct, false, rg⟩ ⟨hr, hc⟩
  have hst := set_any ⟨rl, ct, false, rg⟩ ⟨hr, hc⟩ true
  have hnx := next_any ⟨rl, ct, false, rg⟩ ⟨hr, hc⟩
  simp only [setTm, nextTm, Bool.false_eq_true, if_false, if_true] at hrun htk hrt hst hnx
  generalize hT : (⟨rl, ct, false, rg⟩ : Tim) = T at hrun hok hz
  generalize hX : runTm T n = X at hrun
  have HT := Lib.hid hT
  have HX := Lib.hid hX
  have HZ := Lib.hid hz
  have OK := Lib.hid hok
  have R := Lib.hid hrun
  have TK := Lib.hid htk
  have RT := Lib.hid hrt
  have ST := Lib.hid hst
  have NX := Lib.hid hnx
  obtain ⟨hc0, hc1⟩ := hc
  clear hT hX hz hok hrun htk hrt hst hnx
  go_enter Try.func12, Try.ntmps12
  go_wp2_with fail
  refine (R.out _).mono ?_
  rintro e w1 ⟨rfl, hb1⟩
  have Kw1_0 : Hid (Blk w1 (w.heap.size) #[.int .u16 rl, .int .u16 ct, .bool false, .bool rg] 38) := Lib.hid (by repeat' (first | (with_reducible first | exact Hid.out (by assumption) | exact Blk.new _ _ _ | refine Blk.alloc ?_ _ | refine Blk.drewN ?_ _ | apply Blk.set | refine Blk.below ?_ (by assumption)) | refine Blk.setAt ?_ (by simp; omega) | (with_reducible exact Blk.new_at _ _ _ _ (by simp)) | rfl))
  obtain ⟨lw1_0, cw1_0, fw1_0⟩ := Kw1_0.out.use
  go_wp2_with fail
  refine wp_mark (R := fun W => Below w.heap.size w W ∧ Hid (Blk W (w.heap.size) (#[.int .u16 rl, .int .u16 ct, .bool false, .bool rg]) 38) ∧ Hid (Blk W (w1.heap.size) (#[.int .u16 X.rl, .int .u16 X.ct, .bool X.on, .bool X.rg]) 38)) ⟨by repeat' (first | exact Below.refl _ _ | assumption | refine below_alloc ?_ _ | refine Below.drew ?_ | refine below_drewN ?_ _ | refine below_then ?_ (by assumption) | refine Below.setCell ?_ ?_ _ | (simp; done) | (simp; omega) | omega), Lib.hid (by repeat' (first | (with_reducible first | exact Hid.out (by assumption) | exact Blk.new _ _ _ | refine Blk.alloc ?_ _ | refine Blk.drewN ?_ _ | apply Blk.set | refine Blk.below ?_ (by assumption)) | refine Blk.setAt ?_ (by simp; omega) | (with_reducible exact Blk.new_at _ _ _ _ (by simp)) | rfl)), Lib.hid (by repeat' (first | (with_reducible first | exact Hid.out (by assumption) | exact Blk.new _ _ _ | refine Blk.alloc ?_ _ | refine Blk.drewN ?_ _ | apply Blk.set | refine Blk.below ?_ (by assumption)) | refine Blk.setAt ?_ (by simp; omega) | (with_reducible exact Blk.new_at _ _ _ _ (by simp)) | rfl))⟩ ?_
  rintro w2 ⟨hbw2, Kw2_0, Kw2_1⟩
  clear Kw1_0 cw1_0 fw1_0
  obtain ⟨lw2_0, cw2_0, fw2_0⟩ := Kw2_0.out.use
  obtain ⟨lw2_1, cw2_1, fw2_1⟩ := Kw2_1.out.use
  have S0 := held1_of (Below.refl w2.heap.size w2) (show Blk w2 (w.heap.size) (#[.int .u16 rl, .int .u16 ct, .bool false, .bool rg]) 38 from (by repeat' (first | (with_reducible first | exact Hid.out (by assumption) | exact Blk.new _ _ _ | refine Blk.alloc ?_ _ | refine Blk.drewN ?_ _ | apply Blk.set | refine Blk.below ?_ (by assumption)) | refine Blk.setAt ?_ (by simp; omega) | (with_reducible exact Blk.new_at _ _ _ _ (by simp)) | rfl)))
  go_region_held3 (fun w' => Below w2.heap.size w2 w' ∧ Blk w' (w.heap.size) (#[.int .u16 rl, .int .u16 ct, .bool false, .bool rg]) 38 ∧ (∀ i, w'.cell? ⟨w.heap.size, i, none⟩ = (#[.int .u16 rl, .int .u16 ct, .bool false, .bool rg] : Array Value)[i]?) ∧ w.heap.size < w'.heap.size) ((first | exact held1_drew S0 | exact held1_below (by assumption) (by assumption))) (first | (go_at_call 23; refine (timed_any _).mono ?_; rintro e w3 ⟨rfl, hb_w3⟩) | (go_at_call 45; refine (TK.out _).mono ?_; rintro e w3 ⟨rfl, hb_w3⟩) | (go_at_call 46; refine (RT.out _).mono ?_; rintro e w3 ⟨rfl, hb_w3⟩))
  have hbw3 : Below w2.heap.size w2 w3 := And.left (show Below w2.heap.size w2 w3 ∧ Blk w3 (w.heap.size) (#[.int .u16 rl, .int .u16 ct, .bool false, .bool rg]) 38 ∧ (∀ i, w3.cell? ⟨w.heap.size, i, none⟩ = (#[.int .u16 rl, .int .u16 ct, .bool false, .bool rg] : Array Value)[i]?) ∧ w.heap.size < w3.heap.size by assumption)
  clear S0
  have Kw3_0 : Hid (Blk w3 (w.heap.size) #[.int .u16 rl, .int .u16 ct, .bool false, .bool rg] 38) := Lib.hid (by repeat' (first | (with_reducible first | exact Hid.out (by assumption) | exact Blk.new _ _ _ | refine Blk.alloc ?_ _ | refine Blk.drewN ?_ _ | apply Blk.set | refine Blk.below ?_ (by assumption)) | refine Blk.setAt ?_ (by simp; omega) | (with_reducible exact Blk.new_at _ _ _ _ (by simp)) | rfl))
  have Kw3_1 : Hid (Blk w3 (w1.heap.size) #[.int .u16 X.rl, .int .u16 X.ct, .bool X.on, .bool X.rg] 38) := Lib.hid (by repeat' (first | (with_reducible first | exact Hid.out (by assumption) | exact Blk.new _ _ _ | refine Blk.alloc ?_ _ | refine Blk.drewN ?_ _ | apply Blk.set | refine Blk.below ?_ (by assumption)) | refine Blk.setAt ?_ (by simp; omega) | (with_reducible exact Blk.new_at _ _ _ _ (by simp)) | rfl))
  clear Kw2_0 cw2_0 fw2_0 Kw2_1 cw2_1 fw2_1
  obtain ⟨lw3_0, cw3_0, fw3_0⟩ := Kw3_0.out.use
  obtain ⟨lw3_1, cw3_1, fw3_1⟩ := Kw3_1.out.use
  go_wp2_with fail
  refine wp_mark (R := fun W => Below w.heap.size w W ∧ Hid (Blk W (w.heap.size) (#[.int .u16 rl, .int .u16 ct, .bool false, .bool rg]) 38) ∧ Hid (Blk W (w1.heap.size) (#[.int .u16 X.rl, .int .u16 X.ct, .bool X.on, .bool X.rg]) 38) ∧ Hid (Blk W (w3.heap.size) (#[.int .u16 rl, .int .u16 rl, .bool true, .bool rg]) 38)) ⟨by repeat' (first | exact Below.refl _ _ | assumption | refine below_alloc ?_ _ | refine Below.drew ?_ | refine below_drewN ?_ _ | refine below_then ?_ (by assumption) | refine Below.setCell ?_ ?_ _ | (simp; done) | (simp; omega) | omega), Lib.hid (by repeat' (first | (with_reducible first | exact Hid.out (by assumption) | exact Blk.new _ _ _ | refine Blk.alloc ?_ _ | refine Blk.drewN ?_ _ | apply Blk.set | refine Blk.below ?_ (by assumption)) | refine Blk.setAt ?_ (by simp; omega) | (with_reducible exact Blk.new_at _ _ _ _ (by simp)) | rfl)), Lib.hid (by repeat' (first | (with_reducible first | exact Hid.out (by assumption) | exact Blk.new _ _ _ | refine Blk.alloc ?_ _ | refine Blk.drewN ?_ _ | apply Blk.set | refine Blk.below ?_ (by assumption)) | refine Blk.setAt ?_ (by simp; omega) | (with_reducible exact Blk.new_at _ _ _ _ (by simp)) | rfl)), Lib.hid (by repeat' (first | (with_reducible first | exact Hid.out (by assumption) | exact Blk.new _ _ _ | refine Blk.alloc ?_ _ | refine Blk.drewN ?_ _ | apply Blk.set | refine Blk.below ?_ (by assumption)) | refine Blk.setAt ?_ (by simp; omega) | (with_reducible exact Blk.new_at _ _ _ _ (by simp)) | rfl))⟩ ?_
  rintro w4 ⟨hbw4, Kw4_0, Kw4_1, Kw4_2⟩
  clear Kw3_0 cw3_0 fw3_0 Kw3_1 cw3_1 fw3_1
  obtain ⟨lw4_0, cw4_0, fw4_0⟩ := Kw4_0.out.use
  obtain ⟨lw4_1, cw4_1, fw4_1⟩ := Kw4_1.out.use
  obtain ⟨lw4_2, cw4_2, fw4_2⟩ := Kw4_2.out.use
  have S0 := held2_of (Below.refl w4.heap.size w4) (show Blk w4 (w.heap.size) (#[.int .u16 rl, .int .u16 ct, .bool false, .bool rg]) 38 from (by repeat' (first | (with_reducible first | exact Hid.out (by assumption) | exact Blk.new _ _ _ | refine Blk.alloc ?_ _ | refine Blk.drewN ?_ _ | apply Blk.set | refine Blk.below ?_ (by assumption)) | refine Blk.setAt ?_ (by simp; omega) | (with_reducible exact Blk.new_at _ _ _ _ (by simp)) | rfl))) (show Blk w4 (w3.heap.size) (#[.int .u16 rl, .int .u16 rl, .bool true, .bool rg]) 38 from (by repeat' (first | (with_reducible first | exact Hid.out (by assumption) | exact Blk.new _ _ _ | refine Blk.alloc ?_ _ | refine Blk.drewN ?_ _ | apply Blk.set | refine Blk.below ?_ (by assumption)) | refine Blk.setAt ?_ (by simp; omega) | (with_reducible exact Blk.new_at _ _ _ _ (by simp)) | rfl)))
  go_region_held3 (fun w' => Below w4.heap.size w4 w' ∧ Blk w' (w.heap.size) (#[.int .u16 rl, .int .u16 ct, .bool false, .bool rg]) 38 ∧ (∀ i, w'.cell? ⟨w.heap.size, i, none⟩ = (#[.int .u16 rl, .int .u16 ct, .bool false, .bool rg] : Array Value)[i]?) ∧ w.heap.size < w'.heap.size ∧ Blk w' (w3.heap.size) (#[.int .u16 rl, .int .u16 rl, .bool true, .bool rg]) 38 ∧ (∀ i, w'.cell? ⟨w3.heap.size, i, none⟩ = (#[.int .u16 rl, .int .u16 rl, .bool true, .bool rg] : Array Value)[i]?) ∧ w3.heap.size < w'.heap.size) ((first | exact held2_drew S0 | exact held2_below (by assumption) (by assumption))) (first | (go_at_call 47; refine (ST.out _).mono ?_; rintro e w5 ⟨rfl, hb_w5⟩))
  have hbw5 : Below w4.heap.size w4 w5 := And.left (show Below w4.heap.size w4 w5 ∧ Blk w5 (w.heap.size) (#[.int .u16 rl, .int .u16 ct, .bool false, .bool rg]) 38 ∧ (∀ i, w5.cell? ⟨w.heap.size, i, none⟩ = (#[.int .u16 rl, .int .u16 ct, .bool false, .bool rg] : Array Value)[i]?) ∧ w.heap.size < w5.heap.size ∧ Blk w5 (w3.heap.size) (#[.int .u16 rl, .int .u16 rl, .bool true, .bool rg]) 38 ∧ (∀ i, w5.cell? ⟨w3.heap.size, i, none⟩ = (#[.int .u16 rl, .int .u16 rl, .bool true, .bool rg] : Array Value)[i]?) ∧ w3.heap.size < w5.heap.size by assumption)
  clear S0
  have Kw5_0 : Hid (Blk w5 (w.heap.size) #[.int .u16 rl, .int .u16 ct, .bool false, .bool rg] 38) := Lib.hid (by repeat' (first | (with_reducible first | exact Hid.out (by assumption) | exact Blk.new _ _ _ | refine Blk.alloc ?_ _ | refine Blk.drewN ?_ _ | apply Blk.set | refine Blk.below ?_ (by assumption)) | refine Blk.setAt ?_ (by simp; omega) | (with_reducible exact Blk.new_at _ _ _ _ (by simp)) | rfl))
  have Kw5_1 : Hid (Blk w5 (w1.heap.size) #[.int .u16 X.rl, .int .u16 X.ct, .bool X.on, .bool X.rg] 38) := Lib.hid (by repeat' (first | (with_reducible first | exact Hid.out (by assumption) | exact Blk.new _ _ _ | refine Blk.alloc ?_ _ | refine Blk.drewN ?_ _ | apply Blk.set | refine Blk.below ?_ (by assumption)) | refine Blk.setAt ?_ (by simp; omega) | (with_reducible exact Blk.new_at _ _ _ _ (by simp)) | rfl))
  clear Kw4_0 cw4_0 fw4_0 Kw4_1 cw4_1 fw4_1 Kw4_2 cw4_2 fw4_2
  obtain ⟨lw5_0, cw5_0, fw5_0⟩ := Kw5_0.out.use
  obtain ⟨lw5_1, cw5_1, fw5_1⟩ := Kw5_1.out.use
  go_wp2_with fail
  refine (NX.out _).mono ?_
  rintro e w6 ⟨rfl, hb6⟩
  have Kw6_0 : Hid (Blk w6 (w.heap.size) #[.int .u16 rl, .int .u16 ct, .bool false, .bool rg] 38) := Lib.hid (by repeat' (first | (with_reducible first | exact Hid.out (by assumption) | exact Blk.new _ _ _ | refine Blk.alloc ?_ _ | refine Blk.drewN ?_ _ | apply Blk.set | refine Blk.below ?_ (by assumption)) | refine Blk.setAt ?_ (by simp; omega) | (with_reducible exact Blk.new_at _ _ _ _ (by simp)) | rfl))
  have Kw6_1 : Hid (Blk w6 (w1.heap.size) #[.int .u16 X.rl, .int .u16 X.ct, .bool X.on, .bool X.rg] 38) := Lib.hid (by repeat' (first | (with_reducible first | exact Hid.out (by assumption) | exact Blk.new _ _ _ | refine Blk.alloc ?_ _ | refine Blk.drewN ?_ _ | apply Blk.set | refine Blk.below ?_ (by assumption)) | refine Blk.setAt ?_ (by simp; omega) | (with_reducible exact Blk.new_at _ _ _ _ (by simp)) | rfl))
  clear Kw5_0 cw5_0 fw5_0 Kw5_1 cw5_1 fw5_1
  obtain ⟨lw6_0, cw6_0, fw6_0⟩ := Kw6_0.out.use
  obtain ⟨lw6_1, cw6_1, fw6_1⟩ := Kw6_1.out.use
  have hb6' : Below w.heap.size w w6 := by repeat' (first | exact Below.refl _ _ | assumption | refine below_alloc ?_ _ | refine Below.drew ?_ | refine below_drewN ?_ _ | refine below_then ?_ (by assumption) | refine Below.setCell ?_ ?_ _ | (simp; done) | (simp; omega) | omega)
  have L0 : Hid (Blk w6 w.heap.size #[.int .u16 (runTm T 0).rl, .int .u16 (runTm T 0).ct, .bool (runTm T 0).on, .bool (runTm T 0).rg] 38) := Lib.hid (by rw [HZ.out, ← HT.out]; exact Kw6_0.out)
  go_wp2
  go_loopw [62] (fun i wr => ∃ k : Nat, (k : Int) ≤ n ∧ i = .int .i64 k ∧ Below w.heap.size w wr ∧ Hid (Blk wr w.heap.size #[.int .u16 (runTm T k).rl, .int .u16 (runTm T k).ct, .bool (runTm T k).on, .bool (runTm T k).rg] 38) ∧ Hid (Blk wr w1.heap.size #[.int .u16 X.rl, .int .u16 X.ct, .bool X.on, .bool X.rg] 38)) (fun i _ => (n - intOf i).toNat)
  case atStart => exact ⟨0, by omega, rfl, hb6', L0, Kw6_1⟩
  case round =>
    obtain ⟨k, hk, rfl, hbr, KA, KB⟩ := hrel
    clear Kw6_0 Kw6_1 cw6_0 cw6_1 fw6_0 fw6_1 L0
    obtain ⟨lA, cA, fA⟩ := KA.out.use
    obtain ⟨lB, cB, fB⟩ := KB.out.use
    by_cases hlt : (k : Int) < n
    · have hs := reftick_any (runTm T k) (runTm_ok T OK.out k (by omega))
      rw [← runTm_succ T OK.out k] at hs
      have HS := Lib.hid hs
      clear hs
      generalize hY : runTm T (k : Int) = Y at KA cA HS
      generalize hZ : runTm T ((k : Int) + 1) = Z at HS
      have HY := Lib.hid hY
      have HZ2 := Lib.hid hZ
      clear hY hZ
      go_wp2_with fail
      refine (HS.out _).mono ?_
      rintro e w7 ⟨rfl, hb7⟩
      have K7 : Hid (Blk w7 w.heap.size #[.int .u16 Y.rl, .int .u16 Y.ct, .bool Y.on, .bool Y.rg] 38) := Lib.hid (KA.out.below hb7)
      have K8 : Hid (Blk w7 w1.heap.size #[.int .u16 X.rl, .int .u16 X.ct, .bool X.on, .bool X.rg] 38) := Lib.hid (KB.out.below hb7)
      obtain ⟨l7, c7, f7⟩ := K7.out.use
      obtain ⟨l8, c8, f8⟩ := K8.out.use
      have hs7 := hb7.size
      go_wp2
      go_roundw
      case rel =>
        refine ⟨k + 1, by omega, by go_num, by repeat' (first | exact Below.refl _ _ | assumption | refine below_alloc ?_ _ | refine Below.drew ?_ | refine below_drewN ?_ _ | refine below_then ?_ (by assumption) | refine Below.setCell ?_ ?_ _ | (simp; done) | (simp; omega) | omega), Lib.hid ?_, Lib.hid ?_⟩
        · rw [show ((k + 1 : Nat) : Int) = (k : Int) + 1 from by omega, HZ2.out]
          exact Blk.set (Blk.set (Blk.set (Blk.set K7.out rfl) rfl) rfl) rfl
        · exact Blk.setAt (Blk.setAt (Blk.setAt (Blk.setAt K8.out (by simp; omega)) (by simp; omega)) (by simp; omega)) (by simp; omega)
      case measure => simp [intOf]; omega
    · have hkn : (k : Int) = n := by omega
      rw [hkn, HX.out] at KA
      obtain ⟨lC, cC, fC⟩ := KA.out.use
      clear cA fA
      go_wp2
      go_ret
      exact ⟨rfl, hbr⟩
set_option maxHeartbeats 2000000 in
set_option maxRecDepth 100000 in
theorem good_tt (rl ct n : Int) (rg : Bool) (hr : U16 rl) (hc : U16 ct) (n0 : 0 ≤ n) (n1 : n ≤ 20000) (w : World) :
    Calls Try.prog 12 #[.agg #[.int .u16 rl, .int .u16 ct, .bool true, .bool rg], .bool true, .int .i64 n] w fun e w' => e = .returned (.bool true) ∧ Below w.heap.size w w' := by
  have hrun := run_ok ⟨rl, ct, true, rg⟩ ⟨hr, hc⟩ n n0 n1
  have hok : (⟨rl, ct, true, rg⟩ : Tim).Ok := ⟨hr, hc⟩
  have hz := runTm_zero _ hok
  have htk := tick_any ⟨rl, ct, true, rg⟩ ⟨hr, hc⟩
  have hrt := reftick_any ⟨rl, ct, true, rg⟩ ⟨hr, hc⟩
  have hst := set_any ⟨rl, ct, true, rg⟩ ⟨hr, hc⟩ true
  have hnx := next_any ⟨rl, ct, true, rg⟩ ⟨hr, hc⟩
  simp only [setTm, nextTm, Bool.false_eq_true, if_false, if_true] at hrun htk hrt hst hnx
  generalize hT : (⟨rl, ct, true, rg⟩ : Tim) = T at hrun hok hz
  generalize hX : runTm T n = X at hrun
  have HT := Lib.hid hT
  have HX := Lib.hid hX
  have HZ := Lib.hid hz
  have OK := Lib.hid hok
  have R := Lib.hid hrun
  have TK := Lib.hid htk
  have RT := Lib.hid hrt
  have ST := Lib.hid hst
  have NX := Lib.hid hnx
  obtain ⟨hc0, hc1⟩ := hc
  clear hT hX hz hok hrun htk hrt hst hnx
  go_enter Try.func12, Try.ntmps12
  go_wp2_with fail
  refine (R.out _).mono ?_
  rintro e w1 ⟨rfl, hb1⟩
  have Kw1_0 : Hid (Blk w1 (w.heap.size) #[.int .u16 rl, .int .u16 ct, .bool true, .bool rg] 38) := Lib.hid (by repeat' (first | (with_reducible first | exact Hid.out (by assumption) | exact Blk.new _ _ _ | refine Blk.alloc ?_ _ | refine Blk.drewN ?_ _ | apply Blk.set | refine Blk.below ?_ (by assumption)) | refine Blk.setAt ?_ (by simp; omega) | (with_reducible exact Blk.new_at _ _ _ _ (by simp)) | rfl))
  obtain ⟨lw1_0, cw1_0, fw1_0⟩ := Kw1_0.out.use
  go_wp2_with fail
  refine wp_mark (R := fun W => Below w.heap.size w W ∧ Hid (Blk W (w.heap.size) (#[.int .u16 rl, .int .u16 ct, .bool true, .bool rg]) 38) ∧ Hid (Blk W (w1.heap.size) (#[.int .u16 X.rl, .int .u16 X.ct, .bool X.on, .bool X.rg]) 38)) ⟨by repeat' (first | exact Below.refl _ _ | assumption | refine below_alloc ?_ _ | refine Below.drew ?_ | refine below_drewN ?_ _ | refine below_then ?_ (by assumption) | refine Below.setCell ?_ ?_ _ | (simp; done) | (simp; omega) | omega), Lib.hid (by repeat' (first | (with_reducible first | exact Hid.out (by assumption) | exact Blk.new _ _ _ | refine Blk.alloc ?_ _ | refine Blk.drewN ?_ _ | apply Blk.set | refine Blk.below ?_ (by assumption)) | refine Blk.setAt ?_ (by simp; omega) | (with_reducible exact Blk.new_at _ _ _ _ (by simp)) | rfl)), Lib.hid (by repeat' (first | (with_reducible first | exact Hid.out (by assumption) | exact Blk.new _ _ _ | refine Blk.alloc ?_ _ | refine Blk.drewN ?_ _ | apply Blk.set | refine Blk.below ?_ (by assumption)) | refine Blk.setAt ?_ (by simp; omega) | (with_reducible exact Blk.new_at _ _ _ _ (by simp)) | rfl))⟩ ?_
  rintro w2 ⟨hbw2, Kw2_0, Kw2_1⟩
  clear Kw1_0 cw1_0 fw1_0
  obtain ⟨lw2_0, cw2_0, fw2_0⟩ := Kw2_0.out.use
  obtain ⟨lw2_1, cw2_1, fw2_1⟩ := Kw2_1.out.use
  have S0 := held1_of (Below.refl w2.heap.size w2) (show Blk w2 (w.heap.size) (#[.int .u16 rl, .int .u16 ct, .bool true, .bool rg]) 38 from (by repeat' (first | (with_reducible first | exact Hid.out (by assumption) | exact Blk.new _ _ _ | refine Blk.alloc ?_ _ | refine Blk.drewN ?_ _ | apply Blk.set | refine Blk.below ?_ (by assumption)) | refine Blk.setAt ?_ (by simp; omega) | (with_reducible exact Blk.new_at _ _ _ _ (by simp)) | rfl)))
  go_region_held3 (fun w' => Below w2.heap.size w2 w' ∧ Blk w' (w.heap.size) (#[.int .u16 rl, .int .u16 ct, .bool true, .bool rg]) 38 ∧ (∀ i, w'.cell? ⟨w.heap.size, i, none⟩ = (#[.int .u16 rl, .int .u16 ct, .bool true, .bool rg] : Array Value)[i]?) ∧ w.heap.size < w'.heap.size) ((first | exact held1_drew S0 | exact held1_below (by assumption) (by assumption))) (first | (go_at_call 23; refine (timed_any _).mono ?_; rintro e w3 ⟨rfl, hb_w3⟩) | (go_at_call 45; refine (TK.out _).mono ?_; rintro e w3 ⟨rfl, hb_w3⟩) | (go_at_call 46; refine (RT.out _).mono ?_; rintro e w3 ⟨rfl, hb_w3⟩))
  have hbw3 : Below w2.heap.size w2 w3 := And.left (show Below w2.heap.size w2 w3 ∧ Blk w3 (w.heap.size) (#[.int .u16 rl, .int .u16 ct, .bool true, .bool rg]) 38 ∧ (∀ i, w3.cell? ⟨w.heap.size, i, none⟩ = (#[.int .u16 rl, .int .u16 ct, .bool true, .bool rg] : Array Value)[i]?) ∧ w.heap.size < w3.heap.size by assumption)
  clear S0
  have Kw3_0 : Hid (Blk w3 (w.heap.size) #[.int .u16 rl, .int .u16 ct, .bool true, .bool rg] 38) := Lib.hid (by repeat' (first | (with_reducible first | exact Hid.out (by assumption) | exact Blk.new _ _ _ | refine Blk.alloc ?_ _ | refine Blk.drewN ?_ _ | apply Blk.set | refine Blk.below ?_ (by assumption)) | refine Blk.setAt ?_ (by simp; omega) | (with_reducible exact Blk.new_at _ _ _ _ (by simp)) | rfl))
  have Kw3_1 : Hid (Blk w3 (w1.heap.size) #[.int .u16 X.rl, .int .u16 X.ct, .bool X.on, .bool X.rg] 38) := Lib.hid (by repeat' (first | (with_reducible first | exact Hid.out (by assumption) | exact Blk.new _ _ _ | refine Blk.alloc ?_ _ | refine Blk.drewN ?_ _ | apply Blk.set | refine Blk.below ?_ (by assumption)) | refine Blk.setAt ?_ (by simp; omega) | (with_reducible exact Blk.new_at _ _ _ _ (by simp)) | rfl))
  clear Kw2_0 cw2_0 fw2_0 Kw2_1 cw2_1 fw2_1
  obtain ⟨lw3_0, cw3_0, fw3_0⟩ := Kw3_0.out.use
  obtain ⟨lw3_1, cw3_1, fw3_1⟩ := Kw3_1.out.use
  go_wp2_with fail
  refine wp_mark (R := fun W => Below w.heap.size w W ∧ Hid (Blk W (w.heap.size) (#[.int .u16 rl, .int .u16 ct, .bool true, .bool rg]) 38) ∧ Hid (Blk W (w1.heap.size) (#[.int .u16 X.rl, .int .u16 X.ct, .bool X.on, .bool X.rg]) 38) ∧ Hid (Blk W (w3.heap.size) (#[.int .u16 rl, .int .u16 rl, .bool true, .bool rg]) 38)) ⟨by repeat' (first | exact Below.refl _ _ | assumption | refine below_alloc ?_ _ | refine Below.drew ?_ | refine below_drewN ?_ _ | refine below_then ?_ (by assumption) | refine Below.setCell ?_ ?_ _ | (simp; done) | (simp; omega) | omega), Lib.hid (by repeat' (first | (with_reducible first | exact Hid.out (by assumption) | exact Blk.new _ _ _ | refine Blk.alloc ?_ _ | refine Blk.drewN ?_ _ | apply Blk.set | refine Blk.below ?_ (by assumption)) | refine Blk.setAt ?_ (by simp; omega) | (with_reducible exact Blk.new_at _ _ _ _ (by simp)) | rfl)), Lib.hid (by repeat' (first | (with_reducible first | exact Hid.out (by assumption) | exact Blk.new _ _ _ | refine Blk.alloc ?_ _ | refine Blk.drewN ?_ _ | apply Blk.set | refine Blk.below ?_ (by assumption)) | refine Blk.setAt ?_ (by simp; omega) | (with_reducible exact Blk.new_at _ _ _ _ (by simp)) | rfl)), Lib.hid (by repeat' (first | (with_reducible first | exact Hid.out (by assumption) | exact Blk.new _ _ _ | refine Blk.alloc ?_ _ | refine Blk.drewN ?_ _ | apply Blk.set | refine Blk.below ?_ (by assumption)) | refine Blk.setAt ?_ (by simp; omega) | (with_reducible exact Blk.new_at _ _ _ _ (by simp)) | rfl))⟩ ?_
  rintro w4 ⟨hbw4, Kw4_0, Kw4_1, Kw4_2⟩
  clear Kw3_0 cw3_0 fw3_0 Kw3_1 cw3_1 fw3_1
  obtain ⟨lw4_0, cw4_0, fw4_0⟩ := Kw4_0.out.use
  obtain ⟨lw4_1, cw4_1, fw4_1⟩ := Kw4_1.out.use
  obtain ⟨lw4_2, cw4_2, fw4_2⟩ := Kw4_2.out.use
  have S0 := held2_of (Below.refl w4.heap.size w4) (show Blk w4 (w.heap.size) (#[.int .u16 rl, .int .u16 ct, .bool true, .bool rg]) 38 from (by repeat' (first | (with_reducible first | exact Hid.out (by assumption) | exact Blk.new _ _ _ | refine Blk.alloc ?_ _ | refine Blk.drewN ?_ _ | apply Blk.set | refine Blk.below ?_ (by assumption)) | refine Blk.setAt ?_ (by simp; omega) | (with_reducible exact Blk.new_at _ _ _ _ (by simp)) | rfl))) (show Blk w4 (w3.heap.size) (#[.int .u16 rl, .int .u16 rl, .bool true, .bool rg]) 38 from (by repeat' (first | (with_reducible first | exact Hid.out (by assumption) | exact Blk.new _ _ _ | refine Blk.alloc ?_ _ | refine Blk.drewN ?_ _ | apply Blk.set | refine Blk.below ?_ (by assumption)) | refine Blk.setAt ?_ (by simp; omega) | (with_reducible exact Blk.new_at _ _ _ _ (by simp)) | rfl)))
  go_region_held3 (fun w' => Below w4.heap.size w4 w' ∧ Blk w' (w.heap.size) (#[.int .u16 rl, .int .u16 ct, .bool true, .bool rg]) 38 ∧ (∀ i, w'.cell? ⟨w.heap.size, i, none⟩ = (#[.int .u16 rl, .int .u16 ct, .bool true, .bool rg] : Array Value)[i]?) ∧ w.heap.size < w'.heap.size ∧ Blk w' (w3.heap.size) (#[.int .u16 rl, .int .u16 rl, .bool true, .bool rg]) 38 ∧ (∀ i, w'.cell? ⟨w3.heap.size, i, none⟩ = (#[.int .u16 rl, .int .u16 rl, .bool true, .bool rg] : Array Value)[i]?) ∧ w3.heap.size < w'.heap.size) ((first | exact held2_drew S0 | exact held2_below (by assumption) (by assumption))) (first | (go_at_call 47; refine (ST.out _).mono ?_; rintro e w5 ⟨rfl, hb_w5⟩))
  have hbw5 : Below w4.heap.size w4 w5 := And.left (show Below w4.heap.size w4 w5 ∧ Blk w5 (w.heap.size) (#[.int .u16 rl, .int .u16 ct, .bool true, .bool rg]) 38 ∧ (∀ i, w5.cell? ⟨w.heap.size, i, none⟩ = (#[.int .u16 rl, .int .u16 ct, .bool true, .bool rg] : Array Value)[i]?) ∧ w.heap.size < w5.heap.size ∧ Blk w5 (w3.heap.size) (#[.int .u16 rl, .int .u16 rl, .bool true, .bool rg]) 38 ∧ (∀ i, w5.cell? ⟨w3.heap.size, i, none⟩ = (#[.int .u16 rl, .int .u16 rl, .bool true, .bool rg] : Array Value)[i]?) ∧ w3.heap.size < w5.heap.size by assumption)
  clear S0
  have Kw5_0 : Hid (Blk w5 (w.heap.size) #[.int .u16 rl, .int .u16 ct, .bool true, .bool rg] 38) := Lib.hid (by repeat' (first | (with_reducible first | exact Hid.out (by assumption) | exact Blk.new _ _ _ | refine Blk.alloc ?_ _ | refine Blk.drewN ?_ _ | apply Blk.set | refine Blk.below ?_ (by assumption)) | refine Blk.setAt ?_ (by simp; omega) | (with_reducible exact Blk.new_at _ _ _ _ (by simp)) | rfl))
  have Kw5_1 : Hid (Blk w5 (w1.heap.size) #[.int .u16 X.rl, .int .u16 X.ct, .bool X.on, .bool X.rg] 38) := Lib.hid (by repeat' (first | (with_reducible first | exact Hid.out (by assumption) | exact Blk.new _ _ _ | refine Blk.alloc ?_ _ | refine Blk.drewN ?_ _ | apply Blk.set | refine Blk.below ?_ (by assumption)) | refine Blk.setAt ?_ (by simp; omega) | (with_reducible exact Blk.new_at _ _ _ _ (by simp)) | rfl))
  clear Kw4_0 cw4_0 fw4_0 Kw4_1 cw4_1 fw4_1 Kw4_2 cw4_2 fw4_2
  obtain ⟨lw5_0, cw5_0, fw5_0⟩ := Kw5_0.out.use
  obtain ⟨lw5_1, cw5_1, fw5_1⟩ := Kw5_1.out.use
  go_wp2_with fail
  refine (NX.out _).mono ?_
  rintro e w6 ⟨rfl, hb6⟩
  have Kw6_0 : Hid (Blk w6 (w.heap.size) #[.int .u16 rl, .int .u16 ct, .bool true, .bool rg] 38) := Lib.hid (by repeat' (first | (with_reducible first | exact Hid.out (by assumption) | exact Blk.new _ _ _ | refine Blk.alloc ?_ _ | refine Blk.drewN ?_ _ | apply Blk.set | refine Blk.below ?_ (by assumption)) | refine Blk.setAt ?_ (by simp; omega) | (with_reducible exact Blk.new_at _ _ _ _ (by simp)) | rfl))
  have Kw6_1 : Hid (Blk w6 (w1.heap.size) #[.int .u16 X.rl, .int .u16 X.ct, .bool X.on, .bool X.rg] 38) := Lib.hid (by repeat' (first | (with_reducible first | exact Hid.out (by assumption) | exact Blk.new _ _ _ | refine Blk.alloc ?_ _ | refine Blk.drewN ?_ _ | apply Blk.set | refine Blk.below ?_ (by assumption)) | refine Blk.setAt ?_ (by simp; omega) | (with_reducible exact Blk.new_at _ _ _ _ (by simp)) | rfl))
  clear Kw5_0 cw5_0 fw5_0 Kw5_1 cw5_1 fw5_1
  obtain ⟨lw6_0, cw6_0, fw6_0⟩ := Kw6_0.out.use
  obtain ⟨lw6_1, cw6_1, fw6_1⟩ := Kw6_1.out.use
  have hb6' : Below w.heap.size w w6 := by repeat' (first | exact Below.refl _ _ | assumption | refine below_alloc ?_ _ | refine Below.drew ?_ | refine below_drewN ?_ _ | refine below_then ?_ (by assumption) | refine Below.setCell ?_ ?_ _ | (simp; done) | (simp; omega) | omega)
  have L0 : Hid (Blk w6 w.heap.size #[.int .u16 (runTm T 0).rl, .int .u16 (runTm T 0).ct, .bool (runTm T 0).on, .bool (runTm T 0).rg] 38) := Lib.hid (by rw [HZ.out, ← HT.out]; exact Kw6_0.out)
  go_wp2
  go_loopw [62] (fun i wr => ∃ k : Nat, (k : Int) ≤ n ∧ i = .int .i64 k ∧ Below w.heap.size w wr ∧ Hid (Blk wr w.heap.size #[.int .u16 (runTm T k).rl, .int .u16 (runTm T k).ct, .bool (runTm T k).on, .bool (runTm T k).rg] 38) ∧ Hid (Blk wr w1.heap.size #[.int .u16 X.rl, .int .u16 X.ct, .bool X.on, .bool X.rg] 38)) (fun i _ => (n - intOf i).toNat)
  case atStart => exact ⟨0, by omega, rfl, hb6', L0, Kw6_1⟩
  case round =>
    obtain ⟨k, hk, rfl, hbr, KA, KB⟩ := hrel
    clear Kw6_0 Kw6_1 cw6_0 cw6_1 fw6_0 fw6_1 L0
    obtain ⟨lA, cA, fA⟩ := KA.out.use
    obtain ⟨lB, cB, fB⟩ := KB.out.use
    by_cases hlt : (k : Int) < n
    · have hs := reftick_any (runTm T k) (runTm_ok T OK.out k (by omega))
      rw [← runTm_succ T OK.out k] at hs
      have HS := Lib.hid hs
      clear hs
      generalize hY : runTm T (k : Int) = Y at KA cA HS
      generalize hZ : runTm T ((k : Int) + 1) = Z at HS
      have HY := Lib.hid hY
      have HZ2 := Lib.hid hZ
      clear hY hZ
      go_wp2_with fail
      refine (HS.out _).mono ?_
      rintro e w7 ⟨rfl, hb7⟩
      have K7 : Hid (Blk w7 w.heap.size #[.int .u16 Y.rl, .int .u16 Y.ct, .bool Y.on, .bool Y.rg] 38) := Lib.hid (KA.out.below hb7)
      have K8 : Hid (Blk w7 w1.heap.size #[.int .u16 X.rl, .int .u16 X.ct, .bool X.on, .bool X.rg] 38) := Lib.hid (KB.out.below hb7)
      obtain ⟨l7, c7, f7⟩ := K7.out.use
      obtain ⟨l8, c8, f8⟩ := K8.out.use
      have hs7 := hb7.size
      go_wp2
      go_roundw
      case rel =>
        refine ⟨k + 1, by omega, by go_num, by repeat' (first | exact Below.refl _ _ | assumption | refine below_alloc ?_ _ | refine Below.drew ?_ | refine below_drewN ?_ _ | refine below_then ?_ (by assumption) | refine Below.setCell ?_ ?_ _ | (simp; done) | (simp; omega) | omega), Lib.hid ?_, Lib.hid ?_⟩
        · rw [show ((k + 1 : Nat) : Int) = (k : Int) + 1 from by omega, HZ2.out]
          exact Blk.set (Blk.set (Blk.set (Blk.set K7.out rfl) rfl) rfl) rfl
        · exact Blk.setAt (Blk.setAt (Blk.setAt (Blk.setAt K8.out (by simp; omega)) (by simp; omega)) (by simp; omega)) (by simp; omega)
      case measure => simp [intOf]; omega
    · have hkn : (k : Int) = n := by omega
      rw [hkn, HX.out] at KA
      obtain ⟨lC, cC, fC⟩ := KA.out.use
      clear cA fA
      go_wp2
      go_ret
      exact ⟨rfl, hbr⟩

theorem walk (rl ct : Int) (on rg sw : Bool) (n : Int) (hr : U16 rl) (hc : U16 ct) (_hn : I64 n) (w : World) :
    Calls Try.prog 12 #[.agg #[.int .u16 rl, .int .u16 ct, .bool on, .bool rg], .bool sw, .int .i64 n] w fun e w' => e = .returned (.bool true) ∧ Below w.heap.size w w' := by
  by_cases h : n < 0 ∨ 20000 < n
  · cases sw <;> cases on
    · exact bad_ff rl ct n rg hr hc h w
    · exact bad_ft rl ct n rg hr hc h w
    · exact bad_tf rl ct n rg hr hc h w
    · exact bad_tt rl ct n rg hr hc h w
  · cases sw <;> cases on
    · exact good_ff rl ct n rg hr hc (by omega) (by omega) w
    · exact good_ft rl ct n rg hr hc (by omega) (by omega) w
    · exact good_tf rl ct n rg hr hc (by omega) (by omega) w
    · exact good_tt rl ct n rg hr hc (by omega) (by omega) w
end Go.Proofs.Ytegilgnpkcjhpaa.timerRuns
