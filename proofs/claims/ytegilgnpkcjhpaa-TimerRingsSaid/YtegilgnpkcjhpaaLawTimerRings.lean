/- TimerRings: for every timer and every number the law answers true. Conditions: none. -/
import Derived.Test.YtegilgnpkcjhpaaTimer
namespace Go.Proofs.Ytegilgnpkcjhpaa.timerRings
open Go.RowKit Go.Mq

set_option maxRecDepth 100000 in
theorem bad (rl ct n : Int) (on rg : Bool) (h : n < 0 ∨ 20000 < n) (w : World) :
    Calls Try.prog 6 #[.agg #[.int .u16 rl, .int .u16 ct, .bool on, .bool rg], .int .i64 n] w fun e w' => e = .returned (.bool true) ∧ Below w.heap.size w w' := by
  have hr := run_bad ⟨rl, ct, on, false⟩ n h
  simp only at hr
  have R := Lib.hid hr
  clear hr h
  go_enter Try.func6, Try.ntmps6
  go_wp2_with fail
  refine (R.out _).mono ?_
  rintro e w1 ⟨rfl, hb1⟩
  go_wp2_with fail
  refine (timed_any _).mono ?_
  rintro e w2 ⟨rfl, hb2⟩
  go_wp2_with fail
  refine (timed_any _).mono ?_
  rintro e w3 ⟨rfl, hb3⟩
  go_wp2
  go_ret
  exact ⟨rfl, by repeat' (first | exact Below.refl _ _ | assumption | refine below_alloc ?_ _ | refine Below.drew ?_ | refine below_drewN ?_ _ | refine below_then ?_ (by assumption) | refine Below.setCell ?_ ?_ _ | (simp; done) | (simp; omega) | omega)⟩

theorem rings (rl ct n : Int) (on : Bool) (hc : U16 ct) :
    (runTm ⟨rl, ct, on, false⟩ n).rg = (decide (0 < nextTm ⟨rl, ct, on, false⟩) && decide (nextTm ⟨rl, ct, on, false⟩ ≤ n)) ∧
    (runTm ⟨rl, ct, on, false⟩ n).rl = rl ∧ (runTm ⟨rl, ct, on, false⟩ n).on = on ∧ (on = false → runTm ⟨rl, ct, on, false⟩ n = ⟨rl, ct, false, false⟩) := by
  obtain ⟨hc0, _⟩ := hc
  cases on
  · simp [runTm, nextTm]
  · by_cases h : n ≤ ct
    · simp [runTm, nextTm, h]; omega
    · simp [runTm, nextTm, h]; omega

set_option maxHeartbeats 800000 in
set_option maxRecDepth 100000 in
theorem good (rl ct n : Int) (on rg : Bool) (hr : U16 rl) (hc : U16 ct) (n0 : 0 ≤ n) (n1 : n ≤ 20000) (w : World) :
    Calls Try.prog 6 #[.agg #[.int .u16 rl, .int .u16 ct, .bool on, .bool rg], .int .i64 n] w fun e w' => e = .returned (.bool true) ∧ Below w.heap.size w w' := by
  have hrun := run_ok ⟨rl, ct, on, false⟩ ⟨hr, hc⟩ n n0 n1
  have hn := next_any ⟨rl, ct, on, false⟩ ⟨hr, hc⟩
  obtain ⟨e1, e2, e3, e4⟩ := rings rl ct n on hc
  rw [e1, e2, e3] at hrun
  cases on
  · rw [e4 rfl] at hrun
    simp only [nextTm] at hrun hn
    simp at hrun hn
    have R := Lib.hid hrun
    have H := Lib.hid hn
    clear hrun hn e1 e2 e3 e4
    go_enter Try.func6, Try.ntmps6
    go_wp2_with fail
    refine (R.out _).mono ?_
    rintro e w1 ⟨rfl, hb1⟩
    have Kw1_0 : Hid (Blk w1 (w.heap.size) #[.int .u16 rl, .int .u16 ct, .bool false, .bool false] 38) := Lib.hid (by repeat' (first | (with_reducible first | exact Hid.out (by assumption) | exact Blk.new _ _ _ | refine Blk.alloc ?_ _ | refine Blk.drewN ?_ _ | apply Blk.set | refine Blk.below ?_ (by assumption)) | refine Blk.setAt ?_ (by simp; omega) | (with_reducible exact Blk.new_at _ _ _ _ (by simp)) | rfl))
    obtain ⟨lw1_0, cw1_0, fw1_0⟩ := Kw1_0.out.use
    go_wp2_with fail
    refine (timed_any _).mono ?_
    rintro e w2 ⟨rfl, hb2⟩
    have Kw2_0 : Hid (Blk w2 (w.heap.size) #[.int .u16 rl, .int .u16 ct, .bool false, .bool false] 38) := Lib.hid (by repeat' (first | (with_reducible first | exact Hid.out (by assumption) | exact Blk.new _ _ _ | refine Blk.alloc ?_ _ | refine Blk.drewN ?_ _ | apply Blk.set | refine Blk.below ?_ (by assumption)) | refine Blk.setAt ?_ (by simp; omega) | (with_reducible exact Blk.new_at _ _ _ _ (by simp)) | rfl))
    have Kw2_1 : Hid (Blk w2 (w1.heap.size) #[.int .u16 rl, .int .u16 ct, .bool false, .bool false] 38) := Lib.hid (by repeat' (first | (with_reducible first | exact Hid.out (by assumption) | exact Blk.new _ _ _ | refine Blk.alloc ?_ _ | refine Blk.drewN ?_ _ | apply Blk.set | refine Blk.below ?_ (by assumption)) | refine Blk.setAt ?_ (by simp; omega) | (with_reducible exact Blk.new_at _ _ _ _ (by simp)) | rfl))
    clear Kw1_0 cw1_0 fw1_0
    obtain ⟨lw2_0, cw2_0, fw2_0⟩ := Kw2_0.out.use
    obtain ⟨lw2_1, cw2_1, fw2_1⟩ := Kw2_1.out.use
    go_wp2_with fail
    refine (H.out _).mono ?_
    rintro e w3 ⟨rfl, hb3⟩
    have Kw3_0 : Hid (Blk w3 (w.heap.size) #[.int .u16 rl, .int .u16 ct, .bool false, .bool false] 38) := Lib.hid (by repeat' (first | (with_reducible first | exact Hid.out (by assumption) | exact Blk.new _ _ _ | refine Blk.alloc ?_ _ | refine Blk.drewN ?_ _ | apply Blk.set | refine Blk.below ?_ (by assumption)) | refine Blk.setAt ?_ (by simp; omega) | (with_reducible exact Blk.new_at _ _ _ _ (by simp)) | rfl))
    have Kw3_1 : Hid (Blk w3 (w1.heap.size) #[.int .u16 rl, .int .u16 ct, .bool false, .bool false] 38) := Lib.hid (by repeat' (first | (with_reducible first | exact Hid.out (by assumption) | exact Blk.new _ _ _ | refine Blk.alloc ?_ _ | refine Blk.drewN ?_ _ | apply Blk.set | refine Blk.below ?_ (by assumption)) | refine Blk.setAt ?_ (by simp; omega) | (with_reducible exact Blk.new_at _ _ _ _ (by simp)) | rfl))
    clear Kw2_0 cw2_0 fw2_0 Kw2_1 cw2_1 fw2_1
    obtain ⟨lw3_0, cw3_0, fw3_0⟩ := Kw3_0.out.use
    obtain ⟨lw3_1, cw3_1, fw3_1⟩ := Kw3_1.out.use
    go_wp2
    go_ret
    exact ⟨rfl, by repeat' (first | exact Below.refl _ _ | assumption | refine below_alloc ?_ _ | refine Below.drew ?_ | refine below_drewN ?_ _ | refine below_then ?_ (by assumption) | refine Below.setCell ?_ ?_ _ | (simp; done) | (simp; omega) | omega)⟩
  · simp only [nextTm, if_true] at hrun hn
    generalize (runTm ⟨rl, ct, true, false⟩ n).ct = x at hrun
    have hp : decide (0 < ct + 1) = true := decide_eq_true (by have := hc.1; omega)
    rw [hp, Bool.true_and] at hrun
    have R := Lib.hid hrun
    have H := Lib.hid hn
    have hc0 := hc.1
    clear hrun hn e1 e2 e3 e4 hp
    go_enter Try.func6, Try.ntmps6
    go_wp2_with fail
    refine (R.out _).mono ?_
    rintro e w1 ⟨rfl, hb1⟩
    have Kw1_0 : Hid (Blk w1 (w.heap.size) #[.int .u16 rl, .int .u16 ct, .bool true, .bool false] 38) := Lib.hid (by repeat' (first | (with_reducible first | exact Hid.out (by assumption) | exact Blk.new _ _ _ | refine Blk.alloc ?_ _ | refine Blk.drewN ?_ _ | apply Blk.set | refine Blk.below ?_ (by assumption)) | refine Blk.setAt ?_ (by simp; omega) | (with_reducible exact Blk.new_at _ _ _ _ (by simp)) | rfl))
    obtain ⟨lw1_0, cw1_0, fw1_0⟩ := Kw1_0.out.use
    go_wp2_with fail
    refine (timed_any _).mono ?_
    rintro e w2 ⟨rfl, hb2⟩
    have Kw2_0 : Hid (Blk w2 (w.heap.size) #[.int .u16 rl, .int .u16 ct, .bool true, .bool false] 38) := Lib.hid (by repeat' (first | (with_reducible first | exact Hid.out (by assumption) | exact Blk.new _ _ _ | refine Blk.alloc ?_ _ | refine Blk.drewN ?_ _ | apply Blk.set | refine Blk.below ?_ (by assumption)) | refine Blk.setAt ?_ (by simp; omega) | (with_reducible exact Blk.new_at _ _ _ _ (by simp)) | rfl))
    have Kw2_1 : Hid (Blk w2 (w1.heap.size) #[.int .u16 rl, .int .u16 x, .bool true, .bool (decide (ct + 1 ≤ n))] 38) := Lib.hid (by repeat' (first | (with_reducible first | exact Hid.out (by assumption) | exact Blk.new _ _ _ | refine Blk.alloc ?_ _ | refine Blk.drewN ?_ _ | apply Blk.set | refine Blk.below ?_ (by assumption)) | refine Blk.setAt ?_ (by simp; omega) | (with_reducible exact Blk.new_at _ _ _ _ (by simp)) | rfl))
    clear Kw1_0 cw1_0 fw1_0
    obtain ⟨lw2_0, cw2_0, fw2_0⟩ := Kw2_0.out.use
    obtain ⟨lw2_1, cw2_1, fw2_1⟩ := Kw2_1.out.use
    go_wp2_with fail
    refine (H.out _).mono ?_
    rintro e w3 ⟨rfl, hb3⟩
    have Kw3_0 : Hid (Blk w3 (w.heap.size) #[.int .u16 rl, .int .u16 ct, .bool true, .bool false] 38) := Lib.hid (by repeat' (first | (with_reducible first | exact Hid.out (by assumption) | exact Blk.new _ _ _ | refine Blk.alloc ?_ _ | refine Blk.drewN ?_ _ | apply Blk.set | refine Blk.below ?_ (by assumption)) | refine Blk.setAt ?_ (by simp; omega) | (with_reducible exact Blk.new_at _ _ _ _ (by simp)) | rfl))
    have Kw3_1 : Hid (Blk w3 (w1.heap.size) #[.int .u16 rl, .int .u16 x, .bool true, .bool (decide (ct + 1 ≤ n))] 38) := Lib.hid (by repeat' (first | (with_reducible first | exact Hid.out (by assumption) | exact Blk.new _ _ _ | refine Blk.alloc ?_ _ | refine Blk.drewN ?_ _ | apply Blk.set | refine Blk.below ?_ (by assumption)) | refine Blk.setAt ?_ (by simp; omega) | (with_reducible exact Blk.new_at _ _ _ _ (by simp)) | rfl))
    clear Kw2_0 cw2_0 fw2_0 Kw2_1 cw2_1 fw2_1
    obtain ⟨lw3_0, cw3_0, fw3_0⟩ := Kw3_0.out.use
    obtain ⟨lw3_1, cw3_1, fw3_1⟩ := Kw3_1.out.use
    go_wp2
    go_ret
    exact ⟨rfl, by repeat' (first | exact Below.refl _ _ | assumption | refine below_alloc ?_ _ | refine Below.drew ?_ | refine below_drewN ?_ _ | refine below_then ?_ (by assumption) | refine Below.setCell ?_ ?_ _ | (simp; done) | (simp; omega) | omega)⟩

theorem walk (rl ct : Int) (on rg : Bool) (n : Int) (hr : U16 rl) (hc : U16 ct) (_hn : I64 n) (w : World) :
    Calls Try.prog 6 #[.agg #[.int .u16 rl, .int .u16 ct, .bool on, .bool rg], .int .i64 n] w fun e w' => e = .returned (.bool true) ∧ Below w.heap.size w w' := by
  by_cases h : n < 0 ∨ 20000 < n
  · exact bad rl ct n on rg h w
  · exact good rl ct n on rg hr hc (by omega) (by omega) w
end Go.Proofs.Ytegilgnpkcjhpaa.timerRings
