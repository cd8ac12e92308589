/- TimerParts: for every timer and every two numbers the law answers true. Conditions: none. -/
import Derived.Test.YtncnjdkabkeepaaPartW
namespace Go.Proofs.Ytncnjdkabkeepaa.timerParts
open Go.RowKit Go.Mq

theorem early (t : Tim) (a b : Int) (h : a < 0 ∨ b < 0 ∨ 20000 < a ∨ (0 ≤ a ∧ a ≤ 20000 ∧ 20000 - a < b)) (w : World) :
    Calls Try.prog 3 #[.agg #[.int .u16 t.rl, .int .u16 t.ct, .bool t.on, .bool t.rg], .int .i64 a, .int .i64 b] w fun e w' => e = .returned (.bool true) ∧ Below w.heap.size w w' := by
  by_cases h1 : a < 0
  · clear h
    go_enter Try.func3, Try.ntmps3
    go_wp2_with fail
    refine (timed_any _).mono ?_
    rintro e w1 ⟨rfl, hb1⟩
    go_wp2
    go_ret
    exact ⟨rfl, by repeat' (first | (with_reducible first | exact Below.refl _ _ | assumption | refine below_alloc ?_ _ | refine Below.drew ?_ | refine Go.Mq.below_drewN ?_ _ | refine below_then ?_ (by assumption) | refine below_put ?_ (by assumption) (by first | (simp; done) | (simp; omega) | omega) | refine Below.setCell ?_ ?_ _) | (simp; done) | (simp; omega) | omega)⟩
  by_cases h2 : b < 0
  · clear h
    go_enter Try.func3, Try.ntmps3
    go_wp2_with fail
    refine (timed_any _).mono ?_
    rintro e w1 ⟨rfl, hb1⟩
    go_wp2
    go_ret
    exact ⟨rfl, by repeat' (first | (with_reducible first | exact Below.refl _ _ | assumption | refine below_alloc ?_ _ | refine Below.drew ?_ | refine Go.Mq.below_drewN ?_ _ | refine below_then ?_ (by assumption) | refine below_put ?_ (by assumption) (by first | (simp; done) | (simp; omega) | omega) | refine Below.setCell ?_ ?_ _) | (simp; done) | (simp; omega) | omega)⟩
  by_cases h3 : 20000 < a
  · clear h
    go_enter Try.func3, Try.ntmps3
    go_wp2_with fail
    refine (timed_any _).mono ?_
    rintro e w1 ⟨rfl, hb1⟩
    go_wp2
    go_ret
    exact ⟨rfl, by repeat' (first | (with_reducible first | exact Below.refl _ _ | assumption | refine below_alloc ?_ _ | refine Below.drew ?_ | refine Go.Mq.below_drewN ?_ _ | refine below_then ?_ (by assumption) | refine below_put ?_ (by assumption) (by first | (simp; done) | (simp; omega) | omega) | refine Below.setCell ?_ ?_ _) | (simp; done) | (simp; omega) | omega)⟩
  have h4 : 20000 - a < b := by omega
  clear h
  go_enter Try.func3, Try.ntmps3
  go_wp2_with fail
  refine (timed_any _).mono ?_
  rintro e w1 ⟨rfl, hb1⟩
  go_wp2
  go_ret
  exact ⟨rfl, by repeat' (first | (with_reducible first | exact Below.refl _ _ | assumption | refine below_alloc ?_ _ | refine Below.drew ?_ | refine Go.Mq.below_drewN ?_ _ | refine below_then ?_ (by assumption) | refine below_put ?_ (by assumption) (by first | (simp; done) | (simp; omega) | omega) | refine Below.setCell ?_ ?_ _) | (simp; done) | (simp; omega) | omega)⟩

set_option maxHeartbeats 800000 in
set_option maxRecDepth 100000 in
theorem main_off (rl ct : Int) (rg : Bool) (a b : Int) (hr : U16 rl) (hc : U16 ct) (a0 : 0 ≤ a) (b0 : 0 ≤ b) (a1 : a ≤ 20000) (b1 : b ≤ 20000 - a) (w : World) :
    Calls Try.prog 3 #[.agg #[.int .u16 rl, .int .u16 ct, .bool false, .bool rg], .int .i64 a, .int .i64 b] w fun e w' => e = .returned (.bool true) ∧ Below w.heap.size w w' := by
  have hr1 := tmrun_ok ⟨rl, ct, false, rg⟩ ⟨hr, hc⟩ a a0 a1
  have hr2 := tmrun_ok ⟨rl, ct, false, rg⟩ ⟨hr, hc⟩ b b0 (by omega)
  have hr3 := tmrun_ok ⟨rl, ct, false, rg⟩ ⟨hr, hc⟩ (a + b) (by omega) (by omega)
  have hn := tmnext_any ⟨rl, ct, false, false⟩ ⟨hr, hc⟩
  simp only [runTm, nextTm, Bool.false_eq_true, if_false] at hr1 hr2 hr3 hn
  have R1 := Lib.hid hr1
  have R2 := Lib.hid hr2
  have R3 := Lib.hid hr3
  have HN := Lib.hid hn
  clear hr1 hr2 hr3 hn
  go_enter Try.func3, Try.ntmps3
  go_wp2_with fail
  refine (R1.out _).mono ?_
  rintro e w1 ⟨rfl, hb1⟩
  have Kw1_0 : Hid (Blk w1 (w.heap.size) #[.int .u16 rl, .int .u16 ct, .bool false, .bool rg] 24) := Lib.hid (by repeat' (first | (with_reducible first | exact Hid.out (by assumption) | exact Blk.new _ _ _ | (refine Blk.new_at _ _ _ _ ?_; simp; done) | refine Blk.alloc ?_ _ | refine Blk.drewN ?_ _ | refine Blk.drew ?_ | apply Blk.set | refine Blk.put ?_ (by assumption) (by first | (simp; done) | (simp; omega) | omega) | refine Blk.below ?_ (by assumption)) | (refine Blk.setAt ?_ (by first | (simp; done) | (simp; omega))) | rfl))
  obtain ⟨lw1_0, cw1_0, fw1_0⟩ := Kw1_0.out.use
  go_wp2_with fail
  refine (R2.out _).mono ?_
  rintro e w2 ⟨rfl, hb2⟩
  have Kw2_0 : Hid (Blk w2 (w.heap.size) #[.int .u16 rl, .int .u16 ct, .bool false, .bool rg] 24) := Lib.hid (by repeat' (first | (with_reducible first | exact Hid.out (by assumption) | exact Blk.new _ _ _ | (refine Blk.new_at _ _ _ _ ?_; simp; done) | refine Blk.alloc ?_ _ | refine Blk.drewN ?_ _ | refine Blk.drew ?_ | apply Blk.set | refine Blk.put ?_ (by assumption) (by first | (simp; done) | (simp; omega) | omega) | refine Blk.below ?_ (by assumption)) | (refine Blk.setAt ?_ (by first | (simp; done) | (simp; omega))) | rfl))
  have Kw2_1 : Hid (Blk w2 (w1.heap.size) #[.int .u16 rl, .int .u16 ct, .bool false, .bool rg] 24) := Lib.hid (by repeat' (first | (with_reducible first | exact Hid.out (by assumption) | exact Blk.new _ _ _ | (refine Blk.new_at _ _ _ _ ?_; simp; done) | refine Blk.alloc ?_ _ | refine Blk.drewN ?_ _ | refine Blk.drew ?_ | apply Blk.set | refine Blk.put ?_ (by assumption) (by first | (simp; done) | (simp; omega) | omega) | refine Blk.below ?_ (by assumption)) | (refine Blk.setAt ?_ (by first | (simp; done) | (simp; omega))) | rfl))
  clear Kw1_0 cw1_0 fw1_0
  obtain ⟨lw2_0, cw2_0, fw2_0⟩ := Kw2_0.out.use
  obtain ⟨lw2_1, cw2_1, fw2_1⟩ := Kw2_1.out.use
  go_wp2_with fail
  refine (R3.out _).mono ?_
  rintro e w3 ⟨rfl, hb3⟩
  have Kw3_0 : Hid (Blk w3 (w.heap.size) #[.int .u16 rl, .int .u16 ct, .bool false, .bool rg] 24) := Lib.hid (by repeat' (first | (with_reducible first | exact Hid.out (by assumption) | exact Blk.new _ _ _ | (refine Blk.new_at _ _ _ _ ?_; simp; done) | refine Blk.alloc ?_ _ | refine Blk.drewN ?_ _ | refine Blk.drew ?_ | apply Blk.set | refine Blk.put ?_ (by assumption) (by first | (simp; done) | (simp; omega) | omega) | refine Blk.below ?_ (by assumption)) | (refine Blk.setAt ?_ (by first | (simp; done) | (simp; omega))) | rfl))
  have Kw3_1 : Hid (Blk w3 (w1.heap.size) #[.int .u16 rl, .int .u16 ct, .bool false, .bool rg] 24) := Lib.hid (by repeat' (first | (with_reducible first | exact Hid.out (by assumption) | exact Blk.new _ _ _ | (refine Blk.new_at _ _ _ _ ?_; simp; done) | refine Blk.alloc ?_ _ | refine Blk.drewN ?_ _ | refine Blk.drew ?_ | apply Blk.set | refine Blk.put ?_ (by assumption) (by first | (simp; done) | (simp; omega) | omega) | refine Blk.below ?_ (by assumption)) | (refine Blk.setAt ?_ (by first | (simp; done) | (simp; omega))) | rfl))
  have Kw3_2 : Hid (Blk w3 (w2.heap.size) #[.int .u16 rl, .int .u16 ct, .bool false, .bool rg] 24) := Lib.hid (by repeat' (first | (with_reducible first | exact Hid.out (by assumption) | exact Blk.new _ _ _ | (refine Blk.new_at _ _ _ _ ?_; simp; done) | refine Blk.alloc ?_ _ | refine Blk.drewN ?_ _ | refine Blk.drew ?_ | apply Blk.set | refine Blk.put ?_ (by assumption) (by first | (simp; done) | (simp; omega) | omega) | refine Blk.below ?_ (by assumption)) | (refine Blk.setAt ?_ (by first | (simp; done) | (simp; omega))) | rfl))
  clear Kw2_0 cw2_0 fw2_0 Kw2_1 cw2_1 fw2_1
  obtain ⟨lw3_0, cw3_0, fw3_0⟩ := Kw3_0.out.use
  obtain ⟨lw3_1, cw3_1, fw3_1⟩ := Kw3_1.out.use
  obtain ⟨lw3_2, cw3_2, fw3_2⟩ := Kw3_2.out.use
  go_wp2_with fail
  refine (timed_any _).mono ?_
  rintro e w4 ⟨rfl, hb4⟩
  have Kw4_0 : Hid (Blk w4 (w.heap.size) #[.int .u16 rl, .int .u16 ct, .bool false, .bool rg] 24) := Lib.hid (by repeat' (first | (with_reducible first | exact Hid.out (by assumption) | exact Blk.new _ _ _ | (refine Blk.new_at _ _ _ _ ?_; simp; done) | refine Blk.alloc ?_ _ | refine Blk.drewN ?_ _ | refine Blk.drew ?_ | apply Blk.set | refine Blk.put ?_ (by assumption) (by first | (simp; done) | (simp; omega) | omega) | refine Blk.below ?_ (by assumption)) | (refine Blk.setAt ?_ (by first | (simp; done) | (simp; omega))) | rfl))
  have Kw4_1 : Hid (Blk w4 (w1.heap.size) #[.int .u16 rl, .int .u16 ct, .bool false, .bool rg] 24) := Lib.hid (by repeat' (first | (with_reducible first | exact Hid.out (by assumption) | exact Blk.new _ _ _ | (refine Blk.new_at _ _ _ _ ?_; simp; done) | refine Blk.alloc ?_ _ | refine Blk.drewN ?_ _ | refine Blk.drew ?_ | apply Blk.set | refine Blk.put ?_ (by assumption) (by first | (simp; done) | (simp; omega) | omega) | refine Blk.below ?_ (by assumption)) | (refine Blk.setAt ?_ (by first | (simp; done) | (simp; omega))) | rfl))
  have Kw4_2 : Hid (Blk w4 (w2.heap.size) #[.int .u16 rl, .int .u16 ct, .bool false, .bool rg] 24) := Lib.hid (by repeat' (first | (with_reducible first | exact Hid.out (by assumption) | exact Blk.new _ _ _ | (refine Blk.new_at _ _ _ _ ?_; simp; done) | refine Blk.alloc ?_ _ | refine Blk.drewN ?_ _ | refine Blk.drew ?_ | apply Blk.set | refine Blk.put ?_ (by assumption) (by first | (simp; done) | (simp; omega) | omega) | refine Blk.below ?_ (by assumption)) | (refine Blk.setAt ?_ (by first | (simp; done) | (simp; omega))) | rfl))
  have Kw4_3 : Hid (Blk w4 (w3.heap.size) #[.int .u16 rl, .int .u16 ct, .bool false, .bool rg] 24) := Lib.hid (by repeat' (first | (with_reducible first | exact Hid.out (by assumption) | exact Blk.new _ _ _ | (refine Blk.new_at _ _ _ _ ?_; simp; done) | refine Blk.alloc ?_ _ | refine Blk.drewN ?_ _ | refine Blk.drew ?_ | apply Blk.set | refine Blk.put ?_ (by assumption) (by first | (simp; done) | (simp; omega) | omega) | refine Blk.below ?_ (by assumption)) | (refine Blk.setAt ?_ (by first | (simp; done) | (simp; omega))) | rfl))
  clear Kw3_0 cw3_0 fw3_0 Kw3_1 cw3_1 fw3_1 Kw3_2 cw3_2 fw3_2
  obtain ⟨lw4_0, cw4_0, fw4_0⟩ := Kw4_0.out.use
  obtain ⟨lw4_1, cw4_1, fw4_1⟩ := Kw4_1.out.use
  obtain ⟨lw4_2, cw4_2, fw4_2⟩ := Kw4_2.out.use
  obtain ⟨lw4_3, cw4_3, fw4_3⟩ := Kw4_3.out.use
  go_wp2_with fail
  refine (HN.out _).mono ?_
  rintro e w5 ⟨rfl, hb5⟩
  go_wp2
  go_ret
  exact ⟨rfl, by repeat' (first | (with_reducible first | exact Below.refl _ _ | assumption | refine below_alloc ?_ _ | refine Below.drew ?_ | refine Go.Mq.below_drewN ?_ _ | refine below_then ?_ (by assumption) | refine below_put ?_ (by assumption) (by first | (simp; done) | (simp; omega) | omega) | refine Below.setCell ?_ ?_ _) | (simp; done) | (simp; omega) | omega)⟩

set_option maxHeartbeats 1000000 in
set_option maxRecDepth 100000 in
theorem main_ona (rl ct : Int) (rg : Bool) (a b : Int) (hr : U16 rl) (hc : U16 ct) (a0 : 0 ≤ a) (b0 : 0 ≤ b) (a1 : a ≤ 20000) (b1 : b ≤ 20000 - a) (hk : ct + 1 ≤ 20000) (w : World) :
    Calls Try.prog 3 #[.agg #[.int .u16 rl, .int .u16 ct, .bool true, .bool rg], .int .i64 a, .int .i64 b] w fun e w' => e = .returned (.bool true) ∧ Below w.heap.size w w' := by
  have hr1 := tmrun_ok ⟨rl, ct, true, rg⟩ ⟨hr, hc⟩ a a0 a1
  have hr2 := tmrun_ok (runTm ⟨rl, ct, true, rg⟩ a) (runTm_ok _ ⟨hr, hc⟩ a a0) b b0 (by omega)
  have hr3 := tmrun_ok ⟨rl, ct, true, rg⟩ ⟨hr, hc⟩ (a + b) (by omega) (by omega)
  rw [runTm_add _ ⟨hr, hc⟩ a b a0 b0] at hr2
  have hn := tmnext_any ⟨rl, ct, true, false⟩ ⟨hr, hc⟩
  simp only [nextTm, if_true] at hn
  obtain ⟨hc0, hc1⟩ := id hc
  obtain ⟨hr0, hr1'⟩ := id hr
  generalize runTm ⟨rl, ct, true, rg⟩ a = X at hr1 hr2
  generalize runTm ⟨rl, ct, true, rg⟩ (a + b) = Y at hr2 hr3
  obtain ⟨x1, x2, x3, x4⟩ := X
  obtain ⟨y1, y2, y3, y4⟩ := Y
  simp only at hr1 hr2 hr3
  have R1 := Lib.hid hr1
  have R2 := Lib.hid hr2
  have R3 := Lib.hid hr3
  have HN := Lib.hid hn
  clear hr1 hr2 hr3 hn
  have hr4 := tmrun_ok ⟨rl, ct, true, false⟩ ⟨hr, hc⟩ ct (by omega) (by omega)
  have hr5 := tmrun_ok ⟨rl, ct, true, false⟩ ⟨hr, hc⟩ (ct + 1) (by omega) (by omega)
  simp only [runTm, if_true, Int.le_refl, Int.sub_self] at hr4
  simp only [runTm, if_true, if_neg (show ¬ ct + 1 ≤ ct by omega)] at hr5
  have R4 := Lib.hid hr4
  have R5 := Lib.hid hr5
  clear hr4 hr5
  go_enter Try.func3, Try.ntmps3
  go_wp2_with fail
  refine (R1.out _).mono ?_
  rintro e w1 ⟨rfl, hb1⟩
  have Kw1_0 : Hid (Blk w1 (w.heap.size) #[.int .u16 rl, .int .u16 ct, .bool true, .bool rg] 24) := Lib.hid (by repeat' (first | (with_reducible first | exact Hid.out (by assumption) | exact Blk.new _ _ _ | (refine Blk.new_at _ _ _ _ ?_; simp; done) | refine Blk.alloc ?_ _ | refine Blk.drewN ?_ _ | refine Blk.drew ?_ | apply Blk.set | refine Blk.put ?_ (by assumption) (by first | (simp; done) | (simp; omega) | omega) | refine Blk.below ?_ (by assumption)) | (refine Blk.setAt ?_ (by first | (simp; done) | (simp; omega))) | rfl))
  obtain ⟨lw1_0, cw1_0, fw1_0⟩ := Kw1_0.out.use
  go_wp2_with fail
  refine (R2.out _).mono ?_
  rintro e w2 ⟨rfl, hb2⟩
  have Kw2_0 : Hid (Blk w2 (w.heap.size) #[.int .u16 rl, .int .u16 ct, .bool true, .bool rg] 24) := Lib.hid (by repeat' (first | (with_reducible first | exact Hid.out (by assumption) | exact Blk.new _ _ _ | (refine Blk.new_at _ _ _ _ ?_; simp; done) | refine Blk.alloc ?_ _ | refine Blk.drewN ?_ _ | refine Blk.drew ?_ | apply Blk.set | refine Blk.put ?_ (by assumption) (by first | (simp; done) | (simp; omega) | omega) | refine Blk.below ?_ (by assumption)) | (refine Blk.setAt ?_ (by first | (simp; done) | (simp; omega))) | rfl))
  have Kw2_1 : Hid (Blk w2 (w1.heap.size) #[.int .u16 x1, .int .u16 x2, .bool x3, .bool x4] 24) := Lib.hid (by repeat' (first | (with_reducible first | exact Hid.out (by assumption) | exact Blk.new _ _ _ | (refine Blk.new_at _ _ _ _ ?_; simp; done) | refine Blk.alloc ?_ _ | refine Blk.drewN ?_ _ | refine Blk.drew ?_ | apply Blk.set | refine Blk.put ?_ (by assumption) (by first | (simp; done) | (simp; omega) | omega) | refine Blk.below ?_ (by assumption)) | (refine Blk.setAt ?_ (by first | (simp; done) | (simp; omega))) | rfl))
  clear Kw1_0 cw1_0 fw1_0
  obtain ⟨lw2_0, cw2_0, fw2_0⟩ := Kw2_0.out.use
  obtain ⟨lw2_1, cw2_1, fw2_1⟩ := Kw2_1.out.use
  go_wp2_with fail
  refine (R3.out _).mono ?_
  rintro e w3 ⟨rfl, hb3⟩
  have Kw3_0 : Hid (Blk w3 (w.heap.size) #[.int .u16 rl, .int .u16 ct, .bool true, .bool rg] 24) := Lib.hid (by repeat' (first | (with_reducible first | exact Hid.out (by assumption) | exact Blk.new _ _ _ | (refine Blk.new_at _ _ _ _ ?_; simp; done) | refine Blk.alloc ?_ _ | refine Blk.drewN ?_ _ | refine Blk.drew ?_ | apply Blk.set | refine Blk.put ?_ (by assumption) (by first | (simp; done) | (simp; omega) | omega) | refine Blk.below ?_ (by assumption)) | (refine Blk.setAt ?_ (by first | (simp; done) | (simp; omega))) | rfl))
  have Kw3_1 : Hid (Blk w3 (w1.heap.size) #[.int .u16 x1, .int .u16 x2, .bool x3, .bool x4] 24) := Lib.hid (by repeat' (first | (with_reducible first | exact Hid.out (by assumption) | exact Blk.new _ _ _ | (refine Blk.new_at _ _ _ _ ?_; simp; done) | refine Blk.alloc ?_ _ | refine Blk.drewN ?_ _ | refine Blk.drew ?_ | apply Blk.set | refine Blk.put ?_ (by assumption) (by first | (simp; done) | (simp; omega) | omega) | refine Blk.below ?_ (by assumption)) | (refine Blk.setAt ?_ (by first | (simp; done) | (simp; omega))) | rfl))
  have Kw3_2 : Hid (Blk w3 (w2.heap.size) #[.int .u16 y1, .int .u16 y2, .bool y3, .bool y4] 24) := Lib.hid (by repeat' (first | (with_reducible first | exact Hid.out (by assumption) | exact Blk.new _ _ _ | (refine Blk.new_at _ _ _ _ ?_; simp; done) | refine Blk.alloc ?_ _ | refine Blk.drewN ?_ _ | refine Blk.drew ?_ | apply Blk.set | refine Blk.put ?_ (by assumption) (by first | (simp; done) | (simp; omega) | omega) | refine Blk.below ?_ (by assumption)) | (refine Blk.setAt ?_ (by first | (simp; done) | (simp; omega))) | rfl))
  clear Kw2_0 cw2_0 fw2_0 Kw2_1 cw2_1 fw2_1
  obtain ⟨lw3_0, cw3_0, fw3_0⟩ := Kw3_0.out.use
  obtain ⟨lw3_1, cw3_1, fw3_1⟩ := Kw3_1.out.use
  obtain ⟨lw3_2, cw3_2, fw3_2⟩ := Kw3_2.out.use
  go_wp2_with fail
  refine (timed_any _).mono ?_
  rintro e w4 ⟨rfl, hb4⟩
  have Kw4_0 : Hid (Blk w4 (w.heap.size) #[.int .u16 rl, .int .u16 ct, .bool true, .bool rg] 24) := Lib.hid (by repeat' (first | (with_reducible first | exact Hid.out (by assumption) | exact Blk.new _ _ _ | (refine Blk.new_at _ _ _ _ ?_; simp; done) | refine Blk.alloc ?_ _ | refine Blk.drewN ?_ _ | refine Blk.drew ?_ | apply Blk.set | refine Blk.put ?_ (by assumption) (by first | (simp; done) | (simp; omega) | omega) | refine Blk.below ?_ (by assumption)) | (refine Blk.setAt ?_ (by first | (simp; done) | (simp; omega))) | rfl))
  have Kw4_1 : Hid (Blk w4 (w1.heap.size) #[.int .u16 x1, .int .u16 x2, .bool x3, .bool x4] 24) := Lib.hid (by repeat' (first | (with_reducible first | exact Hid.out (by assumption) | exact Blk.new _ _ _ | (refine Blk.new_at _ _ _ _ ?_; simp; done) | refine Blk.alloc ?_ _ | refine Blk.drewN ?_ _ | refine Blk.drew ?_ | apply Blk.set | refine Blk.put ?_ (by assumption) (by first | (simp; done) | (simp; omega) | omega) | refine Blk.below ?_ (by assumption)) | (refine Blk.setAt ?_ (by first | (simp; done) | (simp; omega))) | rfl))
  have Kw4_2 : Hid (Blk w4 (w2.heap.size) #[.int .u16 y1, .int .u16 y2, .bool y3, .bool y4] 24) := Lib.hid (by repeat' (first | (with_reducible first | exact Hid.out (by assumption) | exact Blk.new _ _ _ | (refine Blk.new_at _ _ _ _ ?_; simp; done) | refine Blk.alloc ?_ _ | refine Blk.drewN ?_ _ | refine Blk.drew ?_ | apply Blk.set | refine Blk.put ?_ (by assumption) (by first | (simp; done) | (simp; omega) | omega) | refine Blk.below ?_ (by assumption)) | (refine Blk.setAt ?_ (by first | (simp; done) | (simp; omega))) | rfl))
  have Kw4_3 : Hid (Blk w4 (w3.heap.size) #[.int .u16 y1, .int .u16 y2, .bool y3, .bool y4] 24) := Lib.hid (by repeat' (first | (with_reducible first | exact Hid.out (by assumption) | exact Blk.new _ _ _ | (refine Blk.new_at _ _ _ _ ?_; simp; done) | refine Blk.alloc ?_ _ | refine Blk.drewN ?_ _ | refine Blk.drew ?_ | apply Blk.set | refine Blk.put ?_ (by assumption) (by first | (simp; done) | (simp; omega) | omega) | refine Blk.below ?_ (by assumption)) | (refine Blk.setAt ?_ (by first | (simp; done) | (simp; omega))) | rfl))
  clear Kw3_0 cw3_0 fw3_0 Kw3_1 cw3_1 fw3_1 Kw3_2 cw3_2 fw3_2
  obtain ⟨lw4_0, cw4_0, fw4_0⟩ := Kw4_0.out.use
  obtain ⟨lw4_1, cw4_1, fw4_1⟩ := Kw4_1.out.use
  obtain ⟨lw4_2, cw4_2, fw4_2⟩ := Kw4_2.out.use
  obtain ⟨lw4_3, cw4_3, fw4_3⟩ := Kw4_3.out.use
  go_wp2_with fail
  refine (HN.out _).mono ?_
  rintro e w5 ⟨rfl, hb5⟩
  have Kw5_0 : Hid (Blk w5 (w.heap.size) #[.int .u16 rl, .int .u16 ct, .bool true, .bool false] 24) := Lib.hid (by repeat' (first | (with_reducible first | exact Hid.out (by assumption) | exact Blk.new _ _ _ | (refine Blk.new_at _ _ _ _ ?_; simp; done) | refine Blk.alloc ?_ _ | refine Blk.drewN ?_ _ | refine Blk.drew ?_ | apply Blk.set | refine Blk.put ?_ (by assumption) (by first | (simp; done) | (simp; omega) | omega) | refine Blk.below ?_ (by assumption)) | (refine Blk.setAt ?_ (by first | (simp; done) | (simp; omega))) | rfl))
  have Kw5_1 : Hid (Blk w5 (w1.heap.size) #[.int .u16 x1, .int .u16 x2, .bool x3, .bool x4] 24) := Lib.hid (by repeat' (first | (with_reducible first | exact Hid.out (by assumption) | exact Blk.new _ _ _ | (refine Blk.new_at _ _ _ _ ?_; simp; done) | refine Blk.alloc ?_ _ | refine Blk.drewN ?_ _ | refine Blk.drew ?_ | apply Blk.set | refine Blk.put ?_ (by assumption) (by first | (simp; done) | (simp; omega) | omega) | refine Blk.below ?_ (by assumption)) | (refine Blk.setAt ?_ (by first | (simp; done) | (simp; omega))) | rfl))
  have Kw5_2 : Hid (Blk w5 (w2.heap.size) #[.int .u16 y1, .int .u16 y2, .bool y3, .bool y4] 24) := Lib.hid (by repeat' (first | (with_reducible first | exact Hid.out (by assumption) | exact Blk.new _ _ _ | (refine Blk.new_at _ _ _ _ ?_; simp; done) | refine Blk.alloc ?_ _ | refine Blk.drewN ?_ _ | refine Blk.drew ?_ | apply Blk.set | refine Blk.put ?_ (by assumption) (by first | (simp; done) | (simp; omega) | omega) | refine Blk.below ?_ (by assumption)) | (refine Blk.setAt ?_ (by first | (simp; done) | (simp; omega))) | rfl))
  clear Kw4_0 cw4_0 fw4_0 Kw4_1 cw4_1 fw4_1 Kw4_2 cw4_2 fw4_2 Kw4_3 cw4_3 fw4_3
  obtain ⟨lw5_0, cw5_0, fw5_0⟩ := Kw5_0.out.use
  obtain ⟨lw5_1, cw5_1, fw5_1⟩ := Kw5_1.out.use
  obtain ⟨lw5_2, cw5_2, fw5_2⟩ := Kw5_2.out.use
  go_wp2_with fail
  refine (R4.out _).mono ?_
  rintro e w6 ⟨rfl, hb6⟩
  have Kw6_0 : Hid (Blk w6 (w.heap.size) #[.int .u16 rl, .int .u16 ct, .bool true, .bool false] 24) := Lib.hid (by repeat' (first | (with_reducible first | exact Hid.out (by assumption) | exact Blk.new _ _ _ | (refine Blk.new_at _ _ _ _ ?_; simp; done) | refine Blk.alloc ?_ _ | refine Blk.drewN ?_ _ | refine Blk.drew ?_ | apply Blk.set | refine Blk.put ?_ (by assumption) (by first | (simp; done) | (simp; omega) | omega) | refine Blk.below ?_ (by assumption)) | (refine Blk.setAt ?_ (by first | (simp; done) | (simp; omega))) | rfl))
  have Kw6_1 : Hid (Blk w6 (w1.heap.size) #[.int .u16 x1, .int .u16 x2, .bool x3, .bool x4] 24) := Lib.hid (by repeat' (first | (with_reducible first | exact Hid.out (by assumption) | exact Blk.new _ _ _ | (refine Blk.new_at _ _ _ _ ?_; simp; done) | refine Blk.alloc ?_ _ | refine Blk.drewN ?_ _ | refine Blk.drew ?_ | apply Blk.set | refine Blk.put ?_ (by assumption) (by first | (simp; done) | (simp; omega) | omega) | refine Blk.below ?_ (by assumption)) | (refine Blk.setAt ?_ (by first | (simp; done) | (simp; omega))) | rfl))
  have Kw6_2 : Hid (Blk w6 (w2.heap.size) #[.int .u16 y1, .int .u16 y2, .bool y3, .bool y4] 24) := Lib.hid (by repeat' (first | (with_reducible first | exact Hid.out (by assumption) | exact Blk.new _ _ _ | (refine Blk.new_at _ _ _ _ ?_; simp; done) | refine Blk.alloc ?_ _ | refine Blk.drewN ?_ _ | refine Blk.drew ?_ | apply Blk.set | refine Blk.put ?_ (by assumption) (by first | (simp; done) | (simp; omega) | omega) | refine Blk.below ?_ (by assumption)) | (refine Blk.setAt ?_ (by first | (simp; done) | (simp; omega))) | rfl))
  clear Kw5_0 cw5_0 fw5_0 Kw5_1 cw5_1 fw5_1 Kw5_2 cw5_2 fw5_2
  obtain ⟨lw6_0, cw6_0, fw6_0⟩ := Kw6_0.out.use
  obtain ⟨lw6_1, cw6_1, fw6_1⟩ := Kw6_1.out.use
  obtain ⟨lw6_2, cw6_2, fw6_2⟩ := Kw6_2.out.use
  go_wp2_with fail
  refine (R5.out _).mono ?_
  rintro e w7 ⟨rfl, hb7⟩
  have Kw7_0 : Hid (Blk w7 (w1.heap.size) #[.int .u16 rl, .int .u16 0, .bool true, .bool false] 24) := Lib.hid (by repeat' (first | (with_reducible first | exact Hid.out (by assumption) | exact Blk.new _ _ _ | (refine Blk.new_at _ _ _ _ ?_; simp; done) | refine Blk.alloc ?_ _ | refine Blk.drewN ?_ _ | refine Blk.drew ?_ | apply Blk.set | refine Blk.put ?_ (by assumption) (by first | (simp; done) | (simp; omega) | omega) | refine Blk.below ?_ (by assumption)) | (refine Blk.setAt ?_ (by first | (simp; done) | (simp; omega))) | rfl))
  have Kw7_1 : Hid (Blk w7 (w2.heap.size) #[.int .u16 y1, .int .u16 y2, .bool y3, .bool y4] 24) := Lib.hid (by repeat' (first | (with_reducible first | exact Hid.out (by assumption) | exact Blk.new _ _ _ | (refine Blk.new_at _ _ _ _ ?_; simp; done) | refine Blk.alloc ?_ _ | refine Blk.drewN ?_ _ | refine Blk.drew ?_ | apply Blk.set | refine Blk.put ?_ (by assumption) (by first | (simp; done) | (simp; omega) | omega) | refine Blk.below ?_ (by assumption)) | (refine Blk.setAt ?_ (by first | (simp; done) | (simp; omega))) | rfl))
  clear Kw6_0 cw6_0 fw6_0 Kw6_1 cw6_1 fw6_1 Kw6_2 cw6_2 fw6_2
  obtain ⟨lw7_0, cw7_0, fw7_0⟩ := Kw7_0.out.use
  obtain ⟨lw7_1, cw7_1, fw7_1⟩ := Kw7_1.out.use
  go_wp2
  go_ret
  exact ⟨rfl, by repeat' (first | (with_reducible first | exact Below.refl _ _ | assumption | refine below_alloc ?_ _ | refine Below.drew ?_ | refine Go.Mq.below_drewN ?_ _ | refine below_then ?_ (by assumption) | refine below_put ?_ (by assumption) (by first | (simp; done) | (simp; omega) | omega) | refine Below.setCell ?_ ?_ _) | (simp; done) | (simp; omega) | omega)⟩

set_option maxHeartbeats 1000000 in
set_option maxRecDepth 100000 in
theorem main_onb (rl ct : Int) (rg : Bool) (a b : Int) (hr : U16 rl) (hc : U16 ct) (a0 : 0 ≤ a) (b0 : 0 ≤ b) (a1 : a ≤ 20000) (b1 : b ≤ 20000 - a) (hk : ¬ ct + 1 ≤ 20000) (w : World) :
    Calls Try.prog 3 #[.agg #[.int .u16 rl, .int .u16 ct, .bool true, .bool rg], .int .i64 a, .int .i64 b] w fun e w' => e = .returned (.bool true) ∧ Below w.heap.size w w' := by
  have hr1 := tmrun_ok ⟨rl, ct, true, rg⟩ ⟨hr, hc⟩ a a0 a1
  have hr2 := tmrun_ok (runTm ⟨rl, ct, true, rg⟩ a) (runTm_ok _ ⟨hr, hc⟩ a a0) b b0 (by omega)
  have hr3 := tmrun_ok ⟨rl, ct, true, rg⟩ ⟨hr, hc⟩ (a + b) (by omega) (by omega)
  rw [runTm_add _ ⟨hr, hc⟩ a b a0 b0] at hr2
  have hn := tmnext_any ⟨rl, ct, true, false⟩ ⟨hr, hc⟩
  simp only [nextTm, if_true] at hn
  obtain ⟨hc0, hc1⟩ := id hc
  obtain ⟨hr0, hr1'⟩ := id hr
  generalize runTm ⟨rl, ct, true, rg⟩ a = X at hr1 hr2
  generalize runTm ⟨rl, ct, true, rg⟩ (a + b) = Y at hr2 hr3
  obtain ⟨x1, x2, x3, x4⟩ := X
  obtain ⟨y1, y2, y3, y4⟩ := Y
  simp only at hr1 hr2 hr3
  have R1 := Lib.hid hr1
  have R2 := Lib.hid hr2
  have R3 := Lib.hid hr3
  have HN := Lib.hid hn
  clear hr1 hr2 hr3 hn
  go_enter Try.func3, Try.ntmps3
  go_wp2_with fail
  refine (R1.out _).mono ?_
  rintro e w1 ⟨rfl, hb1⟩
  have Kw1_0 : Hid (Blk w1 (w.heap.size) #[.int .u16 rl, .int .u16 ct, .bool true, .bool rg] 24) := Lib.hid (by repeat' (first | (with_reducible first | exact Hid.out (by assumption) | exact Blk.new _ _ _ | (refine Blk.new_at _ _ _ _ ?_; simp; done) | refine Blk.alloc ?_ _ | refine Blk.drewN ?_ _ | refine Blk.drew ?_ | apply Blk.set | refine Blk.put ?_ (by assumption) (by first | (simp; done) | (simp; omega) | omega) | refine Blk.below ?_ (by assumption)) | (refine Blk.setAt ?_ (by first | (simp; done) | (simp; omega))) | rfl))
  obtain ⟨lw1_0, cw1_0, fw1_0⟩ := Kw1_0.out.use
  go_wp2_with fail
  refine (R2.out _).mono ?_
  rintro e w2 ⟨rfl, hb2⟩
  have Kw2_0 : Hid (Blk w2 (w.heap.size) #[.int .u16 rl, .int .u16 ct, .bool true, .bool rg] 24) := Lib.hid (by repeat' (first | (with_reducible first | exact Hid.out (by assumption) | exact Blk.new _ _ _ | (refine Blk.new_at _ _ _ _ ?_; simp; done) | refine Blk.alloc ?_ _ | refine Blk.drewN ?_ _ | refine Blk.drew ?_ | apply Blk.set | refine Blk.put ?_ (by assumption) (by first | (simp; done) | (simp; omega) | omega) | refine Blk.below ?_ (by assumption)) | (refine Blk.setAt ?_ (by first | (simp; done) | (simp; omega))) | rfl))
  have Kw2_1 : Hid (Blk w2 (w1.heap.size) #[.int .u16 x1, .int .u16 x2, .bool x3, .bool x4] 24) := Lib.hid (by repeat' (first | (with_reducible first | exact Hid.out (by assumption) | exact Blk.new _ _ _ | (refine Blk.new_at _ _ _ _ ?_; simp; done) | refine Blk.alloc ?_ _ | refine Blk.drewN ?_ _ | refine Blk.drew ?_ | apply Blk.set | refine Blk.put ?_ (by assumption) (by first | (simp; done) | (simp; omega) | omega) | refine Blk.below ?_ (by assumption)) | (refine Blk.setAt ?_ (by first | (simp; done) | (simp; omega))) | rfl))
  clear Kw1_0 cw1_0 fw1_0
  obtain ⟨lw2_0, cw2_0, fw2_0⟩ := Kw2_0.out.use
  obtain ⟨lw2_1, cw2_1, fw2_1⟩ := Kw2_1.out.use
  go_wp2_with fail
  refine (R3.out _).mono ?_
  rintro e w3 ⟨rfl, hb3⟩
  have Kw3_0 : Hid (Blk w3 (w.heap.size) #[.int .u16 rl, .int .u16 ct, .bool true, .bool rg] 24) := Lib.hid (by repeat' (first | (with_reducible first | exact Hid.out (by assumption) | exact Blk.new _ _ _ | (refine Blk.new_at _ _ _ _ ?_; simp; done) | refine Blk.alloc ?_ _ | refine Blk.drewN ?_ _ | refine Blk.drew ?_ | apply Blk.set | refine Blk.put ?_ (by assumption) (by first | (simp; done) | (simp; omega) | omega) | refine Blk.below ?_ (by assumption)) | (refine Blk.setAt ?_ (by first | (simp; done) | (simp; omega))) | rfl))
  have Kw3_1 : Hid (Blk w3 (w1.heap.size) #[.int .u16 x1, .int .u16 x2, .bool x3, .bool x4] 24) := Lib.hid (by repeat' (first | (with_reducible first | exact Hid.out (by assumption) | exact Blk.new _ _ _ | (refine Blk.new_at _ _ _ _ ?_; simp; done) | refine Blk.alloc ?_ _ | refine Blk.drewN ?_ _ | refine Blk.drew ?_ | apply Blk.set | refine Blk.put ?_ (by assumption) (by first | (simp; done) | (simp; omega) | omega) | refine Blk.below ?_ (by assumption)) | (refine Blk.setAt ?_ (by first | (simp; done) | (simp; omega))) | rfl))
  have Kw3_2 : Hid (Blk w3 (w2.heap.size) #[.int .u16 y1, .int .u16 y2, .bool y3, .bool y4] 24) := Lib.hid (by repeat' (first | (with_reducible first | exact Hid.out (by assumption) | exact Blk.new _ _ _ | (refine Blk.new_at _ _ _ _ ?_; simp; done) | refine Blk.alloc ?_ _ | refine Blk.drewN ?_ _ | refine Blk.drew ?_ | apply Blk.set | refine Blk.put ?_ (by assumption) (by first | (simp; done) | (simp; omega) | omega) | refine Blk.below ?_ (by assumption)) | (refine Blk.setAt ?_ (by first | (simp; done) | (simp; omega))) | rfl))
  clear Kw2_0 cw2_0 fw2_0 Kw2_1 cw2_1 fw2_1
  obtain ⟨lw3_0, cw3_0, fw3_0⟩ := Kw3_0.out.use
  obtain ⟨lw3_1, cw3_1, fw3_1⟩ := Kw3_1.out.use
  obtain ⟨lw3_2, cw3_2, fw3_2⟩ := Kw3_2.out.use
  go_wp2_with fail
  refine (timed_any _).mono ?_
  rintro e w4 ⟨rfl, hb4⟩
  have Kw4_0 : Hid (Blk w4 (w.heap.size) #[.int .u16 rl, .int .u16 ct, .bool true, .bool rg] 24) := Lib.hid (by repeat' (first | (with_reducible first | exact Hid.out (by assumption) | exact Blk.new _ _ _ | (refine Blk.new_at _ _ _ _ ?_; simp; done) | refine Blk.alloc ?_ _ | refine Blk.drewN ?_ _ | refine Blk.drew ?_ | apply Blk.set | refine Blk.put ?_ (by assumption) (by first | (simp; done) | (simp; omega) | omega) | refine Blk.below ?_ (by assumption)) | (refine Blk.setAt ?_ (by first | (simp; done) | (simp; omega))) | rfl))
  have Kw4_1 : Hid (Blk w4 (w1.heap.size) #[.int .u16 x1, .int .u16 x2, .bool x3, .bool x4] 24) := Lib.hid (by repeat' (first | (with_reducible first | exact Hid.out (by assumption) | exact Blk.new _ _ _ | (refine Blk.new_at _ _ _ _ ?_; simp; done) | refine Blk.alloc ?_ _ | refine Blk.drewN ?_ _ | refine Blk.drew ?_ | apply Blk.set | refine Blk.put ?_ (by assumption) (by first | (simp; done) | (simp; omega) | omega) | refine Blk.below ?_ (by assumption)) | (refine Blk.setAt ?_ (by first | (simp; done) | (simp; omega))) | rfl))
  have Kw4_2 : Hid (Blk w4 (w2.heap.size) #[.int .u16 y1, .int .u16 y2, .bool y3, .bool y4] 24) := Lib.hid (by repeat' (first | (with_reducible first | exact Hid.out (by assumption) | exact Blk.new _ _ _ | (refine Blk.new_at _ _ _ _ ?_; simp; done) | refine Blk.alloc ?_ _ | refine Blk.drewN ?_ _ | refine Blk.drew ?_ | apply Blk.set | refine Blk.put ?_ (by assumption) (by first | (simp; done) | (simp; omega) | omega) | refine Blk.below ?_ (by assumption)) | (refine Blk.setAt ?_ (by first | (simp; done) | (simp; omega))) | rfl))
  have Kw4_3 : Hid (Blk w4 (w3.heap.size) #[.int .u16 y1, .int .u16 y2, .bool y3, .bool y4] 24) := Lib.hid (by repeat' (first | (with_reducible first | exact Hid.out (by assumption) | exact Blk.new _ _ _ | (refine Blk.new_at _ _ _ _ ?_; simp; done) | refine Blk.alloc ?_ _ | refine Blk.drewN ?_ _ | refine Blk.drew ?_ | apply Blk.set | refine Blk.put ?_ (by assumption) (by first | (simp; done) | (simp; omega) | omega) | refine Blk.below ?_ (by assumption)) | (refine Blk.setAt ?_ (by first | (simp; done) | (simp; omega))) | rfl))
  clear Kw3_0 cw3_0 fw3_0 Kw3_1 cw3_1 fw3_1 Kw3_2 cw3_2 fw3_2
  obtain ⟨lw4_0, cw4_0, fw4_0⟩ := Kw4_0.out.use
  obtain ⟨lw4_1, cw4_1, fw4_1⟩ := Kw4_1.out.use
  obtain ⟨lw4_2, cw4_2, fw4_2⟩ := Kw4_2.out.use
  obtain ⟨lw4_3, cw4_3, fw4_3⟩ := Kw4_3.out.use
  go_wp2_with fail
  refine (HN.out _).mono ?_
  rintro e w5 ⟨rfl, hb5⟩
  go_wp2
  go_ret
  exact ⟨ret1 (vb (decide_eq_true (by omega))), by repeat' (first | (with_reducible first | exact Below.refl _ _ | assumption | refine below_alloc ?_ _ | refine Below.drew ?_ | refine Go.Mq.below_drewN ?_ _ | refine below_then ?_ (by assumption) | refine below_put ?_ (by assumption) (by first | (simp; done) | (simp; omega) | omega) | refine Below.setCell ?_ ?_ _) | (simp; done) | (simp; omega) | omega)⟩

theorem walk (rl ct : Int) (on rg : Bool) (a b : Int) (hr : U16 rl) (hc : U16 ct) (_ha : I64 a) (_hb : I64 b) (w : World) :
    Calls Try.prog 3 #[.agg #[.int .u16 rl, .int .u16 ct, .bool on, .bool rg], .int .i64 a, .int .i64 b] w fun e w' => e = .returned (.bool true) ∧ Below w.heap.size w w' := by
  by_cases h : a < 0 ∨ b < 0 ∨ 20000 < a ∨ (0 ≤ a ∧ a ≤ 20000 ∧ 20000 - a < b)
  · exact early ⟨rl, ct, on, rg⟩ a b h w
  · cases on
    · exact main_off rl ct rg a b hr hc (by omega) (by omega) (by omega) (by omega) w
    · by_cases hk : ct + 1 ≤ 20000
      · exact main_ona rl ct rg a b hr hc (by omega) (by omega) (by omega) (by omega) hk w
      · exact main_onb rl ct rg a b hr hc (by omega) (by omega) (by omega) (by omega) hk w
end Go.Proofs.Ytncnjdkabkeepaa.timerParts
