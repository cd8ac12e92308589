/- BeamRuns: for every beam and every number the law answers true. Conditions: none. -/
import Derived.Test.YtegilgnpkcjhpaaBeam
namespace Go.Proofs.Ytegilgnpkcjhpaa.beamRuns
open Go.RowKit Go.Mq
set_option linter.unusedVariables false
set_option linter.unusedSimpArgs false
set_option maxHeartbeats 1000000
set_option maxRecDepth 100000

theorem bad0 (b : Bm) (n : Int) (h : ¬ b.Ok) (hk : BadAt b.ln b.pt b.fr 0) (w : World) :
    Calls Try.prog 14 #[.agg #[.int .i64 b.ln, .int .i64 b.pt, .bool b.rg, .int .i64 b.fr], .int .i64 n] w fun e w' => e = .returned (.bool true) ∧ Below w.heap.size w w' := by
  have hr := beamrun_bad b n h
  have hn := bnext_bad b h
  have hc := bcheck_bad b h
  obtain ⟨ln, pt, rg, fr⟩ := b
  simp only [BadAt] at hr hn hc hk
  obtain g0 := hk
  have R := Lib.hid hr
  have NX := Lib.hid hn
  have C := Lib.hid hc
  clear hr h hn hc
  go_enter Try.func14, Try.ntmps14
  go_wp2_with fail
  refine (R.out _).mono ?_
  rintro e w1 ⟨rfl, hb1⟩
  have Kw1_0 : Hid (Blk w1 (w.heap.size) #[.int .i64 ln, .int .i64 pt, .bool rg, .int .i64 fr] 59) := Lib.hid (by repeat' (first | (with_reducible first | exact Hid.out (by assumption) | exact Blk.new _ _ _ | (refine Blk.new_at _ _ _ _ ?_; simp; done) | refine Blk.alloc ?_ _ | refine Blk.drewN ?_ _ | refine Blk.drew ?_ | apply Blk.set | refine Blk.below ?_ (by assumption)) | (refine Blk.setAt ?_ ?_; rotate_left; (first | (simp; done) | (simp; omega))) | rfl))
  obtain ⟨lw1_0, cw1_0, fw1_0⟩ := Kw1_0.out.use
  go_wp2_with fail
  refine (NX.out _).mono ?_
  rintro e w2 ⟨rfl, hb2⟩
  have Kw2_0 : Hid (Blk w2 (w.heap.size) #[.int .i64 ln, .int .i64 pt, .bool rg, .int .i64 fr] 59) := Lib.hid (by repeat' (first | (with_reducible first | exact Hid.out (by assumption) | exact Blk.new _ _ _ | (refine Blk.new_at _ _ _ _ ?_; simp; done) | refine Blk.alloc ?_ _ | refine Blk.drewN ?_ _ | refine Blk.drew ?_ | apply Blk.set | refine Blk.below ?_ (by assumption)) | (refine Blk.setAt ?_ ?_; rotate_left; (first | (simp; done) | (simp; omega))) | rfl))
  have Kw2_1 : Hid (Blk w2 (w1.heap.size) #[.int .i64 0, .int .i64 0, .bool false, .int .i64 0] 59) := Lib.hid (by repeat' (first | (with_reducible first | exact Hid.out (by assumption) | exact Blk.new _ _ _ | (refine Blk.new_at _ _ _ _ ?_; simp; done) | refine Blk.alloc ?_ _ | refine Blk.drewN ?_ _ | refine Blk.drew ?_ | apply Blk.set | refine Blk.below ?_ (by assumption)) | (refine Blk.setAt ?_ ?_; rotate_left; (first | (simp; done) | (simp; omega))) | rfl))
  clear Kw1_0 cw1_0 fw1_0
  obtain ⟨lw2_0, cw2_0, fw2_0⟩ := Kw2_0.out.use
  obtain ⟨lw2_1, cw2_1, fw2_1⟩ := Kw2_1.out.use
  go_wp2_with fail
  refine (beamed_any _).mono ?_
  rintro e w3 ⟨rfl, hb3⟩
  have Kw3_0 : Hid (Blk w3 (w.heap.size) #[.int .i64 ln, .int .i64 pt, .bool rg, .int .i64 fr] 59) := Lib.hid (by repeat' (first | (with_reducible first | exact Hid.out (by assumption) | exact Blk.new _ _ _ | (refine Blk.new_at _ _ _ _ ?_; simp; done) | refine Blk.alloc ?_ _ | refine Blk.drewN ?_ _ | refine Blk.drew ?_ | apply Blk.set | refine Blk.below ?_ (by assumption)) | (refine Blk.setAt ?_ ?_; rotate_left; (first | (simp; done) | (simp; omega))) | rfl))
  have Kw3_1 : Hid (Blk w3 (w1.heap.size) #[.int .i64 0, .int .i64 0, .bool false, .int .i64 0] 59) := Lib.hid (by repeat' (first | (with_reducible first | exact Hid.out (by assumption) | exact Blk.new _ _ _ | (refine Blk.new_at _ _ _ _ ?_; simp; done) | refine Blk.alloc ?_ _ | refine Blk.drewN ?_ _ | refine Blk.drew ?_ | apply Blk.set | refine Blk.below ?_ (by assumption)) | (refine Blk.setAt ?_ ?_; rotate_left; (first | (simp; done) | (simp; omega))) | rfl))
  clear Kw2_0 cw2_0 fw2_0 Kw2_1 cw2_1 fw2_1
  obtain ⟨lw3_0, cw3_0, fw3_0⟩ := Kw3_0.out.use
  obtain ⟨lw3_1, cw3_1, fw3_1⟩ := Kw3_1.out.use
  go_wp2_with fail
  refine (C.out _).mono ?_
  rintro e w4 ⟨rfl, hb4⟩
  have Kw4_0 : Hid (Blk w4 (w.heap.size) #[.int .i64 ln, .int .i64 pt, .bool rg, .int .i64 fr] 59) := Lib.hid (by repeat' (first | (with_reducible first | exact Hid.out (by assumption) | exact Blk.new _ _ _ | (refine Blk.new_at _ _ _ _ ?_; simp; done) | refine Blk.alloc ?_ _ | refine Blk.drewN ?_ _ | refine Blk.drew ?_ | apply Blk.set | refine Blk.below ?_ (by assumption)) | (refine Blk.setAt ?_ ?_; rotate_left; (first | (simp; done) | (simp; omega))) | rfl))
  have Kw4_1 : Hid (Blk w4 (w1.heap.size) #[.int .i64 0, .int .i64 0, .bool false, .int .i64 0] 59) := Lib.hid (by repeat' (first | (with_reducible first | exact Hid.out (by assumption) | exact Blk.new _ _ _ | (refine Blk.new_at _ _ _ _ ?_; simp; done) | refine Blk.alloc ?_ _ | refine Blk.drewN ?_ _ | refine Blk.drew ?_ | apply Blk.set | refine Blk.below ?_ (by assumption)) | (refine Blk.setAt ?_ ?_; rotate_left; (first | (simp; done) | (simp; omega))) | rfl))
  clear Kw3_0 cw3_0 fw3_0 Kw3_1 cw3_1 fw3_1
  obtain ⟨lw4_0, cw4_0, fw4_0⟩ := Kw4_0.out.use
  obtain ⟨lw4_1, cw4_1, fw4_1⟩ := Kw4_1.out.use
  go_wp2
  go_ret
  exact ⟨rfl, by repeat' (first | (with_reducible first | exact Below.refl _ _ | assumption | refine below_alloc ?_ _ | refine Below.drew ?_ | refine below_drewN ?_ _ | refine below_then ?_ (by assumption) | refine Below.setCell ?_ ?_ _) | (simp; done) | (simp; omega) | omega)⟩
theorem bad1 (b : Bm) (n : Int) (h : ¬ b.Ok) (hk : BadAt b.ln b.pt b.fr 1) (w : World) :
    Calls Try.prog 14 #[.agg #[.int .i64 b.ln, .int .i64 b.pt, .bool b.rg, .int .i64 b.fr], .int .i64 n] w fun e w' => e = .returned (.bool true) ∧ Below w.heap.size w w' := by
  have hr := beamrun_bad b n h
  have hn := bnext_bad b h
  have hc := bcheck_bad b h
  obtain ⟨ln, pt, rg, fr⟩ := b
  simp only [BadAt] at hr hn hc hk
  obtain ⟨g0, g1⟩ := hk
  have R := Lib.hid hr
  have NX := Lib.hid hn
  have C := Lib.hid hc
  clear hr h hn hc
  go_enter Try.func14, Try.ntmps14
  go_wp2_with fail
  refine (R.out _).mono ?_
  rintro e w1 ⟨rfl, hb1⟩
  have Kw1_0 : Hid (Blk w1 (w.heap.size) #[.int .i64 ln, .int .i64 pt, .bool rg, .int .i64 fr] 59) := Lib.hid (by repeat' (first | (with_reducible first | exact Hid.out (by assumption) | exact Blk.new _ _ _ | (refine Blk.new_at _ _ _ _ ?_; simp; done) | refine Blk.alloc ?_ _ | refine Blk.drewN ?_ _ | refine Blk.drew ?_ | apply Blk.set | refine Blk.below ?_ (by assumption)) | (refine Blk.setAt ?_ ?_; rotate_left; (first | (simp; done) | (simp; omega))) | rfl))
  obtain ⟨lw1_0, cw1_0, fw1_0⟩ := Kw1_0.out.use
  go_wp2_with fail
  refine (NX.out _).mono ?_
  rintro e w2 ⟨rfl, hb2⟩
  have Kw2_0 : Hid (Blk w2 (w.heap.size) #[.int .i64 ln, .int .i64 pt, .bool rg, .int .i64 fr] 59) := Lib.hid (by repeat' (first | (with_reducible first | exact Hid.out (by assumption) | exact Blk.new _ _ _ | (refine Blk.new_at _ _ _ _ ?_; simp; done) | refine Blk.alloc ?_ _ | refine Blk.drewN ?_ _ | refine Blk.drew ?_ | apply Blk.set | refine Blk.below ?_ (by assumption)) | (refine Blk.setAt ?_ ?_; rotate_left; (first | (simp; done) | (simp; omega))) | rfl))
  have Kw2_1 : Hid (Blk w2 (w1.heap.size) #[.int .i64 0, .int .i64 0, .bool false, .int .i64 0] 59) := Lib.hid (by repeat' (first | (with_reducible first | exact Hid.out (by assumption) | exact Blk.new _ _ _ | (refine Blk.new_at _ _ _ _ ?_; simp; done) | refine Blk.alloc ?_ _ | refine Blk.drewN ?_ _ | refine Blk.drew ?_ | apply Blk.set | refine Blk.below ?_ (by assumption)) | (refine Blk.setAt ?_ ?_; rotate_left; (first | (simp; done) | (simp; omega))) | rfl))
  clear Kw1_0 cw1_0 fw1_0
  obtain ⟨lw2_0, cw2_0, fw2_0⟩ := Kw2_0.out.use
  obtain ⟨lw2_1, cw2_1, fw2_1⟩ := Kw2_1.out.use
  go_wp2_with fail
  refine (beamed_any _).mono ?_
  rintro e w3 ⟨rfl, hb3⟩
  have Kw3_0 : Hid (Blk w3 (w.heap.size) #[.int .i64 ln, .int .i64 pt, .bool rg, .int .i64 fr] 59) := Lib.hid (by repeat' (first | (with_reducible first | exact Hid.out (by assumption) | exact Blk.new _ _ _ | (refine Blk.new_at _ _ _ _ ?_; simp; done) | refine Blk.alloc ?_ _ | refine Blk.drewN ?_ _ | refine Blk.drew ?_ | apply Blk.set | refine Blk.below ?_ (by assumption)) | (refine Blk.setAt ?_ ?_; rotate_left; (first | (simp; done) | (simp; omega))) | rfl))
  have Kw3_1 : Hid (Blk w3 (w1.heap.size) #[.int .i64 0, .int .i64 0, .bool false, .int .i64 0] 59) := Lib.hid (by repeat' (first | (with_reducible first | exact Hid.out (by assumption) | exact Blk.new _ _ _ | (refine Blk.new_at _ _ _ _ ?_; simp; done) | refine Blk.alloc ?_ _ | refine Blk.drewN ?_ _ | refine Blk.drew ?_ | apply Blk.set | refine Blk.below ?_ (by assumption)) | (refine Blk.setAt ?_ ?_; rotate_left; (first | (simp; done) | (simp; omega))) | rfl))
  clear Kw2_0 cw2_0 fw2_0 Kw2_1 cw2_1 fw2_1
  obtain ⟨lw3_0, cw3_0, fw3_0⟩ := Kw3_0.out.use
  obtain ⟨lw3_1, cw3_1, fw3_1⟩ := Kw3_1.out.use
  go_wp2_with fail
  refine (C.out _).mono ?_
  rintro e w4 ⟨rfl, hb4⟩
  have Kw4_0 : Hid (Blk w4 (w.heap.size) #[.int .i64 ln, .int .i64 pt, .bool rg, .int .i64 fr] 59) := Lib.hid (by repeat' (first | (with_reducible first | exact Hid.out (by assumption) | exact Blk.new _ _ _ | (refine Blk.new_at _ _ _ _ ?_; simp; done) | refine Blk.alloc ?_ _ | refine Blk.drewN ?_ _ | refine Blk.drew ?_ | apply Blk.set | refine Blk.below ?_ (by assumption)) | (refine Blk.setAt ?_ ?_; rotate_left; (first | (simp; done) | (simp; omega))) | rfl))
  have Kw4_1 : Hid (Blk w4 (w1.heap.size) #[.int .i64 0, .int .i64 0, .bool false, .int .i64 0] 59) := Lib.hid (by repeat' (first | (with_reducible first | exact Hid.out (by assumption) | exact Blk.new _ _ _ | (refine Blk.new_at _ _ _ _ ?_; simp; done) | refine Blk.alloc ?_ _ | refine Blk.drewN ?_ _ | refine Blk.drew ?_ | apply Blk.set | refine Blk.below ?_ (by assumption)) | (refine Blk.setAt ?_ ?_; rotate_left; (first | (simp; done) | (simp; omega))) | rfl))
  clear Kw3_0 cw3_0 fw3_0 Kw3_1 cw3_1 fw3_1
  obtain ⟨lw4_0, cw4_0, fw4_0⟩ := Kw4_0.out.use
  obtain ⟨lw4_1, cw4_1, fw4_1⟩ := Kw4_1.out.use
  go_wp2
  go_ret
  exact ⟨rfl, by repeat' (first | (with_reducible first | exact Below.refl _ _ | assumption | refine below_alloc ?_ _ | refine Below.drew ?_ | refine below_drewN ?_ _ | refine below_then ?_ (by assumption) | refine Below.setCell ?_ ?_ _) | (simp; done) | (simp; omega) | omega)⟩
theorem bad2 (b : Bm) (n : Int) (h : ¬ b.Ok) (hk : BadAt b.ln b.pt b.fr 2) (w : World) :
    Calls Try.prog 14 #[.agg #[.int .i64 b.ln, .int .i64 b.pt, .bool b.rg, .int .i64 b.fr], .int .i64 n] w fun e w' => e = .returned (.bool true) ∧ Below w.heap.size w w' := by
  have hr := beamrun_bad b n h
  have hn := bnext_bad b h
  have hc := bcheck_bad b h
  obtain ⟨ln, pt, rg, fr⟩ := b
  simp only [BadAt] at hr hn hc hk
  obtain ⟨g0, g1, g2⟩ := hk
  have R := Lib.hid hr
  have NX := Lib.hid hn
  have C := Lib.hid hc
  clear hr h hn hc
  go_enter Try.func14, Try.ntmps14
  go_wp2_with fail
  refine (R.out _).mono ?_
  rintro e w1 ⟨rfl, hb1⟩
  have Kw1_0 : Hid (Blk w1 (w.heap.size) #[.int .i64 ln, .int .i64 pt, .bool rg, .int .i64 fr] 59) := Lib.hid (by repeat' (first | (with_reducible first | exact Hid.out (by assumption) | exact Blk.new _ _ _ | (refine Blk.new_at _ _ _ _ ?_; simp; done) | refine Blk.alloc ?_ _ | refine Blk.drewN ?_ _ | refine Blk.drew ?_ | apply Blk.set | refine Blk.below ?_ (by assumption)) | (refine Blk.setAt ?_ ?_; rotate_left; (first | (simp; done) | (simp; omega))) | rfl))
  obtain ⟨lw1_0, cw1_0, fw1_0⟩ := Kw1_0.out.use
  go_wp2_with fail
  refine (NX.out _).mono ?_
  rintro e w2 ⟨rfl, hb2⟩
  have Kw2_0 : Hid (Blk w2 (w.heap.size) #[.int .i64 ln, .int .i64 pt, .bool rg, .int .i64 fr] 59) := Lib.hid (by repeat' (first | (with_reducible first | exact Hid.out (by assumption) | exact Blk.new _ _ _ | (refine Blk.new_at _ _ _ _ ?_; simp; done) | refine Blk.alloc ?_ _ | refine Blk.drewN ?_ _ | refine Blk.drew ?_ | apply Blk.set | refine Blk.below ?_ (by assumption)) | (refine Blk.setAt ?_ ?_; rotate_left; (first | (simp; done) | (simp; omega))) | rfl))
  have Kw2_1 : Hid (Blk w2 (w1.heap.size) #[.int .i64 0, .int .i64 0, .bool false, .int .i64 0] 59) := Lib.hid (by repeat' (first | (with_reducible first | exact Hid.out (by assumption) | exact Blk.new _ _ _ | (refine Blk.new_at _ _ _ _ ?_; simp; done) | refine Blk.alloc ?_ _ | refine Blk.drewN ?_ _ | refine Blk.drew ?_ | apply Blk.set | refine Blk.below ?_ (by assumption)) | (refine Blk.setAt ?_ ?_; rotate_left; (first | (simp; done) | (simp; omega))) | rfl))
  clear Kw1_0 cw1_0 fw1_0
  obtain ⟨lw2_0, cw2_0, fw2_0⟩ := Kw2_0.out.use
  obtain ⟨lw2_1, cw2_1, fw2_1⟩ := Kw2_1.out.use
  go_wp2_with fail
  refine (beamed_any _).mono ?_
  rintro e w3 ⟨rfl, hb3⟩
  have Kw3_0 : Hid (Blk w3 (w.heap.size) #[.int .i64 ln, .int .i64 pt, .bool rg, .int .i64 fr] 59) := Lib.hid (by repeat' (first | (with_reducible first | exact Hid.out (by assumption) | exact Blk.new _ _ _ | (refine Blk.new_at _ _ _ _ ?_; simp; done) | refine Blk.alloc ?_ _ | refine Blk.drewN ?_ _ | refine Blk.drew ?_ | apply Blk.set | refine Blk.below ?_ (by assumption)) | (refine Blk.setAt ?_ ?_; rotate_left; (first | (simp; done) | (simp; omega))) | rfl))
  have Kw3_1 : Hid (Blk w3 (w1.heap.size) #[.int .i64 0, .int .i64 0, .bool false, .int .i64 0] 59) := Lib.hid (by repeat' (first | (with_reducible first | exact Hid.out (by assumption) | exact Blk.new _ _ _ | (refine Blk.new_at _ _ _ _ ?_; simp; done) | refine Blk.alloc ?_ _ | refine Blk.drewN ?_ _ | refine Blk.drew ?_ | apply Blk.set | refine Blk.below ?_ (by assumption)) | (refine Blk.setAt ?_ ?_; rotate_left; (first | (simp; done) | (simp; omega))) | rfl))
  clear Kw2_0 cw2_0 fw2_0 Kw2_1 cw2_1 fw2_1
  obtain ⟨lw3_0, cw3_0, fw3_0⟩ := Kw3_0.out.use
  obtain ⟨lw3_1, cw3_1, fw3_1⟩ := Kw3_1.out.use
  go_wp2_with fail
  refine (C.out _).mono ?_
  rintro e w4 ⟨rfl, hb4⟩
  have Kw4_0 : Hid (Blk w4 (w.heap.size) #[.int .i64 ln, .int .i64 pt, .bool rg, .int .i64 fr] 59) := Lib.hid (by repeat' (first | (with_reducible first | exact Hid.out (by assumption) | exact Blk.new _ _ _ | (refine Blk.new_at _ _ _ _ ?_; simp; done) | refine Blk.alloc ?_ _ | refine Blk.drewN ?_ _ | refine Blk.drew ?_ | apply Blk.set | refine Blk.below ?_ (by assumption)) | (refine Blk.setAt ?_ ?_; rotate_left; (first | (simp; done) | (simp; omega))) | rfl))
  have Kw4_1 : Hid (Blk w4 (w1.heap.size) #[.int .i64 0, .int .i64 0, .bool false, .int .i64 0] 59) := Lib.hid (by repeat' (first | (with_reducible first | exact Hid.out (by assumption) | exact Blk.new _ _ _ | (refine Blk.new_at _ _ _ _ ?_; simp; done) | refine Blk.alloc ?_ _ | refine Blk.drewN ?_ _ | refine Blk.drew ?_ | apply Blk.set | refine Blk.below ?_ (by assumption)) | (refine Blk.setAt ?_ ?_; rotate_left; (first | (simp; done) | (simp; omega))) | rfl))
  clear Kw3_0 cw3_0 fw3_0 Kw3_1 cw3_1 fw3_1
  obtain ⟨lw4_0, cw4_0, fw4_0⟩ := Kw4_0.out.use
  obtain ⟨lw4_1, cw4_1, fw4_1⟩ := Kw4_1.out.use
  go_wp2
  go_ret
  exact ⟨rfl, by repeat' (first | (with_reducible first | exact Below.refl _ _ | assumption | refine below_alloc ?_ _ | refine Below.drew ?_ | refine below_drewN ?_ _ | refine below_then ?_ (by assumption) | refine Below.setCell ?_ ?_ _) | (simp; done) | (simp; omega) | omega)⟩
theorem bad3 (b : Bm) (n : Int) (h : ¬ b.Ok) (hk : BadAt b.ln b.pt b.fr 3) (w : World) :
    Calls Try.prog 14 #[.agg #[.int .i64 b.ln, .int .i64 b.pt, .bool b.rg, .int .i64 b.fr], .int .i64 n] w fun e w' => e = .returned (.bool true) ∧ Below w.heap.size w w' := by
  have hr := beamrun_bad b n h
  have hn := bnext_bad b h
  have hc := bcheck_bad b h
  obtain ⟨ln, pt, rg, fr⟩ := b
  simp only [BadAt] at hr hn hc hk
  obtain ⟨g0, g1, g2, g3⟩ := hk
  have R := Lib.hid hr
  have NX := Lib.hid hn
  have C := Lib.hid hc
  clear hr h hn hc
  go_enter Try.func14, Try.ntmps14
  go_wp2_with fail
  refine (R.out _).mono ?_
  rintro e w1 ⟨rfl, hb1⟩
  have Kw1_0 : Hid (Blk w1 (w.heap.size) #[.int .i64 ln, .int .i64 pt, .bool rg, .int .i64 fr] 59) := Lib.hid (by repeat' (first | (with_reducible first | exact Hid.out (by assumption) | exact Blk.new _ _ _ | (refine Blk.new_at _ _ _ _ ?_; simp; done) | refine Blk.alloc ?_ _ | refine Blk.drewN ?_ _ | refine Blk.drew ?_ | apply Blk.set | refine Blk.below ?_ (by assumption)) | (refine Blk.setAt ?_ ?_; rotate_left; (first | (simp; done) | (simp; omega))) | rfl))
  obtain ⟨lw1_0, cw1_0, fw1_0⟩ := Kw1_0.out.use
  go_wp2_with fail
  refine (NX.out _).mono ?_
  rintro e w2 ⟨rfl, hb2⟩
  have Kw2_0 : Hid (Blk w2 (w.heap.size) #[.int .i64 ln, .int .i64 pt, .bool rg, .int .i64 fr] 59) := Lib.hid (by repeat' (first | (with_reducible first | exact Hid.out (by assumption) | exact Blk.new _ _ _ | (refine Blk.new_at _ _ _ _ ?_; simp; done) | refine Blk.alloc ?_ _ | refine Blk.drewN ?_ _ | refine Blk.drew ?_ | apply Blk.set | refine Blk.below ?_ (by assumption)) | (refine Blk.setAt ?_ ?_; rotate_left; (first | (simp; done) | (simp; omega))) | rfl))
  have Kw2_1 : Hid (Blk w2 (w1.heap.size) #[.int .i64 0, .int .i64 0, .bool false, .int .i64 0] 59) := Lib.hid (by repeat' (first | (with_reducible first | exact Hid.out (by assumption) | exact Blk.new _ _ _ | (refine Blk.new_at _ _ _ _ ?_; simp; done) | refine Blk.alloc ?_ _ | refine Blk.drewN ?_ _ | refine Blk.drew ?_ | apply Blk.set | refine Blk.below ?_ (by assumption)) | (refine Blk.setAt ?_ ?_; rotate_left; (first | (simp; done) | (simp; omega))) | rfl))
  clear Kw1_0 cw1_0 fw1_0
  obtain ⟨lw2_0, cw2_0, fw2_0⟩ := Kw2_0.out.use
  obtain ⟨lw2_1, cw2_1, fw2_1⟩ := Kw2_1.out.use
  go_wp2_with fail
  refine (beamed_any _).mono ?_
  rintro e w3 ⟨rfl, hb3⟩
  have Kw3_0 : Hid (Blk w3 (w.heap.size) #[.int .i64 ln, .int .i64 pt, .bool rg, .int .i64 fr] 59) := Lib.hid (by repeat' (first | (with_reducible first | exact Hid.out (by assumption) | exact Blk.new _ _ _ | (refine Blk.new_at _ _ _ _ ?_; simp; done) | refine Blk.alloc ?_ _ | refine Blk.drewN ?_ _ | refine Blk.drew ?_ | apply Blk.set | refine Blk.below ?_ (by assumption)) | (refine Blk.setAt ?_ ?_; rotate_left; (first | (simp; done) | (simp; omega))) | rfl))
  have Kw3_1 : Hid (Blk w3 (w1.heap.size) #[.int .i64 0, .int .i64 0, .bool false, .int .i64 0] 59) := Lib.hid (by repeat' (first | (with_reducible first | exact Hid.out (by assumption) | exact Blk.new _ _ _ | (refine Blk.new_at _ _ _ _ ?_; simp; done) | refine Blk.alloc ?_ _ | refine Blk.drewN ?_ _ | refine Blk.drew ?_ | apply Blk.set | refine Blk.below ?_ (by assumption)) | (refine Blk.setAt ?_ ?_; rotate_left; (first | (simp; done) | (simp; omega))) | rfl))
  clear Kw2_0 cw2_0 fw2_0 Kw2_1 cw2_1 fw2_1
  obtain ⟨lw3_0, cw3_0, fw3_0⟩ := Kw3_0.out.use
  obtain ⟨lw3_1, cw3_1, fw3_1⟩ := Kw3_1.out.use
  go_wp2_with fail
  refine (C.out _).mono ?_
  rintro e w4 ⟨rfl, hb4⟩
  have Kw4_0 : Hid (Blk w4 (w.heap.size) #[.int .i64 ln, .int .i64 pt, .bool rg, .int .i64 fr] 59) := Lib.hid (by repeat' (first | (with_reducible first | exact Hid.out (by assumption) | exact Blk.new _ _ _ | (refine Blk.new_at _ _ _ _ ?_; simp; done) | refine Blk.alloc ?_ _ | refine Blk.drewN ?_ _ | refine Blk.drew ?_ | apply Blk.set | refine Blk.below ?_ (by assumption)) | (refine Blk.setAt ?_ ?_; rotate_left; (first | (simp; done) | (simp; omega))) | rfl))
  have Kw4_1 : Hid (Blk w4 (w1.heap.size) #[.int .i64 0, .int .i64 0, .bool false, .int .i64 0] 59) := Lib.hid (by repeat' (first | (with_reducible first | exact Hid.out (by assumption) | exact Blk.new _ _ _ | (refine Blk.new_at _ _ _ _ ?_; simp; done) | refine Blk.alloc ?_ _ | refine Blk.drewN ?_ _ | refine Blk.drew ?_ | apply Blk.set | refine Blk.below ?_ (by assumption)) | (refine Blk.setAt ?_ ?_; rotate_left; (first | (simp; done) | (simp; omega))) | rfl))
  clear Kw3_0 cw3_0 fw3_0 Kw3_1 cw3_1 fw3_1
  obtain ⟨lw4_0, cw4_0, fw4_0⟩ := Kw4_0.out.use
  obtain ⟨lw4_1, cw4_1, fw4_1⟩ := Kw4_1.out.use
  go_wp2
  go_ret
  exact ⟨rfl, by repeat' (first | (with_reducible first | exact Below.refl _ _ | assumption | refine below_alloc ?_ _ | refine Below.drew ?_ | refine below_drewN ?_ _ | refine below_then ?_ (by assumption) | refine Below.setCell ?_ ?_ _) | (simp; done) | (simp; omega) | omega)⟩
theorem bad4 (b : Bm) (n : Int) (h : ¬ b.Ok) (hk : BadAt b.ln b.pt b.fr 4) (w : World) :
    Calls Try.prog 14 #[.agg #[.int .i64 b.ln, .int .i64 b.pt, .bool b.rg, .int .i64 b.fr], .int .i64 n] w fun e w' => e = .returned (.bool true) ∧ Below w.heap.size w w' := by
  have hr := beamrun_bad b n h
  have hn := bnext_bad b h
  have hc := bcheck_bad b h
  obtain ⟨ln, pt, rg, fr⟩ := b
  simp only [BadAt] at hr hn hc hk
  obtain ⟨g0, g1, g2, g3, g4⟩ := hk
  have R := Lib.hid hr
  have NX := Lib.hid hn
  have C := Lib.hid hc
  clear hr h hn hc
  go_enter Try.func14, Try.ntmps14
  go_wp2_with fail
  refine (R.out _).mono ?_
  rintro e w1 ⟨rfl, hb1⟩
  have Kw1_0 : Hid (Blk w1 (w.heap.size) #[.int .i64 ln, .int .i64 pt, .bool rg, .int .i64 fr] 59) := Lib.hid (by repeat' (first | (with_reducible first | exact Hid.out (by assumption) | exact Blk.new _ _ _ | (refine Blk.new_at _ _ _ _ ?_; simp; done) | refine Blk.alloc ?_ _ | refine Blk.drewN ?_ _ | refine Blk.drew ?_ | apply Blk.set | refine Blk.below ?_ (by assumption)) | (refine Blk.setAt ?_ ?_; rotate_left; (first | (simp; done) | (simp; omega))) | rfl))
  obtain ⟨lw1_0, cw1_0, fw1_0⟩ := Kw1_0.out.use
  go_wp2_with fail
  refine (NX.out _).mono ?_
  rintro e w2 ⟨rfl, hb2⟩
  have Kw2_0 : Hid (Blk w2 (w.heap.size) #[.int .i64 ln, .int .i64 pt, .bool rg, .int .i64 fr] 59) := Lib.hid (by repeat' (first | (with_reducible first | exact Hid.out (by assumption) | exact Blk.new _ _ _ | (refine Blk.new_at _ _ _ _ ?_; simp; done) | refine Blk.alloc ?_ _ | refine Blk.drewN ?_ _ | refine Blk.drew ?_ | apply Blk.set | refine Blk.below ?_ (by assumption)) | (refine Blk.setAt ?_ ?_; rotate_left; (first | (simp; done) | (simp; omega))) | rfl))
  have Kw2_1 : Hid (Blk w2 (w1.heap.size) #[.int .i64 0, .int .i64 0, .bool false, .int .i64 0] 59) := Lib.hid (by repeat' (first | (with_reducible first | exact Hid.out (by assumption) | exact Blk.new _ _ _ | (refine Blk.new_at _ _ _ _ ?_; simp; done) | refine Blk.alloc ?_ _ | refine Blk.drewN ?_ _ | refine Blk.drew ?_ | apply Blk.set | refine Blk.below ?_ (by assumption)) | (refine Blk.setAt ?_ ?_; rotate_left; (first | (simp; done) | (simp; omega))) | rfl))
  clear Kw1_0 cw1_0 fw1_0
  obtain ⟨lw2_0, cw2_0, fw2_0⟩ := Kw2_0.out.use
  obtain ⟨lw2_1, cw2_1, fw2_1⟩ := Kw2_1.out.use
  go_wp2_with fail
  refine (beamed_any _).mono ?_
  rintro e w3 ⟨rfl, hb3⟩
  have Kw3_0 : Hid (Blk w3 (w.heap.size) #[.int .i64 ln, .int .i64 pt, .bool rg, .int .i64 fr] 59) := Lib.hid (by repeat' (first | (with_reducible first | exact Hid.out (by assumption) | exact Blk.new _ _ _ | (refine Blk.new_at _ _ _ _ ?_; simp; done) | refine Blk.alloc ?_ _ | refine Blk.drewN ?_ _ | refine Blk.drew ?_ | apply Blk.set | refine Blk.below ?_ (by assumption)) | (refine Blk.setAt ?_ ?_; rotate_left; (first | (simp; done) | (simp; omega))) | rfl))
  have Kw3_1 : Hid (Blk w3 (w1.heap.size) #[.int .i64 0, .int .i64 0, .bool false, .int .i64 0] 59) := Lib.hid (by repeat' (first | (with_reducible first | exact Hid.out (by assumption) | exact Blk.new _ _ _ | (refine Blk.new_at _ _ _ _ ?_; simp; done) | refine Blk.alloc ?_ _ | refine Blk.drewN ?_ _ | refine Blk.drew ?_ | apply Blk.set | refine Blk.below ?_ (by assumption)) | (refine Blk.setAt ?_ ?_; rotate_left; (first | (simp; done) | (simp; omega))) | rfl))
  clear Kw2_0 cw2_0 fw2_0 Kw2_1 cw2_1 fw2_1
  obtain ⟨lw3_0, cw3_0, fw3_0⟩ := Kw3_0.out.use
  obtain ⟨lw3_1, cw3_1, fw3_1⟩ := Kw3_1.out.use
  go_wp2_with fail
  refine (C.out _).mono ?_
  rintro e w4 ⟨rfl, hb4⟩
  have Kw4_0 : Hid (Blk w4 (w.heap.size) #[.int .i64 ln, .int .i64 pt, .bool rg, .int .i64 fr] 59) := Lib.hid (by repeat' (first | (with_reducible first | exact Hid.out (by assumption) | exact Blk.new _ _ _ | (refine Blk.new_at _ _ _ _ ?_; simp; done) | refine Blk.alloc ?_ _ | refine Blk.drewN ?_ _ | refine Blk.drew ?_ | apply Blk.set | refine Blk.below ?_ (by assumption)) | (refine Blk.setAt ?_ ?_; rotate_left; (first | (simp; done) | (simp; omega))) | rfl))
  have Kw4_1 : Hid (Blk w4 (w1.heap.size) #[.int .i64 0, .int .i64 0, .bool false, .int .i64 0] 59) := Lib.hid (by repeat' (first | (with_reducible first | exact Hid.out (by assumption) | exact Blk.new _ _ _ | (refine Blk.new_at _ _ _ _ ?_; simp; done) | refine Blk.alloc ?_ _ | refine Blk.drewN ?_ _ | refine Blk.drew ?_ | apply Blk.set | refine Blk.below ?_ (by assumption)) | (refine Blk.setAt ?_ ?_; rotate_left; (first | (simp; done) | (simp; omega))) | rfl))
  clear Kw3_0 cw3_0 fw3_0 Kw3_1 cw3_1 fw3_1
  obtain ⟨lw4_0, cw4_0, fw4_0⟩ := Kw4_0.out.use
  obtain ⟨lw4_1, cw4_1, fw4_1⟩ := Kw4_1.out.use
  go_wp2
  go_ret
  exact ⟨rfl, by repeat' (first | (with_reducible first | exact Below.refl _ _ | assumption | refine below_alloc ?_ _ | refine Below.drew ?_ | refine below_drewN ?_ _ | refine below_then ?_ (by assumption) | refine Below.setCell ?_ ?_ _) | (simp; done) | (simp; omega) | omega)⟩
theorem bad5 (b : Bm) (n : Int) (h : ¬ b.Ok) (hk : BadAt b.ln b.pt b.fr 5) (w : World) :
    Calls Try.prog 14 #[.agg #[.int .i64 b.ln, .int .i64 b.pt, .bool b.rg, .int .i64 b.fr], .int .i64 n] w fun e w' => e = .returned (.bool true) ∧ Below w.heap.size w w' := by
  have hr := beamrun_bad b n h
  have hn := bnext_bad b h
  have hc := bcheck_bad b h
  obtain ⟨ln, pt, rg, fr⟩ := b
  simp only [BadAt] at hr hn hc hk
  obtain ⟨g0, g1, g2, g3, g4, g5⟩ := hk
  have R := Lib.hid hr
  have NX := Lib.hid hn
  have C := Lib.hid hc
  clear hr h hn hc
  go_enter Try.func14, Try.ntmps14
  go_wp2_with fail
  refine (R.out _).mono ?_
  rintro e w1 ⟨rfl, hb1⟩
  have Kw1_0 : Hid (Blk w1 (w.heap.size) #[.int .i64 ln, .int .i64 pt, .bool rg, .int .i64 fr] 59) := Lib.hid (by repeat' (first | (with_reducible first | exact Hid.out (by assumption) | exact Blk.new _ _ _ | (refine Blk.new_at _ _ _ _ ?_; simp; done) | refine Blk.alloc ?_ _ | refine Blk.drewN ?_ _ | refine Blk.drew ?_ | apply Blk.set | refine Blk.below ?_ (by assumption)) | (refine Blk.setAt ?_ ?_; rotate_left; (first | (simp; done) | (simp; omega))) | rfl))
  obtain ⟨lw1_0, cw1_0, fw1_0⟩ := Kw1_0.out.use
  go_wp2_with fail
  refine (NX.out _).mono ?_
  rintro e w2 ⟨rfl, hb2⟩
  have Kw2_0 : Hid (Blk w2 (w.heap.size) #[.int .i64 ln, .int .i64 pt, .bool rg, .int .i64 fr] 59) := Lib.hid (by repeat' (first | (with_reducible first | exact Hid.out (by assumption) | exact Blk.new _ _ _ | (refine Blk.new_at _ _ _ _ ?_; simp; done) | refine Blk.alloc ?_ _ | refine Blk.drewN ?_ _ | refine Blk.drew ?_ | apply Blk.set | refine Blk.below ?_ (by assumption)) | (refine Blk.setAt ?_ ?_; rotate_left; (first | (simp; done) | (simp; omega))) | rfl))
  have Kw2_1 : Hid (Blk w2 (w1.heap.size) #[.int .i64 0, .int .i64 0, .bool false, .int .i64 0] 59) := Lib.hid (by repeat' (first | (with_reducible first | exact Hid.out (by assumption) | exact Blk.new _ _ _ | (refine Blk.new_at _ _ _ _ ?_; simp; done) | refine Blk.alloc ?_ _ | refine Blk.drewN ?_ _ | refine Blk.drew ?_ | apply Blk.set | refine Blk.below ?_ (by assumption)) | (refine Blk.setAt ?_ ?_; rotate_left; (first | (simp; done) | (simp; omega))) | rfl))
  clear Kw1_0 cw1_0 fw1_0
  obtain ⟨lw2_0, cw2_0, fw2_0⟩ := Kw2_0.out.use
  obtain ⟨lw2_1, cw2_1, fw2_1⟩ := Kw2_1.out.use
  go_wp2_with fail
  refine (beamed_any _).mono ?_
  rintro e w3 ⟨rfl, hb3⟩
  have Kw3_0 : Hid (Blk w3 (w.heap.size) #[.int .i64 ln, .int .i64 pt, .bool rg, .int .i64 fr] 59) := Lib.hid (by repeat' (first | (with_reducible first | exact Hid.out (by assumption) | exact Blk.new _ _ _ | (refine Blk.new_at _ _ _ _ ?_; simp; done) | refine Blk.alloc ?_ _ | refine Blk.drewN ?_ _ | refine Blk.drew ?_ | apply Blk.set | refine Blk.below ?_ (by assumption)) | (refine Blk.setAt ?_ ?_; rotate_left; (first | (simp; done) | (simp; omega))) | rfl))
  have Kw3_1 : Hid (Blk w3 (w1.heap.size) #[.int .i64 0, .int .i64 0, .bool false, .int .i64 0] 59) := Lib.hid (by repeat' (first | (with_reducible first | exact Hid.out (by assumption) | exact Blk.new _ _ _ | (refine Blk.new_at _ _ _ _ ?_; simp; done) | refine Blk.alloc ?_ _ | refine Blk.drewN ?_ _ | refine Blk.drew ?_ | apply Blk.set | refine Blk.below ?_ (by assumption)) | (refine Blk.setAt ?_ ?_; rotate_left; (first | (simp; done) | (simp; omega))) | rfl))
  clear Kw2_0 cw2_0 fw2_0 Kw2_1 cw2_1 fw2_1
  obtain ⟨lw3_0, cw3_0, fw3_0⟩ := Kw3_0.out.use
  obtain ⟨lw3_1, cw3_1, fw3_1⟩ := Kw3_1.out.use
  go_wp2_with fail
  refine (C.out _).mono ?_
  rintro e w4 ⟨rfl, hb4⟩
  have Kw4_0 : Hid (Blk w4 (w.heap.size) #[.int .i64 ln, .int .i64 pt, .bool rg, .int .i64 fr] 59) := Lib.hid (by repeat' (first | (with_reducible first | exact Hid.out (by assumption) | exact Blk.new _ _ _ | (refine Blk.new_at _ _ _ _ ?_; simp; done) | refine Blk.alloc ?_ _ | refine Blk.drewN ?_ _ | refine Blk.drew ?_ | apply Blk.set | refine Blk.below ?_ (by assumption)) | (refine Blk.setAt ?_ ?_; rotate_left; (first | (simp; done) | (simp; omega))) | rfl))
  have Kw4_1 : Hid (Blk w4 (w1.heap.size) #[.int .i64 0, .int .i64 0, .bool false, .int .i64 0] 59) := Lib.hid (by repeat' (first | (with_reducible first | exact Hid.out (by assumption) | exact Blk.new _ _ _ | (refine Blk.new_at _ _ _ _ ?_; simp; done) | refine Blk.alloc ?_ _ | refine Blk.drewN ?_ _ | refine Blk.drew ?_ | apply Blk.set | refine Blk.below ?_ (by assumption)) | (refine Blk.setAt ?_ ?_; rotate_left; (first | (simp; done) | (simp; omega))) | rfl))
  clear Kw3_0 cw3_0 fw3_0 Kw3_1 cw3_1 fw3_1
  obtain ⟨lw4_0, cw4_0, fw4_0⟩ := Kw4_0.out.use
  obtain ⟨lw4_1, cw4_1, fw4_1⟩ := Kw4_1.out.use
  go_wp2
  go_ret
  exact ⟨rfl, by repeat' (first | (with_reducible first | exact Below.refl _ _ | assumption | refine below_alloc ?_ _ | refine Below.drew ?_ | refine below_drewN ?_ _ | refine below_then ?_ (by assumption) | refine Below.setCell ?_ ?_ _) | (simp; done) | (simp; omega) | omega)⟩

theorem range (b : Bm) (n : Int) (hb : b.Ok) (h : n < 0 ∨ 20000 < n) (w : World) :
    Calls Try.prog 14 #[.agg #[.int .i64 b.ln, .int .i64 b.pt, .bool b.rg, .int .i64 b.fr], .int .i64 n] w fun e w' => e = .returned (.bool true) ∧ Below w.heap.size w w' := by
  have hr := beamrun_range b n hb h
  have hn := bnext_ok b hb
  have hc := bcheck_ok b hb
  obtain ⟨⟨h1, h2, h3, h4⟩, h5, h6⟩ := hb
  obtain ⟨ln, pt, rg, fr⟩ := b
  simp only [nextB] at hr hn hc h1 h2 h3 h4 h5 h6
  have R := Lib.hid hr
  have NX := Lib.hid hn
  have C := Lib.hid hc
  clear hr hn hc
  have H := Lib.hid h
  clear h
  go_enter Try.func14, Try.ntmps14
  go_wp2_with fail
  refine (R.out _).mono ?_
  rintro e w1 ⟨rfl, hb1⟩
  have Kw1_0 : Hid (Blk w1 (w.heap.size) #[.int .i64 ln, .int .i64 pt, .bool rg, .int .i64 fr] 59) := Lib.hid (by repeat' (first | (with_reducible first | exact Hid.out (by assumption) | exact Blk.new _ _ _ | (refine Blk.new_at _ _ _ _ ?_; simp; done) | refine Blk.alloc ?_ _ | refine Blk.drewN ?_ _ | refine Blk.drew ?_ | apply Blk.set | refine Blk.below ?_ (by assumption)) | (refine Blk.setAt ?_ ?_; rotate_left; (first | (simp; done) | (simp; omega))) | rfl))
  obtain ⟨lw1_0, cw1_0, fw1_0⟩ := Kw1_0.out.use
  go_wp2_with fail
  refine (NX.out _).mono ?_
  rintro e w2 ⟨rfl, hb2⟩
  have Kw2_0 : Hid (Blk w2 (w.heap.size) #[.int .i64 ln, .int .i64 pt, .bool rg, .int .i64 fr] 59) := Lib.hid (by repeat' (first | (with_reducible first | exact Hid.out (by assumption) | exact Blk.new _ _ _ | (refine Blk.new_at _ _ _ _ ?_; simp; done) | refine Blk.alloc ?_ _ | refine Blk.drewN ?_ _ | refine Blk.drew ?_ | apply Blk.set | refine Blk.below ?_ (by assumption)) | (refine Blk.setAt ?_ ?_; rotate_left; (first | (simp; done) | (simp; omega))) | rfl))
  have Kw2_1 : Hid (Blk w2 (w1.heap.size) #[.int .i64 0, .int .i64 0, .bool false, .int .i64 0] 59) := Lib.hid (by repeat' (first | (with_reducible first | exact Hid.out (by assumption) | exact Blk.new _ _ _ | (refine Blk.new_at _ _ _ _ ?_; simp; done) | refine Blk.alloc ?_ _ | refine Blk.drewN ?_ _ | refine Blk.drew ?_ | apply Blk.set | refine Blk.below ?_ (by assumption)) | (refine Blk.setAt ?_ ?_; rotate_left; (first | (simp; done) | (simp; omega))) | rfl))
  clear Kw1_0 cw1_0 fw1_0
  obtain ⟨lw2_0, cw2_0, fw2_0⟩ := Kw2_0.out.use
  obtain ⟨lw2_1, cw2_1, fw2_1⟩ := Kw2_1.out.use
  go_wp2_with fail
  refine (beamed_any _).mono ?_
  rintro e w3 ⟨rfl, hb3⟩
  have Kw3_0 : Hid (Blk w3 (w.heap.size) #[.int .i64 ln, .int .i64 pt, .bool rg, .int .i64 fr] 59) := Lib.hid (by repeat' (first | (with_reducible first | exact Hid.out (by assumption) | exact Blk.new _ _ _ | (refine Blk.new_at _ _ _ _ ?_; simp; done) | refine Blk.alloc ?_ _ | refine Blk.drewN ?_ _ | refine Blk.drew ?_ | apply Blk.set | refine Blk.below ?_ (by assumption)) | (refine Blk.setAt ?_ ?_; rotate_left; (first | (simp; done) | (simp; omega))) | rfl))
  have Kw3_1 : Hid (Blk w3 (w1.heap.size) #[.int .i64 0, .int .i64 0, .bool false, .int .i64 0] 59) := Lib.hid (by repeat' (first | (with_reducible first | exact Hid.out (by assumption) | exact Blk.new _ _ _ | (refine Blk.new_at _ _ _ _ ?_; simp; done) | refine Blk.alloc ?_ _ | refine Blk.drewN ?_ _ | refine Blk.drew ?_ | apply Blk.set | refine Blk.below ?_ (by assumption)) | (refine Blk.setAt ?_ ?_; rotate_left; (first | (simp; done) | (simp; omega))) | rfl))
  clear Kw2_0 cw2_0 fw2_0 Kw2_1 cw2_1 fw2_1
  obtain ⟨lw3_0, cw3_0, fw3_0⟩ := Kw3_0.out.use
  obtain ⟨lw3_1, cw3_1, fw3_1⟩ := Kw3_1.out.use
  go_wp2_with fail
  refine (C.out _).mono ?_
  rintro e w4 ⟨rfl, hb4⟩
  have Kw4_0 : Hid (Blk w4 (w.heap.size) #[.int .i64 ln, .int .i64 pt, .bool rg, .int .i64 fr] 59) := Lib.hid (by repeat' (first | (with_reducible first | exact Hid.out (by assumption) | exact Blk.new _ _ _ | (refine Blk.new_at _ _ _ _ ?_; simp; done) | refine Blk.alloc ?_ _ | refine Blk.drewN ?_ _ | refine Blk.drew ?_ | apply Blk.set | refine Blk.below ?_ (by assumption)) | (refine Blk.setAt ?_ ?_; rotate_left; (first | (simp; done) | (simp; omega))) | rfl))
  have Kw4_1 : Hid (Blk w4 (w1.heap.size) #[.int .i64 0, .int .i64 0, .bool false, .int .i64 0] 59) := Lib.hid (by repeat' (first | (with_reducible first | exact Hid.out (by assumption) | exact Blk.new _ _ _ | (refine Blk.new_at _ _ _ _ ?_; simp; done) | refine Blk.alloc ?_ _ | refine Blk.drewN ?_ _ | refine Blk.drew ?_ | apply Blk.set | refine Blk.below ?_ (by assumption)) | (refine Blk.setAt ?_ ?_; rotate_left; (first | (simp; done) | (simp; omega))) | rfl))
  clear Kw3_0 cw3_0 fw3_0 Kw3_1 cw3_1 fw3_1
  obtain ⟨lw4_0, cw4_0, fw4_0⟩ := Kw4_0.out.use
  obtain ⟨lw4_1, cw4_1, fw4_1⟩ := Kw4_1.out.use
  by_cases g : n < 0
  · go_wp2
    go_ret
    exact ⟨rfl, by repeat' (first | (with_reducible first | exact Below.refl _ _ | assumption | refine below_alloc ?_ _ | refine Below.drew ?_ | refine below_drewN ?_ _ | refine below_then ?_ (by assumption) | refine Below.setCell ?_ ?_ _) | (simp; done) | (simp; omega) | omega)⟩
  · have g' : 20000 < n := by have := H.out; omega
    go_wp2
    go_ret
    exact ⟨rfl, by repeat' (first | (with_reducible first | exact Below.refl _ _ | assumption | refine below_alloc ?_ _ | refine Below.drew ?_ | refine below_drewN ?_ _ | refine below_then ?_ (by assumption) | refine Below.setCell ?_ ?_ _) | (simp; done) | (simp; omega) | omega)⟩

theorem good (b : Bm) (n : Int) (hb : b.Ok) (n0 : 0 ≤ n) (n1 : n ≤ 20000) (w : World) :
    Calls Try.prog 14 #[.agg #[.int .i64 b.ln, .int .i64 b.pt, .bool b.rg, .int .i64 b.fr], .int .i64 n] w fun e w' => e = .returned (.bool true) ∧ Below w.heap.size w w' := by
  have hr := beamrun_ok b n hb n0 n1
  have hn := bnext_ok b hb
  have hc := bcheck_ok b hb
  have HB := Lib.hid hb
  have HZ := Lib.hid (runBm_zero b hb.1)
  obtain ⟨⟨h1, h2, h3, h4⟩, h5, h6⟩ := hb
  generalize hX : runBm b n = X at hr
  have HX := Lib.hid hX
  clear hX
  simp only [nextB] at hn
  have R := Lib.hid hr
  have NX := Lib.hid hn
  have C := Lib.hid hc
  clear hr hn hc
  generalize hl : b.ln = ln at *
  generalize hp : b.pt = pt at *
  generalize hg : b.rg = rg at *
  generalize hf : b.fr = fr at *
  have HL := Lib.hid hl
  have HP := Lib.hid hp
  have HG := Lib.hid hg
  have HF := Lib.hid hf
  clear hl hp hg hf
  go_enter Try.func14, Try.ntmps14
  go_wp2_with fail
  refine (R.out _).mono ?_
  rintro e w1 ⟨rfl, hb1⟩
  have Kw1_0 : Hid (Blk w1 (w.heap.size) #[.int .i64 ln, .int .i64 pt, .bool rg, .int .i64 fr] 59) := Lib.hid (by repeat' (first | (with_reducible first | exact Hid.out (by assumption) | exact Blk.new _ _ _ | (refine Blk.new_at _ _ _ _ ?_; simp; done) | refine Blk.alloc ?_ _ | refine Blk.drewN ?_ _ | refine Blk.drew ?_ | apply Blk.set | refine Blk.below ?_ (by assumption)) | (refine Blk.setAt ?_ ?_; rotate_left; (first | (simp; done) | (simp; omega))) | rfl))
  obtain ⟨lw1_0, cw1_0, fw1_0⟩ := Kw1_0.out.use
  go_wp2_with fail
  refine (NX.out _).mono ?_
  rintro e w2 ⟨rfl, hb2⟩
  have Kw2_0 : Hid (Blk w2 (w.heap.size) #[.int .i64 ln, .int .i64 pt, .bool rg, .int .i64 fr] 59) := Lib.hid (by repeat' (first | (with_reducible first | exact Hid.out (by assumption) | exact Blk.new _ _ _ | (refine Blk.new_at _ _ _ _ ?_; simp; done) | refine Blk.alloc ?_ _ | refine Blk.drewN ?_ _ | refine Blk.drew ?_ | apply Blk.set | refine Blk.below ?_ (by assumption)) | (refine Blk.setAt ?_ ?_; rotate_left; (first | (simp; done) | (simp; omega))) | rfl))
  have Kw2_1 : Hid (Blk w2 (w1.heap.size) #[.int .i64 X.ln, .int .i64 X.pt, .bool X.rg, .int .i64 X.fr] 59) := Lib.hid (by repeat' (first | (with_reducible first | exact Hid.out (by assumption) | exact Blk.new _ _ _ | (refine Blk.new_at _ _ _ _ ?_; simp; done) | refine Blk.alloc ?_ _ | refine Blk.drewN ?_ _ | refine Blk.drew ?_ | apply Blk.set | refine Blk.below ?_ (by assumption)) | (refine Blk.setAt ?_ ?_; rotate_left; (first | (simp; done) | (simp; omega))) | rfl))
  clear Kw1_0 cw1_0 fw1_0
  obtain ⟨lw2_0, cw2_0, fw2_0⟩ := Kw2_0.out.use
  obtain ⟨lw2_1, cw2_1, fw2_1⟩ := Kw2_1.out.use
  go_wp2_with fail
  refine (beamed_any _).mono ?_
  rintro e w3 ⟨rfl, hb3⟩
  have Kw3_0 : Hid (Blk w3 (w.heap.size) #[.int .i64 ln, .int .i64 pt, .bool rg, .int .i64 fr] 59) := Lib.hid (by repeat' (first | (with_reducible first | exact Hid.out (by assumption) | exact Blk.new _ _ _ | (refine Blk.new_at _ _ _ _ ?_; simp; done) | refine Blk.alloc ?_ _ | refine Blk.drewN ?_ _ | refine Blk.drew ?_ | apply Blk.set | refine Blk.below ?_ (by assumption)) | (refine Blk.setAt ?_ ?_; rotate_left; (first | (simp; done) | (simp; omega))) | rfl))
  have Kw3_1 : Hid (Blk w3 (w1.heap.size) #[.int .i64 X.ln, .int .i64 X.pt, .bool X.rg, .int .i64 X.fr] 59) := Lib.hid (by repeat' (first | (with_reducible first | exact Hid.out (by assumption) | exact Blk.new _ _ _ | (refine Blk.new_at _ _ _ _ ?_; simp; done) | refine Blk.alloc ?_ _ | refine Blk.drewN ?_ _ | refine Blk.drew ?_ | apply Blk.set | refine Blk.below ?_ (by assumption)) | (refine Blk.setAt ?_ ?_; rotate_left; (first | (simp; done) | (simp; omega))) | rfl))
  clear Kw2_0 cw2_0 fw2_0 Kw2_1 cw2_1 fw2_1
  obtain ⟨lw3_0, cw3_0, fw3_0⟩ := Kw3_0.out.use
  obtain ⟨lw3_1, cw3_1, fw3_1⟩ := Kw3_1.out.use
  go_wp2_with fail
  refine (C.out _).mono ?_
  rintro e w4 ⟨rfl, hb4⟩
  have Kw4_0 : Hid (Blk w4 (w.heap.size) #[.int .i64 ln, .int .i64 pt, .bool rg, .int .i64 fr] 59) := Lib.hid (by repeat' (first | (with_reducible first | exact Hid.out (by assumption) | exact Blk.new _ _ _ | (refine Blk.new_at _ _ _ _ ?_; simp; done) | refine Blk.alloc ?_ _ | refine Blk.drewN ?_ _ | refine Blk.drew ?_ | apply Blk.set | refine Blk.below ?_ (by assumption)) | (refine Blk.setAt ?_ ?_; rotate_left; (first | (simp; done) | (simp; omega))) | rfl))
  have Kw4_1 : Hid (Blk w4 (w1.heap.size) #[.int .i64 X.ln, .int .i64 X.pt, .bool X.rg, .int .i64 X.fr] 59) := Lib.hid (by repeat' (first | (with_reducible first | exact Hid.out (by assumption) | exact Blk.new _ _ _ | (refine Blk.new_at _ _ _ _ ?_; simp; done) | refine Blk.alloc ?_ _ | refine Blk.drewN ?_ _ | refine Blk.drew ?_ | apply Blk.set | refine Blk.below ?_ (by assumption)) | (refine Blk.setAt ?_ ?_; rotate_left; (first | (simp; done) | (simp; omega))) | rfl))
  clear Kw3_0 cw3_0 fw3_0 Kw3_1 cw3_1 fw3_1
  obtain ⟨lw4_0, cw4_0, fw4_0⟩ := Kw4_0.out.use
  obtain ⟨lw4_1, cw4_1, fw4_1⟩ := Kw4_1.out.use
  have hb4' : Below w.heap.size w w4 := by repeat' (first | (with_reducible first | exact Below.refl _ _ | assumption | refine below_alloc ?_ _ | refine Below.drew ?_ | refine below_drewN ?_ _ | refine below_then ?_ (by assumption) | refine Below.setCell ?_ ?_ _) | (simp; done) | (simp; omega) | omega)
  have L0 : Hid (Blk w4 w.heap.size #[.int .i64 (runBm b 0).ln, .int .i64 (runBm b 0).pt, .bool (runBm b 0).rg, .int .i64 (runBm b 0).fr] 59) := Lib.hid (by rw [HZ.out, HL.out, HP.out, HG.out, HF.out]; exact Kw4_0.out)
  go_wp2
  go_loopw [100] (fun i wr => ∃ k : Nat, (k : Int) ≤ n ∧ i = .int .i64 k ∧ Below w.heap.size w wr ∧ Hid (Blk wr w.heap.size #[.int .i64 (runBm b k).ln, .int .i64 (runBm b k).pt, .bool (runBm b k).rg, .int .i64 (runBm b k).fr] 59) ∧ Hid (Blk wr w1.heap.size #[.int .i64 X.ln, .int .i64 X.pt, .bool X.rg, .int .i64 X.fr] 59)) (fun i _ => (n - intOf i).toNat)
  case atStart => exact ⟨0, by omega, rfl, hb4', L0, Kw4_1⟩
  case round =>
    obtain ⟨k, hk, rfl, hbr, KA, KB⟩ := hrel
    clear Kw4_0 Kw4_1 cw4_0 cw4_1 fw4_0 fw4_1 L0
    obtain ⟨lA, cA, fA⟩ := KA.out.use
    obtain ⟨lB, cB, fB⟩ := KB.out.use
    by_cases hlt : (k : Int) < n
    · have hfr : (runBm b k).fr = fr + (ln * 64 + pt + k) / 640 := by unfold runBm; rw [HL.out, HP.out, HF.out]
      have hs := reftickB_any (runBm b k) (runBm_in b k) ⟨by rw [hfr]; omega, by rw [hfr]; omega⟩
      rw [← runBm_succ b HB.out.1 k (by omega)] at hs
      have HS := Lib.hid hs
      clear hs hfr
      generalize hY : runBm b (k : Int) = Y at KA cA HS
      generalize hZ : runBm b ((k : Int) + 1) = Z at HS
      have HY := Lib.hid hY
      have HZ2 := Lib.hid hZ
      clear hY hZ
      go_wp2_with fail
      refine (HS.out _).mono ?_
      rintro e w7 ⟨rfl, hb7⟩
      have K7 : Hid (Blk w7 w.heap.size #[.int .i64 Y.ln, .int .i64 Y.pt, .bool Y.rg, .int .i64 Y.fr] 59) := Lib.hid (KA.out.below hb7)
      have K8 : Hid (Blk w7 w1.heap.size #[.int .i64 X.ln, .int .i64 X.pt, .bool X.rg, .int .i64 X.fr] 59) := Lib.hid (KB.out.below hb7)
      obtain ⟨l7, c7, f7⟩ := K7.out.use
      obtain ⟨l8, c8, f8⟩ := K8.out.use
      have hs7 := hb7.size
      go_wp2
      go_roundw
      case rel =>
        refine ⟨k + 1, by omega, by go_num, by repeat' (first | (with_reducible first | exact Below.refl _ _ | assumption | refine below_alloc ?_ _ | refine Below.drew ?_ | refine below_drewN ?_ _ | refine below_then ?_ (by assumption) | refine Below.setCell ?_ ?_ _) | (simp; done) | (simp; omega) | omega), Lib.hid ?_, Lib.hid ?_⟩
        · rw [show ((k + 1 : Nat) : Int) = (k : Int) + 1 from by omega, HZ2.out]
          exact (by repeat' (first | (with_reducible first | exact Hid.out (by assumption) | exact Blk.new _ _ _ | (refine Blk.new_at _ _ _ _ ?_; simp; done) | refine Blk.alloc ?_ _ | refine Blk.drewN ?_ _ | refine Blk.drew ?_ | apply Blk.set | refine Blk.below ?_ (by assumption)) | (refine Blk.setAt ?_ ?_; rotate_left; (first | (simp; done) | (simp; omega))) | rfl))
        · exact (by repeat' (first | (with_reducible first | exact Hid.out (by assumption) | exact Blk.new _ _ _ | (refine Blk.new_at _ _ _ _ ?_; simp; done) | refine Blk.alloc ?_ _ | refine Blk.drewN ?_ _ | refine Blk.drew ?_ | apply Blk.set | refine Blk.below ?_ (by assumption)) | (refine Blk.setAt ?_ ?_; rotate_left; (first | (simp; done) | (simp; omega))) | rfl))
      case measure => simp [intOf]; omega
    · have hkn : (k : Int) = n := by omega
      rw [hkn, HX.out] at KA
      obtain ⟨lC, cC, fC⟩ := KA.out.use
      clear cA fA
      go_wp2
      go_ret
      exact ⟨rfl, hbr⟩

theorem walk (ln pt : Int) (rg : Bool) (fr n : Int) (_h1 : I64 ln) (_h2 : I64 pt) (_h3 : I64 fr) (_h4 : I64 n) (w : World) :
    Calls Try.prog 14 #[.agg #[.int .i64 ln, .int .i64 pt, .bool rg, .int .i64 fr], .int .i64 n] w fun e w' => e = .returned (.bool true) ∧ Below w.heap.size w w' := by
  by_cases hb : (⟨ln, pt, rg, fr⟩ : Bm).Ok
  · by_cases h : n < 0 ∨ 20000 < n
    · exact range ⟨ln, pt, rg, fr⟩ n hb h w
    · exact good ⟨ln, pt, rg, fr⟩ n hb (by omega) (by omega) w
  · obtain ⟨k, hk, h⟩ := badAt_of ⟨ln, pt, rg, fr⟩ hb
    rcases (by omega : k = 0 ∨ k = 1 ∨ k = 2 ∨ k = 3 ∨ k = 4 ∨ k = 5) with rfl | rfl | rfl | rfl | rfl | rfl
    · exact bad0 ⟨ln, pt, rg, fr⟩ n hb h w
    · exact bad1 ⟨ln, pt, rg, fr⟩ n hb h w
    · exact bad2 ⟨ln, pt, rg, fr⟩ n hb h w
    · exact bad3 ⟨ln, pt, rg, fr⟩ n hb h w
    · exact bad4 ⟨ln, pt, rg, fr⟩ n hb h w
    · exact bad5 ⟨ln, pt, rg, fr⟩ n hb h w
end Go.Proofs.Ytegilgnpkcjhpaa.beamRuns
