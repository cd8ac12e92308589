/- BeamParts: for every beam and every two numbers the law answers true. Conditions: none. -/
import Derived.Test.YtegilgnpkcjhpaaBeam
namespace Go.Proofs.Ytegilgnpkcjhpaa.beamParts
open Go.RowKit Go.Mq
set_option linter.unusedVariables false
set_option linter.unusedSimpArgs false
set_option maxHeartbeats 1000000
set_option maxRecDepth 100000

theorem bad (b : Bm) (n m : Int) (h : ¬ b.Ok) (w : World) :
    Calls Try.prog 10 #[.agg #[.int .i64 b.ln, .int .i64 b.pt, .bool b.rg, .int .i64 b.fr], .int .i64 n, .int .i64 m] w fun e w' => e = .returned (.bool true) ∧ Below w.heap.size w w' := by
  have hr := beamrun_bad b n h
  obtain ⟨ln, pt, rg, fr⟩ := b
  simp only at hr
  have R := Lib.hid hr
  clear hr h
  go_enter Try.func10, Try.ntmps10
  go_wp2_with fail
  refine (R.out _).mono ?_
  rintro e w1 ⟨rfl, hb1⟩
  go_wp2_with fail
  refine (beamed_any _).mono ?_
  rintro e w2 ⟨rfl, hb2⟩
  go_wp2_with fail
  refine (beamed_any _).mono ?_
  rintro e w3 ⟨rfl, hb3⟩
  go_wp2
  go_ret
  exact ⟨rfl, by repeat' (first | (with_reducible first | exact Below.refl _ _ | assumption | refine below_alloc ?_ _ | refine Below.drew ?_ | refine below_drewN ?_ _ | refine below_then ?_ (by assumption) | refine Below.setCell ?_ ?_ _) | (simp; done) | (simp; omega) | omega)⟩

theorem range (b : Bm) (n m : Int) (hb : b.Ok) (h : n < 0 ∨ 20000 < n) (w : World) :
    Calls Try.prog 10 #[.agg #[.int .i64 b.ln, .int .i64 b.pt, .bool b.rg, .int .i64 b.fr], .int .i64 n, .int .i64 m] w fun e w' => e = .returned (.bool true) ∧ Below w.heap.size w w' := by
  have hr := beamrun_range b n hb h
  obtain ⟨ln, pt, rg, fr⟩ := b
  simp only at hr
  have R := Lib.hid hr
  clear hr h hb
  go_enter Try.func10, Try.ntmps10
  go_wp2_with fail
  refine (R.out _).mono ?_
  rintro e w1 ⟨rfl, hb1⟩
  go_wp2_with fail
  refine (beamed_any _).mono ?_
  rintro e w2 ⟨rfl, hb2⟩
  go_wp2_with fail
  refine (beamed_any _).mono ?_
  rintro e w3 ⟨rfl, hb3⟩
  go_wp2
  go_ret
  exact ⟨rfl, by repeat' (first | (with_reducible first | exact Below.refl _ _ | assumption | refine below_alloc ?_ _ | refine Below.drew ?_ | refine below_drewN ?_ _ | refine below_then ?_ (by assumption) | refine Below.setCell ?_ ?_ _) | (simp; done) | (simp; omega) | omega)⟩

theorem early (b : Bm) (n m : Int) (hb : b.Ok) (n0 : 0 ≤ n) (n1 : n ≤ 20000) (h : m < 0 ∨ (0 ≤ m ∧ 20000 - n < m)) (w : World) :
    Calls Try.prog 10 #[.agg #[.int .i64 b.ln, .int .i64 b.pt, .bool b.rg, .int .i64 b.fr], .int .i64 n, .int .i64 m] w fun e w' => e = .returned (.bool true) ∧ Below w.heap.size w w' := by
  have hr := beamrun_ok b n hb n0 n1
  generalize runBm b n = x at hr
  obtain ⟨ln, pt, rg, fr⟩ := b
  simp only at hr
  have R := Lib.hid hr
  clear hr hb
  rcases h with h | ⟨h, h'⟩
  · go_enter Try.func10, Try.ntmps10
    go_wp2_with fail
    refine (R.out _).mono ?_
    rintro e w1 ⟨rfl, hb1⟩
    go_wp2_with fail
    refine (beamed_any _).mono ?_
    rintro e w2 ⟨rfl, hb2⟩
    go_wp2_with fail
    refine (beamed_any _).mono ?_
    rintro e w3 ⟨rfl, hb3⟩
    go_wp2
    go_ret
    exact ⟨rfl, by repeat' (first | (with_reducible first | exact Below.refl _ _ | assumption | refine below_alloc ?_ _ | refine Below.drew ?_ | refine below_drewN ?_ _ | refine below_then ?_ (by assumption) | refine Below.setCell ?_ ?_ _) | (simp; done) | (simp; omega) | omega)⟩
  · go_enter Try.func10, Try.ntmps10
    go_wp2_with fail
    refine (R.out _).mono ?_
    rintro e w1 ⟨rfl, hb1⟩
    go_wp2_with fail
    refine (beamed_any _).mono ?_
    rintro e w2 ⟨rfl, hb2⟩
    go_wp2_with fail
    refine (beamed_any _).mono ?_
    rintro e w3 ⟨rfl, hb3⟩
    go_wp2
    go_ret
    exact ⟨rfl, by repeat' (first | (with_reducible first | exact Below.refl _ _ | assumption | refine below_alloc ?_ _ | refine Below.drew ?_ | refine below_drewN ?_ _ | refine below_then ?_ (by assumption) | refine Below.setCell ?_ ?_ _) | (simp; done) | (simp; omega) | omega)⟩

theorem past (b : Bm) (n m : Int) (hb : b.Ok) (n0 : 0 ≤ n) (n1 : n ≤ 20000) (m0 : 0 ≤ m) (m1 : m ≤ 20000 - n) (hx : ¬ (runBm b n).Ok) (w : World) :
    Calls Try.prog 10 #[.agg #[.int .i64 b.ln, .int .i64 b.pt, .bool b.rg, .int .i64 b.fr], .int .i64 n, .int .i64 m] w fun e w' => e = .returned (.bool true) ∧ Below w.heap.size w w' := by
  have hr := beamrun_ok b n hb n0 n1
  have hc := bcheck_bad _ hx
  generalize runBm b n = x at hr hc
  obtain ⟨ln, pt, rg, fr⟩ := b
  simp only at hr
  have R := Lib.hid hr
  have C := Lib.hid hc
  clear hr hb hc hx
  go_enter Try.func10, Try.ntmps10
  go_wp2_with fail
  refine (R.out _).mono ?_
  rintro e w1 ⟨rfl, hb1⟩
  have Kw1_0 : Hid (Blk w1 (w.heap.size) #[.int .i64 ln, .int .i64 pt, .bool rg, .int .i64 fr] 59) := Lib.hid (by repeat' (first | (with_reducible first | exact Hid.out (by assumption) | exact Blk.new _ _ _ | (refine Blk.new_at _ _ _ _ ?_; simp; done) | refine Blk.alloc ?_ _ | refine Blk.drewN ?_ _ | refine Blk.drew ?_ | apply Blk.set | refine Blk.below ?_ (by assumption)) | (refine Blk.setAt ?_ ?_; rotate_left; (first | (simp; done) | (simp; omega))) | rfl))
  obtain ⟨lw1_0, cw1_0, fw1_0⟩ := Kw1_0.out.use
  go_wp2_with fail
  refine (beamed_any _).mono ?_
  rintro e w2 ⟨rfl, hb2⟩
  have Kw2_0 : Hid (Blk w2 (w1.heap.size) #[.int .i64 x.ln, .int .i64 x.pt, .bool x.rg, .int .i64 x.fr] 59) := Lib.hid (by repeat' (first | (with_reducible first | exact Hid.out (by assumption) | exact Blk.new _ _ _ | (refine Blk.new_at _ _ _ _ ?_; simp; done) | refine Blk.alloc ?_ _ | refine Blk.drewN ?_ _ | refine Blk.drew ?_ | apply Blk.set | refine Blk.below ?_ (by assumption)) | (refine Blk.setAt ?_ ?_; rotate_left; (first | (simp; done) | (simp; omega))) | rfl))
  clear Kw1_0 cw1_0 fw1_0
  obtain ⟨lw2_0, cw2_0, fw2_0⟩ := Kw2_0.out.use
  go_wp2_with fail
  refine (C.out _).mono ?_
  rintro e w3 ⟨rfl, hb3⟩
  go_wp2_with fail
  refine (beamed_any _).mono ?_
  rintro e w4 ⟨rfl, hb4⟩
  go_wp2
  go_ret
  exact ⟨rfl, by repeat' (first | (with_reducible first | exact Below.refl _ _ | assumption | refine below_alloc ?_ _ | refine Below.drew ?_ | refine below_drewN ?_ _ | refine below_then ?_ (by assumption) | refine Below.setCell ?_ ?_ _) | (simp; done) | (simp; omega) | omega)⟩

theorem whole (b : Bm) (hb : b.Ok) : runBm b 640 = ⟨b.ln, b.pt, true, b.fr + 1⟩ := by
  obtain ⟨ln, pt, rg, fr⟩ := b
  obtain ⟨⟨h1, h2, h3, h4⟩, h5, h6⟩ := hb
  simp only at h1 h2 h3 h4
  unfold runBm untilB
  simp only
  congr 1
  · omega
  · omega
  · rw [if_pos]; split <;> omega
  · omega

theorem main (b : Bm) (n m : Int) (hb : b.Ok) (n0 : 0 ≤ n) (n1 : n ≤ 20000) (m0 : 0 ≤ m) (m1 : m ≤ 20000 - n) (hx : (runBm b n).Ok) (w : World) :
    Calls Try.prog 10 #[.agg #[.int .i64 b.ln, .int .i64 b.pt, .bool b.rg, .int .i64 b.fr], .int .i64 n, .int .i64 m] w fun e w' => e = .returned (.bool true) ∧ Below w.heap.size w w' := by
  have hr := beamrun_ok b n hb n0 n1
  have hc := bcheck_ok _ hx
  have hy := beamrun_ok _ m hx m0 (by omega)
  rw [runBm_add b hb.1 n m n0 m0] at hy
  have hz := beamrun_ok b (n + m) hb (by omega) (by omega)
  have hw := beamrun_ok b 640 hb (by omega) (by omega)
  rw [whole b hb] at hw
  generalize runBm b n = x at hr hc hy
  generalize runBm b (n + m) = y at hy hz
  obtain ⟨⟨h1, h2, h3, h4⟩, h5, h6⟩ := hb
  obtain ⟨ln, pt, rg, fr⟩ := b
  obtain ⟨y1, y2, y3, y4⟩ := y
  simp only at hr hc hy hz hw h1 h2 h3 h4 h5 h6
  have R := Lib.hid hr
  have C := Lib.hid hc
  have HY := Lib.hid hy
  have HZ := Lib.hid hz
  have HW := Lib.hid hw
  clear hr hc hx hy hz hw
  go_enter Try.func10, Try.ntmps10
  go_wp2_with fail
  refine (R.out _).mono ?_
  rintro e w1 ⟨rfl, hb1⟩
  have Kw1_0 : Hid (Blk w1 (w.heap.size) #[.int .i64 ln, .int .i64 pt, .bool rg, .int .i64 fr] 59) := Lib.hid (by repeat' (first | (with_reducible first | exact Hid.out (by assumption) | exact Blk.new _ _ _ | (refine Blk.new_at _ _ _ _ ?_; simp; done) | refine Blk.alloc ?_ _ | refine Blk.drewN ?_ _ | refine Blk.drew ?_ | apply Blk.set | refine Blk.below ?_ (by assumption)) | (refine Blk.setAt ?_ ?_; rotate_left; (first | (simp; done) | (simp; omega))) | rfl))
  obtain ⟨lw1_0, cw1_0, fw1_0⟩ := Kw1_0.out.use
  go_wp2_with fail
  refine (beamed_any _).mono ?_
  rintro e w2 ⟨rfl, hb2⟩
  have Kw2_0 : Hid (Blk w2 (w.heap.size) #[.int .i64 ln, .int .i64 pt, .bool rg, .int .i64 fr] 59) := Lib.hid (by repeat' (first | (with_reducible first | exact Hid.out (by assumption) | exact Blk.new _ _ _ | (refine Blk.new_at _ _ _ _ ?_; simp; done) | refine Blk.alloc ?_ _ | refine Blk.drewN ?_ _ | refine Blk.drew ?_ | apply Blk.set | refine Blk.below ?_ (by assumption)) | (refine Blk.setAt ?_ ?_; rotate_left; (first | (simp; done) | (simp; omega))) | rfl))
  have Kw2_1 : Hid (Blk w2 (w1.heap.size) #[.int .i64 x.ln, .int .i64 x.pt, .bool x.rg, .int .i64 x.fr] 59) := Lib.hid (by repeat' (first | (with_reducible first | exact Hid.out (by assumption) | exact Blk.new _ _ _ | (refine Blk.new_at _ _ _ _ ?_; simp; done) | refine Blk.alloc ?_ _ | refine Blk.drewN ?_ _ | refine Blk.drew ?_ | apply Blk.set | refine Blk.below ?_ (by assumption)) | (refine Blk.setAt ?_ ?_; rotate_left; (first | (simp; done) | (simp; omega))) | rfl))
  clear Kw1_0 cw1_0 fw1_0
  obtain ⟨lw2_0, cw2_0, fw2_0⟩ := Kw2_0.out.use
  obtain ⟨lw2_1, cw2_1, fw2_1⟩ := Kw2_1.out.use
  go_wp2_with fail
  refine (C.out _).mono ?_
  rintro e w3 ⟨rfl, hb3⟩
  have Kw3_0 : Hid (Blk w3 (w.heap.size) #[.int .i64 ln, .int .i64 pt, .bool rg, .int .i64 fr] 59) := Lib.hid (by repeat' (first | (with_reducible first | exact Hid.out (by assumption) | exact Blk.new _ _ _ | (refine Blk.new_at _ _ _ _ ?_; simp; done) | refine Blk.alloc ?_ _ | refine Blk.drewN ?_ _ | refine Blk.drew ?_ | apply Blk.set | refine Blk.below ?_ (by assumption)) | (refine Blk.setAt ?_ ?_; rotate_left; (first | (simp; done) | (simp; omega))) | rfl))
  have Kw3_1 : Hid (Blk w3 (w1.heap.size) #[.int .i64 x.ln, .int .i64 x.pt, .bool x.rg, .int .i64 x.fr] 59) := Lib.hid (by repeat' (first | (with_reducible first | exact Hid.out (by assumption) | exact Blk.new _ _ _ | (refine Blk.new_at _ _ _ _ ?_; simp; done) | refine Blk.alloc ?_ _ | refine Blk.drewN ?_ _ | refine Blk.drew ?_ | apply Blk.set | refine Blk.below ?_ (by assumption)) | (refine Blk.setAt ?_ ?_; rotate_left; (first | (simp; done) | (simp; omega))) | rfl))
  clear Kw2_0 cw2_0 fw2_0 Kw2_1 cw2_1 fw2_1
  obtain ⟨lw3_0, cw3_0, fw3_0⟩ := Kw3_0.out.use
  obtain ⟨lw3_1, cw3_1, fw3_1⟩ := Kw3_1.out.use
  go_wp2_with fail
  refine (HY.out _).mono ?_
  rintro e w4 ⟨rfl, hb4⟩
  have Kw4_0 : Hid (Blk w4 (w.heap.size) #[.int .i64 ln, .int .i64 pt, .bool rg, .int .i64 fr] 59) := Lib.hid (by repeat' (first | (with_reducible first | exact Hid.out (by assumption) | exact Blk.new _ _ _ | (refine Blk.new_at _ _ _ _ ?_; simp; done) | refine Blk.alloc ?_ _ | refine Blk.drewN ?_ _ | refine Blk.drew ?_ | apply Blk.set | refine Blk.below ?_ (by assumption)) | (refine Blk.setAt ?_ ?_; rotate_left; (first | (simp; done) | (simp; omega))) | rfl))
  clear Kw3_0 cw3_0 fw3_0 Kw3_1 cw3_1 fw3_1
  obtain ⟨lw4_0, cw4_0, fw4_0⟩ := Kw4_0.out.use
  go_wp2_with fail
  refine (HZ.out _).mono ?_
  rintro e w5 ⟨rfl, hb5⟩
  have Kw5_0 : Hid (Blk w5 (w.heap.size) #[.int .i64 ln, .int .i64 pt, .bool rg, .int .i64 fr] 59) := Lib.hid (by repeat' (first | (with_reducible first | exact Hid.out (by assumption) | exact Blk.new _ _ _ | (refine Blk.new_at _ _ _ _ ?_; simp; done) | refine Blk.alloc ?_ _ | refine Blk.drewN ?_ _ | refine Blk.drew ?_ | apply Blk.set | refine Blk.below ?_ (by assumption)) | (refine Blk.setAt ?_ ?_; rotate_left; (first | (simp; done) | (simp; omega))) | rfl))
  have Kw5_1 : Hid (Blk w5 (w4.heap.size) #[.int .i64 y1, .int .i64 y2, .bool y3, .int .i64 y4] 59) := Lib.hid (by repeat' (first | (with_reducible first | exact Hid.out (by assumption) | exact Blk.new _ _ _ | (refine Blk.new_at _ _ _ _ ?_; simp; done) | refine Blk.alloc ?_ _ | refine Blk.drewN ?_ _ | refine Blk.drew ?_ | apply Blk.set | refine Blk.below ?_ (by assumption)) | (refine Blk.setAt ?_ ?_; rotate_left; (first | (simp; done) | (simp; omega))) | rfl))
  clear Kw4_0 cw4_0 fw4_0
  obtain ⟨lw5_0, cw5_0, fw5_0⟩ := Kw5_0.out.use
  obtain ⟨lw5_1, cw5_1, fw5_1⟩ := Kw5_1.out.use
  go_wp2_with fail
  refine (HW.out _).mono ?_
  rintro e w6 ⟨rfl, hb6⟩
  have Kw6_0 : Hid (Blk w6 (w.heap.size) #[.int .i64 ln, .int .i64 pt, .bool rg, .int .i64 fr] 59) := Lib.hid (by repeat' (first | (with_reducible first | exact Hid.out (by assumption) | exact Blk.new _ _ _ | (refine Blk.new_at _ _ _ _ ?_; simp; done) | refine Blk.alloc ?_ _ | refine Blk.drewN ?_ _ | refine Blk.drew ?_ | apply Blk.set | refine Blk.below ?_ (by assumption)) | (refine Blk.setAt ?_ ?_; rotate_left; (first | (simp; done) | (simp; omega))) | rfl))
  have Kw6_1 : Hid (Blk w6 (w4.heap.size) #[.int .i64 y1, .int .i64 y2, .bool y3, .int .i64 y4] 59) := Lib.hid (by repeat' (first | (with_reducible first | exact Hid.out (by assumption) | exact Blk.new _ _ _ | (refine Blk.new_at _ _ _ _ ?_; simp; done) | refine Blk.alloc ?_ _ | refine Blk.drewN ?_ _ | refine Blk.drew ?_ | apply Blk.set | refine Blk.below ?_ (by assumption)) | (refine Blk.setAt ?_ ?_; rotate_left; (first | (simp; done) | (simp; omega))) | rfl))
  have Kw6_2 : Hid (Blk w6 (w5.heap.size) #[.int .i64 y1, .int .i64 y2, .bool y3, .int .i64 y4] 59) := Lib.hid (by repeat' (first | (with_reducible first | exact Hid.out (by assumption) | exact Blk.new _ _ _ | (refine Blk.new_at _ _ _ _ ?_; simp; done) | refine Blk.alloc ?_ _ | refine Blk.drewN ?_ _ | refine Blk.drew ?_ | apply Blk.set | refine Blk.below ?_ (by assumption)) | (refine Blk.setAt ?_ ?_; rotate_left; (first | (simp; done) | (simp; omega))) | rfl))
  clear Kw5_0 cw5_0 fw5_0 Kw5_1 cw5_1 fw5_1
  obtain ⟨lw6_0, cw6_0, fw6_0⟩ := Kw6_0.out.use
  obtain ⟨lw6_1, cw6_1, fw6_1⟩ := Kw6_1.out.use
  obtain ⟨lw6_2, cw6_2, fw6_2⟩ := Kw6_2.out.use
  go_wp2
  go_ret
  exact ⟨rfl, by repeat' (first | (with_reducible first | exact Below.refl _ _ | assumption | refine below_alloc ?_ _ | refine Below.drew ?_ | refine below_drewN ?_ _ | refine below_then ?_ (by assumption) | refine Below.setCell ?_ ?_ _) | (simp; done) | (simp; omega) | omega)⟩

theorem walk (ln pt : Int) (rg : Bool) (fr n m : Int) (_h1 : I64 ln) (_h2 : I64 pt) (_h3 : I64 fr) (_h4 : I64 n) (_h5 : I64 m) (w : World) :
    Calls Try.prog 10 #[.agg #[.int .i64 ln, .int .i64 pt, .bool rg, .int .i64 fr], .int .i64 n, .int .i64 m] w fun e w' => e = .returned (.bool true) ∧ Below w.heap.size w w' := by
  by_cases hb : (⟨ln, pt, rg, fr⟩ : Bm).Ok
  · by_cases h : n < 0 ∨ 20000 < n
    · exact range ⟨ln, pt, rg, fr⟩ n m hb h w
    · by_cases h' : m < 0 ∨ (0 ≤ m ∧ 20000 - n < m)
      · exact early ⟨ln, pt, rg, fr⟩ n m hb (by omega) (by omega) h' w
      · by_cases hx : (runBm ⟨ln, pt, rg, fr⟩ n).Ok
        · exact main ⟨ln, pt, rg, fr⟩ n m hb (by omega) (by omega) (by omega) (by omega) hx w
        · exact past ⟨ln, pt, rg, fr⟩ n m hb (by omega) (by omega) (by omega) (by omega) hx w
  · exact bad ⟨ln, pt, rg, fr⟩ n m hb w
end Go.Proofs.Ytegilgnpkcjhpaa.beamParts
