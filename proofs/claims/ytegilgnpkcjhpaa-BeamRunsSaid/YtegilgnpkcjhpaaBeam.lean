/- What the program's beam, and the document's, compute. Conditions: the fields are ints. -/
import Derived.Test.YtegilgnpkcjhpaaRows
import Derived.Test.YtegilgnpkcjhpaaBeamPure
namespace Go.Proofs.Ytegilgnpkcjhpaa
open Go.RowKit Go.Mq
set_option linter.unusedVariables false
set_option linter.unusedSimpArgs false
set_option maxHeartbeats 2000000

theorem bcheck_ok (b : Bm) (hb : b.Ok) (w : World) :
    Calls Try.prog 43 #[.agg #[.int .i64 b.ln, .int .i64 b.pt, .bool b.rg, .int .i64 b.fr]] w fun e w' => e = .returned (.int .i64 0) ∧ Below w.heap.size w w' := by
  obtain ⟨ln, pt, rg, fr⟩ := b
  obtain ⟨⟨h1, h2, h3, h4⟩, h5, h6⟩ := hb
  simp only at h1 h2 h3 h4 h5 h6
  go_enter Try.func43, Try.ntmps43
  go_wp2
  go_ret
  exact ⟨rfl, by repeat' (first | (with_reducible first | exact Below.refl _ _ | assumption | refine below_alloc ?_ _ | refine Below.drew ?_ | refine below_drewN ?_ _ | refine below_then ?_ (by assumption) | refine Below.setCell ?_ ?_ _) | (simp; done) | (simp; omega) | omega)⟩

/-- which test says no first -/
def BadAt (ln pt fr : Int) (k : Nat) : Prop :=
  match k with
  | 0 => ln < 0
  | 1 => 0 ≤ ln ∧ 10 ≤ ln
  | 2 => 0 ≤ ln ∧ ln < 10 ∧ pt < 0
  | 3 => 0 ≤ ln ∧ ln < 10 ∧ 0 ≤ pt ∧ 64 ≤ pt
  | 4 => 0 ≤ ln ∧ ln < 10 ∧ 0 ≤ pt ∧ pt < 64 ∧ fr < 0
  | _ => 0 ≤ ln ∧ ln < 10 ∧ 0 ≤ pt ∧ pt < 64 ∧ 0 ≤ fr ∧ 20000 < fr
theorem badAt_of (b : Bm) (h : ¬ b.Ok) : ∃ k, k < 6 ∧ BadAt b.ln b.pt b.fr k := by
  unfold Bm.Ok Bm.In at h
  by_cases h0 : b.ln < 0
  · exact ⟨0, by omega, h0⟩
  by_cases h1 : 10 ≤ b.ln
  · exact ⟨1, by omega, by omega, h1⟩
  by_cases h2 : b.pt < 0
  · exact ⟨2, by omega, by omega, by omega, h2⟩
  by_cases h3 : 64 ≤ b.pt
  · exact ⟨3, by omega, by omega, by omega, by omega, h3⟩
  by_cases h4 : b.fr < 0
  · exact ⟨4, by omega, by omega, by omega, by omega, by omega, h4⟩
  · exact ⟨5, by omega, by omega, by omega, by omega, by omega, by omega, by omega⟩

theorem bcheck_bad (b : Bm) (hb : ¬ b.Ok) (w : World) :
    Calls Try.prog 43 #[.agg #[.int .i64 b.ln, .int .i64 b.pt, .bool b.rg, .int .i64 b.fr]] w fun e w' => e = .returned (.int .i64 3) ∧ Below w.heap.size w w' := by
  obtain ⟨k, hk, h⟩ := badAt_of b hb
  obtain ⟨ln, pt, rg, fr⟩ := b
  clear hb
  simp only at h
  rcases (by omega : k = 0 ∨ k = 1 ∨ k = 2 ∨ k = 3 ∨ k = 4 ∨ k = 5) with rfl | rfl | rfl | rfl | rfl | rfl
  · have g0 : ln < 0 := h
    clear h
    go_enter Try.func43, Try.ntmps43
    go_wp2
    go_ret
    exact ⟨rfl, by repeat' (first | (with_reducible first | exact Below.refl _ _ | assumption | refine below_alloc ?_ _ | refine Below.drew ?_ | refine below_drewN ?_ _ | refine below_then ?_ (by assumption) | refine Below.setCell ?_ ?_ _) | (simp; done) | (simp; omega) | omega)⟩
  · obtain ⟨g0, g1⟩ := h
    go_enter Try.func43, Try.ntmps43
    go_wp2
    go_ret
    exact ⟨rfl, by repeat' (first | (with_reducible first | exact Below.refl _ _ | assumption | refine below_alloc ?_ _ | refine Below.drew ?_ | refine below_drewN ?_ _ | refine below_then ?_ (by assumption) | refine Below.setCell ?_ ?_ _) | (simp; done) | (simp; omega) | omega)⟩
  · obtain ⟨g0, g1, g2⟩ := h
    go_enter Try.func43, Try.ntmps43
    go_wp2
    go_ret
    exact ⟨rfl, by repeat' (first | (with_reducible first | exact Below.refl _ _ | assumption | refine below_alloc ?_ _ | refine Below.drew ?_ | refine below_drewN ?_ _ | refine below_then ?_ (by assumption) | refine Below.setCell ?_ ?_ _) | (simp; done) | (simp; omega) | omega)⟩
  · obtain ⟨g0, g1, g2, g3⟩ := h
    go_enter Try.func43, Try.ntmps43
    go_wp2
    go_ret
    exact ⟨rfl, by repeat' (first | (with_reducible first | exact Below.refl _ _ | assumption | refine below_alloc ?_ _ | refine Below.drew ?_ | refine below_drewN ?_ _ | refine below_then ?_ (by assumption) | refine Below.setCell ?_ ?_ _) | (simp; done) | (simp; omega) | omega)⟩
  · obtain ⟨g0, g1, g2, g3, g4⟩ := h
    go_enter Try.func43, Try.ntmps43
    go_wp2
    go_ret
    exact ⟨rfl, by repeat' (first | (with_reducible first | exact Below.refl _ _ | assumption | refine below_alloc ?_ _ | refine Below.drew ?_ | refine below_drewN ?_ _ | refine below_then ?_ (by assumption) | refine Below.setCell ?_ ?_ _) | (simp; done) | (simp; omega) | omega)⟩
  · obtain ⟨g0, g1, g2, g3, g4, g5⟩ := h
    go_enter Try.func43, Try.ntmps43
    go_wp2
    go_ret
    exact ⟨rfl, by repeat' (first | (with_reducible first | exact Below.refl _ _ | assumption | refine below_alloc ?_ _ | refine Below.drew ?_ | refine below_drewN ?_ _ | refine below_then ?_ (by assumption) | refine Below.setCell ?_ ?_ _) | (simp; done) | (simp; omega) | omega)⟩

theorem place_any (b : Bm) (hb : b.Ok) (w : World) :
    Calls Try.prog 56 #[.agg #[.int .i64 b.ln, .int .i64 b.pt, .bool b.rg, .int .i64 b.fr]] w fun e w' => e = .returned (.int .i64 (b.ln * 64 + b.pt)) ∧ Below w.heap.size w w' := by
  obtain ⟨ln, pt, rg, fr⟩ := b
  obtain ⟨⟨h1, h2, h3, h4⟩, h5, h6⟩ := hb
  simp only at h1 h2 h3 h4 h5 h6
  go_enter Try.func56, Try.ntmps56
  go_wp2
  go_ret
  exact ⟨rfl, by repeat' (first | (with_reducible first | exact Below.refl _ _ | assumption | refine below_alloc ?_ _ | refine Below.drew ?_ | refine below_drewN ?_ _ | refine below_then ?_ (by assumption) | refine Below.setCell ?_ ?_ _) | (simp; done) | (simp; omega) | omega)⟩

theorem until_any (p : Int) (h0 : 0 ≤ p) (h1 : p ≤ 639) (w : World) :
    Calls Try.prog 58 #[.int .i64 p, .int .i64 512] w fun e w' => e = .returned (.int .i64 (untilB p)) ∧ w = w' := by
  have ht : (512 - p).tmod 640 = 512 - p := by
    rcases (by omega : 0 ≤ 512 - p ∨ 512 - p < 0) with h | h
    · rw [Int.tmod_eq_emod_of_nonneg h]; omega
    · rw [show 512 - p = -(p - 512) from by omega, Int.neg_tmod, Int.tmod_eq_emod_of_nonneg (by omega)]; omega
  by_cases h : p < 512
  · have e1 : untilB p = 512 - p := by unfold untilB; rw [if_pos h]
    rw [e1]
    clear e1
    go_enter Try.func58, Try.ntmps58
    go_wp2
    go_ret
    exact ⟨rfl, rfl⟩
  · have e1 : untilB p = 512 - p + 640 := by unfold untilB; rw [if_neg h]; omega
    rw [e1]
    clear e1
    go_enter Try.func58, Try.ntmps58
    go_wp2
    go_ret
    exact ⟨rfl, rfl⟩

theorem over_any (n p : Int) (h0 : 0 ≤ p) (h1 : p ≤ 639) (pn pp : Addr) (w : World) (cn : w.cell? pn = some (.int .i64 n)) (cp : w.cell? pp = some (.int .i64 p)) :
    Calls Try.prog 57 #[.int .i64 512, .pointer (some pn), .pointer (some pp)] w fun e w' => e = .returned (.bool (decide (untilB p ≤ n))) ∧ Drew w w' := by
  go_enter Try.func57, Try.ntmps57
  go_wp2
  go_quiet ((go_at_call 58; exact quiet_sym (until_any p h0 h1 _)))
  go_wp2
  go_ret
  exact ⟨rfl, (Drew.refl _).drewN _⟩

theorem beamrun_bad (b : Bm) (n : Int) (hb : ¬ b.Ok) (w : World) :
    Calls Try.prog 41 #[.agg #[.int .i64 b.ln, .int .i64 b.pt, .bool b.rg, .int .i64 b.fr], .int .i64 n] w fun e w' => e = .returned (.tuple #[.agg #[.int .i64 0, .int .i64 0, .bool false, .int .i64 0], .int .i64 3]) ∧ Below w.heap.size w w' := by
  have hc := bcheck_bad b hb
  obtain ⟨ln, pt, rg, fr⟩ := b
  simp only at hc
  have HC := Lib.hid hc
  clear hc hb
  go_enter Try.func41, Try.ntmps41
  go_wp2_with fail
  refine (HC.out _).mono ?_
  rintro e w1 ⟨rfl, hb1⟩
  have Kw1_0 : Hid (Blk w1 (w.heap.size) #[.int .i64 ln, .int .i64 pt, .bool rg, .int .i64 fr] 59) := Lib.hid (by repeat' (first | (with_reducible first | exact Hid.out (by assumption) | exact Blk.new _ _ _ | (refine Blk.new_at _ _ _ _ ?_; simp; done) | refine Blk.alloc ?_ _ | refine Blk.drewN ?_ _ | refine Blk.drew ?_ | apply Blk.set | refine Blk.below ?_ (by assumption)) | (refine Blk.setAt ?_ ?_; rotate_left; (first | (simp; done) | (simp; omega))) | rfl))
  have Kw1_1 : Hid (Blk w1 (w.heap.size + 1) #[.int .i64 n] 3) := Lib.hid (by repeat' (first | (with_reducible first | exact Hid.out (by assumption) | exact Blk.new _ _ _ | (refine Blk.new_at _ _ _ _ ?_; simp; done) | refine Blk.alloc ?_ _ | refine Blk.drewN ?_ _ | refine Blk.drew ?_ | apply Blk.set | refine Blk.below ?_ (by assumption)) | (refine Blk.setAt ?_ ?_; rotate_left; (first | (simp; done) | (simp; omega))) | rfl))
  have Kw1_2 : Hid (Blk w1 (w.heap.size + 1 + 1) #[.int .i64 0, .int .i64 0, .bool false, .int .i64 0] 59) := Lib.hid (by repeat' (first | (with_reducible first | exact Hid.out (by assumption) | exact Blk.new _ _ _ | (refine Blk.new_at _ _ _ _ ?_; simp; done) | refine Blk.alloc ?_ _ | refine Blk.drewN ?_ _ | refine Blk.drew ?_ | apply Blk.set | refine Blk.below ?_ (by assumption)) | (refine Blk.setAt ?_ ?_; rotate_left; (first | (simp; done) | (simp; omega))) | rfl))
  obtain ⟨lw1_0, cw1_0, fw1_0⟩ := Kw1_0.out.use
  obtain ⟨lw1_1, cw1_1, fw1_1⟩ := Kw1_1.out.use
  obtain ⟨lw1_2, cw1_2, fw1_2⟩ := Kw1_2.out.use
  go_wp2
  refine bodyPost_ret (v := .tuple #[.agg #[.int .i64 0, .int .i64 0, .bool false, .int .i64 0], .int .i64 3]) (by simp [results, Try.results41, go_sem, cw1_2, fw1_2, lw1_2]) rfl ⟨rfl, ?_⟩
  exact by repeat' (first | (with_reducible first | exact Below.refl _ _ | assumption | refine below_alloc ?_ _ | refine Below.drew ?_ | refine below_drewN ?_ _ | refine below_then ?_ (by assumption) | refine Below.setCell ?_ ?_ _) | (simp; done) | (simp; omega) | omega)

theorem beamrun_range (b : Bm) (n : Int) (hb : b.Ok) (h : n < 0 ∨ 20000 < n) (w : World) :
    Calls Try.prog 41 #[.agg #[.int .i64 b.ln, .int .i64 b.pt, .bool b.rg, .int .i64 b.fr], .int .i64 n] w fun e w' => e = .returned (.tuple #[.agg #[.int .i64 0, .int .i64 0, .bool false, .int .i64 0], .int .i64 3]) ∧ Below w.heap.size w w' := by
  have hc := bcheck_ok b hb
  obtain ⟨ln, pt, rg, fr⟩ := b
  simp only at hc
  have HC := Lib.hid hc
  clear hc hb
  by_cases h1 : n < 0
  · clear h
    go_enter Try.func41, Try.ntmps41
    go_wp2_with fail
    refine (HC.out _).mono ?_
    rintro e w1 ⟨rfl, hb1⟩
    have Kw1_0 : Hid (Blk w1 (w.heap.size) #[.int .i64 ln, .int .i64 pt, .bool rg, .int .i64 fr] 59) := Lib.hid (by repeat' (first | (with_reducible first | exact Hid.out (by assumption) | exact Blk.new _ _ _ | (refine Blk.new_at _ _ _ _ ?_; simp; done) | refine Blk.alloc ?_ _ | refine Blk.drewN ?_ _ | refine Blk.drew ?_ | apply Blk.set | refine Blk.below ?_ (by assumption)) | (refine Blk.setAt ?_ ?_; rotate_left; (first | (simp; done) | (simp; omega))) | rfl))
    have Kw1_1 : Hid (Blk w1 (w.heap.size + 1) #[.int .i64 n] 3) := Lib.hid (by repeat' (first | (with_reducible first | exact Hid.out (by assumption) | exact Blk.new _ _ _ | (refine Blk.new_at _ _ _ _ ?_; simp; done) | refine Blk.alloc ?_ _ | refine Blk.drewN ?_ _ | refine Blk.drew ?_ | apply Blk.set | refine Blk.below ?_ (by assumption)) | (refine Blk.setAt ?_ ?_; rotate_left; (first | (simp; done) | (simp; omega))) | rfl))
    have Kw1_2 : Hid (Blk w1 (w.heap.size + 1 + 1) #[.int .i64 0, .int .i64 0, .bool false, .int .i64 0] 59) := Lib.hid (by repeat' (first | (with_reducible first | exact Hid.out (by assumption) | exact Blk.new _ _ _ | (refine Blk.new_at _ _ _ _ ?_; simp; done) | refine Blk.alloc ?_ _ | refine Blk.drewN ?_ _ | refine Blk.drew ?_ | apply Blk.set | refine Blk.below ?_ (by assumption)) | (refine Blk.setAt ?_ ?_; rotate_left; (first | (simp; done) | (simp; omega))) | rfl))
    obtain ⟨lw1_0, cw1_0, fw1_0⟩ := Kw1_0.out.use
    obtain ⟨lw1_1, cw1_1, fw1_1⟩ := Kw1_1.out.use
    obtain ⟨lw1_2, cw1_2, fw1_2⟩ := Kw1_2.out.use
    go_wp2
    refine bodyPost_ret (v := .tuple #[.agg #[.int .i64 0, .int .i64 0, .bool false, .int .i64 0], .int .i64 3]) (by simp [results, Try.results41, go_sem, cw1_2, fw1_2, lw1_2]) rfl ⟨rfl, ?_⟩
    exact by repeat' (first | (with_reducible first | exact Below.refl _ _ | assumption | refine below_alloc ?_ _ | refine Below.drew ?_ | refine below_drewN ?_ _ | refine below_then ?_ (by assumption) | refine Below.setCell ?_ ?_ _) | (simp; done) | (simp; omega) | omega)
  · have h2 : 20000 < n := by omega
    clear h
    go_enter Try.func41, Try.ntmps41
    go_wp2_with fail
    refine (HC.out _).mono ?_
    rintro e w1 ⟨rfl, hb1⟩
    have Kw1_0 : Hid (Blk w1 (w.heap.size) #[.int .i64 ln, .int .i64 pt, .bool rg, .int .i64 fr] 59) := Lib.hid (by repeat' (first | (with_reducible first | exact Hid.out (by assumption) | exact Blk.new _ _ _ | (refine Blk.new_at _ _ _ _ ?_; simp; done) | refine Blk.alloc ?_ _ | refine Blk.drewN ?_ _ | refine Blk.drew ?_ | apply Blk.set | refine Blk.below ?_ (by assumption)) | (refine Blk.setAt ?_ ?_; rotate_left; (first | (simp; done) | (simp; omega))) | rfl))
    have Kw1_1 : Hid (Blk w1 (w.heap.size + 1) #[.int .i64 n] 3) := Lib.hid (by repeat' (first | (with_reducible first | exact Hid.out (by assumption) | exact Blk.new _ _ _ | (refine Blk.new_at _ _ _ _ ?_; simp; done) | refine Blk.alloc ?_ _ | refine Blk.drewN ?_ _ | refine Blk.drew ?_ | apply Blk.set | refine Blk.below ?_ (by assumption)) | (refine Blk.setAt ?_ ?_; rotate_left; (first | (simp; done) | (simp; omega))) | rfl))
    have Kw1_2 : Hid (Blk w1 (w.heap.size + 1 + 1) #[.int .i64 0, .int .i64 0, .bool false, .int .i64 0] 59) := Lib.hid (by repeat' (first | (with_reducible first | exact Hid.out (by assumption) | exact Blk.new _ _ _ | (refine Blk.new_at _ _ _ _ ?_; simp; done) | refine Blk.alloc ?_ _ | refine Blk.drewN ?_ _ | refine Blk.drew ?_ | apply Blk.set | refine Blk.below ?_ (by assumption)) | (refine Blk.setAt ?_ ?_; rotate_left; (first | (simp; done) | (simp; omega))) | rfl))
    obtain ⟨lw1_0, cw1_0, fw1_0⟩ := Kw1_0.out.use
    obtain ⟨lw1_1, cw1_1, fw1_1⟩ := Kw1_1.out.use
    obtain ⟨lw1_2, cw1_2, fw1_2⟩ := Kw1_2.out.use
    go_wp2
    refine bodyPost_ret (v := .tuple #[.agg #[.int .i64 0, .int .i64 0, .bool false, .int .i64 0], .int .i64 3]) (by simp [results, Try.results41, go_sem, cw1_2, fw1_2, lw1_2]) rfl ⟨rfl, ?_⟩
    exact by repeat' (first | (with_reducible first | exact Below.refl _ _ | assumption | refine below_alloc ?_ _ | refine Below.drew ?_ | refine below_drewN ?_ _ | refine below_then ?_ (by assumption) | refine Below.setCell ?_ ?_ _) | (simp; done) | (simp; omega) | omega)

theorem beamrun_oktrue (b : Bm) (n : Int) (hb : b.Ok) (n0 : 0 ≤ n) (n1 : n ≤ 20000) (hu : untilB (b.ln * 64 + b.pt) ≤ n) (w : World) :
    Calls Try.prog 41 #[.agg #[.int .i64 b.ln, .int .i64 b.pt, .bool b.rg, .int .i64 b.fr], .int .i64 n] w fun e w' => e = .returned (.tuple #[.agg #[.int .i64 (runBm b n).ln, .int .i64 (runBm b n).pt, .bool (runBm b n).rg, .int .i64 (runBm b n).fr], .int .i64 0]) ∧ Below w.heap.size w w' := by
  have hc := bcheck_ok b hb
  have hpl := place_any b hb
  obtain ⟨⟨h1, h2, h3, h4⟩, h5, h6⟩ := hb
  obtain ⟨ln, pt, rg, fr⟩ := b
  simp only at h1 h2 h3 h4 h5 h6 hc hpl
  unfold runBm
  simp only
  have hov := fun pn pp w => over_any n (ln * 64 + pt) (by omega) (by omega) pn pp w
  simp only at hu
  generalize hp : ln * 64 + pt = p at *
  have p0 : 0 ≤ p := by omega
  have p1 : p ≤ 639 := by omega
  have HC := Lib.hid hc
  have HP := Lib.hid hpl
  clear hc hpl hp
  have e1 : decide (untilB p ≤ n) = true := decide_eq_true hu
  rw [e1] at hov
  rw [if_pos hu]
  have HO := Lib.hid hov
  clear hov e1 hu
  go_enter Try.func41, Try.ntmps41
  go_wp2_with fail
  refine (HC.out _).mono ?_
  rintro e w1 ⟨rfl, hb1⟩
  have Kw1_0 : Hid (Blk w1 (w.heap.size) #[.int .i64 ln, .int .i64 pt, .bool rg, .int .i64 fr] 59) := Lib.hid (by repeat' (first | (with_reducible first | exact Hid.out (by assumption) | exact Blk.new _ _ _ | (refine Blk.new_at _ _ _ _ ?_; simp; done) | refine Blk.alloc ?_ _ | refine Blk.drewN ?_ _ | refine Blk.drew ?_ | apply Blk.set | refine Blk.below ?_ (by assumption)) | (refine Blk.setAt ?_ ?_; rotate_left; (first | (simp; done) | (simp; omega))) | rfl))
  have Kw1_1 : Hid (Blk w1 (w.heap.size + 1) #[.int .i64 n] 3) := Lib.hid (by repeat' (first | (with_reducible first | exact Hid.out (by assumption) | exact Blk.new _ _ _ | (refine Blk.new_at _ _ _ _ ?_; simp; done) | refine Blk.alloc ?_ _ | refine Blk.drewN ?_ _ | refine Blk.drew ?_ | apply Blk.set | refine Blk.below ?_ (by assumption)) | (refine Blk.setAt ?_ ?_; rotate_left; (first | (simp; done) | (simp; omega))) | rfl))
  have Kw1_2 : Hid (Blk w1 (w.heap.size + 1 + 1) #[.int .i64 0, .int .i64 0, .bool false, .int .i64 0] 59) := Lib.hid (by repeat' (first | (with_reducible first | exact Hid.out (by assumption) | exact Blk.new _ _ _ | (refine Blk.new_at _ _ _ _ ?_; simp; done) | refine Blk.alloc ?_ _ | refine Blk.drewN ?_ _ | refine Blk.drew ?_ | apply Blk.set | refine Blk.below ?_ (by assumption)) | (refine Blk.setAt ?_ ?_; rotate_left; (first | (simp; done) | (simp; omega))) | rfl))
  obtain ⟨lw1_0, cw1_0, fw1_0⟩ := Kw1_0.out.use
  obtain ⟨lw1_1, cw1_1, fw1_1⟩ := Kw1_1.out.use
  obtain ⟨lw1_2, cw1_2, fw1_2⟩ := Kw1_2.out.use
  go_wp2_with fail
  refine (HP.out _).mono ?_
  rintro e w2 ⟨rfl, hb2⟩
  have Kw2_0 : Hid (Blk w2 (w.heap.size) #[.int .i64 ln, .int .i64 pt, .bool rg, .int .i64 fr] 59) := Lib.hid (by repeat' (first | (with_reducible first | exact Hid.out (by assumption) | exact Blk.new _ _ _ | (refine Blk.new_at _ _ _ _ ?_; simp; done) | refine Blk.alloc ?_ _ | refine Blk.drewN ?_ _ | refine Blk.drew ?_ | apply Blk.set | refine Blk.below ?_ (by assumption)) | (refine Blk.setAt ?_ ?_; rotate_left; (first | (simp; done) | (simp; omega))) | rfl))
  have Kw2_1 : Hid (Blk w2 (w.heap.size + 1) #[.int .i64 n] 3) := Lib.hid (by repeat' (first | (with_reducible first | exact Hid.out (by assumption) | exact Blk.new _ _ _ | (refine Blk.new_at _ _ _ _ ?_; simp; done) | refine Blk.alloc ?_ _ | refine Blk.drewN ?_ _ | refine Blk.drew ?_ | apply Blk.set | refine Blk.below ?_ (by assumption)) | (refine Blk.setAt ?_ ?_; rotate_left; (first | (simp; done) | (simp; omega))) | rfl))
  have Kw2_2 : Hid (Blk w2 (w.heap.size + 1 + 1) #[.int .i64 0, .int .i64 0, .bool false, .int .i64 0] 59) := Lib.hid (by repeat' (first | (with_reducible first | exact Hid.out (by assumption) | exact Blk.new _ _ _ | (refine Blk.new_at _ _ _ _ ?_; simp; done) | refine Blk.alloc ?_ _ | refine Blk.drewN ?_ _ | refine Blk.drew ?_ | apply Blk.set | refine Blk.below ?_ (by assumption)) | (refine Blk.setAt ?_ ?_; rotate_left; (first | (simp; done) | (simp; omega))) | rfl))
  clear Kw1_0 cw1_0 fw1_0 Kw1_1 cw1_1 fw1_1 Kw1_2 cw1_2 fw1_2
  obtain ⟨lw2_0, cw2_0, fw2_0⟩ := Kw2_0.out.use
  obtain ⟨lw2_1, cw2_1, fw2_1⟩ := Kw2_1.out.use
  obtain ⟨lw2_2, cw2_2, fw2_2⟩ := Kw2_2.out.use
  go_wp2_with fail
  refine (HO.out _ _ _ (by go_simp) (by go_simp)).mono ?_
  rintro e w3 ⟨rfl, hd⟩
  obtain ⟨d, rfl⟩ := hd
  go_wp2
  refine wp_mark (R := fun W => Below w.heap.size w W ∧ Hid (Blk W (w.heap.size) (#[.int .i64 ln, .int .i64 pt, .bool true, .int .i64 (fr + (p + n) / 640)]) 59) ∧ Hid (Blk W (w2.heap.size) (#[.int .i64 ((p + n) % 640)]) 3) ∧ Hid (Blk W (w.heap.size + 1 + 1) (#[.int .i64 0, .int .i64 0, .bool false, .int .i64 0]) 59)) ⟨by repeat' (first | (with_reducible first | exact Below.refl _ _ | assumption | refine below_alloc ?_ _ | refine Below.drew ?_ | refine below_drewN ?_ _ | refine below_then ?_ (by assumption) | refine Below.setCell ?_ ?_ _) | (simp; done) | (simp; omega) | omega), Lib.hid (by repeat' (first | (with_reducible first | exact Hid.out (by assumption) | exact Blk.new _ _ _ | (refine Blk.new_at _ _ _ _ ?_; simp; done) | refine Blk.alloc ?_ _ | refine Blk.drewN ?_ _ | refine Blk.drew ?_ | apply Blk.set | refine Blk.below ?_ (by assumption)) | (refine Blk.setAt ?_ ?_; rotate_left; (first | (simp; done) | (simp; omega))) | rfl)), Lib.hid (by repeat' (first | (with_reducible first | exact Hid.out (by assumption) | exact Blk.new _ _ _ | (refine Blk.new_at _ _ _ _ ?_; simp; done) | refine Blk.alloc ?_ _ | refine Blk.drewN ?_ _ | refine Blk.drew ?_ | apply Blk.set | refine Blk.below ?_ (by assumption)) | (refine Blk.setAt ?_ ?_; rotate_left; (first | (simp; done) | (simp; omega))) | rfl)), Lib.hid (by repeat' (first | (with_reducible first | exact Hid.out (by assumption) | exact Blk.new _ _ _ | (refine Blk.new_at _ _ _ _ ?_; simp; done) | refine Blk.alloc ?_ _ | refine Blk.drewN ?_ _ | refine Blk.drew ?_ | apply Blk.set | refine Blk.below ?_ (by assumption)) | (refine Blk.setAt ?_ ?_; rotate_left; (first | (simp; done) | (simp; omega))) | rfl))⟩ ?_
  rintro w4 ⟨hbw4, Kw4_0, Kw4_1, Kw4_2⟩
  clear Kw2_0 cw2_0 fw2_0 Kw2_1 cw2_1 fw2_1 Kw2_2 cw2_2 fw2_2
  obtain ⟨lw4_0, cw4_0, fw4_0⟩ := Kw4_0.out.use
  obtain ⟨lw4_1, cw4_1, fw4_1⟩ := Kw4_1.out.use
  obtain ⟨lw4_2, cw4_2, fw4_2⟩ := Kw4_2.out.use
  generalize hx : (p + n) % 640 = x at *
  have x0 : 0 ≤ x := by omega
  have x1 : x ≤ 639 := by omega
  have HX := Lib.hid hx
  clear hx
  go_region
  go_wp2
  refine bodyPost_ret (v := .tuple #[.agg #[.int .i64 (x / 64), .int .i64 (x % 64), .bool true, .int .i64 (fr + (p + n) / 640)], .int .i64 0]) (by simp [results, Try.results41, go_sem, cw4_0, cw4_2, fw4_2, lw4_2]) rfl ?_
  refine ⟨?_, ?_⟩
  · rw [HX.out]
  · exact by repeat' (first | (with_reducible first | exact Below.refl _ _ | assumption | refine below_alloc ?_ _ | refine Below.drew ?_ | refine below_drewN ?_ _ | refine below_then ?_ (by assumption) | refine Below.setCell ?_ ?_ _) | (simp; done) | (simp; omega) | omega)

theorem beamrun_okrg (b : Bm) (n : Int) (hb : b.Ok) (n0 : 0 ≤ n) (n1 : n ≤ 20000) (hu : ¬ untilB (b.ln * 64 + b.pt) ≤ n) (w : World) :
    Calls Try.prog 41 #[.agg #[.int .i64 b.ln, .int .i64 b.pt, .bool b.rg, .int .i64 b.fr], .int .i64 n] w fun e w' => e = .returned (.tuple #[.agg #[.int .i64 (runBm b n).ln, .int .i64 (runBm b n).pt, .bool (runBm b n).rg, .int .i64 (runBm b n).fr], .int .i64 0]) ∧ Below w.heap.size w w' := by
  have hc := bcheck_ok b hb
  have hpl := place_any b hb
  obtain ⟨⟨h1, h2, h3, h4⟩, h5, h6⟩ := hb
  obtain ⟨ln, pt, rg, fr⟩ := b
  simp only at h1 h2 h3 h4 h5 h6 hc hpl
  unfold runBm
  simp only
  have hov := fun pn pp w => over_any n (ln * 64 + pt) (by omega) (by omega) pn pp w
  simp only at hu
  generalize hp : ln * 64 + pt = p at *
  have p0 : 0 ≤ p := by omega
  have p1 : p ≤ 639 := by omega
  have HC := Lib.hid hc
  have HP := Lib.hid hpl
  clear hc hpl hp
  have e1 : decide (untilB p ≤ n) = false := decide_eq_false hu
  rw [e1] at hov
  rw [if_neg hu]
  have HO := Lib.hid hov
  clear hov e1 hu
  go_enter Try.func41, Try.ntmps41
  go_wp2_with fail
  refine (HC.out _).mono ?_
  rintro e w1 ⟨rfl, hb1⟩
  have Kw1_0 : Hid (Blk w1 (w.heap.size) #[.int .i64 ln, .int .i64 pt, .bool rg, .int .i64 fr] 59) := Lib.hid (by repeat' (first | (with_reducible first | exact Hid.out (by assumption) | exact Blk.new _ _ _ | (refine Blk.new_at _ _ _ _ ?_; simp; done) | refine Blk.alloc ?_ _ | refine Blk.drewN ?_ _ | refine Blk.drew ?_ | apply Blk.set | refine Blk.below ?_ (by assumption)) | (refine Blk.setAt ?_ ?_; rotate_left; (first | (simp; done) | (simp; omega))) | rfl))
  have Kw1_1 : Hid (Blk w1 (w.heap.size + 1) #[.int .i64 n] 3) := Lib.hid (by repeat' (first | (with_reducible first | exact Hid.out (by assumption) | exact Blk.new _ _ _ | (refine Blk.new_at _ _ _ _ ?_; simp; done) | refine Blk.alloc ?_ _ | refine Blk.drewN ?_ _ | refine Blk.drew ?_ | apply Blk.set | refine Blk.below ?_ (by assumption)) | (refine Blk.setAt ?_ ?_; rotate_left; (first | (simp; done) | (simp; omega))) | rfl))
  have Kw1_2 : Hid (Blk w1 (w.heap.size + 1 + 1) #[.int .i64 0, .int .i64 0, .bool false, .int .i64 0] 59) := Lib.hid (by repeat' (first | (with_reducible first | exact Hid.out (by assumption) | exact Blk.new _ _ _ | (refine Blk.new_at _ _ _ _ ?_; simp; done) | refine Blk.alloc ?_ _ | refine Blk.drewN ?_ _ | refine Blk.drew ?_ | apply Blk.set | refine Blk.below ?_ (by assumption)) | (refine Blk.setAt ?_ ?_; rotate_left; (first | (simp; done) | (simp; omega))) | rfl))
  obtain ⟨lw1_0, cw1_0, fw1_0⟩ := Kw1_0.out.use
  obtain ⟨lw1_1, cw1_1, fw1_1⟩ := Kw1_1.out.use
  obtain ⟨lw1_2, cw1_2, fw1_2⟩ := Kw1_2.out.use
  go_wp2_with fail
  refine (HP.out _).mono ?_
  rintro e w2 ⟨rfl, hb2⟩
  have Kw2_0 : Hid (Blk w2 (w.heap.size) #[.int .i64 ln, .int .i64 pt, .bool rg, .int .i64 fr] 59) := Lib.hid (by repeat' (first | (with_reducible first | exact Hid.out (by assumption) | exact Blk.new _ _ _ | (refine Blk.new_at _ _ _ _ ?_; simp; done) | refine Blk.alloc ?_ _ | refine Blk.drewN ?_ _ | refine Blk.drew ?_ | apply Blk.set | refine Blk.below ?_ (by assumption)) | (refine Blk.setAt ?_ ?_; rotate_left; (first | (simp; done) | (simp; omega))) | rfl))
  have Kw2_1 : Hid (Blk w2 (w.heap.size + 1) #[.int .i64 n] 3) := Lib.hid (by repeat' (first | (with_reducible first | exact Hid.out (by assumption) | exact Blk.new _ _ _ | (refine Blk.new_at _ _ _ _ ?_; simp; done) | refine Blk.alloc ?_ _ | refine Blk.drewN ?_ _ | refine Blk.drew ?_ | apply Blk.set | refine Blk.below ?_ (by assumption)) | (refine Blk.setAt ?_ ?_; rotate_left; (first | (simp; done) | (simp; omega))) | rfl))
  have Kw2_2 : Hid (Blk w2 (w.heap.size + 1 + 1) #[.int .i64 0, .int .i64 0, .bool false, .int .i64 0] 59) := Lib.hid (by repeat' (first | (with_reducible first | exact Hid.out (by assumption) | exact Blk.new _ _ _ | (refine Blk.new_at _ _ _ _ ?_; simp; done) | refine Blk.alloc ?_ _ | refine Blk.drewN ?_ _ | refine Blk.drew ?_ | apply Blk.set | refine Blk.below ?_ (by assumption)) | (refine Blk.setAt ?_ ?_; rotate_left; (first | (simp; done) | (simp; omega))) | rfl))
  clear Kw1_0 cw1_0 fw1_0 Kw1_1 cw1_1 fw1_1 Kw1_2 cw1_2 fw1_2
  obtain ⟨lw2_0, cw2_0, fw2_0⟩ := Kw2_0.out.use
  obtain ⟨lw2_1, cw2_1, fw2_1⟩ := Kw2_1.out.use
  obtain ⟨lw2_2, cw2_2, fw2_2⟩ := Kw2_2.out.use
  go_wp2_with fail
  refine (HO.out _ _ _ (by go_simp) (by go_simp)).mono ?_
  rintro e w3 ⟨rfl, hd⟩
  obtain ⟨d, rfl⟩ := hd
  go_wp2
  refine wp_mark (R := fun W => Below w.heap.size w W ∧ Hid (Blk W (w.heap.size) (#[.int .i64 ln, .int .i64 pt, .bool rg, .int .i64 (fr + (p + n) / 640)]) 59) ∧ Hid (Blk W (w2.heap.size) (#[.int .i64 ((p + n) % 640)]) 3) ∧ Hid (Blk W (w.heap.size + 1 + 1) (#[.int .i64 0, .int .i64 0, .bool false, .int .i64 0]) 59)) ⟨by repeat' (first | (with_reducible first | exact Below.refl _ _ | assumption | refine below_alloc ?_ _ | refine Below.drew ?_ | refine below_drewN ?_ _ | refine below_then ?_ (by assumption) | refine Below.setCell ?_ ?_ _) | (simp; done) | (simp; omega) | omega), Lib.hid (by repeat' (first | (with_reducible first | exact Hid.out (by assumption) | exact Blk.new _ _ _ | (refine Blk.new_at _ _ _ _ ?_; simp; done) | refine Blk.alloc ?_ _ | refine Blk.drewN ?_ _ | refine Blk.drew ?_ | apply Blk.set | refine Blk.below ?_ (by assumption)) | (refine Blk.setAt ?_ ?_; rotate_left; (first | (simp; done) | (simp; omega))) | rfl)), Lib.hid (by repeat' (first | (with_reducible first | exact Hid.out (by assumption) | exact Blk.new _ _ _ | (refine Blk.new_at _ _ _ _ ?_; simp; done) | refine Blk.alloc ?_ _ | refine Blk.drewN ?_ _ | refine Blk.drew ?_ | apply Blk.set | refine Blk.below ?_ (by assumption)) | (refine Blk.setAt ?_ ?_; rotate_left; (first | (simp; done) | (simp; omega))) | rfl)), Lib.hid (by repeat' (first | (with_reducible first | exact Hid.out (by assumption) | exact Blk.new _ _ _ | (refine Blk.new_at _ _ _ _ ?_; simp; done) | refine Blk.alloc ?_ _ | refine Blk.drewN ?_ _ | refine Blk.drew ?_ | apply Blk.set | refine Blk.below ?_ (by assumption)) | (refine Blk.setAt ?_ ?_; rotate_left; (first | (simp; done) | (simp; omega))) | rfl))⟩ ?_
  rintro w4 ⟨hbw4, Kw4_0, Kw4_1, Kw4_2⟩
  clear Kw2_0 cw2_0 fw2_0 Kw2_1 cw2_1 fw2_1 Kw2_2 cw2_2 fw2_2
  obtain ⟨lw4_0, cw4_0, fw4_0⟩ := Kw4_0.out.use
  obtain ⟨lw4_1, cw4_1, fw4_1⟩ := Kw4_1.out.use
  obtain ⟨lw4_2, cw4_2, fw4_2⟩ := Kw4_2.out.use
  generalize hx : (p + n) % 640 = x at *
  have x0 : 0 ≤ x := by omega
  have x1 : x ≤ 639 := by omega
  have HX := Lib.hid hx
  clear hx
  go_region
  go_wp2
  refine bodyPost_ret (v := .tuple #[.agg #[.int .i64 (x / 64), .int .i64 (x % 64), .bool rg, .int .i64 (fr + (p + n) / 640)], .int .i64 0]) (by simp [results, Try.results41, go_sem, cw4_0, cw4_2, fw4_2, lw4_2]) rfl ?_
  refine ⟨?_, ?_⟩
  · rw [HX.out]
  · exact by repeat' (first | (with_reducible first | exact Below.refl _ _ | assumption | refine below_alloc ?_ _ | refine Below.drew ?_ | refine below_drewN ?_ _ | refine below_then ?_ (by assumption) | refine Below.setCell ?_ ?_ _) | (simp; done) | (simp; omega) | omega)

theorem beamrun_ok (b : Bm) (n : Int) (hb : b.Ok) (n0 : 0 ≤ n) (n1 : n ≤ 20000) (w : World) :
    Calls Try.prog 41 #[.agg #[.int .i64 b.ln, .int .i64 b.pt, .bool b.rg, .int .i64 b.fr], .int .i64 n] w fun e w' => e = .returned (.tuple #[.agg #[.int .i64 (runBm b n).ln, .int .i64 (runBm b n).pt, .bool (runBm b n).rg, .int .i64 (runBm b n).fr], .int .i64 0]) ∧ Below w.heap.size w w' := by
  by_cases hu : untilB (b.ln * 64 + b.pt) ≤ n
  · exact beamrun_oktrue b n hb n0 n1 hu w
  · exact beamrun_okrg b n hb n0 n1 hu w

theorem bnext_bad (b : Bm) (hb : ¬ b.Ok) (w : World) :
    Calls Try.prog 48 #[.agg #[.int .i64 b.ln, .int .i64 b.pt, .bool b.rg, .int .i64 b.fr]] w fun e w' => e = .returned (.tuple #[.int .i64 0, .int .i64 3]) ∧ Below w.heap.size w w' := by
  have hc := bcheck_bad b hb
  obtain ⟨ln, pt, rg, fr⟩ := b
  simp only at hc
  have HC := Lib.hid hc
  clear hc hb
  go_enter Try.func48, Try.ntmps48
  go_wp2_with fail
  refine (HC.out _).mono ?_
  rintro e w1 ⟨rfl, hb1⟩
  go_wp2
  go_ret2
  exact ⟨rfl, by repeat' (first | (with_reducible first | exact Below.refl _ _ | assumption | refine below_alloc ?_ _ | refine Below.drew ?_ | refine below_drewN ?_ _ | refine below_then ?_ (by assumption) | refine Below.setCell ?_ ?_ _) | (simp; done) | (simp; omega) | omega)⟩

theorem bnext_ok (b : Bm) (hb : b.Ok) (w : World) :
    Calls Try.prog 48 #[.agg #[.int .i64 b.ln, .int .i64 b.pt, .bool b.rg, .int .i64 b.fr]] w fun e w' => e = .returned (.tuple #[.int .i64 (nextB b), .int .i64 0]) ∧ Below w.heap.size w w' := by
  have hc := bcheck_ok b hb
  obtain ⟨⟨h1, h2, h3, h4⟩, h5, h6⟩ := hb
  obtain ⟨ln, pt, rg, fr⟩ := b
  simp only at h1 h2 h3 h4 h5 h6 hc
  have HC := Lib.hid hc
  clear hc
  go_enter Try.func48, Try.ntmps48
  go_wp2_with fail
  refine (HC.out _).mono ?_
  rintro e w1 ⟨rfl, hb1⟩
  have Kw1_0 : Hid (Blk w1 (w.heap.size) #[.int .i64 ln, .int .i64 pt, .bool rg, .int .i64 fr] 59) := Lib.hid (by repeat' (first | (with_reducible first | exact Hid.out (by assumption) | exact Blk.new _ _ _ | (refine Blk.new_at _ _ _ _ ?_; simp; done) | refine Blk.alloc ?_ _ | refine Blk.drewN ?_ _ | refine Blk.drew ?_ | apply Blk.set | refine Blk.below ?_ (by assumption)) | (refine Blk.setAt ?_ ?_; rotate_left; (first | (simp; done) | (simp; omega))) | rfl))
  obtain ⟨lw1_0, cw1_0, fw1_0⟩ := Kw1_0.out.use
  go_wp2
  go_ret2
  exact ⟨rfl, by repeat' (first | (with_reducible first | exact Below.refl _ _ | assumption | refine below_alloc ?_ _ | refine Below.drew ?_ | refine below_drewN ?_ _ | refine below_then ?_ (by assumption) | refine Below.setCell ?_ ?_ _) | (simp; done) | (simp; omega) | omega)⟩

theorem reftickB_any (b : Bm) (hb : b.In) (hf : b.fr < 9223372036854775807 ∧ -9223372036854775808 ≤ b.fr) (w : World) :
    Calls Try.prog 49 #[.agg #[.int .i64 b.ln, .int .i64 b.pt, .bool b.rg, .int .i64 b.fr]] w fun e w' => e = .returned (.agg #[.int .i64 (tickB b).ln, .int .i64 (tickB b).pt, .bool (tickB b).rg, .int .i64 (tickB b).fr]) ∧ Below w.heap.size w w' := by
  obtain ⟨ln, pt, rg, fr⟩ := b
  obtain ⟨h1, h2, h3, h4⟩ := hb
  obtain ⟨f1, f2⟩ := hf
  simp only at h1 h2 h3 h4 f1 f2
  unfold tickB
  simp only
  by_cases e1 : pt = 63
  · subst e1
    simp only [if_true]
    by_cases e2 : ln = 7
    · subst e2
      simp only [if_true]
      go_enter Try.func49, Try.ntmps49
      go_wp2
      refine bodyPost_ret (v := .agg #[.int .i64 8, .int .i64 0, .bool true, .int .i64 fr]) (by simp [results, Try.results49, go_sem]) rfl ⟨rfl, ?_⟩
      exact by repeat' (first | (with_reducible first | exact Below.refl _ _ | assumption | refine below_alloc ?_ _ | refine Below.drew ?_ | refine below_drewN ?_ _ | refine below_then ?_ (by assumption) | refine Below.setCell ?_ ?_ _) | (simp; done) | (simp; omega) | omega)
    · by_cases e3 : ln = 9
      · subst e3
        simp only [if_neg e2, if_true]
        clear e2
        go_enter Try.func49, Try.ntmps49
        go_wp2
        refine bodyPost_ret (v := .agg #[.int .i64 0, .int .i64 0, .bool rg, .int .i64 (fr + 1)]) (by simp [results, Try.results49, go_sem]) rfl ⟨rfl, ?_⟩
        exact by repeat' (first | (with_reducible first | exact Below.refl _ _ | assumption | refine below_alloc ?_ _ | refine Below.drew ?_ | refine below_drewN ?_ _ | refine below_then ?_ (by assumption) | refine Below.setCell ?_ ?_ _) | (simp; done) | (simp; omega) | omega)
      · simp only [if_neg e2, if_neg e3]
        have t1 : (ln + 1 == 8) = false := by rw [beq_eq_false_iff_ne]; omega
        have t2 : (ln + 1 == 10) = false := by rw [beq_eq_false_iff_ne]; omega
        go_enter Try.func49, Try.ntmps49
        go_wp2
        refine bodyPost_ret (v := .agg #[.int .i64 (ln + 1), .int .i64 0, .bool rg, .int .i64 fr]) (by simp [results, Try.results49, go_sem]) rfl ⟨rfl, ?_⟩
        exact by repeat' (first | (with_reducible first | exact Below.refl _ _ | assumption | refine below_alloc ?_ _ | refine Below.drew ?_ | refine below_drewN ?_ _ | refine below_then ?_ (by assumption) | refine Below.setCell ?_ ?_ _) | (simp; done) | (simp; omega) | omega)
  · simp only [if_neg e1]
    have t1 : (pt + 1 == 64) = false := by rw [beq_eq_false_iff_ne]; omega
    go_enter Try.func49, Try.ntmps49
    go_wp2
    refine bodyPost_ret (v := .agg #[.int .i64 ln, .int .i64 (pt + 1), .bool rg, .int .i64 fr]) (by simp [results, Try.results49, go_sem]) rfl ⟨rfl, ?_⟩
    exact by repeat' (first | (with_reducible first | exact Below.refl _ _ | assumption | refine below_alloc ?_ _ | refine Below.drew ?_ | refine below_drewN ?_ _ | refine below_then ?_ (by assumption) | refine Below.setCell ?_ ?_ _) | (simp; done) | (simp; omega) | omega)

theorem beamed_any (w : World) :
    Calls Try.prog 42 #[] w fun e w' => e = .returned (.bool true) ∧ Below w.heap.size w w' := by
  have h1 := beamrun_ok ⟨7, 60, false, 0⟩ 4 (by simp [Bm.Ok, Bm.In]) (by omega) (by omega)
  have h2 := beamrun_ok ⟨9, 63, false, 0⟩ 1 (by simp [Bm.Ok, Bm.In]) (by omega) (by omega)
  simp [runBm, untilB] at h1 h2
  have H1 := Lib.hid h1
  have H2 := Lib.hid h2
  clear h1 h2
  go_enter Try.func42, Try.ntmps42
  go_wp2_with fail
  refine (H1.out _).mono ?_
  rintro e w1 ⟨rfl, hb1⟩
  go_wp2_with fail
  refine (H2.out _).mono ?_
  rintro e w2 ⟨rfl, hb2⟩
  have Kw2_0 : Hid (Blk w2 (w1.heap.size) #[.int .i64 8, .int .i64 0, .bool true, .int .i64 0] 59) := Lib.hid (by repeat' (first | (with_reducible first | exact Hid.out (by assumption) | exact Blk.new _ _ _ | (refine Blk.new_at _ _ _ _ ?_; simp; done) | refine Blk.alloc ?_ _ | refine Blk.drewN ?_ _ | refine Blk.drew ?_ | apply Blk.set | refine Blk.below ?_ (by assumption)) | (refine Blk.setAt ?_ ?_; rotate_left; (first | (simp; done) | (simp; omega))) | rfl))
  obtain ⟨lw2_0, cw2_0, fw2_0⟩ := Kw2_0.out.use
  go_wp2
  go_ret
  exact ⟨rfl, by repeat' (first | (with_reducible first | exact Below.refl _ _ | assumption | refine below_alloc ?_ _ | refine Below.drew ?_ | refine below_drewN ?_ _ | refine below_then ?_ (by assumption) | refine Below.setCell ?_ ?_ _) | (simp; done) | (simp; omega) | omega)⟩
end Go.Proofs.Ytegilgnpkcjhpaa
