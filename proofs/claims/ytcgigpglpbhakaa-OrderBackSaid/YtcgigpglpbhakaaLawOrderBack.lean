/- OrderBack: for every order and any two words the law answers true. Conditions: none. -/
import Derived.Test.YtcgigpglpbhakaaOrderFact
namespace Go.Proofs.Ytcgigpglpbhakaa.orderBack
open Go.RowKit Go.Mq
set_option linter.unusedVariables false
set_option linter.unusedSimpArgs false
set_option maxHeartbeats 1000000
set_option maxRecDepth 100000

theorem u16_wf (x : Int) (h : U16 x) : (Lit.int .u16 x).wf = true := by
  unfold U16 at h
  simp only [Lit.wf, Bool.and_eq_true, decide_eq_true_eq]
  exact ⟨h.1, h.2⟩
theorem bad (op D S N V a b k : Int) (hk : (k == 0) = false) (X : Od) (m : Int) (w : World)
    (hO : ∀ w, Calls Try.prog 25 #[.agg #[.int .i64 op, .int .i64 D, .int .i64 S, .int .i64 N, .int .i64 V]] w fun e w' => e = .returned (.tuple #[.slice none 0 0, .int .i64 k]) ∧ Below w.heap.size w w')
    (hR : ∀ w, Calls Try.prog 26 #[.int .u16 a, .int .u16 b] w fun e w' => e = .returned (.tuple #[.agg #[.int .i64 X.op, .int .i64 X.d, .int .i64 X.s, .int .i64 X.n, .int .i64 X.w], .int .i64 m]) ∧ Below w.heap.size w w')
    (hC : ∀ w, Calls Try.prog 28 #[.agg #[.int .i64 X.op, .int .i64 X.d, .int .i64 X.s, .int .i64 X.n, .int .i64 X.w]] w fun e w' => e = .returned (.int .i64 0) ∧ Below w.heap.size w w') :
    Calls Try.prog 7 #[.agg #[.int .i64 op, .int .i64 D, .int .i64 S, .int .i64 N, .int .i64 V], .int .u16 a, .int .u16 b] w fun e w' => e = .returned (.bool true) ∧ Below w.heap.size w w' := by
  have O := Lib.hid hO
  have R := Lib.hid hR
  have C := Lib.hid hC
  have F := Lib.hid orders_any
  clear hO hR hC
  obtain ⟨x1, x2, x3, x4, x5⟩ := X
  simp only at R C
  go_enter Try.func7, Try.ntmps7
  go_wp2_with fail
  refine (O.out _).mono ?_
  rintro e w1 ⟨rfl, hb1⟩
  go_wp2_with fail
  refine (R.out _).mono ?_
  rintro e w2 ⟨rfl, hb2⟩
  go_wp2_with fail
  refine (F.out _).mono ?_
  rintro e w3 ⟨rfl, hb3⟩
  have Kw3_0 : Hid (Blk w3 (w2.heap.size) #[.int .i64 x1, .int .i64 x2, .int .i64 x3, .int .i64 x4, .int .i64 x5] 51) := Lib.hid (by repeat' (first | (with_reducible first | exact Hid.out (by assumption) | exact Blk.new _ _ _ | (refine Blk.new_at _ _ _ _ ?_; simp; done) | refine Blk.alloc ?_ _ | refine Blk.drewN ?_ _ | refine Blk.drew ?_ | apply Blk.set | refine Blk.put ?_ (by assumption) (by first | (simp; done) | (simp; omega) | omega) | refine Blk.below ?_ (by assumption)) | (refine Blk.setAt ?_ (by first | (simp; done) | (simp; omega))) | rfl))
  obtain ⟨lw3_0, cw3_0, fw3_0⟩ := Kw3_0.out.use
  have hs2 : w.heap.size + 1 ≤ w2.heap.size := by have := hb1.size; have := hb2.size; simp at *; omega
  go_wp2_with fail
  refine (C.out _).mono ?_
  rintro e w4 ⟨rfl, hb4⟩
  go_wp2
  go_ret
  exact ⟨rfl, by repeat' (first | (with_reducible first | exact Below.refl _ _ | assumption | refine below_alloc ?_ _ | refine Below.drew ?_ | refine below_drewN ?_ _ | refine below_then ?_ (by assumption) | refine below_put ?_ (by assumption) (by first | (simp; done) | (simp; omega) | omega) | refine Below.setCell ?_ ?_ _) | (simp; done) | (simp; omega) | omega)⟩

theorem good_one (op D S N V a b wd : Int) (hwd : U16 wd) (hV : U16 V) (X : Od) (m : Int) (w : World)
    (hO : ∀ w, Calls Try.prog 25 #[.agg #[.int .i64 op, .int .i64 D, .int .i64 S, .int .i64 N, .int .i64 V]] w fun e w' => ∃ v, e = .returned (.tuple #[v, .int .i64 0]) ∧ w'.ownsRow w.heap.size 31 1 v 1 [.int .u16 wd] ∧ Below w.heap.size w w')
    (hR : ∀ w, Calls Try.prog 26 #[.int .u16 a, .int .u16 b] w fun e w' => e = .returned (.tuple #[.agg #[.int .i64 X.op, .int .i64 X.d, .int .i64 X.s, .int .i64 X.n, .int .i64 X.w], .int .i64 m]) ∧ Below w.heap.size w w')
    (hB : ∀ w, Calls Try.prog 26 #[.int .u16 wd, .int .u16 0] w fun e w' => e = .returned (.tuple #[.agg #[.int .i64 op, .int .i64 D, .int .i64 S, .int .i64 N, .int .i64 V], .int .i64 1]) ∧ Below w.heap.size w w')
    (hC : ∀ w, Calls Try.prog 28 #[.agg #[.int .i64 X.op, .int .i64 X.d, .int .i64 X.s, .int .i64 X.n, .int .i64 X.w]] w fun e w' => e = .returned (.int .i64 0) ∧ Below w.heap.size w w') :
    Calls Try.prog 7 #[.agg #[.int .i64 op, .int .i64 D, .int .i64 S, .int .i64 N, .int .i64 V], .int .u16 a, .int .u16 b] w fun e w' => e = .returned (.bool true) ∧ Below w.heap.size w w' := by
  have O := Lib.hid hO
  have R := Lib.hid hR
  have B := Lib.hid hB
  have C := Lib.hid hC
  have F := Lib.hid orders_any
  have WF := Lib.hid (And.intro hwd hV)
  clear hO hR hC hB hwd hV
  obtain ⟨x1, x2, x3, x4, x5⟩ := X
  simp only at R C
  go_enter Try.func7, Try.ntmps7
  go_wp2_with fail
  refine (O.out _).mono ?_
  rintro e w1 ⟨v, rfl, ho, hb1⟩
  have hs : SliceAt w1 .u16 v [wd] := own_slice ho (by intro x hx; simp at hx; first | (subst hx; exact u16_wf _ WF.out.1) | (rcases hx with rfl | rfl; exact u16_wf _ WF.out.1; exact u16_wf _ WF.out.2))
  obtain ⟨ao, cp, rfl⟩ := own_shape ho
  have HS := Lib.hid hs
  have hs1 : w.heap.size + 1 ≤ w1.heap.size := by have := hb1.size; simpa using this
  clear hs ho
  have Kw1_0 : Hid (Blk w1 (w.heap.size) #[.int .i64 op, .int .i64 D, .int .i64 S, .int .i64 N, .int .i64 V] 51) := Lib.hid (by repeat' (first | (with_reducible first | exact Hid.out (by assumption) | exact Blk.new _ _ _ | (refine Blk.new_at _ _ _ _ ?_; simp; done) | refine Blk.alloc ?_ _ | refine Blk.drewN ?_ _ | refine Blk.drew ?_ | apply Blk.set | refine Blk.put ?_ (by assumption) (by first | (simp; done) | (simp; omega) | omega) | refine Blk.below ?_ (by assumption)) | (refine Blk.setAt ?_ (by first | (simp; done) | (simp; omega))) | rfl))
  obtain ⟨lw1_0, cw1_0, fw1_0⟩ := Kw1_0.out.use
  go_wp2_with fail
  refine (R.out _).mono ?_
  rintro e w2 ⟨rfl, hb2⟩
  have hs2 : w.heap.size + 1 ≤ w2.heap.size := by have := hb2.size; omega
  have HS2 := Lib.hid (HS.out.below hb2)
  go_wp2_with fail
  refine (F.out _).mono ?_
  rintro e w3 ⟨rfl, hb3⟩
  have Kw3_0 : Hid (Blk w3 (w.heap.size) #[.int .i64 op, .int .i64 D, .int .i64 S, .int .i64 N, .int .i64 V] 51) := Lib.hid (by repeat' (first | (with_reducible first | exact Hid.out (by assumption) | exact Blk.new _ _ _ | (refine Blk.new_at _ _ _ _ ?_; simp; done) | refine Blk.alloc ?_ _ | refine Blk.drewN ?_ _ | refine Blk.drew ?_ | apply Blk.set | refine Blk.put ?_ (by assumption) (by first | (simp; done) | (simp; omega) | omega) | refine Blk.below ?_ (by assumption)) | (refine Blk.setAt ?_ (by first | (simp; done) | (simp; omega))) | rfl))
  have Kw3_1 : Hid (Blk w3 (w2.heap.size) #[.int .i64 x1, .int .i64 x2, .int .i64 x3, .int .i64 x4, .int .i64 x5] 51) := Lib.hid (by repeat' (first | (with_reducible first | exact Hid.out (by assumption) | exact Blk.new _ _ _ | (refine Blk.new_at _ _ _ _ ?_; simp; done) | refine Blk.alloc ?_ _ | refine Blk.drewN ?_ _ | refine Blk.drew ?_ | apply Blk.set | refine Blk.put ?_ (by assumption) (by first | (simp; done) | (simp; omega) | omega) | refine Blk.below ?_ (by assumption)) | (refine Blk.setAt ?_ (by first | (simp; done) | (simp; omega))) | rfl))
  clear Kw1_0 cw1_0 fw1_0
  obtain ⟨lw3_0, cw3_0, fw3_0⟩ := Kw3_0.out.use
  obtain ⟨lw3_1, cw3_1, fw3_1⟩ := Kw3_1.out.use
  have HS3 := Lib.hid ((HS2.out.below (show Below w2.heap.size w2 (w2.alloc _) from by repeat' (first | (with_reducible first | exact Below.refl _ _ | assumption | refine below_alloc ?_ _ | refine Below.drew ?_ | refine below_drewN ?_ _ | refine below_then ?_ (by assumption) | refine below_put ?_ (by assumption) (by first | (simp; done) | (simp; omega) | omega) | refine Below.setCell ?_ ?_ _) | (simp; done) | (simp; omega) | omega))).below hb3)
  go_wp2_with fail
  refine (C.out _).mono ?_
  rintro e w4 ⟨rfl, hb4⟩
  have Kw4_0 : Hid (Blk w4 (w.heap.size) #[.int .i64 op, .int .i64 D, .int .i64 S, .int .i64 N, .int .i64 V] 51) := Lib.hid (by repeat' (first | (with_reducible first | exact Hid.out (by assumption) | exact Blk.new _ _ _ | (refine Blk.new_at _ _ _ _ ?_; simp; done) | refine Blk.alloc ?_ _ | refine Blk.drewN ?_ _ | refine Blk.drew ?_ | apply Blk.set | refine Blk.put ?_ (by assumption) (by first | (simp; done) | (simp; omega) | omega) | refine Blk.below ?_ (by assumption)) | (refine Blk.setAt ?_ (by first | (simp; done) | (simp; omega))) | rfl))
  clear Kw3_0 cw3_0 fw3_0 Kw3_1 cw3_1 fw3_1
  obtain ⟨lw4_0, cw4_0, fw4_0⟩ := Kw4_0.out.use
  have HS4 := HS3.out.below hb4
  obtain ⟨ad, cq, ev, q1, q2, qw, q3⟩ := HS4
  simp only [Value.slice.injEq] at ev
  obtain ⟨rfl, hq, rfl⟩ := ev
  clear hq
  obtain ⟨gb, of, rfl, gl, gc⟩ := q3 (by simp)
  have g0 := gc 0 (by simp)
  skip
  simp only [List.getD_cons_zero, List.getD_cons_succ, Int.add_zero, Nat.add_zero] at g0 
  clear gc q1 q2 qw q3 HS HS2 HS3
  go_wp2_with fail
  refine (B.out _).mono ?_
  rintro e w5 ⟨rfl, hb5⟩
  have Kw5_0 : Hid (Blk w5 (w.heap.size) #[.int .i64 op, .int .i64 D, .int .i64 S, .int .i64 N, .int .i64 V] 51) := Lib.hid (by repeat' (first | (with_reducible first | exact Hid.out (by assumption) | exact Blk.new _ _ _ | (refine Blk.new_at _ _ _ _ ?_; simp; done) | refine Blk.alloc ?_ _ | refine Blk.drewN ?_ _ | refine Blk.drew ?_ | apply Blk.set | refine Blk.put ?_ (by assumption) (by first | (simp; done) | (simp; omega) | omega) | refine Blk.below ?_ (by assumption)) | (refine Blk.setAt ?_ (by first | (simp; done) | (simp; omega))) | rfl))
  clear Kw4_0 cw4_0 fw4_0
  obtain ⟨lw5_0, cw5_0, fw5_0⟩ := Kw5_0.out.use
  go_wp2
  go_ret
  exact ⟨rfl, by repeat' (first | (with_reducible first | exact Below.refl _ _ | assumption | refine below_alloc ?_ _ | refine Below.drew ?_ | refine below_drewN ?_ _ | refine below_then ?_ (by assumption) | refine below_put ?_ (by assumption) (by first | (simp; done) | (simp; omega) | omega) | refine Below.setCell ?_ ?_ _) | (simp; done) | (simp; omega) | omega)⟩
theorem good_two (op D S N V a b wd : Int) (hwd : U16 wd) (hV : U16 V) (X : Od) (m : Int) (w : World)
    (hO : ∀ w, Calls Try.prog 25 #[.agg #[.int .i64 op, .int .i64 D, .int .i64 S, .int .i64 N, .int .i64 V]] w fun e w' => ∃ v, e = .returned (.tuple #[v, .int .i64 0]) ∧ w'.ownsRow w.heap.size 31 1 v 2 [.int .u16 wd, .int .u16 V] ∧ Below w.heap.size w w')
    (hR : ∀ w, Calls Try.prog 26 #[.int .u16 a, .int .u16 b] w fun e w' => e = .returned (.tuple #[.agg #[.int .i64 X.op, .int .i64 X.d, .int .i64 X.s, .int .i64 X.n, .int .i64 X.w], .int .i64 m]) ∧ Below w.heap.size w w')
    (hB : ∀ w, Calls Try.prog 26 #[.int .u16 wd, .int .u16 V] w fun e w' => e = .returned (.tuple #[.agg #[.int .i64 op, .int .i64 D, .int .i64 S, .int .i64 N, .int .i64 V], .int .i64 2]) ∧ Below w.heap.size w w')
    (hC : ∀ w, Calls Try.prog 28 #[.agg #[.int .i64 X.op, .int .i64 X.d, .int .i64 X.s, .int .i64 X.n, .int .i64 X.w]] w fun e w' => e = .returned (.int .i64 0) ∧ Below w.heap.size w w') :
    Calls Try.prog 7 #[.agg #[.int .i64 op, .int .i64 D, .int .i64 S, .int .i64 N, .int .i64 V], .int .u16 a, .int .u16 b] w fun e w' => e = .returned (.bool true) ∧ Below w.heap.size w w' := by
  have O := Lib.hid hO
  have R := Lib.hid hR
  have B := Lib.hid hB
  have C := Lib.hid hC
  have F := Lib.hid orders_any
  have WF := Lib.hid (And.intro hwd hV)
  clear hO hR hC hB hwd hV
  obtain ⟨x1, x2, x3, x4, x5⟩ := X
  simp only at R C
  go_enter Try.func7, Try.ntmps7
  go_wp2_with fail
  refine (O.out _).mono ?_
  rintro e w1 ⟨v, rfl, ho, hb1⟩
  have hs : SliceAt w1 .u16 v [wd, V] := own_slice ho (by intro x hx; simp at hx; first | (subst hx; exact u16_wf _ WF.out.1) | (rcases hx with rfl | rfl; exact u16_wf _ WF.out.1; exact u16_wf _ WF.out.2))
  obtain ⟨ao, cp, rfl⟩ := own_shape ho
  have HS := Lib.hid hs
  have hs1 : w.heap.size + 1 ≤ w1.heap.size := by have := hb1.size; simpa using this
  clear hs ho
  have Kw1_0 : Hid (Blk w1 (w.heap.size) #[.int .i64 op, .int .i64 D, .int .i64 S, .int .i64 N, .int .i64 V] 51) := Lib.hid (by repeat' (first | (with_reducible first | exact Hid.out (by assumption) | exact Blk.new _ _ _ | (refine Blk.new_at _ _ _ _ ?_; simp; done) | refine Blk.alloc ?_ _ | refine Blk.drewN ?_ _ | refine Blk.drew ?_ | apply Blk.set | refine Blk.put ?_ (by assumption) (by first | (simp; done) | (simp; omega) | omega) | refine Blk.below ?_ (by assumption)) | (refine Blk.setAt ?_ (by first | (simp; done) | (simp; omega))) | rfl))
  obtain ⟨lw1_0, cw1_0, fw1_0⟩ := Kw1_0.out.use
  go_wp2_with fail
  refine (R.out _).mono ?_
  rintro e w2 ⟨rfl, hb2⟩
  have hs2 : w.heap.size + 1 ≤ w2.heap.size := by have := hb2.size; omega
  have HS2 := Lib.hid (HS.out.below hb2)
  go_wp2_with fail
  refine (F.out _).mono ?_
  rintro e w3 ⟨rfl, hb3⟩
  have Kw3_0 : Hid (Blk w3 (w.heap.size) #[.int .i64 op, .int .i64 D, .int .i64 S, .int .i64 N, .int .i64 V] 51) := Lib.hid (by repeat' (first | (with_reducible first | exact Hid.out (by assumption) | exact Blk.new _ _ _ | (refine Blk.new_at _ _ _ _ ?_; simp; done) | refine Blk.alloc ?_ _ | refine Blk.drewN ?_ _ | refine Blk.drew ?_ | apply Blk.set | refine Blk.put ?_ (by assumption) (by first | (simp; done) | (simp; omega) | omega) | refine Blk.below ?_ (by assumption)) | (refine Blk.setAt ?_ (by first | (simp; done) | (simp; omega))) | rfl))
  have Kw3_1 : Hid (Blk w3 (w2.heap.size) #[.int .i64 x1, .int .i64 x2, .int .i64 x3, .int .i64 x4, .int .i64 x5] 51) := Lib.hid (by repeat' (first | (with_reducible first | exact Hid.out (by assumption) | exact Blk.new _ _ _ | (refine Blk.new_at _ _ _ _ ?_; simp; done) | refine Blk.alloc ?_ _ | refine Blk.drewN ?_ _ | refine Blk.drew ?_ | apply Blk.set | refine Blk.put ?_ (by assumption) (by first | (simp; done) | (simp; omega) | omega) | refine Blk.below ?_ (by assumption)) | (refine Blk.setAt ?_ (by first | (simp; done) | (simp; omega))) | rfl))
  clear Kw1_0 cw1_0 fw1_0
  obtain ⟨lw3_0, cw3_0, fw3_0⟩ := Kw3_0.out.use
  obtain ⟨lw3_1, cw3_1, fw3_1⟩ := Kw3_1.out.use
  have HS3 := Lib.hid ((HS2.out.below (show Below w2.heap.size w2 (w2.alloc _) from by repeat' (first | (with_reducible first | exact Below.refl _ _ | assumption | refine below_alloc ?_ _ | refine Below.drew ?_ | refine below_drewN ?_ _ | refine below_then ?_ (by assumption) | refine below_put ?_ (by assumption) (by first | (simp; done) | (simp; omega) | omega) | refine Below.setCell ?_ ?_ _) | (simp; done) | (simp; omega) | omega))).below hb3)
  go_wp2_with fail
  refine (C.out _).mono ?_
  rintro e w4 ⟨rfl, hb4⟩
  have Kw4_0 : Hid (Blk w4 (w.heap.size) #[.int .i64 op, .int .i64 D, .int .i64 S, .int .i64 N, .int .i64 V] 51) := Lib.hid (by repeat' (first | (with_reducible first | exact Hid.out (by assumption) | exact Blk.new _ _ _ | (refine Blk.new_at _ _ _ _ ?_; simp; done) | refine Blk.alloc ?_ _ | refine Blk.drewN ?_ _ | refine Blk.drew ?_ | apply Blk.set | refine Blk.put ?_ (by assumption) (by first | (simp; done) | (simp; omega) | omega) | refine Blk.below ?_ (by assumption)) | (refine Blk.setAt ?_ (by first | (simp; done) | (simp; omega))) | rfl))
  clear Kw3_0 cw3_0 fw3_0 Kw3_1 cw3_1 fw3_1
  obtain ⟨lw4_0, cw4_0, fw4_0⟩ := Kw4_0.out.use
  have HS4 := HS3.out.below hb4
  obtain ⟨ad, cq, ev, q1, q2, qw, q3⟩ := HS4
  simp only [Value.slice.injEq] at ev
  obtain ⟨rfl, hq, rfl⟩ := ev
  clear hq
  obtain ⟨gb, of, rfl, gl, gc⟩ := q3 (by simp)
  have g0 := gc 0 (by simp)
  have g1 := gc 1 (by simp)
  simp only [List.getD_cons_zero, List.getD_cons_succ, Int.add_zero, Nat.add_zero] at g0 g1
  clear gc q1 q2 qw q3 HS HS2 HS3
  go_wp2_with fail
  refine (B.out _).mono ?_
  rintro e w5 ⟨rfl, hb5⟩
  have Kw5_0 : Hid (Blk w5 (w.heap.size) #[.int .i64 op, .int .i64 D, .int .i64 S, .int .i64 N, .int .i64 V] 51) := Lib.hid (by repeat' (first | (with_reducible first | exact Hid.out (by assumption) | exact Blk.new _ _ _ | (refine Blk.new_at _ _ _ _ ?_; simp; done) | refine Blk.alloc ?_ _ | refine Blk.drewN ?_ _ | refine Blk.drew ?_ | apply Blk.set | refine Blk.put ?_ (by assumption) (by first | (simp; done) | (simp; omega) | omega) | refine Blk.below ?_ (by assumption)) | (refine Blk.setAt ?_ (by first | (simp; done) | (simp; omega))) | rfl))
  clear Kw4_0 cw4_0 fw4_0
  obtain ⟨lw5_0, cw5_0, fw5_0⟩ := Kw5_0.out.use
  go_wp2
  go_ret
  exact ⟨rfl, by repeat' (first | (with_reducible first | exact Below.refl _ _ | assumption | refine below_alloc ?_ _ | refine Below.drew ?_ | refine below_drewN ?_ _ | refine below_then ?_ (by assumption) | refine below_put ?_ (by assumption) (by first | (simp; done) | (simp; omega) | omega) | refine Below.setCell ?_ ?_ _) | (simp; done) | (simp; omega) | omega)⟩
theorem walk (op D S N V a b : Int) (hop : I64 op) (hD : I64 D) (hS : I64 S) (hN : I64 N) (hV : I64 V) (ha : U16 a) (hb : U16 b) (w : World) :
    Calls Try.prog 7 #[.agg #[.int .i64 op, .int .i64 D, .int .i64 S, .int .i64 N, .int .i64 V], .int .u16 a, .int .u16 b] w fun e w' => e = .returned (.bool true) ∧ Below w.heap.size w w' := by
  have hR := read_any a b ha hb
  have hC : ∀ w, Calls Try.prog 28 #[.agg #[.int .i64 (readO a b).op, .int .i64 (readO a b).d, .int .i64 (readO a b).s, .int .i64 (readO a b).n, .int .i64 (readO a b).w]] w fun e w' => e = .returned (.int .i64 0) ∧ Below w.heap.size w w' := by
    intro w
    have := check_any (readO a b).op (readO a b).d (readO a b).s (readO a b).n (readO a b).w w
    rw [show checkO ⟨(readO a b).op, (readO a b).d, (readO a b).s, (readO a b).n, (readO a b).w⟩ = 0 from read_right a b ha hb] at this
    exact this
  by_cases h : checkO ⟨op, D, S, N, V⟩ = 0
  · obtain ⟨q1, q2, q3, q4⟩ := read_back ⟨op, D, S, N, V⟩ h
    have hO := words_any ⟨op, D, S, N, V⟩ h
    have hB := read_any _ _ q3 q4
    rw [q1, q2] at hB
    have hV' : U16 V := by have := right_in _ h; exact ⟨this.2.2.2.2.1.1, this.2.2.2.2.1.2⟩
    cases hh : hasW op
    · simp only [wordsO, hh, Bool.false_eq_true, if_false, List.length_cons, List.length_nil, List.map_cons, List.map_nil] at hO hB q3
      exact good_one op D S N V a b _ q3 hV' _ _ w hO hR hB hC
    · simp only [wordsO, hh, if_true, List.length_cons, List.length_nil, List.map_cons, List.map_nil] at hO hB q3
      exact good_two op D S N V a b _ q3 hV' _ _ w hO hR hB hC
  · exact bad op D S N V a b _ (by simpa using h) _ _ w (words_no ⟨op, D, S, N, V⟩ h) hR hC
end Go.Proofs.Ytcgigpglpbhakaa.orderBack
