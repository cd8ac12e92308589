/- What the program's runs of voices, and the levels of sounds, compute. Conditions: the fields are words, bytes, truths. -/
import Derived.Test.YtcgigpglpbhakaaTone
import Derived.LoopN
namespace Go.Proofs.Ytcgigpglpbhakaa
open Go.RowKit Go.Mq
set_option linter.unusedVariables false
set_option linter.unusedSimpArgs false
set_option maxHeartbeats 2000000
set_option maxRecDepth 100000

theorem vrun_bad (v : Vc) (n : Int) (h : n < 0 ∨ 20000 < n) (w : World) :
    Calls Try.prog 14 #[.agg #[.int .u16 v.pd, .int .u16 v.ct, .int .u8 v.ld, .bool v.hi, .int .u16 v.nz], .int .i64 n] w fun e w' => e = .returned (.tuple #[.agg #[.int .u16 0, .int .u16 0, .int .u8 0, .bool false, .int .u16 0], .int .i64 3]) ∧ Below w.heap.size w w' := by
  obtain ⟨pd, ct, ld, hi, nz⟩ := v
  by_cases h1 : n < 0
  · clear h
    go_enter Try.func14, Try.ntmps14
    go_wp2
    refine bodyPost_ret (v := .tuple #[.agg #[.int .u16 0, .int .u16 0, .int .u8 0, .bool false, .int .u16 0], .int .i64 3]) (by simp [results, Try.results14, go_sem]) rfl ⟨rfl, ?_⟩
    exact by repeat' (first | (with_reducible first | exact Below.refl _ _ | assumption | refine below_alloc ?_ _ | refine Below.drew ?_ | refine below_drewN ?_ _ | refine below_then ?_ (by assumption) | refine below_put ?_ (by assumption) (by first | (simp; done) | (simp; omega) | omega) | refine Below.setCell ?_ ?_ _) | (simp; done) | (simp; omega) | omega)
  · have h2 : 20000 < n := by omega
    clear h
    go_enter Try.func14, Try.ntmps14
    go_wp2
    refine bodyPost_ret (v := .tuple #[.agg #[.int .u16 0, .int .u16 0, .int .u8 0, .bool false, .int .u16 0], .int .i64 3]) (by simp [results, Try.results14, go_sem]) rfl ⟨rfl, ?_⟩
    exact by repeat' (first | (with_reducible first | exact Below.refl _ _ | assumption | refine below_alloc ?_ _ | refine Below.drew ?_ | refine below_drewN ?_ _ | refine below_then ?_ (by assumption) | refine below_put ?_ (by assumption) (by first | (simp; done) | (simp; omega) | omega) | refine Below.setCell ?_ ?_ _) | (simp; done) | (simp; omega) | omega)

theorem vrun_ok (v : Vc) (hv : v.Ok) (n : Nat) (hn : n ≤ 20000) (w : World) :
    Calls Try.prog 14 #[.agg #[.int .u16 v.pd, .int .u16 v.ct, .int .u8 v.ld, .bool v.hi, .int .u16 v.nz], .int .i64 n] w fun e w' => e = .returned (.tuple #[.agg #[.int .u16 (runV v n).pd, .int .u16 (runV v n).ct, .int .u8 (runV v n).ld, .bool (runV v n).hi, .int .u16 (runV v n).nz], .int .i64 0]) ∧ Below w.heap.size w w' := by
  have n0 : (n : Int) ≤ 20000 := by omega
  have n1 : (0 : Int) ≤ n := by omega
  have HV := Lib.hid hv
  generalize hr : runV v n = X
  have HR := Lib.hid hr
  clear hr hv
  go_enter Try.func14, Try.ntmps14
  go_wp2_with fail
  refine wp_mark (R := fun W => Below w.heap.size w W ∧ Hid (Blk W (w.heap.size) (#[.int .u16 v.pd, .int .u16 v.ct, .int .u8 v.ld, .bool v.hi, .int .u16 v.nz]) 33) ∧ Hid (Blk W (w.heap.size + 1) (#[.int .u16 0, .int .u16 0, .int .u8 0, .bool false, .int .u16 0]) 33)) ⟨by repeat' (first | (with_reducible first | exact Below.refl _ _ | assumption | refine below_alloc ?_ _ | refine Below.drew ?_ | refine below_drewN ?_ _ | refine below_then ?_ (by assumption) | refine below_put ?_ (by assumption) (by first | (simp; done) | (simp; omega) | omega) | refine Below.setCell ?_ ?_ _) | (simp; done) | (simp; omega) | omega), Lib.hid (by repeat' (first | (with_reducible first | exact Hid.out (by assumption) | exact Blk.new _ _ _ | (refine Blk.new_at _ _ _ _ ?_; simp; done) | refine Blk.alloc ?_ _ | refine Blk.drewN ?_ _ | refine Blk.drew ?_ | apply Blk.set | refine Blk.put ?_ (by assumption) (by first | (simp; done) | (simp; omega) | omega) | refine Blk.below ?_ (by assumption)) | (refine Blk.setAt ?_ (by first | (simp; done) | (simp; omega))) | rfl)), Lib.hid (by repeat' (first | (with_reducible first | exact Hid.out (by assumption) | exact Blk.new _ _ _ | (refine Blk.new_at _ _ _ _ ?_; simp; done) | refine Blk.alloc ?_ _ | refine Blk.drewN ?_ _ | refine Blk.drew ?_ | apply Blk.set | refine Blk.put ?_ (by assumption) (by first | (simp; done) | (simp; omega) | omega) | refine Blk.below ?_ (by assumption)) | (refine Blk.setAt ?_ (by first | (simp; done) | (simp; omega))) | rfl))⟩ ?_
  rintro w1 ⟨hbw1, Kw1_0, Kw1_1⟩
  obtain ⟨lw1_0, cw1_0, fw1_0⟩ := Kw1_0.out.use
  obtain ⟨lw1_1, cw1_1, fw1_1⟩ := Kw1_1.out.use
  go_loopw [1] (fun i wr => ∃ m : Nat, ∃ u : Vc, m ≤ 20000 ∧ u.Ok ∧ runV u m = X ∧ i = .int .i64 m ∧ Below w.heap.size w wr ∧ Hid (Blk wr w.heap.size #[.int .u16 u.pd, .int .u16 u.ct, .int .u8 u.ld, .bool u.hi, .int .u16 u.nz] 33) ∧ Hid (Blk wr (w.heap.size + 1) #[.int .u16 0, .int .u16 0, .int .u8 0, .bool false, .int .u16 0] 33)) (fun i _ => (intOf i).toNat)
  case atStart => exact ⟨n, v, hn, HV.out, HR.out, rfl, hbw1, Kw1_0, Kw1_1⟩
  case round =>
    obtain ⟨m, u, hm, hu, hx, rfl, hbr, KA, KB⟩ := hrel
    clear Kw1_0 Kw1_1 cw1_0 cw1_1 fw1_0 fw1_1
    have HX := Lib.hid hx
    have HU := Lib.hid hu
    clear hx
    obtain ⟨u1, ⟨u2, u2'⟩, u3, u4⟩ := hu
    obtain ⟨lA, cA, fA⟩ := KA.out.use
    obtain ⟨lB, cB, fB⟩ := KB.out.use
    have hmi : (m : Int) ≤ 20000 := by omega
    by_cases hlt : u.ct < m
    · have hs := vstep_any u HU.out
      have hnext : runV (stepV u) (m - (u.ct.toNat + 1)) = X := by rw [← runV_over u u2, ← HX.out]; congr 1; omega
      have hok := stepV_ok u HU.out
      generalize stepV u = Y at hs hnext hok
      have HS := Lib.hid hs
      have HN := Lib.hid hnext
      have HY := Lib.hid hok
      clear hs hnext hok
      go_wp2_with fail
      refine (HS.out _).mono ?_
      rintro e w2 ⟨rfl, hb2⟩
      have K2 := Lib.hid (KA.out.below hb2)
      have K3 := Lib.hid (KB.out.below hb2)
      obtain ⟨l2, c2, f2⟩ := K2.out.use
      go_wp2
      go_roundw
      case rel =>
        refine ⟨m - (u.ct.toNat + 1), Y, by omega, HY.out, HN.out, ?_, by repeat' (first | (with_reducible first | exact Below.refl _ _ | assumption | refine below_alloc ?_ _ | refine Below.drew ?_ | refine below_drewN ?_ _ | refine below_then ?_ (by assumption) | refine below_put ?_ (by assumption) (by first | (simp; done) | (simp; omega) | omega) | refine Below.setCell ?_ ?_ _) | (simp; done) | (simp; omega) | omega), Lib.hid ?_, Lib.hid ?_⟩
        · congr 1; omega
        · have K := K2.out; exact (by repeat' (first | (with_reducible first | exact Hid.out (by assumption) | exact Blk.new _ _ _ | (refine Blk.new_at _ _ _ _ ?_; simp; done) | refine Blk.alloc ?_ _ | refine Blk.drewN ?_ _ | refine Blk.drew ?_ | apply Blk.set | refine Blk.put ?_ (by assumption) (by first | (simp; done) | (simp; omega) | omega) | refine Blk.below ?_ (by assumption)) | (refine Blk.setAt ?_ (by first | (simp; done) | (simp; omega))) | rfl))
        · have K := K3.out; exact (by repeat' (first | (with_reducible first | exact Hid.out (by assumption) | exact Blk.new _ _ _ | (refine Blk.new_at _ _ _ _ ?_; simp; done) | refine Blk.alloc ?_ _ | refine Blk.drewN ?_ _ | refine Blk.drew ?_ | apply Blk.set | refine Blk.put ?_ (by assumption) (by first | (simp; done) | (simp; omega) | omega) | refine Blk.below ?_ (by assumption)) | (refine Blk.setAt ?_ (by first | (simp; done) | (simp; omega))) | rfl))
      case measure => simp [intOf]; omega
    · have hle : (m : Int) ≤ u.ct := by omega
      have hX : X = ⟨u.pd, u.ct - m, u.ld, u.hi, u.nz⟩ := by rw [← HX.out, runV_le u m hle]
      subst hX
      have hw : IntKind.u16.wrap (u.ct - (m : Int)) = u.ct - m := by rw [wrap16]; omega
      go_wp2
      refine bodyPost_ret (v := .tuple #[.agg #[.int .u16 u.pd, .int .u16 (u.ct - m), .int .u8 u.ld, .bool u.hi, .int .u16 u.nz], .int .i64 0]) (by simp [results, Try.results14, go_sem, cA, fA, lA, cB, fB, lB]) rfl ⟨rfl, ?_⟩
      exact by repeat' (first | (with_reducible first | exact Below.refl _ _ | assumption | refine below_alloc ?_ _ | refine Below.drew ?_ | refine below_drewN ?_ _ | refine below_then ?_ (by assumption) | refine below_put ?_ (by assumption) (by first | (simp; done) | (simp; omega) | omega) | refine Below.setCell ?_ ?_ _) | (simp; done) | (simp; omega) | omega)

theorem vidx (s : Sd) (w : World) : (Instr.index 34 (.agg #[.int .u16 s.a.pd, .int .u16 s.a.ct, .int .u8 s.a.ld, .bool s.a.hi, .int .u16 s.a.nz, .int .u16 s.b.pd, .int .u16 s.b.ct, .int .u8 s.b.ld, .bool s.b.hi, .int .u16 s.b.nz, .int .u16 s.c.pd, .int .u16 s.c.ct, .int .u8 s.c.ld, .bool s.c.hi, .int .u16 s.c.nz]) (.int .i64 0)).run Try.prog w = .ok (.agg #[.int .u16 s.a.pd, .int .u16 s.a.ct, .int .u8 s.a.ld, .bool s.a.hi, .int .u16 s.a.nz]) w ∧ (Instr.index 34 (.agg #[.int .u16 s.a.pd, .int .u16 s.a.ct, .int .u8 s.a.ld, .bool s.a.hi, .int .u16 s.a.nz, .int .u16 s.b.pd, .int .u16 s.b.ct, .int .u8 s.b.ld, .bool s.b.hi, .int .u16 s.b.nz, .int .u16 s.c.pd, .int .u16 s.c.ct, .int .u8 s.c.ld, .bool s.c.hi, .int .u16 s.c.nz]) (.int .i64 1)).run Try.prog w = .ok (.agg #[.int .u16 s.b.pd, .int .u16 s.b.ct, .int .u8 s.b.ld, .bool s.b.hi, .int .u16 s.b.nz]) w ∧
    (Instr.index 34 (.agg #[.int .u16 s.a.pd, .int .u16 s.a.ct, .int .u8 s.a.ld, .bool s.a.hi, .int .u16 s.a.nz, .int .u16 s.b.pd, .int .u16 s.b.ct, .int .u8 s.b.ld, .bool s.b.hi, .int .u16 s.b.nz, .int .u16 s.c.pd, .int .u16 s.c.ct, .int .u8 s.c.ld, .bool s.c.hi, .int .u16 s.c.nz]) (.int .i64 2)).run Try.prog w = .ok (.agg #[.int .u16 s.c.pd, .int .u16 s.c.ct, .int .u8 s.c.ld, .bool s.c.hi, .int .u16 s.c.nz]) w := ⟨by kernel_rfl, by kernel_rfl, by kernel_rfl⟩

/-- what the first k voices add up to -/
def accS (s : Sd) (k : Int) : Int := if k = 0 then 0 else if k = 1 then levV s.a else if k = 2 then levV s.a + levV s.b else levS s

theorem lev_any (s : Sd) (hs : s.In) (w : World) :
    Calls Try.prog 42 #[.agg #[.int .u16 s.a.pd, .int .u16 s.a.ct, .int .u8 s.a.ld, .bool s.a.hi, .int .u16 s.a.nz, .int .u16 s.b.pd, .int .u16 s.b.ct, .int .u8 s.b.ld, .bool s.b.hi, .int .u16 s.b.nz, .int .u16 s.c.pd, .int .u16 s.c.ct, .int .u8 s.c.ld, .bool s.c.hi, .int .u16 s.c.nz, .int .i64 s.wt]] w fun e w' => e = .returned (.int .u8 (levS s)) ∧ Below w.heap.size w w' := by
  obtain ⟨h1, h2, h3⟩ := hs
  have a1 := and15 s.a.ld h1.2.2.1
  have a2 := and15 s.b.ld h2.2.2.1
  have a3 := and15 s.c.ld h3.2.2.1
  have I := Lib.hid (vidx s)
  have A0 : accS s 0 = 0 := rfl
  have A1 : accS s 1 = levV s.a := rfl
  have A2 : accS s 2 = levV s.a + levV s.b := rfl
  have A3 : accS s 3 = levV s.a + levV s.b + levV s.c := rfl
  have A4 : accS s 3 = levS s := rfl
  generalize accS s = F at *
  generalize levS s = L at *
  have B1 := levV_in s.a
  have B2 := levV_in s.b
  have B3 := levV_in s.c
  have V := Lib.hid (show levV s.a = (if s.a.hi then s.a.ld % 16 else 0) ∧ levV s.b = (if s.b.hi then s.b.ld % 16 else 0) ∧ levV s.c = (if s.c.hi then s.c.ld % 16 else 0) from ⟨rfl, rfl, rfl⟩)
  generalize levV s.a = va at *
  generalize levV s.b = vb at *
  generalize levV s.c = vc at *
  have HA := Lib.hid (And.intro A0 (And.intro A1 (And.intro A2 (And.intro A3 A4))))
  have HM := Lib.hid (And.intro a1 (And.intro a2 a3))
  have H1 := Lib.hid (And.intro h1.2.2.1 (And.intro h2.2.2.1 h3.2.2.1))
  clear a1 a2 a3 A0 A1 A2 A3 A4 h1 h2 h3
  obtain ⟨b1, b1'⟩ := B1
  obtain ⟨b2, b2'⟩ := B2
  obtain ⟨b3, b3'⟩ := B3
  go_enter Try.func42, Try.ntmps42
  go_wp2_with fail
  refine wp_mark (R := fun W => Below w.heap.size w W ∧ Hid (Blk W (w.heap.size) (#[.int .u16 s.a.pd, .int .u16 s.a.ct, .int .u8 s.a.ld, .bool s.a.hi, .int .u16 s.a.nz, .int .u16 s.b.pd, .int .u16 s.b.ct, .int .u8 s.b.ld, .bool s.b.hi, .int .u16 s.b.nz, .int .u16 s.c.pd, .int .u16 s.c.ct, .int .u8 s.c.ld, .bool s.c.hi, .int .u16 s.c.nz, .int .i64 s.wt]) 36)) ⟨by repeat' (first | (with_reducible first | exact Below.refl _ _ | assumption | refine below_alloc ?_ _ | refine Below.drew ?_ | refine below_drewN ?_ _ | refine below_then ?_ (by assumption) | refine below_put ?_ (by assumption) (by first | (simp; done) | (simp; omega) | omega) | refine Below.setCell ?_ ?_ _) | (simp; done) | (simp; omega) | omega), Lib.hid (by repeat' (first | (with_reducible first | exact Hid.out (by assumption) | exact Blk.new _ _ _ | (refine Blk.new_at _ _ _ _ ?_; simp; done) | refine Blk.alloc ?_ _ | refine Blk.drewN ?_ _ | refine Blk.drew ?_ | apply Blk.set | refine Blk.put ?_ (by assumption) (by first | (simp; done) | (simp; omega) | omega) | refine Blk.below ?_ (by assumption)) | (refine Blk.setAt ?_ (by first | (simp; done) | (simp; omega))) | rfl))⟩ ?_
  rintro w1 ⟨hbw1, Kw1_0⟩
  obtain ⟨lw1_0, cw1_0, fw1_0⟩ := Kw1_0.out.use
  go_wp2
  go_loopw [3, 8] (fun t i wr => ∃ k : Int, 0 ≤ k ∧ k ≤ 3 ∧ i = .int .i64 k ∧ t = .int .u8 (F k) ∧ Below w.heap.size w wr) (fun _ i _ => (3 - intOf i).toNat)
  case atStart => exact ⟨0, by omega, by omega, rfl, by rw [HA.out.1], hbw1⟩
  case round =>
    clear Kw1_0 cw1_0 fw1_0
    obtain ⟨k, hk0, hk, rfl, rfl, hbr⟩ := hrel
    rcases (by omega : k = 0 ∨ k = 1 ∨ k = 2 ∨ k = 3) with rfl | rfl | rfl | rfl
    · have i0 := fun w => (I.out w).1
      have hv := V.out.1
      have hm := HM.out.1
      obtain ⟨hu, hu'⟩ := H1.out.1
      have E := Lib.hid HA.out.2.1
      rw [HA.out.1]
      by_cases hh : s.a.hi = true
      · rw [hh] at i0
        rw [if_pos hh] at hv
        rw [← hv] at hm
        have hq : s.a.ld % 16 = va := hv.symm
        clear hv
        go_wp2
        go_roundw
        case rel => exact ⟨1, by omega, by omega, by go_num, by first | (rw [E.out]; done) | (rw [E.out]; go_num), by repeat' (first | (with_reducible first | exact Below.refl _ _ | assumption | refine below_alloc ?_ _ | refine Below.drew ?_ | refine below_drewN ?_ _ | refine below_then ?_ (by assumption) | refine below_put ?_ (by assumption) (by first | (simp; done) | (simp; omega) | omega) | refine Below.setCell ?_ ?_ _) | (simp; done) | (simp; omega) | omega)⟩
        case measure => simp [intOf]
      · have hh' : s.a.hi = false := by simpa using hh
        rw [hh'] at i0
        rw [if_neg hh] at hv
        clear hm hh
        go_wp2
        go_roundw
        case rel => exact ⟨1, by omega, by omega, by go_num, by first | (rw [E.out]; done) | (rw [E.out]; go_num), by repeat' (first | (with_reducible first | exact Below.refl _ _ | assumption | refine below_alloc ?_ _ | refine Below.drew ?_ | refine below_drewN ?_ _ | refine below_then ?_ (by assumption) | refine below_put ?_ (by assumption) (by first | (simp; done) | (simp; omega) | omega) | refine Below.setCell ?_ ?_ _) | (simp; done) | (simp; omega) | omega)⟩
        case measure => simp [intOf]
    · have i0 := fun w => (I.out w).2.1
      have hv := V.out.2.1
      have hm := HM.out.2.1
      obtain ⟨hu, hu'⟩ := H1.out.2.1
      have E := Lib.hid HA.out.2.2.1
      rw [HA.out.2.1]
      by_cases hh : s.b.hi = true
      · rw [hh] at i0
        rw [if_pos hh] at hv
        rw [← hv] at hm
        have hq : s.b.ld % 16 = vb := hv.symm
        clear hv
        go_wp2
        go_roundw
        case rel => exact ⟨2, by omega, by omega, by go_num, by first | (rw [E.out]; done) | (rw [E.out]; go_num), by repeat' (first | (with_reducible first | exact Below.refl _ _ | assumption | refine below_alloc ?_ _ | refine Below.drew ?_ | refine below_drewN ?_ _ | refine below_then ?_ (by assumption) | refine below_put ?_ (by assumption) (by first | (simp; done) | (simp; omega) | omega) | refine Below.setCell ?_ ?_ _) | (simp; done) | (simp; omega) | omega)⟩
        case measure => simp [intOf]
      · have hh' : s.b.hi = false := by simpa using hh
        rw [hh'] at i0
        rw [if_neg hh] at hv
        clear hm hh
        go_wp2
        go_roundw
        case rel => exact ⟨2, by omega, by omega, by go_num, by first | (rw [E.out]; done) | (rw [E.out]; go_num), by repeat' (first | (with_reducible first | exact Below.refl _ _ | assumption | refine below_alloc ?_ _ | refine Below.drew ?_ | refine below_drewN ?_ _ | refine below_then ?_ (by assumption) | refine below_put ?_ (by assumption) (by first | (simp; done) | (simp; omega) | omega) | refine Below.setCell ?_ ?_ _) | (simp; done) | (simp; omega) | omega)⟩
        case measure => simp [intOf]
    · have i0 := fun w => (I.out w).2.2
      have hv := V.out.2.2
      have hm := HM.out.2.2
      obtain ⟨hu, hu'⟩ := H1.out.2.2
      have E := Lib.hid HA.out.2.2.2.1
      rw [HA.out.2.2.1]
      by_cases hh : s.c.hi = true
      · rw [hh] at i0
        rw [if_pos hh] at hv
        rw [← hv] at hm
        have hq : s.c.ld % 16 = vc := hv.symm
        clear hv
        go_wp2
        go_roundw
        case rel => exact ⟨3, by omega, by omega, by go_num, by first | (rw [E.out]; done) | (rw [E.out]; go_num), by repeat' (first | (with_reducible first | exact Below.refl _ _ | assumption | refine below_alloc ?_ _ | refine Below.drew ?_ | refine below_drewN ?_ _ | refine below_then ?_ (by assumption) | refine below_put ?_ (by assumption) (by first | (simp; done) | (simp; omega) | omega) | refine Below.setCell ?_ ?_ _) | (simp; done) | (simp; omega) | omega)⟩
        case measure => simp [intOf]
      · have hh' : s.c.hi = false := by simpa using hh
        rw [hh'] at i0
        rw [if_neg hh] at hv
        clear hm hh
        go_wp2
        go_roundw
        case rel => exact ⟨3, by omega, by omega, by go_num, by first | (rw [E.out]; done) | (rw [E.out]; go_num), by repeat' (first | (with_reducible first | exact Below.refl _ _ | assumption | refine below_alloc ?_ _ | refine Below.drew ?_ | refine below_drewN ?_ _ | refine below_then ?_ (by assumption) | refine below_put ?_ (by assumption) (by first | (simp; done) | (simp; omega) | omega) | refine Below.setCell ?_ ?_ _) | (simp; done) | (simp; omega) | omega)⟩
        case measure => simp [intOf]
    · have E := Lib.hid HA.out.2.2.2.2
      have E3 := HA.out.2.2.2.1
      rw [E3]
      go_wp2
      go_ret
      refine ⟨?_, hbr⟩
      have EL : va + vb + vc = L := by rw [← E.out, HA.out.2.2.2.1]
      rw [← EL]
      rfl
theorem smpl_any (s : Sd) (hs : s.In) (w : World) :
    Calls Try.prog 20 #[.agg #[.int .u16 s.a.pd, .int .u16 s.a.ct, .int .u8 s.a.ld, .bool s.a.hi, .int .u16 s.a.nz, .int .u16 s.b.pd, .int .u16 s.b.ct, .int .u8 s.b.ld, .bool s.b.hi, .int .u16 s.b.nz, .int .u16 s.c.pd, .int .u16 s.c.ct, .int .u8 s.c.ld, .bool s.c.hi, .int .u16 s.c.nz, .int .i64 s.wt]] w fun e w' => e = .returned (.int .u8 (levS s)) ∧ Below w.heap.size w w' := by
  obtain ⟨h1, h2, h3⟩ := hs
  have a1 := and15 s.a.ld h1.2.2.1
  have a2 := and15 s.b.ld h2.2.2.1
  have a3 := and15 s.c.ld h3.2.2.1
  have I := Lib.hid (vidx s)
  have A0 : accS s 0 = 0 := rfl
  have A1 : accS s 1 = levV s.a := rfl
  have A2 : accS s 2 = levV s.a + levV s.b := rfl
  have A3 : accS s 3 = levV s.a + levV s.b + levV s.c := rfl
  have A4 : accS s 3 = levS s := rfl
  generalize accS s = F at *
  generalize levS s = L at *
  have B1 := levV_in s.a
  have B2 := levV_in s.b
  have B3 := levV_in s.c
  have V := Lib.hid (show levV s.a = (if s.a.hi then s.a.ld % 16 else 0) ∧ levV s.b = (if s.b.hi then s.b.ld % 16 else 0) ∧ levV s.c = (if s.c.hi then s.c.ld % 16 else 0) from ⟨rfl, rfl, rfl⟩)
  generalize levV s.a = va at *
  generalize levV s.b = vb at *
  generalize levV s.c = vc at *
  have HA := Lib.hid (And.intro A0 (And.intro A1 (And.intro A2 (And.intro A3 A4))))
  have HM := Lib.hid (And.intro a1 (And.intro a2 a3))
  have H1 := Lib.hid (And.intro h1.2.2.1 (And.intro h2.2.2.1 h3.2.2.1))
  clear a1 a2 a3 A0 A1 A2 A3 A4 h1 h2 h3
  obtain ⟨b1, b1'⟩ := B1
  obtain ⟨b2, b2'⟩ := B2
  obtain ⟨b3, b3'⟩ := B3
  go_enter Try.func20, Try.ntmps20
  go_wp2_with fail
  refine wp_mark (R := fun W => Below w.heap.size w W ∧ Hid (Blk W (w.heap.size) (#[.int .u16 s.a.pd, .int .u16 s.a.ct, .int .u8 s.a.ld, .bool s.a.hi, .int .u16 s.a.nz, .int .u16 s.b.pd, .int .u16 s.b.ct, .int .u8 s.b.ld, .bool s.b.hi, .int .u16 s.b.nz, .int .u16 s.c.pd, .int .u16 s.c.ct, .int .u8 s.c.ld, .bool s.c.hi, .int .u16 s.c.nz, .int .i64 s.wt]) 36)) ⟨by repeat' (first | (with_reducible first | exact Below.refl _ _ | assumption | refine below_alloc ?_ _ | refine Below.drew ?_ | refine below_drewN ?_ _ | refine below_then ?_ (by assumption) | refine below_put ?_ (by assumption) (by first | (simp; done) | (simp; omega) | omega) | refine Below.setCell ?_ ?_ _) | (simp; done) | (simp; omega) | omega), Lib.hid (by repeat' (first | (with_reducible first | exact Hid.out (by assumption) | exact Blk.new _ _ _ | (refine Blk.new_at _ _ _ _ ?_; simp; done) | refine Blk.alloc ?_ _ | refine Blk.drewN ?_ _ | refine Blk.drew ?_ | apply Blk.set | refine Blk.put ?_ (by assumption) (by first | (simp; done) | (simp; omega) | omega) | refine Blk.below ?_ (by assumption)) | (refine Blk.setAt ?_ (by first | (simp; done) | (simp; omega))) | rfl))⟩ ?_
  rintro w1 ⟨hbw1, Kw1_0⟩
  obtain ⟨lw1_0, cw1_0, fw1_0⟩ := Kw1_0.out.use
  go_wp2
  go_loopw [3, 8] (fun t i wr => ∃ k : Int, 0 ≤ k ∧ k ≤ 3 ∧ i = .int .i64 k ∧ t = .int .i64 (F k) ∧ Below w.heap.size w wr) (fun _ i _ => (3 - intOf i).toNat)
  case atStart => exact ⟨0, by omega, by omega, rfl, by rw [HA.out.1], hbw1⟩
  case round =>
    clear Kw1_0 cw1_0 fw1_0
    obtain ⟨k, hk0, hk, rfl, rfl, hbr⟩ := hrel
    rcases (by omega : k = 0 ∨ k = 1 ∨ k = 2 ∨ k = 3) with rfl | rfl | rfl | rfl
    · have i0 := fun w => (I.out w).1
      have hv := V.out.1
      have hm := HM.out.1
      obtain ⟨hu, hu'⟩ := H1.out.1
      have E := Lib.hid HA.out.2.1
      rw [HA.out.1]
      by_cases hh : s.a.hi = true
      · rw [hh] at i0
        rw [if_pos hh] at hv
        rw [← hv] at hm
        have hq : s.a.ld % 16 = va := hv.symm
        clear hv
        go_wp2
        go_roundw
        case rel => exact ⟨1, by omega, by omega, by go_num, by first | (rw [E.out]; done) | (rw [E.out]; go_num), by repeat' (first | (with_reducible first | exact Below.refl _ _ | assumption | refine below_alloc ?_ _ | refine Below.drew ?_ | refine below_drewN ?_ _ | refine below_then ?_ (by assumption) | refine below_put ?_ (by assumption) (by first | (simp; done) | (simp; omega) | omega) | refine Below.setCell ?_ ?_ _) | (simp; done) | (simp; omega) | omega)⟩
        case measure => simp [intOf]
      · have hh' : s.a.hi = false := by simpa using hh
        rw [hh'] at i0
        rw [if_neg hh] at hv
        clear hm hh
        go_wp2
        go_roundw
        case rel => exact ⟨1, by omega, by omega, by go_num, by first | (rw [E.out]; done) | (rw [E.out]; go_num), by repeat' (first | (with_reducible first | exact Below.refl _ _ | assumption | refine below_alloc ?_ _ | refine Below.drew ?_ | refine below_drewN ?_ _ | refine below_then ?_ (by assumption) | refine below_put ?_ (by assumption) (by first | (simp; done) | (simp; omega) | omega) | refine Below.setCell ?_ ?_ _) | (simp; done) | (simp; omega) | omega)⟩
        case measure => simp [intOf]
    · have i0 := fun w => (I.out w).2.1
      have hv := V.out.2.1
      have hm := HM.out.2.1
      obtain ⟨hu, hu'⟩ := H1.out.2.1
      have E := Lib.hid HA.out.2.2.1
      rw [HA.out.2.1]
      by_cases hh : s.b.hi = true
      · rw [hh] at i0
        rw [if_pos hh] at hv
        rw [← hv] at hm
        have hq : s.b.ld % 16 = vb := hv.symm
        clear hv
        go_wp2
        go_roundw
        case rel => exact ⟨2, by omega, by omega, by go_num, by first | (rw [E.out]; done) | (rw [E.out]; go_num), by repeat' (first | (with_reducible first | exact Below.refl _ _ | assumption | refine below_alloc ?_ _ | refine Below.drew ?_ | refine below_drewN ?_ _ | refine below_then ?_ (by assumption) | refine below_put ?_ (by assumption) (by first | (simp; done) | (simp; omega) | omega) | refine Below.setCell ?_ ?_ _) | (simp; done) | (simp; omega) | omega)⟩
        case measure => simp [intOf]
      · have hh' : s.b.hi = false := by simpa using hh
        rw [hh'] at i0
        rw [if_neg hh] at hv
        clear hm hh
        go_wp2
        go_roundw
        case rel => exact ⟨2, by omega, by omega, by go_num, by first | (rw [E.out]; done) | (rw [E.out]; go_num), by repeat' (first | (with_reducible first | exact Below.refl _ _ | assumption | refine below_alloc ?_ _ | refine Below.drew ?_ | refine below_drewN ?_ _ | refine below_then ?_ (by assumption) | refine below_put ?_ (by assumption) (by first | (simp; done) | (simp; omega) | omega) | refine Below.setCell ?_ ?_ _) | (simp; done) | (simp; omega) | omega)⟩
        case measure => simp [intOf]
    · have i0 := fun w => (I.out w).2.2
      have hv := V.out.2.2
      have hm := HM.out.2.2
      obtain ⟨hu, hu'⟩ := H1.out.2.2
      have E := Lib.hid HA.out.2.2.2.1
      rw [HA.out.2.2.1]
      by_cases hh : s.c.hi = true
      · rw [hh] at i0
        rw [if_pos hh] at hv
        rw [← hv] at hm
        have hq : s.c.ld % 16 = vc := hv.symm
        clear hv
        go_wp2
        go_roundw
        case rel => exact ⟨3, by omega, by omega, by go_num, by first | (rw [E.out]; done) | (rw [E.out]; go_num), by repeat' (first | (with_reducible first | exact Below.refl _ _ | assumption | refine below_alloc ?_ _ | refine Below.drew ?_ | refine below_drewN ?_ _ | refine below_then ?_ (by assumption) | refine below_put ?_ (by assumption) (by first | (simp; done) | (simp; omega) | omega) | refine Below.setCell ?_ ?_ _) | (simp; done) | (simp; omega) | omega)⟩
        case measure => simp [intOf]
      · have hh' : s.c.hi = false := by simpa using hh
        rw [hh'] at i0
        rw [if_neg hh] at hv
        clear hm hh
        go_wp2
        go_roundw
        case rel => exact ⟨3, by omega, by omega, by go_num, by first | (rw [E.out]; done) | (rw [E.out]; go_num), by repeat' (first | (with_reducible first | exact Below.refl _ _ | assumption | refine below_alloc ?_ _ | refine Below.drew ?_ | refine below_drewN ?_ _ | refine below_then ?_ (by assumption) | refine below_put ?_ (by assumption) (by first | (simp; done) | (simp; omega) | omega) | refine Below.setCell ?_ ?_ _) | (simp; done) | (simp; omega) | omega)⟩
        case measure => simp [intOf]
    · have E := Lib.hid HA.out.2.2.2.2
      have E3 := HA.out.2.2.2.1
      rw [E3]
      go_wp2
      go_ret
      refine ⟨?_, hbr⟩
      have EL : va + vb + vc = L := by rw [← E.out, HA.out.2.2.2.1]
      rw [← EL]
      rfl
end Go.Proofs.Ytcgigpglpbhakaa
