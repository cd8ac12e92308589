/- The closures that an order's sums lay: the signs, and what is moved. Conditions: the fields are words. -/
import Derived.Test.YteihggfcafoogaaCpuLeave
namespace Go.Mq
open Go.RowKit
section
variable {P : Program} {w : World}
@[go_sem] theorem run_store_func (a : Addr) (f : Fn) (x y : Array Value) (m : Mode) : (store a (.func f x y) m).run P w = stored P w a (.func f x y) m := run_store P w a _ m rfl
@[go_sem] theorem run_store_nilFunc (a : Addr) (m : Mode) : (store a .nilFunc m).run P w = stored P w a .nilFunc m := run_store P w a _ m rfl
end
def Cp.fl (c : Cp) (z n cr v : Bool) : Cp := { c with z := z, n := n, c := cr, v := v }
end Go.Mq
namespace Go.Proofs.Yteihggfcafoogaa
open Go.RowKit Go.Mq
set_option linter.unusedVariables false
set_option linter.unusedSimpArgs false
set_option maxHeartbeats 400000
set_option maxRecDepth 100000
theorem flg_any (c : Cp) (n : Int) (z ng cr v : Bool) (cb x B : Nat) (hB : B ≤ cb) (hx : x ≠ cb) (w : World) (hc : Blk w cb (cpuC c) 28) (hxb : Blk w x #[.pointer (some ⟨cb, 0, none⟩)] 65) :
    Calls Try.prog 32 #[.int .u16 n, .bool z, .bool ng, .bool cr, .bool v, .pointer (some ⟨x, 0, none⟩)] w fun e w' => e = .returned (.int .u16 n) ∧ Blk w' cb (cpuC (c.fl z ng cr v)) 28 ∧ Kp B (· = cb) w w' ∧ Below cb w w' := by
  have KC := Lib.hid hc
  have KX := Lib.hid hxb
  obtain ⟨lx, cx, fx⟩ := hxb.use
  have lc := hc.lt
  have fc := hc.free
  have c9 : w.cell? ⟨cb, 9, none⟩ = some (.bool c.z) := hc.cell 9
  have c10 : w.cell? ⟨cb, 10, none⟩ = some (.bool c.n) := hc.cell 10
  have c11 : w.cell? ⟨cb, 11, none⟩ = some (.bool c.c) := hc.cell 11
  have c12 : w.cell? ⟨cb, 12, none⟩ = some (.bool c.v) := hc.cell 12
  clear hc hxb
  go_enter Try.func32, Try.ntmps32
  go_wp2_with fail
  go_region
  go_wp2
  go_ret
  exact ⟨rfl, (by repeat' (first | (with_reducible first | exact Hid.out (by assumption) | exact Blk.new _ _ _ | (refine Blk.new_at _ _ _ _ ?_; simp; done) | refine Blk.alloc ?_ _ | refine Blk.drewN ?_ _ | refine Blk.drew ?_ | apply Blk.set | refine Blk.put ?_ (by assumption) (by first | (simp; done) | (simp; omega) | omega) | refine Blk.below ?_ (by assumption)) | (refine Blk.setAt ?_ (by first | (simp; done) | (simp; omega))) | rfl)), (by repeat' (first | (with_reducible first | exact Kp.refl _ _ _ | assumption | refine Kp.alloc ?_ _ | refine Kp.drew ?_ | refine Kp.drewN ?_ _ | refine Kp.setCell ?_ ?_) | (right; rfl) | (left; simp; done) | (left; omega) | (left; simp; omega))), (by repeat' (first | (with_reducible first | exact Below.refl _ _ | assumption | refine Below.alloc ?_ ?_ _ | refine Below.drew ?_ | refine below_drewN ?_ _ | refine Below.setCell ?_ ?_ _) | (simp; done) | omega | (simp; omega)))⟩

theorem moved_any (c : Cp) (n er : Int) (hn : U16 n) (cr : Bool) (D : Nat) (hD : D < 8) (cb x B p q : Nat) (hB : B ≤ cb) (hx : x ≠ cb) (hp : p ≠ cb) (hq : q ≠ cb) (hBp : B ≤ p) (hBq : B ≤ q) (w : World) (hc : Blk w cb (cpuC c) 28) (hxb : Blk w x #[.pointer (some ⟨cb, 0, none⟩)] 65)
    (hpb : Blk w p #[.func (.func 32) #[] #[.pointer (some ⟨x, 0, none⟩)]] 75) (hqb : Blk w q #[.pointer (some ⟨cb, D, none⟩)] 74) :
    Calls Try.prog 33 #[.int .u16 n, .bool cr, .int .i64 er, .pointer (some ⟨p, 0, none⟩), .pointer (some ⟨q, 0, none⟩)] w fun e w' => e = .returned (.tuple #[]) ∧ Blk w' cb (cpuC ((c.fl (n == 0) (decide (32768 ≤ n)) cr false).reg D n)) 28 ∧ Kp B (· = cb) w w' ∧ Below cb w w' := by
  have F := Lib.hid (fun w' => flg_any c n (n == 0) (decide (32768 ≤ n)) cr false cb x B hB hx w')
  have KC := Lib.hid hc
  have KX := Lib.hid hxb
  have hh : (n / 32768 == 1) = decide (32768 ≤ n) := by unfold U16 at hn; rw [Bool.eq_iff_iff]; simp; omega
  have nn := hn.1
  have nn2 := hn.2
  clear hc hxb hn
  have lp := hpb.lt
  have lq := hqb.lt
  have KP := Lib.hid hpb
  have KQ := Lib.hid hqb
  clear hpb hqb
  go_enter Try.func33, Try.ntmps33
  refine wp_region_held_drew (S := fun W => Blk W (p) (#[.func (.func 32) #[] #[.pointer (some ⟨x, 0, none⟩)]]) 75 ∧ Blk W (q) (#[.pointer (some ⟨cb, D, none⟩)]) 74) (by kernel_rfl) ⟨Blk.drew (show Blk _ (p) (#[.func (.func 32) #[] #[.pointer (some ⟨x, 0, none⟩)]]) 75 from (by repeat' (first | (with_reducible first | exact Hid.out (by assumption) | exact Blk.new _ _ _ | (refine Blk.new_at _ _ _ _ ?_; simp; done) | refine Blk.alloc ?_ _ | refine Blk.drewN ?_ _ | refine Blk.drew ?_ | apply Blk.set | refine Blk.put ?_ (by assumption) (by first | (simp; done) | (simp; omega) | omega) | refine Blk.below ?_ (by assumption)) | (refine Blk.setAt ?_ (by first | (simp; done) | (simp; omega))) | rfl))), Blk.drew (show Blk _ (q) (#[.pointer (some ⟨cb, D, none⟩)]) 74 from (by repeat' (first | (with_reducible first | exact Hid.out (by assumption) | exact Blk.new _ _ _ | (refine Blk.new_at _ _ _ _ ?_; simp; done) | refine Blk.alloc ?_ _ | refine Blk.drewN ?_ _ | refine Blk.drew ?_ | apply Blk.set | refine Blk.put ?_ (by assumption) (by first | (simp; done) | (simp; omega) | omega) | refine Blk.below ?_ (by assumption)) | (refine Blk.setAt ?_ (by first | (simp; done) | (simp; omega))) | rfl)))⟩ (fun hS => ?_)
  refine wpAnyH_take (i := 0) (v := ?v0_1) rfl (by kernel_rfl) (by kernel_rfl) (by kernel_rfl) (fun _ _ _ h => h) (Or.inl ⟨by rfl, ?y0_1⟩) hS ?_
  case y0_1 => (intro w hSw; have c0 := (hSw.1).cell; have c1 := (hSw.2).cell; go_simp; try with_reducible rfl)
  try simp only [List.getElem_toArray, List.getElem_cons_succ, List.getElem_cons_zero, Act.put, List.setIfInBounds_toArray, List.set_cons_zero, List.set_cons_succ]
  refine wpAnyH_take (i := 1) (v := ?v1_1) rfl (by kernel_rfl) (by kernel_rfl) (by kernel_rfl) (fun _ _ _ h => h) (Or.inl ⟨by rfl, ?y1_1⟩) hS ?_
  case y1_1 => (intro w hSw; have c0 := (hSw.1).cell; have c1 := (hSw.2).cell; go_simp; try with_reducible rfl)
  try simp only [List.getElem_toArray, List.getElem_cons_succ, List.getElem_cons_zero, Act.put, List.setIfInBounds_toArray, List.set_cons_zero, List.set_cons_succ]
  refine wpAnyH_take (i := 2) (v := ?v2_1) rfl (by kernel_rfl) (by kernel_rfl) (by kernel_rfl) (fun _ _ _ h => h) (Or.inl ⟨by rfl, ?y2_1⟩) hS ?_
  case y2_1 => (intro w hSw; go_simp; try with_reducible rfl)
  try simp only [List.getElem_toArray, List.getElem_cons_succ, List.getElem_cons_zero, Act.put, List.setIfInBounds_toArray, List.set_cons_zero, List.set_cons_succ]
  refine wpAnyH_take (i := 3) (v := ?v3_1) rfl (by kernel_rfl) (by kernel_rfl) (by kernel_rfl) (fun _ _ _ h => h) (Or.inl ⟨by rfl, ?y3_1⟩) hS ?_
  case y3_1 => (intro w hSw; go_simp; try with_reducible rfl)
  try simp only [List.getElem_toArray, List.getElem_cons_succ, List.getElem_cons_zero, Act.put, List.setIfInBounds_toArray, List.set_cons_zero, List.set_cons_succ]
  refine wpAnyH_take (i := 4) (v := ?v4_1) rfl (by kernel_rfl) (by kernel_rfl) (by kernel_rfl) (fun _ _ _ h => h) (Or.inl ⟨by rfl, ?y4_1⟩) hS ?_
  case y4_1 => (intro w hSw; go_simp; try with_reducible rfl)
  try simp only [List.getElem_toArray, List.getElem_cons_succ, List.getElem_cons_zero, Act.put, List.setIfInBounds_toArray, List.set_cons_zero, List.set_cons_succ]
  refine wpAnyH_take (i := 5) (v := ?v5_1) rfl (by kernel_rfl) (by kernel_rfl) (by kernel_rfl) (fun _ _ _ h => h) (Or.inl ⟨by rfl, ?y5_1⟩) hS ?_
  case y5_1 => (intro w hSw; go_simp; try with_reducible rfl)
  try simp only [List.getElem_toArray, List.getElem_cons_succ, List.getElem_cons_zero, Act.put, List.setIfInBounds_toArray, List.set_cons_zero, List.set_cons_succ]
  refine wpAnyH_take (i := 6) (v := ?v6_1) rfl (by kernel_rfl) (by kernel_rfl) (by kernel_rfl) (fun _ _ _ h => h) (Or.inl ⟨by rfl, ?y6_1⟩) hS ?_
  case y6_1 => (intro w hSw; go_simp; try with_reducible rfl)
  try simp only [List.getElem_toArray, List.getElem_cons_succ, List.getElem_cons_zero, Act.put, List.setIfInBounds_toArray, List.set_cons_zero, List.set_cons_succ]
  refine wpAnyH_take (i := 7) (v := ?v7_1) rfl (by kernel_rfl) (by kernel_rfl) (by kernel_rfl) (fun _ _ _ h => h) (Or.inl ⟨by rfl, ?y7_1⟩) hS ?_
  case y7_1 => (intro w hSw; go_simp; try with_reducible rfl)
  try simp only [List.getElem_toArray, List.getElem_cons_succ, List.getElem_cons_zero, Act.put, List.setIfInBounds_toArray, List.set_cons_zero, List.set_cons_succ]
  refine wpAnyH_take (i := 8) (v := ?v8_1) rfl (by kernel_rfl) (by kernel_rfl) (by kernel_rfl) (fun _ _ _ h => h) (Or.inl ⟨by rfl, ?y8_1⟩) hS ?_
  case y8_1 => (intro w hSw; go_simp; try with_reducible rfl)
  try simp only [List.getElem_toArray, List.getElem_cons_succ, List.getElem_cons_zero, Act.put, List.setIfInBounds_toArray, List.set_cons_zero, List.set_cons_succ]
  refine wpAnyH_ready (rs := [9]) (by kernel_rfl) (by simp) (AllReadyH.cons rfl (fun K hK => ?_) AllReadyH.nil)
  go_simp
  refine (F.out _ KC.out.drew KX.out.drew).mono ?_
  rintro e w1 ⟨rfl, hc1, hk1, hb1⟩
  try go_wp2_with fail
  refine hK.out _ _ ⟨hS.1.kp hk1 (by omega) (by show ¬ (_ = _); omega), hS.2.kp hk1 (by omega) (by show ¬ (_ = _); omega)⟩ (fun hS => ?_)
  clear hK K
  try simp only [List.getElem_toArray, List.getElem_cons_succ, List.getElem_cons_zero, Act.put, List.setIfInBounds_toArray, List.set_cons_zero, List.set_cons_succ]
  refine wpAnyH_take (i := 10) (v := ?v10_1) rfl (by kernel_rfl) (by kernel_rfl) (by kernel_rfl) (fun _ _ _ h => h) (Or.inl ⟨by rfl, ?y10_1⟩) hS ?_
  case y10_1 => (intro w hSw; go_simp; try with_reducible rfl)
  try simp only [List.getElem_toArray, List.getElem_cons_succ, List.getElem_cons_zero, Act.put, List.setIfInBounds_toArray, List.set_cons_zero, List.set_cons_succ]
  have g1 : w1.cell? ⟨cb, D, none⟩ = some (.int .u16 (c.r D)) := (hc1.cell D).trans (cpuC_get _ D hD); have g2 := hc1.free; have g3 := hc1.lt
  refine wpAnyH_ready (rs := [11]) (by kernel_rfl) (by simp) (AllReadyH.cons rfl (fun K hK => ?_) AllReadyH.nil)
  go_simp
  refine hK.out _ _ ⟨hS.1.setAt (by show _ ≠ cb; omega), hS.2.setAt (by show _ ≠ cb; omega)⟩ (fun hS => ?_)
  clear hK K
  try simp only [List.getElem_toArray, List.getElem_cons_succ, List.getElem_cons_zero, Act.put, List.setIfInBounds_toArray, List.set_cons_zero, List.set_cons_succ]
  refine wpAnyH_done (by kernel_rfl) ?_ _
  go_wp2
  exact bodyPost_end (results_none rfl _ _ _) rfl ⟨rfl, Blk.set hc1 (cpuC_set _ D hD n), (((Kp.refl B (· = cb) w).drew.trans hk1)).setCell (Or.inr rfl), ((Below.refl cb w).drew.trans hb1).setCell (Nat.le_refl cb) _⟩
end Go.Proofs.Yteihggfcafoogaa
