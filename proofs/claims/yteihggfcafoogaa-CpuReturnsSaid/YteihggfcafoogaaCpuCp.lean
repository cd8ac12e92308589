/- A processor's registers and signs; push, pop, Sign, signed, Start. Conditions: the bus is one, the fields are words. -/
import Derived.Test.YteihggfcafoogaaCpuBase
import Derived.Test.YteihggfcafoogaaBase2
import Derived.LoopN
namespace Go.Mq
open Go.RowKit
structure Cp where
  r : Nat → Int
  pc : Int
  z : Bool
  n : Bool
  c : Bool
  v : Bool
  may : Bool
  wt : Bool
def Cp.In (c : Cp) : Prop := (∀ i, U16 (c.r i)) ∧ U16 c.pc
def cpuC (c : Cp) : Array Value := #[.int .u16 (c.r 0), .int .u16 (c.r 1), .int .u16 (c.r 2), .int .u16 (c.r 3), .int .u16 (c.r 4), .int .u16 (c.r 5), .int .u16 (c.r 6), .int .u16 (c.r 7), .int .u16 c.pc, .bool c.z, .bool c.n, .bool c.c, .bool c.v, .bool c.may, .bool c.wt]
def upd (r : Nat → Int) (d : Nat) (x : Int) : Nat → Int := fun i => if i = d then x else r i
def Cp.reg (c : Cp) (d : Nat) (x : Int) : Cp := { c with r := upd c.r d x }
theorem Cp.reg_in {c : Cp} (h : c.In) (d : Nat) {x : Int} (hx : U16 x) : (c.reg d x).In := by
  refine ⟨fun i => ?_, h.2⟩
  show U16 (upd c.r d x i)
  unfold upd
  split
  · exact hx
  · exact h.1 i
theorem cpuC_get (c : Cp) (d : Nat) (h : d < 8) : (cpuC c)[d]? = some (.int .u16 (c.r d)) := by
  rcases (by omega : d = 0 ∨ d = 1 ∨ d = 2 ∨ d = 3 ∨ d = 4 ∨ d = 5 ∨ d = 6 ∨ d = 7) with rfl | rfl | rfl | rfl | rfl | rfl | rfl | rfl <;> rfl
theorem cpuC_set (c : Cp) (d : Nat) (h : d < 8) (x : Int) : (cpuC c).setIfInBounds d (.int .u16 x) = cpuC (c.reg d x) := by
  rcases (by omega : d = 0 ∨ d = 1 ∨ d = 2 ∨ d = 3 ∨ d = 4 ∨ d = 5 ∨ d = 6 ∨ d = 7) with rfl | rfl | rfl | rfl | rfl | rfl | rfl | rfl <;> rfl
def sp (c : Cp) : Int := (c.r 7 - 2) % 65536
def spUp (c : Cp) : Int := (c.r 7 + 2) % 65536
theorem sp_u (c : Cp) : U16 (sp c) := by unfold U16 sp; omega
theorem spUp_u (c : Cp) : U16 (spUp c) := by unfold U16 spUp; omega
theorem Blk.use1 {w : World} {b : Nat} {cs : Array Value} {t : TypeId} (h : Blk w b cs t) (i : Nat) : w.cell? ⟨b, i, none⟩ = cs[i]? := h.cell i
def sgn (c : Cp) : Int := (if c.z then 1 else 0) + (if c.n then 2 else 0) + (if c.c then 4 else 0) + (if c.v then 8 else 0) + (if c.may then 16 else 0)
theorem sgn_u (c : Cp) : U16 (sgn c) := by unfold U16 sgn; split <;> split <;> split <;> split <;> split <;> omega
def bitOf (n k : Int) : Bool := bits .and .u16 n k != 0
def signedF (c : Cp) (n : Int) : Cp := { c with z := bitOf n 1, n := bitOf n 2, c := bitOf n 4, v := bitOf n 8, may := bitOf n 16 }
theorem Kp.put {B g : Nat} {X : Nat → Prop} {a b c : World} (h : Kp B X a b) (hp : Put g b c) (hg : a.heap.size ≤ g ∨ X g) : Kp B X a c :=
  ⟨hp.below.os.trans h.os, hp.below.tape.trans h.tape, hp.below.output.trans h.output, by rw [hp.size]; exact h.size, fun i hi hn hx => (hp.other i (fun e => by subst e; rcases hg with hg | hg; omega; exact hx hg)).trans (h.block i hi hn hx)⟩
def bitc (c : Cp) : Nat → Bool
  | 0 => c.z
  | 1 => c.n
  | 2 => c.c
  | 3 => c.v
  | _ => c.may
def sgUp (c : Cp) : Nat → Int
  | 0 => 0
  | k + 1 => sgUp c k + (if bitc c k then 2 ^ k else 0)
theorem sgUp_all (c : Cp) : sgUp c 5 = sgn c := by
  unfold sgn
  simp [sgUp, bitc]
def start0 (pc : Int) : Cp := ⟨fun _ => 0, pc, false, false, false, false, false, false⟩
end Go.Mq
namespace Go.Proofs.Yteihggfcafoogaa
open Go.RowKit Go.Mq
set_option linter.unusedVariables false
set_option linter.unusedSimpArgs false
set_option maxHeartbeats 400000
set_option maxRecDepth 100000

theorem push_any {fg fp : FuncId} {cg cp : Value} {σ : Type} {b : Bus σ} {Rel : World → σ → Prop} {B : Nat} (hb : BusOk Try.prog fg fp cg cp b Rel B) (m : σ) (c : Cp) (hi : c.In) (n : Int) (hn : U16 n) (cb : Nat) (hB : B ≤ cb) (w : World) (hr : Rel w m) (hc : Blk w cb (cpuC c) 28) :
    Calls Try.prog 30 #[.pointer (some ⟨cb, 0, none⟩), .agg #[.func (.func fg) #[] #[cg], .func (.func fp) #[] #[cp]], .int .u16 n] w fun e w' => e = .returned (.tuple #[]) ∧ Blk w' cb (cpuC (c.reg 7 (sp c))) 28 ∧ Rel w' (pW b m (sp c) n) ∧ Kp B (· = cb) w w' := by
  have W := Lib.hid (fun w' => putWord_any hb m (sp c) n (sp_u c) hn w')
  have hw : IntKind.u16.wrap (c.r 7 - 2) = sp c := wrap16 _
  have HR := Lib.hid (fun w' (h : Below B w w') => hb.stable w w' m hr h)
  have l0 := hc.lt
  have c7 : w.cell? ⟨cb, 7, none⟩ = some (.int .u16 (c.r 7)) := hc.cell 7
  have f0 := hc.free
  have KC := Lib.hid hc
  clear hr hc
  go_enter Try.func30, Try.ntmps30
  go_wp2_with fail
  go_region
  go_wp2_with fail
  refine wp_mark (R := fun W => Kp B (· = cb) w W ∧ Rel W m ∧ Hid (Blk W cb (cpuC (c.reg 7 (sp c))) 28) ∧ Hid (Blk W w.heap.size #[.func (.func fg) #[] #[cg], .func (.func fp) #[] #[cp]] 52)) ⟨(by repeat' (first | (with_reducible first | exact Kp.refl _ _ _ | assumption | refine Kp.alloc ?_ _ | refine Kp.drew ?_ | refine Kp.drewN ?_ _ | refine Kp.setCell ?_ ?_) | (right; rfl) | (left; simp; done) | (left; omega) | (left; simp; omega))), HR.out _ (by repeat' (first | (with_reducible first | exact Below.refl _ _ | assumption | refine Below.alloc ?_ ?_ _ | refine Below.drew ?_ | refine below_drewN ?_ _ | refine Below.setCell ?_ ?_ _) | (simp; done) | omega | (simp; omega))), Lib.hid (by repeat' (first | (with_reducible first | exact Hid.out (by assumption) | exact Blk.new _ _ _ | (refine Blk.new_at _ _ _ _ ?_; simp; done) | refine Blk.alloc ?_ _ | refine Blk.drewN ?_ _ | refine Blk.drew ?_ | apply Blk.set | refine Blk.put ?_ (by assumption) (by first | (simp; done) | (simp; omega) | omega) | refine Blk.below ?_ (by assumption)) | (refine Blk.setAt ?_ (by first | (simp; done) | (simp; omega))) | rfl)), Lib.hid (by repeat' (first | (with_reducible first | exact Hid.out (by assumption) | exact Blk.new _ _ _ | (refine Blk.new_at _ _ _ _ ?_; simp; done) | refine Blk.alloc ?_ _ | refine Blk.drewN ?_ _ | refine Blk.drew ?_ | apply Blk.set | refine Blk.put ?_ (by assumption) (by first | (simp; done) | (simp; omega) | omega) | refine Blk.below ?_ (by assumption)) | (refine Blk.setAt ?_ (by first | (simp; done) | (simp; omega))) | rfl))⟩ ?_
  intro w1 ⟨hk1, hr1, hc1, hB1⟩
  have hs1 := hk1.size
  have g7 : (cpuC (c.reg 7 (sp c)))[7]? = some (.int .u16 (sp c)) := rfl
  refine wp_region_held_drew (S := fun W => Blk W (cb) (cpuC (c.reg 7 (sp c))) 28 ∧ Blk W (w.heap.size) (#[.func (.func fg) #[] #[cg], .func (.func fp) #[] #[cp]]) 52) (by kernel_rfl) ⟨Blk.drew (show Blk _ (cb) (cpuC (c.reg 7 (sp c))) 28 from (by repeat' (first | (with_reducible first | exact Hid.out (by assumption) | exact Blk.new _ _ _ | (refine Blk.new_at _ _ _ _ ?_; simp; done) | refine Blk.alloc ?_ _ | refine Blk.drewN ?_ _ | refine Blk.drew ?_ | apply Blk.set | refine Blk.put ?_ (by assumption) (by first | (simp; done) | (simp; omega) | omega) | refine Blk.below ?_ (by assumption)) | (refine Blk.setAt ?_ (by first | (simp; done) | (simp; omega))) | rfl))), Blk.drew (show Blk _ (w.heap.size) (#[.func (.func fg) #[] #[cg], .func (.func fp) #[] #[cp]]) 52 from (by repeat' (first | (with_reducible first | exact Hid.out (by assumption) | exact Blk.new _ _ _ | (refine Blk.new_at _ _ _ _ ?_; simp; done) | refine Blk.alloc ?_ _ | refine Blk.drewN ?_ _ | refine Blk.drew ?_ | apply Blk.set | refine Blk.put ?_ (by assumption) (by first | (simp; done) | (simp; omega) | omega) | refine Blk.below ?_ (by assumption)) | (refine Blk.setAt ?_ (by first | (simp; done) | (simp; omega))) | rfl)))⟩ (fun hS => ?_)
  refine wpAnyH_take (i := 0) rfl (by kernel_rfl) (by kernel_rfl) (by kernel_rfl) (fun _ _ _ h => h) (yields_loadA (by rfl) 52 (.tmp 4) rfl (w.heap.size) 0 2 rfl 52 #[.func (.func fg) #[] #[cg], .func (.func fp) #[] #[cp]] #[.func (.func fg) #[] #[cg], .func (.func fp) #[] #[cp]] (fun W hSw => hSw.2) _ Try.underlying52 rfl (by kernel_rfl) rfl rfl) hS ?_
  try simp only [List.getElem_toArray, List.getElem_cons_succ, List.getElem_cons_zero, Act.put, List.setIfInBounds_toArray, List.set_cons_zero, List.set_cons_succ]
  refine wpAnyH_take (i := 1) (v := ?v1_1) rfl (by kernel_rfl) (by kernel_rfl) (by kernel_rfl) (fun _ _ _ h => h) (Or.inl ⟨by rfl, ?y1_1⟩) hS ?_
  case y1_1 => (intro w hSw; go_simp; try with_reducible rfl)
  try simp only [List.getElem_toArray, List.getElem_cons_succ, List.getElem_cons_zero, Act.put, List.setIfInBounds_toArray, List.set_cons_zero, List.set_cons_succ]
  refine wpAnyH_take (i := 2) (v := ?v2_1) rfl (by kernel_rfl) (by kernel_rfl) (by kernel_rfl) (fun _ _ _ h => h) (Or.inl ⟨by rfl, ?y2_1⟩) hS ?_
  case y2_1 => (intro w hSw; go_simp; try with_reducible rfl)
  try simp only [List.getElem_toArray, List.getElem_cons_succ, List.getElem_cons_zero, Act.put, List.setIfInBounds_toArray, List.set_cons_zero, List.set_cons_succ]
  refine wpAnyH_take (i := 3) (v := ?v3_1) rfl (by kernel_rfl) (by kernel_rfl) (by kernel_rfl) (fun _ _ _ h => h) (Or.inl ⟨by rfl, ?y3_1⟩) hS ?_
  case y3_1 => (intro w hSw; go_simp; try with_reducible rfl)
  try simp only [List.getElem_toArray, List.getElem_cons_succ, List.getElem_cons_zero, Act.put, List.setIfInBounds_toArray, List.set_cons_zero, List.set_cons_succ]
  refine wpAnyH_take (i := 4) (v := ?v4_1) rfl (by kernel_rfl) (by kernel_rfl) (by kernel_rfl) (fun _ _ _ h => h) (Or.inl ⟨by rfl, ?y4_1⟩) hS ?_
  case y4_1 => (intro w hSw; go_simp; try with_reducible rfl)
  try simp only [List.getElem_toArray, List.getElem_cons_succ, List.getElem_cons_zero, Act.put, List.setIfInBounds_toArray, List.set_cons_zero, List.set_cons_succ]
  refine wpAnyH_take (i := 5) (v := ?v5_1) rfl (by kernel_rfl) (by kernel_rfl) (by kernel_rfl) (fun _ _ _ h => h) (Or.inl ⟨by rfl, ?y5_1⟩) hS ?_
  case y5_1 => (intro w hSw; have c0 := (hSw.1).cell; have c1 := (hSw.2).cell; go_simp; try with_reducible rfl)
  try simp only [List.getElem_toArray, List.getElem_cons_succ, List.getElem_cons_zero, Act.put, List.setIfInBounds_toArray, List.set_cons_zero, List.set_cons_succ]
  refine wpAnyH_take (i := 6) (v := ?v6_1) rfl (by kernel_rfl) (by kernel_rfl) (by kernel_rfl) (fun _ _ _ h => h) (Or.inl ⟨by rfl, ?y6_1⟩) hS ?_
  case y6_1 => (intro w hSw; go_simp; try with_reducible rfl)
  try simp only [List.getElem_toArray, List.getElem_cons_succ, List.getElem_cons_zero, Act.put, List.setIfInBounds_toArray, List.set_cons_zero, List.set_cons_succ]
  refine wpAnyH_ready (rs := [7]) (by kernel_rfl) (by simp) (AllReadyH.cons rfl (fun K hK => ?_) AllReadyH.nil)
  go_simp
  refine (W.out _ (hb.stable _ _ _ hr1 (by repeat' (first | (with_reducible first | exact Below.refl _ _ | assumption | refine Below.alloc ?_ ?_ _ | refine Below.drew ?_ | refine below_drewN ?_ _ | refine Below.setCell ?_ ?_ _) | (simp; done) | omega | (simp; omega)))) (by first | omega | (simp; omega))).mono ?_
  rintro e w2 ⟨rfl, hr2, hk2⟩
  try go_wp2_with fail
  refine hK.out _ _ ⟨hS.1.kp hk2 (by omega) id, hS.2.kp hk2 (by omega) id⟩ (fun hS => ?_)
  clear hK K
  try simp only [List.getElem_toArray, List.getElem_cons_succ, List.getElem_cons_zero, Act.put, List.setIfInBounds_toArray, List.set_cons_zero, List.set_cons_succ]
  refine wpAnyH_done (by kernel_rfl) ?_ _
  go_wp2
  exact bodyPost_end (results_none rfl _ _ _) rfl ⟨rfl, hS.1, hr2, hk1.drew.then hk2 (fun _ _ h => h.elim)⟩

theorem pop_any {fg fp : FuncId} {cg cp : Value} {σ : Type} {b : Bus σ} {Rel : World → σ → Prop} {B : Nat} (hb : BusOk Try.prog fg fp cg cp b Rel B) (m : σ) (c : Cp) (hi : c.In) (cb : Nat) (hB : B ≤ cb) (w : World) (hr : Rel w m) (hc : Blk w cb (cpuC c) 28) :
    Calls Try.prog 38 #[.pointer (some ⟨cb, 0, none⟩), .agg #[.func (.func fg) #[] #[cg], .func (.func fp) #[] #[cp]]] w fun e w' => e = .returned (.int .u16 (wV b m (c.r 7))) ∧ Blk w' cb (cpuC (c.reg 7 (spUp c))) 28 ∧ Rel w' (wS b m (c.r 7)) ∧ Kp B (· = cb) w w' := by
  have W := Lib.hid (fun w' => word_any hb m (c.r 7) (hi.1 7) w')
  have hw : IntKind.u16.wrap (c.r 7 + 2) = spUp c := wrap16 _
  have HR := Lib.hid (fun w' (h : Below B w w') => hb.stable w w' m hr h)
  have l0 := hc.lt
  have f0 := hc.free
  have KC := Lib.hid hc
  have g7 : (cpuC c)[7]? = some (.int .u16 (c.r 7)) := rfl
  clear hr hc
  go_enter Try.func38, Try.ntmps38
  go_wp2_with fail
  refine wp_mark (R := fun W => Kp B (· = cb) w W ∧ Rel W m ∧ Hid (Blk W cb (cpuC c) 28) ∧ Hid (Blk W w.heap.size #[.func (.func fg) #[] #[cg], .func (.func fp) #[] #[cp]] 52)) ⟨(by repeat' (first | (with_reducible first | exact Kp.refl _ _ _ | assumption | refine Kp.alloc ?_ _ | refine Kp.drew ?_ | refine Kp.drewN ?_ _ | refine Kp.setCell ?_ ?_) | (right; rfl) | (left; simp; done) | (left; omega) | (left; simp; omega))), HR.out _ (by repeat' (first | (with_reducible first | exact Below.refl _ _ | assumption | refine Below.alloc ?_ ?_ _ | refine Below.drew ?_ | refine below_drewN ?_ _ | refine Below.setCell ?_ ?_ _) | (simp; done) | omega | (simp; omega))), Lib.hid (by repeat' (first | (with_reducible first | exact Hid.out (by assumption) | exact Blk.new _ _ _ | (refine Blk.new_at _ _ _ _ ?_; simp; done) | refine Blk.alloc ?_ _ | refine Blk.drewN ?_ _ | refine Blk.drew ?_ | apply Blk.set | refine Blk.put ?_ (by assumption) (by first | (simp; done) | (simp; omega) | omega) | refine Blk.below ?_ (by assumption)) | (refine Blk.setAt ?_ (by first | (simp; done) | (simp; omega))) | rfl)), Lib.hid (by repeat' (first | (with_reducible first | exact Hid.out (by assumption) | exact Blk.new _ _ _ | (refine Blk.new_at _ _ _ _ ?_; simp; done) | refine Blk.alloc ?_ _ | refine Blk.drewN ?_ _ | refine Blk.drew ?_ | apply Blk.set | refine Blk.put ?_ (by assumption) (by first | (simp; done) | (simp; omega) | omega) | refine Blk.below ?_ (by assumption)) | (refine Blk.setAt ?_ (by first | (simp; done) | (simp; omega))) | rfl))⟩ ?_
  intro w1 ⟨hk1, hr1, hc1, hB1⟩
  have hs1 := hk1.size
  refine wp_region_held_drew (S := fun W => Blk W (cb) (cpuC c) 28 ∧ Blk W (w.heap.size) (#[.func (.func fg) #[] #[cg], .func (.func fp) #[] #[cp]]) 52) (by kernel_rfl) ⟨Blk.drew (show Blk _ (cb) (cpuC c) 28 from (by repeat' (first | (with_reducible first | exact Hid.out (by assumption) | exact Blk.new _ _ _ | (refine Blk.new_at _ _ _ _ ?_; simp; done) | refine Blk.alloc ?_ _ | refine Blk.drewN ?_ _ | refine Blk.drew ?_ | apply Blk.set | refine Blk.put ?_ (by assumption) (by first | (simp; done) | (simp; omega) | omega) | refine Blk.below ?_ (by assumption)) | (refine Blk.setAt ?_ (by first | (simp; done) | (simp; omega))) | rfl))), Blk.drew (show Blk _ (w.heap.size) (#[.func (.func fg) #[] #[cg], .func (.func fp) #[] #[cp]]) 52 from (by repeat' (first | (with_reducible first | exact Hid.out (by assumption) | exact Blk.new _ _ _ | (refine Blk.new_at _ _ _ _ ?_; simp; done) | refine Blk.alloc ?_ _ | refine Blk.drewN ?_ _ | refine Blk.drew ?_ | apply Blk.set | refine Blk.put ?_ (by assumption) (by first | (simp; done) | (simp; omega) | omega) | refine Blk.below ?_ (by assumption)) | (refine Blk.setAt ?_ (by first | (simp; done) | (simp; omega))) | rfl)))⟩ (fun hS => ?_)
  refine wpAnyH_take (i := 0) rfl (by kernel_rfl) (by kernel_rfl) (by kernel_rfl) (fun _ _ _ h => h) (yields_loadA (by rfl) 52 (.tmp 3) rfl (w.heap.size) 0 2 rfl 52 #[.func (.func fg) #[] #[cg], .func (.func fp) #[] #[cp]] #[.func (.func fg) #[] #[cg], .func (.func fp) #[] #[cp]] (fun W hSw => hSw.2) _ Try.underlying52 rfl (by kernel_rfl) rfl rfl) hS ?_
  try simp only [List.getElem_toArray, List.getElem_cons_succ, List.getElem_cons_zero, Act.put, List.setIfInBounds_toArray, List.set_cons_zero, List.set_cons_succ]
  refine wpAnyH_take (i := 1) (v := ?v1_2) rfl (by kernel_rfl) (by kernel_rfl) (by kernel_rfl) (fun _ _ _ h => h) (Or.inl ⟨by rfl, ?y1_2⟩) hS ?_
  case y1_2 => (intro w hSw; go_simp; try with_reducible rfl)
  try simp only [List.getElem_toArray, List.getElem_cons_succ, List.getElem_cons_zero, Act.put, List.setIfInBounds_toArray, List.set_cons_zero, List.set_cons_succ]
  refine wpAnyH_take (i := 2) (v := ?v2_2) rfl (by kernel_rfl) (by kernel_rfl) (by kernel_rfl) (fun _ _ _ h => h) (Or.inl ⟨by rfl, ?y2_2⟩) hS ?_
  case y2_2 => (intro w hSw; go_simp; try with_reducible rfl)
  try simp only [List.getElem_toArray, List.getElem_cons_succ, List.getElem_cons_zero, Act.put, List.setIfInBounds_toArray, List.set_cons_zero, List.set_cons_succ]
  refine wpAnyH_take (i := 3) (v := ?v3_2) rfl (by kernel_rfl) (by kernel_rfl) (by kernel_rfl) (fun _ _ _ h => h) (Or.inl ⟨by rfl, ?y3_2⟩) hS ?_
  case y3_2 => (intro w hSw; go_simp; try with_reducible rfl)
  try simp only [List.getElem_toArray, List.getElem_cons_succ, List.getElem_cons_zero, Act.put, List.setIfInBounds_toArray, List.set_cons_zero, List.set_cons_succ]
  refine wpAnyH_take (i := 4) (v := ?v4_2) rfl (by kernel_rfl) (by kernel_rfl) (by kernel_rfl) (fun _ _ _ h => h) (Or.inl ⟨by rfl, ?y4_2⟩) hS ?_
  case y4_2 => (intro w hSw; go_simp; try with_reducible rfl)
  try simp only [List.getElem_toArray, List.getElem_cons_succ, List.getElem_cons_zero, Act.put, List.setIfInBounds_toArray, List.set_cons_zero, List.set_cons_succ]
  refine wpAnyH_take (i := 5) (v := ?v5_2) rfl (by kernel_rfl) (by kernel_rfl) (by kernel_rfl) (fun _ _ _ h => h) (Or.inl ⟨by rfl, ?y5_2⟩) hS ?_
  case y5_2 => (intro w hSw; have c0 := (hSw.1).cell; have c1 := (hSw.2).cell; go_simp; try with_reducible rfl)
  try simp only [List.getElem_toArray, List.getElem_cons_succ, List.getElem_cons_zero, Act.put, List.setIfInBounds_toArray, List.set_cons_zero, List.set_cons_succ]
  refine wpAnyH_ready (rs := [6]) (by kernel_rfl) (by simp) (AllReadyH.cons rfl (fun K hK => ?_) AllReadyH.nil)
  go_simp
  refine (W.out _ (hb.stable _ _ _ hr1 (by repeat' (first | (with_reducible first | exact Below.refl _ _ | assumption | refine Below.alloc ?_ ?_ _ | refine Below.drew ?_ | refine below_drewN ?_ _ | refine Below.setCell ?_ ?_ _) | (simp; done) | omega | (simp; omega)))) (by first | omega | (simp; omega))).mono ?_
  rintro e w2 ⟨rfl, hr2, hk2⟩
  try go_wp2_with fail
  refine hK.out _ _ ⟨hS.1.kp hk2 (by omega) id, hS.2.kp hk2 (by omega) id⟩ (fun hS => ?_)
  clear hK K
  try simp only [List.getElem_toArray, List.getElem_cons_succ, List.getElem_cons_zero, Act.put, List.setIfInBounds_toArray, List.set_cons_zero, List.set_cons_succ]
  refine wpAnyH_take (i := 7) (v := ?v7_2) rfl (by kernel_rfl) (by kernel_rfl) (by kernel_rfl) (fun _ _ _ h => h) (Or.inl ⟨by rfl, ?y7_2⟩) hS ?_
  case y7_2 => (intro w hSw; go_simp; try with_reducible rfl)
  try simp only [List.getElem_toArray, List.getElem_cons_succ, List.getElem_cons_zero, Act.put, List.setIfInBounds_toArray, List.set_cons_zero, List.set_cons_succ]
  refine wpAnyH_done (by kernel_rfl) ?_ _
  have hk2' := hk1.drew.then hk2 (fun _ _ h => h.elim)
  have c7 : w2.cell? ⟨cb, 7, none⟩ = some (.int .u16 (c.r 7)) := hS.1.cell 7
  have f2 := hS.1.free
  have KC2 := Lib.hid hS.1
  have l2 := hS.1.lt
  have hs2 := hk2'.size
  clear hS
  go_wp2_with fail
  go_region
  go_wp2
  go_ret
  exact ⟨rfl, (by repeat' (first | (with_reducible first | exact Hid.out (by assumption) | exact Blk.new _ _ _ | (refine Blk.new_at _ _ _ _ ?_; simp; done) | refine Blk.alloc ?_ _ | refine Blk.drewN ?_ _ | refine Blk.drew ?_ | apply Blk.set | refine Blk.put ?_ (by assumption) (by first | (simp; done) | (simp; omega) | omega) | refine Blk.below ?_ (by assumption)) | (refine Blk.setAt ?_ (by first | (simp; done) | (simp; omega))) | rfl)), hb.stable _ _ _ hr2 (by repeat' (first | (with_reducible first | exact Below.refl _ _ | assumption | refine Below.alloc ?_ ?_ _ | refine Below.drew ?_ | refine below_drewN ?_ _ | refine Below.setCell ?_ ?_ _) | (simp; done) | omega | (simp; omega))), (by repeat' (first | (with_reducible first | exact Kp.refl _ _ _ | assumption | refine Kp.alloc ?_ _ | refine Kp.drew ?_ | refine Kp.drewN ?_ _ | refine Kp.setCell ?_ ?_) | (right; rfl) | (left; simp; done) | (left; omega) | (left; simp; omega)))⟩

theorem start_any {fg fp : FuncId} {cg cp : Value} {σ : Type} {b : Bus σ} {Rel : World → σ → Prop} {B : Nat} (hb : BusOk Try.prog fg fp cg cp b Rel B) (m : σ) (w : World) (hr : Rel w m) (hB : B ≤ w.heap.size) :
    Calls Try.prog 16 #[.agg #[.func (.func fg) #[] #[cg], .func (.func fp) #[] #[cp]]] w fun e w' => e = .returned (.agg (cpuC (start0 (wV b m 0)))) ∧ Rel w' (wS b m 0) ∧ Kp B NoX w w' := by
  have W := Lib.hid (fun w' => word_any hb m 0 (by unfold U16; omega) w')
  have HR := Lib.hid (fun w' (h : Below B w w') => hb.stable w w' m hr h)
  generalize wV b m 0 = v at *
  clear hr
  go_enter Try.func16, Try.ntmps16
  go_wp2_with (first | ((with_reducible show wpList _ _ _ _ _ _); refine wpList_loadW rfl 52 (.tmp 1) rfl (w.heap.size) rfl 52 #[.func (.func fg) #[] #[cg], .func (.func fp) #[] #[cp]] (show Blk _ (w.heap.size) #[.func (.func fg) #[] #[cg], .func (.func fp) #[] #[cp]] 52 from (by repeat' (first | (with_reducible first | exact Hid.out (by assumption) | exact Blk.new _ _ _ | (refine Blk.new_at _ _ _ _ ?_; simp; done) | refine Blk.alloc ?_ _ | refine Blk.drewN ?_ _ | refine Blk.drew ?_ | apply Blk.set | refine Blk.put ?_ (by assumption) (by first | (simp; done) | (simp; omega) | omega) | refine Blk.below ?_ (by assumption)) | (refine Blk.setAt ?_ (by first | (simp; done) | (simp; omega))) | rfl))) _ Try.underlying52 rfl (by kernel_rfl) ?_))
  refine (W.out _ (HR.out _ (by repeat' (first | (with_reducible first | exact Below.refl _ _ | assumption | refine Below.alloc ?_ ?_ _ | refine Below.drew ?_ | refine below_drewN ?_ _ | refine Below.setCell ?_ ?_ _) | (simp; done) | omega | (simp; omega)))) (by first | omega | (simp; omega))).mono ?_
  rintro e w1 ⟨rfl, hr1, hk1⟩
  have hs1 := hk1.size
  have hk1' : Kp B NoX w w1 := Kp.then (by repeat' (first | (with_reducible first | exact Kp.refl _ _ _ | assumption | refine Kp.alloc ?_ _ | refine Kp.drew ?_ | refine Kp.drewN ?_ _ | refine Kp.setCell ?_ ?_) | (right; rfl) | (left; simp; done) | (left; omega) | (left; simp; omega))) hk1 (fun _ _ h => h)
  have KS := Lib.hid (show Blk w1 (w.heap.size + 1) #[.int .u16 0, .int .u16 0, .int .u16 0, .int .u16 0, .int .u16 0, .int .u16 0, .int .u16 0, .int .u16 0, .int .u16 0, .bool false, .bool false, .bool false, .bool false, .bool false, .bool false] 28 from Blk.kp (show Blk _ (w.heap.size + 1) #[.int .u16 0, .int .u16 0, .int .u16 0, .int .u16 0, .int .u16 0, .int .u16 0, .int .u16 0, .int .u16 0, .int .u16 0, .bool false, .bool false, .bool false, .bool false, .bool false, .bool false] 28 from (by repeat' (first | (with_reducible first | exact Hid.out (by assumption) | exact Blk.new _ _ _ | (refine Blk.new_at _ _ _ _ ?_; simp; done) | refine Blk.alloc ?_ _ | refine Blk.drewN ?_ _ | refine Blk.drew ?_ | apply Blk.set | refine Blk.put ?_ (by assumption) (by first | (simp; done) | (simp; omega) | omega) | refine Blk.below ?_ (by assumption)) | (refine Blk.setAt ?_ (by first | (simp; done) | (simp; omega))) | rfl))) hk1 (by omega) id)
  go_wp2_with (first | ((with_reducible show wpList _ _ _ _ _ _); refine wpList_storeW rfl 28 (.tmp 2) (.tmp 5) rfl (w.heap.size + 1) #[.int .u16 0, .int .u16 0, .int .u16 0, .int .u16 0, .int .u16 0, .int .u16 0, .int .u16 0, .int .u16 0, .int .u16 v, .bool false, .bool false, .bool false, .bool false, .bool false, .bool false] rfl rfl 28 _ (show Blk _ (w.heap.size + 1) #[.int .u16 0, .int .u16 0, .int .u16 0, .int .u16 0, .int .u16 0, .int .u16 0, .int .u16 0, .int .u16 0, .int .u16 0, .bool false, .bool false, .bool false, .bool false, .bool false, .bool false] 28 from (by repeat' (first | (with_reducible first | exact Hid.out (by assumption) | exact Blk.new _ _ _ | (refine Blk.new_at _ _ _ _ ?_; simp; done) | refine Blk.alloc ?_ _ | refine Blk.drewN ?_ _ | refine Blk.drew ?_ | apply Blk.set | refine Blk.put ?_ (by assumption) (by first | (simp; done) | (simp; omega) | omega) | refine Blk.below ?_ (by assumption)) | (refine Blk.setAt ?_ (by first | (simp; done) | (simp; omega))) | rfl))) (by kernel_rfl) rfl (by first | (with_reducible assumption) | simp [Value.oneCell']) ?_; intro w2 hp_w2 K_w2))
  exact bodyPost_ret (results_cell_row Try.results16 _ _ (w.heap.size + 1) 28 _ (0, 0) _ rfl K_w2.out Try.underlying28 rfl (by kernel_rfl)) rfl ⟨rfl, hb.stable _ _ _ hr1 (hp_w2.below.mono (by omega)), hk1'.put hp_w2 (Or.inl (by omega))⟩

theorem sign_any (c : Cp) (w : World) : Calls Try.prog 31 #[.agg (cpuC c)] w fun e w' => e = .returned (.int .u16 (sgn c)) ∧ Below w.heap.size w w' := by
  unfold cpuC
  have SA := Lib.hid (sgUp_all c)
  have I0 : ∀ w, (Instr.index 85 (.agg #[.bool c.z, .bool c.n, .bool c.c, .bool c.v, .bool c.may]) (.int .i64 0)).run Try.prog w = .ok (.bool c.z) w := fun w => by kernel_rfl
  have I1 : ∀ w, (Instr.index 85 (.agg #[.bool c.z, .bool c.n, .bool c.c, .bool c.v, .bool c.may]) (.int .i64 1)).run Try.prog w = .ok (.bool c.n) w := fun w => by kernel_rfl
  have I2 : ∀ w, (Instr.index 85 (.agg #[.bool c.z, .bool c.n, .bool c.c, .bool c.v, .bool c.may]) (.int .i64 2)).run Try.prog w = .ok (.bool c.c) w := fun w => by kernel_rfl
  have I3 : ∀ w, (Instr.index 85 (.agg #[.bool c.z, .bool c.n, .bool c.c, .bool c.v, .bool c.may]) (.int .i64 3)).run Try.prog w = .ok (.bool c.v) w := fun w => by kernel_rfl
  have I4 : ∀ w, (Instr.index 85 (.agg #[.bool c.z, .bool c.n, .bool c.c, .bool c.v, .bool c.may]) (.int .i64 4)).run Try.prog w = .ok (.bool c.may) w := fun w => by kernel_rfl
  have J0 := Lib.hid I0; have J1 := Lib.hid I1; have J2 := Lib.hid I2; have J3 := Lib.hid I3; have J4 := Lib.hid I4
  clear I0 I1 I2 I3 I4
  go_enter Try.func31, Try.ntmps31
  go_wp2_with (first | ((with_reducible show wpList _ _ _ _ _ _); refine wpList_storeW rfl 28 (.tmp 2) (.tmp 5) rfl (w.heap.size + 1) #[.int .u16 0, .int .u16 0, .int .u16 0, .int .u16 0, .int .u16 0, .int .u16 0, .int .u16 0, .int .u16 0, .int .u16 v, .bool false, .bool false, .bool false, .bool false, .bool false, .bool false] rfl rfl 28 _ (show Blk _ (w.heap.size + 1) #[.int .u16 0, .int .u16 0, .int .u16 0, .int .u16 0, .int .u16 0, .int .u16 0, .int .u16 0, .int .u16 0, .int .u16 0, .bool false, .bool false, .bool false, .bool false, .bool false, .bool false] 28 from (by repeat' (first | (with_reducible first | exact Hid.out (by assumption) | exact Blk.new _ _ _ | (refine Blk.new_at _ _ _ _ ?_; simp; done) | refine Blk.alloc ?_ _ | refine Blk.drewN ?_ _ | refine Blk.drew ?_ | apply Blk.set | refine Blk.put ?_ (by assumption) (by first | (simp; done) | (simp; omega) | omega) | refine Blk.below ?_ (by assumption)) | (refine Blk.setAt ?_ (by first | (simp; done) | (simp; omega))) | rfl))) (by kernel_rfl) rfl (by first | (with_reducible assumption) | simp [Value.oneCell']) ?_; intro w2 hp_w2 K_w2))
  go_loopw [17, 3] (fun i x wr => ∃ k : Nat, k ≤ 5 ∧ i = .int .i64 k ∧ x = .int .u16 (sgUp c k) ∧ Below w.heap.size w wr) (fun i _ _ => (5 - intOf i).toNat)
  case atStart => exact ⟨0, by omega, rfl, rfl, by repeat' (first | (with_reducible first | exact Below.refl _ _ | assumption | refine below_alloc ?_ _ | refine Below.drew ?_ | refine below_drewN ?_ _ | refine below_then ?_ (by assumption) | refine below_put ?_ (by assumption) (by first | (simp; done) | (simp; omega) | omega) | refine Below.setCell ?_ ?_ _) | (simp; done) | (simp; omega) | omega)⟩
  case round =>
    obtain ⟨k, hk, rfl, rfl, hbr⟩ := hrel
    rcases (by omega : k = 0 ∨ k = 1 ∨ k = 2 ∨ k = 3 ∨ k = 4 ∨ k = 5) with rfl | rfl | rfl | rfl | rfl | rfl
    · by_cases hq : c.z = true
      · have i0 := J0.out
        rw [hq] at i0
        go_wp2_with (first | ((with_reducible show wpList _ _ _ _ _ _); refine wpList_storeW rfl 28 (.tmp 2) (.tmp 5) rfl (w.heap.size + 1) #[.int .u16 0, .int .u16 0, .int .u16 0, .int .u16 0, .int .u16 0, .int .u16 0, .int .u16 0, .int .u16 0, .int .u16 v, .bool false, .bool false, .bool false, .bool false, .bool false, .bool false] rfl rfl 28 _ (show Blk _ (w.heap.size + 1) #[.int .u16 0, .int .u16 0, .int .u16 0, .int .u16 0, .int .u16 0, .int .u16 0, .int .u16 0, .int .u16 0, .int .u16 0, .bool false, .bool false, .bool false, .bool false, .bool false, .bool false] 28 from (by repeat' (first | (with_reducible first | exact Hid.out (by assumption) | exact Blk.new _ _ _ | (refine Blk.new_at _ _ _ _ ?_; simp; done) | refine Blk.alloc ?_ _ | refine Blk.drewN ?_ _ | refine Blk.drew ?_ | apply Blk.set | refine Blk.put ?_ (by assumption) (by first | (simp; done) | (simp; omega) | omega) | refine Blk.below ?_ (by assumption)) | (refine Blk.setAt ?_ (by first | (simp; done) | (simp; omega))) | rfl))) (by kernel_rfl) rfl (by first | (with_reducible assumption) | simp [Value.oneCell']) ?_; intro w2 hp_w2 K_w2) | go_in)
        go_roundw
        case rel => exact ⟨0 + 1, by omega, by go_num, by simp [sgUp, bitc, hq]; (repeat' split) <;> rfl, by repeat' (first | (with_reducible first | exact Below.refl _ _ | assumption | refine below_alloc ?_ _ | refine Below.drew ?_ | refine below_drewN ?_ _ | refine below_then ?_ (by assumption) | refine below_put ?_ (by assumption) (by first | (simp; done) | (simp; omega) | omega) | refine Below.setCell ?_ ?_ _) | (simp; done) | (simp; omega) | omega)⟩
        case measure => simp [intOf]
      · have hq' : c.z = false := by simpa using hq
        have i0 := J0.out
        rw [hq'] at i0
        go_wp2_with (first | ((with_reducible show wpList _ _ _ _ _ _); refine wpList_storeW rfl 28 (.tmp 2) (.tmp 5) rfl (w.heap.size + 1) #[.int .u16 0, .int .u16 0, .int .u16 0, .int .u16 0, .int .u16 0, .int .u16 0, .int .u16 0, .int .u16 0, .int .u16 v, .bool false, .bool false, .bool false, .bool false, .bool false, .bool false] rfl rfl 28 _ (show Blk _ (w.heap.size + 1) #[.int .u16 0, .int .u16 0, .int .u16 0, .int .u16 0, .int .u16 0, .int .u16 0, .int .u16 0, .int .u16 0, .int .u16 0, .bool false, .bool false, .bool false, .bool false, .bool false, .bool false] 28 from (by repeat' (first | (with_reducible first | exact Hid.out (by assumption) | exact Blk.new _ _ _ | (refine Blk.new_at _ _ _ _ ?_; simp; done) | refine Blk.alloc ?_ _ | refine Blk.drewN ?_ _ | refine Blk.drew ?_ | apply Blk.set | refine Blk.put ?_ (by assumption) (by first | (simp; done) | (simp; omega) | omega) | refine Blk.below ?_ (by assumption)) | (refine Blk.setAt ?_ (by first | (simp; done) | (simp; omega))) | rfl))) (by kernel_rfl) rfl (by first | (with_reducible assumption) | simp [Value.oneCell']) ?_; intro w2 hp_w2 K_w2) | go_in)
        go_roundw
        case rel => exact ⟨0 + 1, by omega, by go_num, by simp [sgUp, bitc, hq'], by repeat' (first | (with_reducible first | exact Below.refl _ _ | assumption | refine below_alloc ?_ _ | refine Below.drew ?_ | refine below_drewN ?_ _ | refine below_then ?_ (by assumption) | refine below_put ?_ (by assumption) (by first | (simp; done) | (simp; omega) | omega) | refine Below.setCell ?_ ?_ _) | (simp; done) | (simp; omega) | omega)⟩
        case measure => simp [intOf]
    · by_cases hq : c.n = true
      · have i0 := J1.out
        rw [hq] at i0
        go_wp2_with (first | ((with_reducible show wpList _ _ _ _ _ _); refine wpList_storeW rfl 28 (.tmp 2) (.tmp 5) rfl (w.heap.size + 1) #[.int .u16 0, .int .u16 0, .int .u16 0, .int .u16 0, .int .u16 0, .int .u16 0, .int .u16 0, .int .u16 0, .int .u16 v, .bool false, .bool false, .bool false, .bool false, .bool false, .bool false] rfl rfl 28 _ (show Blk _ (w.heap.size + 1) #[.int .u16 0, .int .u16 0, .int .u16 0, .int .u16 0, .int .u16 0, .int .u16 0, .int .u16 0, .int .u16 0, .int .u16 0, .bool false, .bool false, .bool false, .bool false, .bool false, .bool false] 28 from (by repeat' (first | (with_reducible first | exact Hid.out (by assumption) | exact Blk.new _ _ _ | (refine Blk.new_at _ _ _ _ ?_; simp; done) | refine Blk.alloc ?_ _ | refine Blk.drewN ?_ _ | refine Blk.drew ?_ | apply Blk.set | refine Blk.put ?_ (by assumption) (by first | (simp; done) | (simp; omega) | omega) | refine Blk.below ?_ (by assumption)) | (refine Blk.setAt ?_ (by first | (simp; done) | (simp; omega))) | rfl))) (by kernel_rfl) rfl (by first | (with_reducible assumption) | simp [Value.oneCell']) ?_; intro w2 hp_w2 K_w2) | go_in)
        go_roundw
        case rel => exact ⟨1 + 1, by omega, by go_num, by simp [sgUp, bitc, hq]; (repeat' split) <;> rfl, by repeat' (first | (with_reducible first | exact Below.refl _ _ | assumption | refine below_alloc ?_ _ | refine Below.drew ?_ | refine below_drewN ?_ _ | refine below_then ?_ (by assumption) | refine below_put ?_ (by assumption) (by first | (simp; done) | (simp; omega) | omega) | refine Below.setCell ?_ ?_ _) | (simp; done) | (simp; omega) | omega)⟩
        case measure => simp [intOf]
      · have hq' : c.n = false := by simpa using hq
        have i0 := J1.out
        rw [hq'] at i0
        go_wp2_with (first | ((with_reducible show wpList _ _ _ _ _ _); refine wpList_storeW rfl 28 (.tmp 2) (.tmp 5) rfl (w.heap.size + 1) #[.int .u16 0, .int .u16 0, .int .u16 0, .int .u16 0, .int .u16 0, .int .u16 0, .int .u16 0, .int .u16 0, .int .u16 v, .bool false, .bool false, .bool false, .bool false, .bool false, .bool false] rfl rfl 28 _ (show Blk _ (w.heap.size + 1) #[.int .u16 0, .int .u16 0, .int .u16 0, .int .u16 0, .int .u16 0, .int .u16 0, .int .u16 0, .int .u16 0, .int .u16 0, .bool false, .bool false, .bool false, .bool false, .bool false, .bool false] 28 from (by repeat' (first | (with_reducible first | exact Hid.out (by assumption) | exact Blk.new _ _ _ | (refine Blk.new_at _ _ _ _ ?_; simp; done) | refine Blk.alloc ?_ _ | refine Blk.drewN ?_ _ | refine Blk.drew ?_ | apply Blk.set | refine Blk.put ?_ (by assumption) (by first | (simp; done) | (simp; omega) | omega) | refine Blk.below ?_ (by assumption)) | (refine Blk.setAt ?_ (by first | (simp; done) | (simp; omega))) | rfl))) (by kernel_rfl) rfl (by first | (with_reducible assumption) | simp [Value.oneCell']) ?_; intro w2 hp_w2 K_w2) | go_in)
        go_roundw
        case rel => exact ⟨1 + 1, by omega, by go_num, by simp [sgUp, bitc, hq'], by repeat' (first | (with_reducible first | exact Below.refl _ _ | assumption | refine below_alloc ?_ _ | refine Below.drew ?_ | refine below_drewN ?_ _ | refine below_then ?_ (by assumption) | refine below_put ?_ (by assumption) (by first | (simp; done) | (simp; omega) | omega) | refine Below.setCell ?_ ?_ _) | (simp; done) | (simp; omega) | omega)⟩
        case measure => simp [intOf]
    · by_cases hq : c.c = true
      · have i0 := J2.out
        rw [hq] at i0
        go_wp2_with (first | ((with_reducible show wpList _ _ _ _ _ _); refine wpList_storeW rfl 28 (.tmp 2) (.tmp 5) rfl (w.heap.size + 1) #[.int .u16 0, .int .u16 0, .int .u16 0, .int .u16 0, .int .u16 0, .int .u16 0, .int .u16 0, .int .u16 0, .int .u16 v, .bool false, .bool false, .bool false, .bool false, .bool false, .bool false] rfl rfl 28 _ (show Blk _ (w.heap.size + 1) #[.int .u16 0, .int .u16 0, .int .u16 0, .int .u16 0, .int .u16 0, .int .u16 0, .int .u16 0, .int .u16 0, .int .u16 0, .bool false, .bool false, .bool false, .bool false, .bool false, .bool false] 28 from (by repeat' (first | (with_reducible first | exact Hid.out (by assumption) | exact Blk.new _ _ _ | (refine Blk.new_at _ _ _ _ ?_; simp; done) | refine Blk.alloc ?_ _ | refine Blk.drewN ?_ _ | refine Blk.drew ?_ | apply Blk.set | refine Blk.put ?_ (by assumption) (by first | (simp; done) | (simp; omega) | omega) | refine Blk.below ?_ (by assumption)) | (refine Blk.setAt ?_ (by first | (simp; done) | (simp; omega))) | rfl))) (by kernel_rfl) rfl (by first | (with_reducible assumption) | simp [Value.oneCell']) ?_; intro w2 hp_w2 K_w2) | go_in)
        go_roundw
        case rel => exact ⟨2 + 1, by omega, by go_num, by simp [sgUp, bitc, hq]; (repeat' split) <;> rfl, by repeat' (first | (with_reducible first | exact Below.refl _ _ | assumption | refine below_alloc ?_ _ | refine Below.drew ?_ | refine below_drewN ?_ _ | refine below_then ?_ (by assumption) | refine below_put ?_ (by assumption) (by first | (simp; done) | (simp; omega) | omega) | refine Below.setCell ?_ ?_ _) | (simp; done) | (simp; omega) | omega)⟩
        case measure => simp [intOf]
      · have hq' : c.c = false := by simpa using hq
        have i0 := J2.out
        rw [hq'] at i0
        go_wp2_with (first | ((with_reducible show wpList _ _ _ _ _ _); refine wpList_storeW rfl 28 (.tmp 2) (.tmp 5) rfl (w.heap.size + 1) #[.int .u16 0, .int .u16 0, .int .u16 0, .int .u16 0, .int .u16 0, .int .u16 0, .int .u16 0, .int .u16 0, .int .u16 v, .bool false, .bool false, .bool false, .bool false, .bool false, .bool false] rfl rfl 28 _ (show Blk _ (w.heap.size + 1) #[.int .u16 0, .int .u16 0, .int .u16 0, .int .u16 0, .int .u16 0, .int .u16 0, .int .u16 0, .int .u16 0, .int .u16 0, .bool false, .bool false, .bool false, .bool false, .bool false, .bool false] 28 from (by repeat' (first | (with_reducible first | exact Hid.out (by assumption) | exact Blk.new _ _ _ | (refine Blk.new_at _ _ _ _ ?_; simp; done) | refine Blk.alloc ?_ _ | refine Blk.drewN ?_ _ | refine Blk.drew ?_ | apply Blk.set | refine Blk.put ?_ (by assumption) (by first | (simp; done) | (simp; omega) | omega) | refine Blk.below ?_ (by assumption)) | (refine Blk.setAt ?_ (by first | (simp; done) | (simp; omega))) | rfl))) (by kernel_rfl) rfl (by first | (with_reducible assumption) | simp [Value.oneCell']) ?_; intro w2 hp_w2 K_w2) | go_in)
        go_roundw
        case rel => exact ⟨2 + 1, by omega, by go_num, by simp [sgUp, bitc, hq'], by repeat' (first | (with_reducible first | exact Below.refl _ _ | assumption | refine below_alloc ?_ _ | refine Below.drew ?_ | refine below_drewN ?_ _ | refine below_then ?_ (by assumption) | refine below_put ?_ (by assumption) (by first | (simp; done) | (simp; omega) | omega) | refine Below.setCell ?_ ?_ _) | (simp; done) | (simp; omega) | omega)⟩
        case measure => simp [intOf]
    · by_cases hq : c.v = true
      · have i0 := J3.out
        rw [hq] at i0
        go_wp2_with (first | ((with_reducible show wpList _ _ _ _ _ _); refine wpList_storeW rfl 28 (.tmp 2) (.tmp 5) rfl (w.heap.size + 1) #[.int .u16 0, .int .u16 0, .int .u16 0, .int .u16 0, .int .u16 0, .int .u16 0, .int .u16 0, .int .u16 0, .int .u16 v, .bool false, .bool false, .bool false, .bool false, .bool false, .bool false] rfl rfl 28 _ (show Blk _ (w.heap.size + 1) #[.int .u16 0, .int .u16 0, .int .u16 0, .int .u16 0, .int .u16 0, .int .u16 0, .int .u16 0, .int .u16 0, .int .u16 0, .bool false, .bool false, .bool false, .bool false, .bool false, .bool false] 28 from (by repeat' (first | (with_reducible first | exact Hid.out (by assumption) | exact Blk.new _ _ _ | (refine Blk.new_at _ _ _ _ ?_; simp; done) | refine Blk.alloc ?_ _ | refine Blk.drewN ?_ _ | refine Blk.drew ?_ | apply Blk.set | refine Blk.put ?_ (by assumption) (by first | (simp; done) | (simp; omega) | omega) | refine Blk.below ?_ (by assumption)) | (refine Blk.setAt ?_ (by first | (simp; done) | (simp; omega))) | rfl))) (by kernel_rfl) rfl (by first | (with_reducible assumption) | simp [Value.oneCell']) ?_; intro w2 hp_w2 K_w2) | go_in)
        go_roundw
        case rel => exact ⟨3 + 1, by omega, by go_num, by simp [sgUp, bitc, hq]; (repeat' split) <;> rfl, by repeat' (first | (with_reducible first | exact Below.refl _ _ | assumption | refine below_alloc ?_ _ | refine Below.drew ?_ | refine below_drewN ?_ _ | refine below_then ?_ (by assumption) | refine below_put ?_ (by assumption) (by first | (simp; done) | (simp; omega) | omega) | refine Below.setCell ?_ ?_ _) | (simp; done) | (simp; omega) | omega)⟩
        case measure => simp [intOf]
      · have hq' : c.v = false := by simpa using hq
        have i0 := J3.out
        rw [hq'] at i0
        go_wp2_with (first | ((with_reducible show wpList _ _ _ _ _ _); refine wpList_storeW rfl 28 (.tmp 2) (.tmp 5) rfl (w.heap.size + 1) #[.int .u16 0, .int .u16 0, .int .u16 0, .int .u16 0, .int .u16 0, .int .u16 0, .int .u16 0, .int .u16 0, .int .u16 v, .bool false, .bool false, .bool false, .bool false, .bool false, .bool false] rfl rfl 28 _ (show Blk _ (w.heap.size + 1) #[.int .u16 0, .int .u16 0, .int .u16 0, .int .u16 0, .int .u16 0, .int .u16 0, .int .u16 0, .int .u16 0, .int .u16 0, .bool false, .bool false, .bool false, .bool false, .bool false, .bool false] 28 from (by repeat' (first | (with_reducible first | exact Hid.out (by assumption) | exact Blk.new _ _ _ | (refine Blk.new_at _ _ _ _ ?_; simp; done) | refine Blk.alloc ?_ _ | refine Blk.drewN ?_ _ | refine Blk.drew ?_ | apply Blk.set | refine Blk.put ?_ (by assumption) (by first | (simp; done) | (simp; omega) | omega) | refine Blk.below ?_ (by assumption)) | (refine Blk.setAt ?_ (by first | (simp; done) | (simp; omega))) | rfl))) (by kernel_rfl) rfl (by first | (with_reducible assumption) | simp [Value.oneCell']) ?_; intro w2 hp_w2 K_w2) | go_in)
        go_roundw
        case rel => exact ⟨3 + 1, by omega, by go_num, by simp [sgUp, bitc, hq'], by repeat' (first | (with_reducible first | exact Below.refl _ _ | assumption | refine below_alloc ?_ _ | refine Below.drew ?_ | refine below_drewN ?_ _ | refine below_then ?_ (by assumption) | refine below_put ?_ (by assumption) (by first | (simp; done) | (simp; omega) | omega) | refine Below.setCell ?_ ?_ _) | (simp; done) | (simp; omega) | omega)⟩
        case measure => simp [intOf]
    · by_cases hq : c.may = true
      · have i0 := J4.out
        rw [hq] at i0
        go_wp2_with (first | ((with_reducible show wpList _ _ _ _ _ _); refine wpList_storeW rfl 28 (.tmp 2) (.tmp 5) rfl (w.heap.size + 1) #[.int .u16 0, .int .u16 0, .int .u16 0, .int .u16 0, .int .u16 0, .int .u16 0, .int .u16 0, .int .u16 0, .int .u16 v, .bool false, .bool false, .bool false, .bool false, .bool false, .bool false] rfl rfl 28 _ (show Blk _ (w.heap.size + 1) #[.int .u16 0, .int .u16 0, .int .u16 0, .int .u16 0, .int .u16 0, .int .u16 0, .int .u16 0, .int .u16 0, .int .u16 0, .bool false, .bool false, .bool false, .bool false, .bool false, .bool false] 28 from (by repeat' (first | (with_reducible first | exact Hid.out (by assumption) | exact Blk.new _ _ _ | (refine Blk.new_at _ _ _ _ ?_; simp; done) | refine Blk.alloc ?_ _ | refine Blk.drewN ?_ _ | refine Blk.drew ?_ | apply Blk.set | refine Blk.put ?_ (by assumption) (by first | (simp; done) | (simp; omega) | omega) | refine Blk.below ?_ (by assumption)) | (refine Blk.setAt ?_ (by first | (simp; done) | (simp; omega))) | rfl))) (by kernel_rfl) rfl (by first | (with_reducible assumption) | simp [Value.oneCell']) ?_; intro w2 hp_w2 K_w2) | go_in)
        go_roundw
        case rel => exact ⟨4 + 1, by omega, by go_num, by simp [sgUp, bitc, hq]; (repeat' split) <;> rfl, by repeat' (first | (with_reducible first | exact Below.refl _ _ | assumption | refine below_alloc ?_ _ | refine Below.drew ?_ | refine below_drewN ?_ _ | refine below_then ?_ (by assumption) | refine below_put ?_ (by assumption) (by first | (simp; done) | (simp; omega) | omega) | refine Below.setCell ?_ ?_ _) | (simp; done) | (simp; omega) | omega)⟩
        case measure => simp [intOf]
      · have hq' : c.may = false := by simpa using hq
        have i0 := J4.out
        rw [hq'] at i0
        go_wp2_with (first | ((with_reducible show wpList _ _ _ _ _ _); refine wpList_storeW rfl 28 (.tmp 2) (.tmp 5) rfl (w.heap.size + 1) #[.int .u16 0, .int .u16 0, .int .u16 0, .int .u16 0, .int .u16 0, .int .u16 0, .int .u16 0, .int .u16 0, .int .u16 v, .bool false, .bool false, .bool false, .bool false, .bool false, .bool false] rfl rfl 28 _ (show Blk _ (w.heap.size + 1) #[.int .u16 0, .int .u16 0, .int .u16 0, .int .u16 0, .int .u16 0, .int .u16 0, .int .u16 0, .int .u16 0, .int .u16 0, .bool false, .bool false, .bool false, .bool false, .bool false, .bool false] 28 from (by repeat' (first | (with_reducible first | exact Hid.out (by assumption) | exact Blk.new _ _ _ | (refine Blk.new_at _ _ _ _ ?_; simp; done) | refine Blk.alloc ?_ _ | refine Blk.drewN ?_ _ | refine Blk.drew ?_ | apply Blk.set | refine Blk.put ?_ (by assumption) (by first | (simp; done) | (simp; omega) | omega) | refine Blk.below ?_ (by assumption)) | (refine Blk.setAt ?_ (by first | (simp; done) | (simp; omega))) | rfl))) (by kernel_rfl) rfl (by first | (with_reducible assumption) | simp [Value.oneCell']) ?_; intro w2 hp_w2 K_w2) | go_in)
        go_roundw
        case rel => exact ⟨4 + 1, by omega, by go_num, by simp [sgUp, bitc, hq'], by repeat' (first | (with_reducible first | exact Below.refl _ _ | assumption | refine below_alloc ?_ _ | refine Below.drew ?_ | refine below_drewN ?_ _ | refine below_then ?_ (by assumption) | refine below_put ?_ (by assumption) (by first | (simp; done) | (simp; omega) | omega) | refine Below.setCell ?_ ?_ _) | (simp; done) | (simp; omega) | omega)⟩
        case measure => simp [intOf]
    · have e5 := SA.out
      go_wp2_with (first | ((with_reducible show wpList _ _ _ _ _ _); refine wpList_storeW rfl 28 (.tmp 2) (.tmp 5) rfl (w.heap.size + 1) #[.int .u16 0, .int .u16 0, .int .u16 0, .int .u16 0, .int .u16 0, .int .u16 0, .int .u16 0, .int .u16 0, .int .u16 v, .bool false, .bool false, .bool false, .bool false, .bool false, .bool false] rfl rfl 28 _ (show Blk _ (w.heap.size + 1) #[.int .u16 0, .int .u16 0, .int .u16 0, .int .u16 0, .int .u16 0, .int .u16 0, .int .u16 0, .int .u16 0, .int .u16 0, .bool false, .bool false, .bool false, .bool false, .bool false, .bool false] 28 from (by repeat' (first | (with_reducible first | exact Hid.out (by assumption) | exact Blk.new _ _ _ | (refine Blk.new_at _ _ _ _ ?_; simp; done) | refine Blk.alloc ?_ _ | refine Blk.drewN ?_ _ | refine Blk.drew ?_ | apply Blk.set | refine Blk.put ?_ (by assumption) (by first | (simp; done) | (simp; omega) | omega) | refine Blk.below ?_ (by assumption)) | (refine Blk.setAt ?_ (by first | (simp; done) | (simp; omega))) | rfl))) (by kernel_rfl) rfl (by first | (with_reducible assumption) | simp [Value.oneCell']) ?_; intro w2 hp_w2 K_w2) | go_in)
      go_ret
      exact ⟨by rw [← e5]; rfl, by repeat' (first | (with_reducible first | exact Below.refl _ _ | assumption | refine below_alloc ?_ _ | refine Below.drew ?_ | refine below_drewN ?_ _ | refine below_then ?_ (by assumption) | refine below_put ?_ (by assumption) (by first | (simp; done) | (simp; omega) | omega) | refine Below.setCell ?_ ?_ _) | (simp; done) | (simp; omega) | omega)⟩
end Go.Proofs.Yteihggfcafoogaa
