/- A processor's registers and signs; push, pop, Sign, signed, Start. Conditions: the bus is one, the fields are words. -/
import Derived.Test.YtimccpmdgfneoaaCpuBase
import Derived.Test.YtimccpmdgfneoaaBase2
import Derived.LoopN
namespace Go.Mq
open Go.RowKit
structure Cp where
  r : Nat → Int
  pc : Int
  z : Bool
  n : Bool
  c : Bool
  v : Bool
  may : Bool
  wt : Bool
def Cp.In (c : Cp) : Prop := (∀ i, U16 (c.r i)) ∧ U16 c.pc
def cpuC (c : Cp) : Array Value := #[.int .u16 (c.r 0), .int .u16 (c.r 1), .int .u16 (c.r 2), .int .u16 (c.r 3), .int .u16 (c.r 4), .int .u16 (c.r 5), .int .u16 (c.r 6), .int .u16 (c.r 7), .int .u16 c.pc, .bool c.z, .bool c.n, .bool c.c, .bool c.v, .bool c.may, .bool c.wt]
def upd (r : Nat → Int) (d : Nat) (x : Int) : Nat → Int := fun i => if i = d then x else r i
def Cp.reg (c : Cp) (d : Nat) (x : Int) : Cp := { c with r := upd c.r d x }
theorem Cp.reg_in {c : Cp} (h : c.In) (d : Nat) {x : Int} (hx : U16 x) : (c.reg d x).In := by
  refine ⟨fun i => ?_, h.2⟩
  show U16 (upd c.r d x i)
  unfold upd
  split
  · exact hx
  · exact h.1 i
theorem cpuC_get (c : Cp) (d : Nat) (h : d < 8) : (cpuC c)[d]? = some (.int .u16 (c.r d)) := by
  rcases (by omega : d = 0 ∨ d = 1 ∨ d = 2 ∨ d = 3 ∨ d = 4 ∨ d = 5 ∨ d = 6 ∨ d = 7) with rfl | rfl | rfl | rfl | rfl | rfl | rfl | rfl <;> rfl
theorem cpuC_set (c : Cp) (d : Nat) (h : d < 8) (x : Int) : (cpuC c).setIfInBounds d (.int .u16 x) = cpuC (c.reg d x) := by
  rcases (by omega : d = 0 ∨ d = 1 ∨ d = 2 ∨ d = 3 ∨ d = 4 ∨ d = 5 ∨ d = 6 ∨ d = 7) with rfl | rfl | rfl | rfl | rfl | rfl | rfl | rfl <;> rfl
def sp (c : Cp) : Int := (c.r 7 - 2) % 65536
def spUp (c : Cp) : Int := (c.r 7 + 2) % 65536
theorem sp_u (c : Cp) : U16 (sp c) := by unfold U16 sp; omega
theorem spUp_u (c : Cp) : U16 (spUp c) := by unfold U16 spUp; omega
theorem Blk.use1 {w : World} {b : Nat} {cs : Array Value} {t : TypeId} (h : Blk w b cs t) (i : Nat) : w.cell? ⟨b, i, none⟩ = cs[i]? := h.cell i
def sgn (c : Cp) : Int := (if c.z then 1 else 0) + (if c.n then 2 else 0) + (if c.c then 4 else 0) + (if c.v then 8 else 0) + (if c.may then 16 else 0)
theorem sgn_u (c : Cp) : U16 (sgn c) := by unfold U16 sgn; split <;> split <;> split <;> split <;> split <;> omega
def bitOf (n k : Int) : Bool := bits .and .u16 n k != 0
def signedF (c : Cp) (n : Int) : Cp := { c with z := bitOf n 1, n := bitOf n 2, c := bitOf n 4, v := bitOf n 8, may := bitOf n 16 }
theorem Kp.put {B g : Nat} {X : Nat → Prop} {a b c : World} (h : Kp B X a b) (hp : Put g b c) (hg : a.heap.size ≤ g ∨ X g) : Kp B X a c :=
  ⟨hp.below.os.trans h.os, hp.below.tape.trans h.tape, hp.below.output.trans h.output, by rw [hp.size]; exact h.size, fun i hi hn hx hw => (hp.other i (fun e => by subst e; rcases hg with hg | hg; omega; exact hx hg)).trans (h.block i hi hn hx hw)⟩
def bitc (c : Cp) : Nat → Bool
  | 0 => c.z
  | 1 => c.n
  | 2 => c.c
  | 3 => c.v
  | _ => c.may
def sgUp (c : Cp) : Nat → Int
  | 0 => 0
  | k + 1 => sgUp c k + (if bitc c k then 2 ^ k else 0)
theorem sgUp_all (c : Cp) : sgUp c 5 = sgn c := by
  unfold sgn
  simp [sgUp, bitc]
def start0 (pc : Int) : Cp := ⟨fun _ => 0, pc, false, false, false, false, false, false⟩
theorem cpuC_one (c : Cp) : (cpuC c).all (·.oneCell') = true := by simp [cpuC, Value.oneCell']
@[simp] theorem cpuC_size (c : Cp) : (cpuC c).size = 15 := rfl
end Go.Mq
namespace Go.Proofs.Ytimccpmdgfneoaa
open Go.RowKit Go.Mq
set_option linter.unusedVariables false
set_option linter.unusedSimpArgs false
set_option maxHeartbeats 400000
set_option maxRecDepth 100000

theorem start_any {fg fp : FuncId} {ag cg ap cp : Array Value} {σ : Type} {b : Bus σ} {Rel : World → σ → Prop} {B : Nat} (hb : BusOk Try.prog fg fp ag cg ap cp b Rel B) (m : σ) (w : World) (hr : Rel w m) (hB : B ≤ w.heap.size) :
    Calls Try.prog 22 #[.agg #[.func (.func fg) ag cg, .func (.func fp) ap cp]] w fun e w' => e = .returned (.agg (cpuC (start0 (wV b m 0)))) ∧ Rel w' (wS b m 0) ∧ Kp B NoX w w' := by
  have W := Lib.hid (fun w' => word_any hb m 0 (by unfold U16; omega) w')
  have HR := Lib.hid (fun w' (h : St B w w') => hb.stable w w' m hr h)
  generalize wV b m 0 = v at *
  clear hr
  go_enter Try.func22, Try.ntmps22
  go_wp2_with (first | ((with_reducible show wpList _ _ _ _ _ _); refine wpList_loadW rfl 72 (.tmp 1) rfl (w.heap.size) rfl 72 #[.func (.func fg) ag cg, .func (.func fp) ap cp] (show Blk _ (w.heap.size) #[.func (.func fg) ag cg, .func (.func fp) ap cp] 72 from (by repeat' (first | (with_reducible first | exact Hid.out (by assumption) | exact Blk.new _ _ _ | (refine Blk.new_at _ _ _ _ ?_; simp; done) | refine Blk.alloc ?_ _ | refine Blk.drewN ?_ _ | refine Blk.drew ?_ | apply Blk.set | refine Blk.put ?_ (by assumption) (by first | (simp; done) | (simp; omega) | omega) | refine Blk.below ?_ (by assumption)) | (refine Blk.setAt ?_ (by first | (simp; done) | (simp; omega))) | rfl))) _ Try.underlying72 rfl (by kernel_rfl) ?_))
  refine (W.out _ (HR.out _ (by repeat' (first | (with_reducible first | exact St.refl _ _ | assumption | refine St.alloc ?_ ?_ _ | refine St.drew ?_ | refine St.drewN ?_ _ | refine St.setCell ?_ ?_ ?_ _) | (refine Or.inl ?_; first | omega | (simp; done) | (simp; omega)) | (refine Or.inr ?_; exact Blk.nw (by first | assumption | exact Hid.out (by assumption)) (by decide)) | (simp; done) | omega | (simp; omega)))) (by first | omega | (simp; omega))).mono ?_
  rintro e w1 ⟨rfl, hr1, hk1⟩
  have hs1 := hk1.size
  have hk1' : Kp B NoX w w1 := Kp.then (by repeat' (first | (with_reducible first | exact Kp.refl _ _ _ | assumption | refine Kp.alloc ?_ _ | refine Kp.drew ?_ | refine Kp.drewN ?_ _ | refine Kp.setCell ?_ ?_) | (right; rfl) | (left; simp; done) | (left; omega) | (left; simp; omega))) hk1 (fun _ _ h => h)
  have KS := Lib.hid (show Blk w1 (w.heap.size + 1) #[.int .u16 0, .int .u16 0, .int .u16 0, .int .u16 0, .int .u16 0, .int .u16 0, .int .u16 0, .int .u16 0, .int .u16 0, .bool false, .bool false, .bool false, .bool false, .bool false, .bool false] 26 from Blk.kp (show Blk _ (w.heap.size + 1) #[.int .u16 0, .int .u16 0, .int .u16 0, .int .u16 0, .int .u16 0, .int .u16 0, .int .u16 0, .int .u16 0, .int .u16 0, .bool false, .bool false, .bool false, .bool false, .bool false, .bool false] 26 from (by repeat' (first | (with_reducible first | exact Hid.out (by assumption) | exact Blk.new _ _ _ | (refine Blk.new_at _ _ _ _ ?_; simp; done) | refine Blk.alloc ?_ _ | refine Blk.drewN ?_ _ | refine Blk.drew ?_ | apply Blk.set | refine Blk.put ?_ (by assumption) (by first | (simp; done) | (simp; omega) | omega) | refine Blk.below ?_ (by assumption)) | (refine Blk.setAt ?_ (by first | (simp; done) | (simp; omega))) | rfl))) hk1 (by omega) id)
  go_wp2_with (first | ((with_reducible show wpList _ _ _ _ _ _); refine wpList_storeW rfl 26 (.tmp 2) (.tmp 5) rfl (w.heap.size + 1) #[.int .u16 0, .int .u16 0, .int .u16 0, .int .u16 0, .int .u16 0, .int .u16 0, .int .u16 0, .int .u16 0, .int .u16 v, .bool false, .bool false, .bool false, .bool false, .bool false, .bool false] rfl rfl 26 _ (show Blk _ (w.heap.size + 1) #[.int .u16 0, .int .u16 0, .int .u16 0, .int .u16 0, .int .u16 0, .int .u16 0, .int .u16 0, .int .u16 0, .int .u16 0, .bool false, .bool false, .bool false, .bool false, .bool false, .bool false] 26 from (by repeat' (first | (with_reducible first | exact Hid.out (by assumption) | exact Blk.new _ _ _ | (refine Blk.new_at _ _ _ _ ?_; simp; done) | refine Blk.alloc ?_ _ | refine Blk.drewN ?_ _ | refine Blk.drew ?_ | apply Blk.set | refine Blk.put ?_ (by assumption) (by first | (simp; done) | (simp; omega) | omega) | refine Blk.below ?_ (by assumption)) | (refine Blk.setAt ?_ (by first | (simp; done) | (simp; omega))) | rfl))) (by kernel_rfl) rfl (by first | (with_reducible assumption) | simp [Value.oneCell']) ?_; intro w2 hp_w2 K_w2))
  exact bodyPost_ret (results_cell_row Try.results22 _ _ (w.heap.size + 1) 26 _ (0, 0) _ rfl K_w2.out Try.underlying26 rfl (by kernel_rfl)) rfl ⟨rfl, hb.stable _ _ _ hr1 (St.put (St.refl _ _) hp_w2 (by omega) (Or.inr (Blk.nw (by first | assumption | exact Hid.out (by assumption)) (by decide)))), hk1'.put hp_w2 (Or.inl (by omega))⟩

end Go.Proofs.Ytimccpmdgfneoaa
