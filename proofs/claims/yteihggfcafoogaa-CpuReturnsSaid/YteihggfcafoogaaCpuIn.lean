/- What an order leaves of a processor: its fields are words; the run of a processor over a bus. Plain mathematics. Conditions: the bus tells bytes. -/
import Derived.Test.YteihggfcafoogaaCpuStep
import Derived.Test.YteihggfcafoogaaCpuBus
namespace Go.Proofs.Yteihggfcafoogaa
open Go.RowKit Go.Mq
def Tells {σ : Type} (b : Bus σ) : Prop := ∀ m a, U8 (b.gV m a)
theorem Tells.w {σ : Type} {b : Bus σ} (h : Tells b) (m : σ) (a : Int) : U16 (wV b m a) := by
  have := h m a
  have := h (b.gS m a) (nx a)
  unfold U8 at *
  unfold U16 wV
  omega
theorem tells_busS : Tells busS := fun m a => by
  show U8 (spG m a % 256)
  unfold U8
  omega
theorem u8_u16 {a : Int} (h : U8 a) : U16 a := by unfold U8 at h; unfold U16; omega
theorem lv_in {σ : Type} {b : Bus σ} (h : Tells b) (m : σ) (c : Cp) (hi : c.In) (to : Int) : (lvC b m c to).In := by
  have h1 : (lv1 c).In := Cp.reg_in hi 7 (sp_u c)
  have h2 : (lv2 c).In := Cp.reg_in h1 7 (sp_u _)
  exact ⟨h2.1, h.w _ _⟩
theorem flag_in {c : Cp} (hi : c.In) (x : Int) (a v : Bool) : (flagged c x a v).In := hi
theorem sum_in {c : Cp} (hi : c.In) (op : Int) (D S : Nat) (n : Int) : (sumC c op D S n).In := by
  have hd := hi.1 D
  have hs := hi.1 S
  unfold sumC
  repeat' split
  · exact Cp.reg_in (flag_in hi _ _ _) _ (shlN_u _ _)
  · exact Cp.reg_in (flag_in hi _ _ _) _ (shrN_u _ _ hd)
  · exact Cp.reg_in (flag_in hi _ _ _) _ (flN_u 15 _ _ hd (by unfold U16; omega))
  · exact flag_in hi _ _ _
  · exact Cp.reg_in (flag_in hi _ _ _) _ (flN_u op _ _ hd hs)
theorem mov_in {σ : Type} {b : Bus σ} (h : Tells b) (m : σ) {c : Cp} (hi : c.In) (op : Int) (D S : Nat) (n v : Int) (hv : U16 v) : (movC b m c op D S n v).In := by
  unfold movC
  repeat' split
  · exact Cp.reg_in hi _ (hi.1 S)
  · exact Cp.reg_in hi _ hv
  · exact Cp.reg_in hi _ (h.w _ _)
  · exact Cp.reg_in hi _ (u8_u16 (h _ _))
  · exact Cp.reg_in hi _ (sp_u _)
  · exact Cp.reg_in (Cp.reg_in hi _ (spUp_u _)) _ (h.w _ _)
  · exact hi
theorem signed_in {c : Cp} (hi : c.In) (n : Int) : (signedF c n).In := hi
theorem goC_in {σ : Type} {b : Bus σ} (h : Tells b) (m : σ) {c : Cp} (hi : c.In) (op v : Int) (hv : U16 v) : (goC b m c op v).In := by
  unfold goC
  repeat' split
  · exact go_in hi hv
  · exact go_in (Cp.reg_in hi _ (sp_u _)) hv
  · exact go_in (Cp.reg_in hi _ (spUp_u _)) (h.w _ _)
  · exact hi
  · exact hi
  · exact signed_in (go_in (Cp.reg_in (Cp.reg_in hi _ (spUp_u _)) _ (spUp_u _)) (h.w _ _)) _
  · exact hi
  · exact lv_in h _ _ hi _
  · exact hi
theorem dC_in {σ : Type} {b : Bus σ} (h : Tells b) (m : σ) {c : Cp} (hi : c.In) (rings : Bool) : (dC b m c rings).In := by
  have h0 : (d0 b m c).In := by
    unfold d0
    split <;> exact go_in hi (by unfold U16; omega)
  have hv : U16 (dV b m c) := by
    unfold dV
    split
    · exact h.w _ _
    · unfold U16; omega
  unfold dC finC
  repeat' split
  · exact lv_in h _ _ hi _
  · exact hi
  · exact sum_in h0 _ _ _ _
  · exact mov_in h _ h0 _ _ _ _ _ hv
  · exact goC_in h _ h0 _ _ hv
theorem start_in {x : Int} (h : U16 x) : (start0 x).In := ⟨fun _ => by show U16 0; unfold U16; omega, h⟩
/-- a run's state: the processor, the machine, the cycles -/
structure Rn (σ : Type) where
  c : Cp
  m : σ
  n : Int
def rnStep {σ : Type} (b : Bus σ) (s : Rn σ) (r : Bool) : Rn σ := ⟨dC b s.m s.c r, dM b s.m s.c r, s.n + dN b s.m s.c r⟩
/-- so many orders from the start; rings: which are rung -/
def runS {σ : Type} (b : Bus σ) (rings : List Int) (m : σ) : Nat → Rn σ
  | 0 => ⟨start0 (wV b m 0), wS b m 0, 0⟩
  | k + 1 => rnStep b (runS b rings m k) (decide ((k : Int) ∈ rings))
theorem runS_in {σ : Type} {b : Bus σ} (h : Tells b) (rings : List Int) (m : σ) (k : Nat) : (runS b rings m k).c.In := by
  induction k with
  | zero => exact start_in (h.w _ _)
  | succ k ih => exact dC_in h _ ih _
theorem cycO_b (op : Int) (h0 : 0 ≤ op) (h1 : op < 32) : 0 ≤ cycO op ∧ cycO op ≤ 100 := cyc_b op h0 h1
theorem dN_b {σ : Type} {b : Bus σ} (h : Tells b) (m : σ) (c : Cp) (rings : Bool) : 0 ≤ dN b m c rings ∧ dN b m c rings ≤ 101 := by
  obtain ⟨op, D, S, n, hr, -, -, -, -, h0, h1, -⟩ := rd_parts _ (h.w m c.pc)
  have ho : (dO b m c).op = op := by unfold dO; rw [hr]
  have hc := cyc_b op h0 h1
  unfold dN
  rw [ho]
  unfold finN goY
  repeat' split
  all_goals omega
theorem runS_n {σ : Type} {b : Bus σ} (h : Tells b) (rings : List Int) (m : σ) (k : Nat) : 0 ≤ (runS b rings m k).n ∧ (runS b rings m k).n ≤ 101 * k := by
  induction k with
  | zero => exact ⟨Int.le_refl 0, Int.le_refl 0⟩
  | succ k ih =>
    have := dN_b h (runS b rings m k).m (runS b rings m k).c (decide ((k : Int) ∈ rings))
    show 0 ≤ (runS b rings m k).n + dN b _ _ _ ∧ (runS b rings m k).n + dN b _ _ _ ≤ _
    omega
end Go.Proofs.Yteihggfcafoogaa
