/- A processor's bus as any machine has it: two functions, what a place holds and what the machine is then; worlds that keep what a caller owns. Conditions: none of its own. -/
import Derived.Test.YteihggfcafoogaaRows
import Derived.Test.YteihggfcafoogaaWordP
namespace Go.Mq
open Go.RowKit

/-- what a caller owns stays: blocks from B on that were there, but for those of X -/
structure Kp (B : Nat) (X : Nat → Prop) (w w' : World) : Prop where
  os : w'.os = w.os
  tape : w'.tape = w.tape
  output : w'.output = w.output
  size : w.heap.size ≤ w'.heap.size
  block : ∀ k, B ≤ k → k < w.heap.size → ¬ X k → w'.heap[k]? = w.heap[k]?
def NoX : Nat → Prop := fun _ => False
theorem Kp.refl (B : Nat) (X : Nat → Prop) (w : World) : Kp B X w w := ⟨rfl, rfl, rfl, Nat.le_refl _, fun _ _ _ _ => rfl⟩
theorem Kp.trans {B : Nat} {X : Nat → Prop} {a b c : World} (h : Kp B X a b) (k : Kp B X b c) : Kp B X a c :=
  ⟨k.os.trans h.os, k.tape.trans h.tape, k.output.trans h.output, Nat.le_trans h.size k.size, fun i hi hn hx => (k.block i hi (Nat.lt_of_lt_of_le hn h.size) hx).trans (h.block i hi hn hx)⟩
theorem Kp.below {B n : Nat} {X : Nat → Prop} {a b c : World} (h : Kp B X a b) (k : Below n b c) (hn : a.heap.size ≤ n) : Kp B X a c :=
  ⟨k.os.trans h.os, k.tape.trans h.tape, k.output.trans h.output, Nat.le_trans h.size k.size, fun i hi hl hx => (k.block i (by omega)).trans (h.block i hi hl hx)⟩
theorem Kp.then {B : Nat} {X Y : Nat → Prop} {a b c : World} (h : Kp B X a b) (k : Kp B Y b c) (hY : ∀ i, i < a.heap.size → Y i → X i) : Kp B X a c :=
  ⟨k.os.trans h.os, k.tape.trans h.tape, k.output.trans h.output, Nat.le_trans h.size k.size, fun i hi hn hx => (k.block i hi (Nat.lt_of_lt_of_le hn h.size) (fun y => hx (hY i hn y))).trans (h.block i hi hn hx)⟩
theorem Kp.alloc {B : Nat} {X : Nat → Prop} {a b : World} (h : Kp B X a b) (o : Obj) : Kp B X a (b.alloc o) :=
  h.below ((Below.refl b.heap.size b).alloc (Nat.le_refl _) o) h.size
theorem Kp.drewN {B : Nat} {X : Nat → Prop} {a b : World} (h : Kp B X a b) (n : Nat) : Kp B X a (b.drewN n) := ⟨h.os, h.tape, h.output, h.size, h.block⟩
theorem Kp.drew {B : Nat} {X : Nat → Prop} {a b : World} (h : Kp B X a b) : Kp B X a b.drew := ⟨h.os, h.tape, h.output, h.size, h.block⟩
theorem Kp.setCell {B : Nat} {X : Nat → Prop} {a b : World} (h : Kp B X a b) {p : Addr} {v : Value} (hp : a.heap.size ≤ p.block ∨ X p.block) : Kp B X a (b.setCell p v) := by
  have hs : (b.setCell p v).heap.size = b.heap.size := by simp
  refine ⟨h.os, h.tape, h.output, by rw [hs]; exact h.size, fun i hi hn hx => ?_⟩
  rw [Below.heap_setCell b p v i (fun e => by subst e; rcases hp with hp | hp; omega; exact hx hp)]
  exact h.block i hi hn hx
theorem Blk.kp {w w' : World} {b B : Nat} {X : Nat → Prop} {cs : Array Value} {t : TypeId} (h : Blk w b cs t) (k : Kp B X w w') (hb : B ≤ b) (hx : ¬ X b) : Blk w' b cs t := by
  unfold Blk
  rw [k.block b hb h.lt hx]
  exact h

/-- a bus: what a place holds, the machine then, the machine when a place was written -/
structure Bus (σ : Type) where
  gV : σ → Int → Int
  gS : σ → Int → σ
  pS : σ → Int → Int → σ
structure BusOk (P : Program) (fg fp : FuncId) (cg cp : Value) {σ : Type} (b : Bus σ) (Rel : World → σ → Prop) (B : Nat) : Prop where
  stable : ∀ w w' m, Rel w m → Below B w w' → Rel w' m
  byte : ∀ m a, U8 (b.gV m a)
  eg : ∀ args w, (callFunc fg args).run P w = .ok (.enter fg args) w
  ep : ∀ args w, (callFunc fp args).run P w = .ok (.enter fp args) w
  get : ∀ w m a, U16 a → Rel w m → B ≤ w.heap.size → Calls P fg #[.int .u16 a, cg] w fun e w' => e = .returned (.int .u8 (b.gV m a)) ∧ Rel w' (b.gS m a) ∧ Kp B NoX w w'
  put : ∀ w m a n, U16 a → U8 n → Rel w m → B ≤ w.heap.size → Calls P fp #[.int .u16 a, .int .u8 n, cp] w fun e w' => e = .returned (.tuple #[]) ∧ Rel w' (b.pS m a n) ∧ Kp B NoX w w'
theorem BusOk.below {P : Program} {fg fp : FuncId} {cg cp : Value} {σ : Type} {b : Bus σ} {Rel : World → σ → Prop} {B : Nat} (h : BusOk P fg fp cg cp b Rel B) {w w' : World} {m : σ} (hr : Rel w m) (hb : Below w.heap.size w w') (hB : B ≤ w.heap.size) : Rel w' m := h.stable w w' m hr (hb.mono hB)

def nx (a : Int) : Int := (a + 1) % 65536
def wV {σ : Type} (b : Bus σ) (m : σ) (a : Int) : Int := b.gV m a * 256 + b.gV (b.gS m a) (nx a)
def wS {σ : Type} (b : Bus σ) (m : σ) (a : Int) : σ := b.gS (b.gS m a) (nx a)
def pW {σ : Type} (b : Bus σ) (m : σ) (a n : Int) : σ := b.pS (b.pS m a (n / 256)) (nx a) (n % 256)
theorem nx_u (a : Int) : U16 (nx a) := by unfold U16 nx; omega
theorem wV_u {P : Program} {fg fp : FuncId} {cg cp : Value} {σ : Type} {b : Bus σ} {Rel : World → σ → Prop} {B : Nat} (h : BusOk P fg fp cg cp b Rel B) (m : σ) (a : Int) : U16 (wV b m a) := by
  have := h.byte m a
  have := h.byte (b.gS m a) (nx a)
  unfold U8 at *
  unfold U16 wV
  omega
end Go.Mq

namespace Go.Proofs.Yteihggfcafoogaa
open Go.RowKit Go.Mq
set_option linter.unusedVariables false
set_option linter.unusedSimpArgs false
set_option maxHeartbeats 400000
set_option maxRecDepth 100000

theorem word_any {fg fp : FuncId} {cg cp : Value} {σ : Type} {b : Bus σ} {Rel : World → σ → Prop} {B : Nat} (hb : BusOk Try.prog fg fp cg cp b Rel B) (m : σ) (a : Int) (ha : U16 a) (w : World) (hr : Rel w m) (hB : B ≤ w.heap.size) :
    Calls Try.prog 22 #[.agg #[.func (.func fg) #[] #[cg], .func (.func fp) #[] #[cp]], .int .u16 a] w fun e w' => e = .returned (.int .u16 (wV b m a)) ∧ Rel w' (wS b m a) ∧ Kp B NoX w w' := by
  have G1 := Lib.hid (fun w' => hb.get w' m a ha)
  have G2 := Lib.hid (fun w' => hb.get w' (b.gS m a) (nx a) (nx_u a))
  have y1 := hb.byte m a
  have y2 := hb.byte (b.gS m a) (nx a)
  have hw : IntKind.u16.wrap (a + 1) = nx a := wrap16 _
  have HR := Lib.hid (fun w' (h : Below w.heap.size w w') => hb.below hr h hB)
  have eg := hb.eg
  clear hr
  unfold wV wS
  obtain ⟨v1, e1⟩ : ∃ v, v = b.gV m a := ⟨_, rfl⟩
  obtain ⟨v2, e2⟩ : ∃ v, v = b.gV (b.gS m a) (nx a) := ⟨_, rfl⟩
  rw [← e1] at G1 y1 ⊢
  rw [← e2] at G2 y2 ⊢
  obtain ⟨n, hn⟩ : ∃ n, n = nx a := ⟨_, rfl⟩
  rw [← hn] at hw
  rw [← hn] at G2 ⊢
  clear e1 e2 hn
  unfold U8 at y1 y2
  unfold U16 at ha
  go_enter Try.func22, Try.ntmps22
  go_wp2_with fail
  refine wp_region_held_drew (S := fun W => Blk W (w.heap.size) (#[.func (.func fg) #[] #[cg], .func (.func fp) #[] #[cp]]) 52) (by kernel_rfl) (Blk.drew (show Blk _ (w.heap.size) (#[.func (.func fg) #[] #[cg], .func (.func fp) #[] #[cp]]) 52 from (by repeat' (first | (with_reducible first | exact Hid.out (by assumption) | exact Blk.new _ _ _ | (refine Blk.new_at _ _ _ _ ?_; simp; done) | refine Blk.alloc ?_ _ | refine Blk.drewN ?_ _ | refine Blk.drew ?_ | apply Blk.set | refine Blk.put ?_ (by assumption) (by first | (simp; done) | (simp; omega) | omega) | refine Blk.below ?_ (by assumption)) | (refine Blk.setAt ?_ (by first | (simp; done) | (simp; omega))) | rfl)))) (fun hS => ?_)
  refine wpAnyH_take (i := 0) (v := ?v0_1) rfl (by kernel_rfl) (by kernel_rfl) (by kernel_rfl) (fun _ _ _ h => h) (Or.inl ⟨by rfl, ?y0_1⟩) hS ?_
  case y0_1 => (intro w hSw; go_simp; try with_reducible rfl)
  try simp only [List.getElem_toArray, List.getElem_cons_succ, List.getElem_cons_zero, Act.put, List.setIfInBounds_toArray, List.set_cons_zero, List.set_cons_succ]
  refine wpAnyH_take (i := 1) (v := ?v1_1) rfl (by kernel_rfl) (by kernel_rfl) (by kernel_rfl) (fun _ _ _ h => h) (Or.inl ⟨by rfl, ?y1_1⟩) hS ?_
  case y1_1 => (intro w hSw; have c0 := (hSw).cell; go_simp; try with_reducible rfl)
  try simp only [List.getElem_toArray, List.getElem_cons_succ, List.getElem_cons_zero, Act.put, List.setIfInBounds_toArray, List.set_cons_zero, List.set_cons_succ]
  refine wpAnyH_take (i := 2) (v := ?v2_1) rfl (by kernel_rfl) (by kernel_rfl) (by kernel_rfl) (fun _ _ _ h => h) (Or.inl ⟨by rfl, ?y2_1⟩) hS ?_
  case y2_1 => (intro w hSw; go_simp; try with_reducible rfl)
  try simp only [List.getElem_toArray, List.getElem_cons_succ, List.getElem_cons_zero, Act.put, List.setIfInBounds_toArray, List.set_cons_zero, List.set_cons_succ]
  refine wpAnyH_take (i := 4) (v := ?v4_1) rfl (by kernel_rfl) (by kernel_rfl) (by kernel_rfl) (fun _ _ _ h => h) (Or.inl ⟨by rfl, ?y4_1⟩) hS ?_
  case y4_1 => (intro w hSw; go_simp; try with_reducible rfl)
  try simp only [List.getElem_toArray, List.getElem_cons_succ, List.getElem_cons_zero, Act.put, List.setIfInBounds_toArray, List.set_cons_zero, List.set_cons_succ]
  refine wpAnyH_take (i := 5) (v := ?v5_1) rfl (by kernel_rfl) (by kernel_rfl) (by kernel_rfl) (fun _ _ _ h => h) (Or.inl ⟨by rfl, ?y5_1⟩) hS ?_
  case y5_1 => (intro w hSw; have c0 := (hSw).cell; go_simp; try with_reducible rfl)
  try simp only [List.getElem_toArray, List.getElem_cons_succ, List.getElem_cons_zero, Act.put, List.setIfInBounds_toArray, List.set_cons_zero, List.set_cons_succ]
  refine wpAnyH_take (i := 6) (v := ?v6_1) rfl (by kernel_rfl) (by kernel_rfl) (by kernel_rfl) (fun _ _ _ h => h) (Or.inl ⟨by rfl, ?y6_1⟩) hS ?_
  case y6_1 => (intro w hSw; go_simp; try with_reducible rfl)
  try simp only [List.getElem_toArray, List.getElem_cons_succ, List.getElem_cons_zero, Act.put, List.setIfInBounds_toArray, List.set_cons_zero, List.set_cons_succ]
  refine wpAnyH_take (i := 7) (v := ?v7_1) rfl (by kernel_rfl) (by kernel_rfl) (by kernel_rfl) (fun _ _ _ h => h) (Or.inl ⟨by rfl, ?y7_1⟩) hS ?_
  case y7_1 => (intro w hSw; go_simp; try with_reducible rfl)
  try simp only [List.getElem_toArray, List.getElem_cons_succ, List.getElem_cons_zero, Act.put, List.setIfInBounds_toArray, List.set_cons_zero, List.set_cons_succ]
  try simp only [hw]
  refine wpAnyH_ready (rs := [3]) (by kernel_rfl) (by simp) (AllReadyH.cons rfl (fun K hK => ?_) AllReadyH.nil)
  go_simp
  refine (G1.out _ (HR.out _ (by repeat' (first | (with_reducible first | exact Below.refl _ _ | assumption | refine below_alloc ?_ _ | refine Below.drew ?_ | refine below_drewN ?_ _ | refine below_then ?_ (by assumption) | refine below_put ?_ (by assumption) (by first | (simp; done) | (simp; omega) | omega) | refine Below.setCell ?_ ?_ _) | (simp; done) | (simp; omega) | omega))) (by first | omega | (simp; omega))).mono ?_
  rintro e w1 ⟨rfl, hr1, hk1⟩
  try go_wp2_with fail
  refine hK.out _ _ (hS.kp hk1 (by omega) id) (fun hS => ?_)
  clear hK K
  try simp only [List.getElem_toArray, List.getElem_cons_succ, List.getElem_cons_zero, Act.put, List.setIfInBounds_toArray, List.set_cons_zero, List.set_cons_succ]
  refine wpAnyH_ready (rs := [8]) (by kernel_rfl) (by simp) (AllReadyH.cons rfl (fun K hK => ?_) AllReadyH.nil)
  go_simp
  refine (G2.out _ hr1 (by have := hk1.size; first | omega | (simp at this; omega))).mono ?_
  rintro e w2 ⟨rfl, hr2, hk2⟩
  try go_wp2_with fail
  refine hK.out _ _ (hS.kp hk2 (by omega) id) (fun hS => ?_)
  clear hK K
  try simp only [List.getElem_toArray, List.getElem_cons_succ, List.getElem_cons_zero, Act.put, List.setIfInBounds_toArray, List.set_cons_zero, List.set_cons_succ]
  refine wpAnyH_ready (rs := [9]) (by kernel_rfl) (by simp) (AllReadyH.cons rfl (fun K hK => ?_) AllReadyH.nil)
  go_simp
  refine (of_any v1 v2 y1.1 y1.2 y2.1 y2.2 _).mono ?_
  rintro e w3 ⟨rfl, rfl⟩
  try go_wp2_with fail
  refine hK.out _ _ (hS) (fun hS => ?_)
  clear hK K
  try simp only [List.getElem_toArray, List.getElem_cons_succ, List.getElem_cons_zero, Act.put, List.setIfInBounds_toArray, List.set_cons_zero, List.set_cons_succ]
  refine wpAnyH_take (i := 10) (v := ?v10_1) rfl (by kernel_rfl) (by kernel_rfl) (by kernel_rfl) (fun _ _ _ h => h) (Or.inl ⟨by rfl, ?y10_1⟩) hS ?_
  case y10_1 => (intro w hSw; go_simp; try with_reducible rfl)
  try simp only [List.getElem_toArray, List.getElem_cons_succ, List.getElem_cons_zero, Act.put, List.setIfInBounds_toArray, List.set_cons_zero, List.set_cons_succ]
  refine wpAnyH_done (by kernel_rfl) ?_ _
  go_wp2
  go_ret
  exact ⟨rfl, hr2, (((Kp.refl _ _ _).alloc _).drew.trans hk1).trans hk2⟩

theorem putWord_any {fg fp : FuncId} {cg cp : Value} {σ : Type} {b : Bus σ} {Rel : World → σ → Prop} {B : Nat} (hb : BusOk Try.prog fg fp cg cp b Rel B) (m : σ) (a n : Int) (ha : U16 a) (hn : U16 n) (w : World) (hr : Rel w m) (hB : B ≤ w.heap.size) :
    Calls Try.prog 37 #[.agg #[.func (.func fg) #[] #[cg], .func (.func fp) #[] #[cp]], .int .u16 a, .int .u16 n] w fun e w' => e = .returned (.tuple #[]) ∧ Rel w' (pW b m a n) ∧ Kp B NoX w w' := by
  have ep := hb.ep
  have hn0 : U8 (n / 256) := by unfold U16 at hn; unfold U8; omega
  have hn1 : U8 (n % 256) := by unfold U8; omega
  have G1 := Lib.hid (fun w' => hb.put w' m a (n / 256) ha hn0)
  have G2 := Lib.hid (fun w' => hb.put w' (b.pS m a (n / 256)) (nx a) (n % 256) (nx_u a) hn1)
  have BY := Lib.hid (bytes_any n hn)
  have hw : IntKind.u16.wrap (a + 1) = nx a := wrap16 _
  have HR := Lib.hid (fun w' (h : Below w.heap.size w w') => hb.below hr h hB)
  clear hr
  unfold pW
  obtain ⟨p, hp⟩ : ∃ p, p = nx a := ⟨_, rfl⟩
  rw [← hp] at hw G2 ⊢
  obtain ⟨x, hx⟩ : ∃ x, x = n / 256 := ⟨_, rfl⟩
  obtain ⟨y, hy⟩ : ∃ y, y = n % 256 := ⟨_, rfl⟩
  rw [← hx, ← hy] at BY G2 ⊢
  rw [← hx] at G1
  clear hp hx hy
  unfold U16 at ha
  go_enter Try.func37, Try.ntmps37
  go_wp2_with fail
  refine (BY.out _).mono ?_
  rintro e w0 ⟨rfl, rfl⟩
  go_wp2_with fail
  refine (G1.out _ (HR.out _ (by repeat' (first | (with_reducible first | exact Below.refl _ _ | assumption | refine below_alloc ?_ _ | refine Below.drew ?_ | refine below_drewN ?_ _ | refine below_then ?_ (by assumption) | refine below_put ?_ (by assumption) (by first | (simp; done) | (simp; omega) | omega) | refine Below.setCell ?_ ?_ _) | (simp; done) | (simp; omega) | omega))) (by first | omega | (simp; omega))).mono ?_
  rintro e w1 ⟨rfl, hr1, hk1⟩
  have KB := Lib.hid (show Blk w1 w.heap.size #[.func (.func fg) #[] #[cg], .func (.func fp) #[] #[cp]] 52 from Blk.kp (show Blk _ w.heap.size #[.func (.func fg) #[] #[cg], .func (.func fp) #[] #[cp]] 52 from (by repeat' (first | (with_reducible first | exact Hid.out (by assumption) | exact Blk.new _ _ _ | (refine Blk.new_at _ _ _ _ ?_; simp; done) | refine Blk.alloc ?_ _ | refine Blk.drewN ?_ _ | refine Blk.drew ?_ | apply Blk.set | refine Blk.put ?_ (by assumption) (by first | (simp; done) | (simp; omega) | omega) | refine Blk.below ?_ (by assumption)) | (refine Blk.setAt ?_ (by first | (simp; done) | (simp; omega))) | rfl))) hk1 (by omega) id)
  obtain ⟨lB, cB, fB⟩ := KB.out.use
  have hs1 := hk1.size
  go_wp2_with fail
  refine (G2.out _ hr1 (by first | omega | (simp at hs1; omega))).mono ?_
  rintro e w2 ⟨rfl, hr2, hk2⟩
  go_wp2
  exact bodyPost_end (results_none rfl _ _ _) rfl ⟨rfl, hr2, (((Kp.refl _ _ _).alloc _).trans hk1).trans hk2⟩
end Go.Proofs.Yteihggfcafoogaa
