/- A processor's bus as any machine has it: two functions, what a place holds and what the machine is then; worlds that keep what a caller owns. Conditions: none of its own. -/
import Derived.Test.YtimccpmdgfneoaaRows
import Derived.Test.YtimccpmdgfneoaaWordP
namespace Go.Mq
open Go.RowKit

/-- the blocks of a bus's own that may lie among a caller's: its list of writes -/
def IsW (w : World) (k : Nat) : Prop := ∃ cs, Blk w k cs 90
theorem Blk.nw {w : World} {k : Nat} {cs : Array Value} {t : TypeId} (h : Blk w k cs t) (ht : t ≠ 90) : ¬ IsW w k := by
  rintro ⟨cs', h'⟩
  unfold Blk at h h'
  rw [h] at h'
  injection h' with h'
  injection h' with _ h'
  exact ht h'
theorem IsW.lt {w : World} {k : Nat} (h : IsW w k) : k < w.heap.size := h.choose_spec.lt
theorem IsW.at {w w' : World} {k : Nat} (h : w'.heap[k]? = w.heap[k]?) (hw : IsW w' k) : IsW w k := by
  obtain ⟨cs, hc⟩ := hw
  unfold Blk at hc
  exact ⟨cs, by unfold Blk; rw [← h]; exact hc⟩
/-- what a caller owns stays: blocks from B on that were there, but for those of X and lists of writes -/
structure Kp (B : Nat) (X : Nat → Prop) (w w' : World) : Prop where
  os : w'.os = w.os
  tape : w'.tape = w.tape
  output : w'.output = w.output
  size : w.heap.size ≤ w'.heap.size
  block : ∀ k, B ≤ k → k < w.heap.size → ¬ X k → ¬ IsW w k → w'.heap[k]? = w.heap[k]?
def NoX : Nat → Prop := fun _ => False
theorem Kp.refl (B : Nat) (X : Nat → Prop) (w : World) : Kp B X w w := ⟨rfl, rfl, rfl, Nat.le_refl _, fun _ _ _ _ _ => rfl⟩
theorem Kp.then {B : Nat} {X Y : Nat → Prop} {a b c : World} (h : Kp B X a b) (k : Kp B Y b c) (hY : ∀ i, i < a.heap.size → Y i → X i) : Kp B X a c :=
  ⟨k.os.trans h.os, k.tape.trans h.tape, k.output.trans h.output, Nat.le_trans h.size k.size, fun i hi hn hx hw => (k.block i hi (Nat.lt_of_lt_of_le hn h.size) (fun y => hx (hY i hn y)) (fun y => hw (IsW.at (h.block i hi hn hx hw) y))).trans (h.block i hi hn hx hw)⟩
theorem Kp.trans {B : Nat} {X : Nat → Prop} {a b c : World} (h : Kp B X a b) (k : Kp B X b c) : Kp B X a c := h.then k (fun _ _ y => y)
theorem Kp.below {B n : Nat} {X : Nat → Prop} {a b c : World} (h : Kp B X a b) (k : Below n b c) (hn : a.heap.size ≤ n) : Kp B X a c :=
  ⟨k.os.trans h.os, k.tape.trans h.tape, k.output.trans h.output, Nat.le_trans h.size k.size, fun i hi hl hx hw => (k.block i (by omega)).trans (h.block i hi hl hx hw)⟩
theorem Kp.alloc {B : Nat} {X : Nat → Prop} {a b : World} (h : Kp B X a b) (o : Obj) : Kp B X a (b.alloc o) :=
  h.below ((Below.refl b.heap.size b).alloc (Nat.le_refl _) o) h.size
theorem Kp.drewN {B : Nat} {X : Nat → Prop} {a b : World} (h : Kp B X a b) (n : Nat) : Kp B X a (b.drewN n) := ⟨h.os, h.tape, h.output, h.size, h.block⟩
theorem Kp.drew {B : Nat} {X : Nat → Prop} {a b : World} (h : Kp B X a b) : Kp B X a b.drew := ⟨h.os, h.tape, h.output, h.size, h.block⟩
theorem Kp.setCell {B : Nat} {X : Nat → Prop} {a b : World} (h : Kp B X a b) {p : Addr} {v : Value} (hp : a.heap.size ≤ p.block ∨ X p.block) : Kp B X a (b.setCell p v) := by
  have hs : (b.setCell p v).heap.size = b.heap.size := by simp
  refine ⟨h.os, h.tape, h.output, by rw [hs]; exact h.size, fun i hi hn hx hw => ?_⟩
  rw [Below.heap_setCell b p v i (fun e => by subst e; rcases hp with hp | hp; omega; exact hx hp)]
  exact h.block i hi hn hx hw
theorem Blk.kp {w w' : World} {b B : Nat} {X : Nat → Prop} {cs : Array Value} {t : TypeId} (h : Blk w b cs t) (k : Kp B X w w') (hb : B ≤ b) (hx : ¬ X b) (ht : t ≠ 90 := by decide) : Blk w' b cs t := by
  unfold Blk
  rw [k.block b hb h.lt hx (h.nw ht)]
  exact h
/-- what a bus needs of what its caller does: below B all stays, and so do the lists of writes -/
structure St (B : Nat) (w w' : World) : Prop where
  below : Below B w w'
  keep : ∀ k, IsW w k → w'.heap[k]? = w.heap[k]?
theorem St.refl (B : Nat) (w : World) : St B w w := ⟨Below.refl _ _, fun _ _ => rfl⟩
theorem St.of {B n : Nat} {w w' : World} (h : Below n w w') (hB : B ≤ n) (hn : w.heap.size ≤ n) : St B w w' := ⟨h.mono hB, fun k hk => h.block k (by have := hk.lt; omega)⟩
theorem St.trans {B : Nat} {a b c : World} (h : St B a b) (k : St B b c) : St B a c :=
  ⟨h.below.trans k.below, fun i hi => (k.keep i (IsW.at (h.keep i hi).symm hi)).trans (h.keep i hi)⟩
theorem St.alloc {B : Nat} {a b : World} (h : St B a b) (hB : B ≤ b.heap.size) (o : Obj) : St B a (b.alloc o) := h.trans (St.of ((Below.refl b.heap.size b).alloc (Nat.le_refl _) o) hB (Nat.le_refl _))
theorem St.drew {B : Nat} {a b : World} (h : St B a b) : St B a b.drew := ⟨h.below.drew, h.keep⟩
theorem St.drewN {B : Nat} {a b : World} (h : St B a b) (n : Nat) : St B a (b.drewN n) := ⟨below_drewN h.below n, h.keep⟩
theorem St.drewl {B : Nat} {a b : World} (h : St B a.drew b) : St B a b := ⟨⟨h.below.os, h.below.tape, h.below.output, h.below.size, h.below.block⟩, h.keep⟩
theorem St.setCell {B : Nat} {a b : World} (h : St B a b) {p : Addr} (hp : B ≤ p.block) (hw : a.heap.size ≤ p.block ∨ ¬ IsW a p.block) (v : Value) : St B a (b.setCell p v) :=
  ⟨h.below.setCell hp v, fun i hi => by
    rw [Below.heap_setCell b p v i (fun e => by subst e; rcases hw with hw | hw; have := hi.lt; omega; exact hw hi)]
    exact h.keep i hi⟩
theorem St.put {B g : Nat} {a b c : World} (h : St B a b) (hp : Put g b c) (hg : B ≤ g) (hw : a.heap.size ≤ g ∨ ¬ IsW a g) : St B a c :=
  ⟨below_put h.below hp hg, fun i hi => (hp.other i (fun e => by subst e; rcases hw with hw | hw; have := hi.lt; omega; exact hw hi)).trans (h.keep i hi)⟩

/-- a bus: what a place holds, the machine then, the machine when a place was written -/
structure Bus (σ : Type) where
  gV : σ → Int → Int
  gS : σ → Int → σ
  pS : σ → Int → Int → σ
  room : σ → Nat
structure BusOk (P : Program) (fg fp : FuncId) (ag cg ap cp : Array Value) {σ : Type} (b : Bus σ) (Rel : World → σ → Prop) (B : Nat) : Prop where
  stable : ∀ w w' m, Rel w m → St B w w' → Rel w' m
  byte : ∀ m a, U8 (b.gV m a)
  roomg : ∀ m a, b.room m ≤ b.room (b.gS m a)
  roomp : ∀ m a n, b.room m ≤ b.room (b.pS m a n) + 1
  eg : ∀ args w, (callFunc fg args).run P w = .ok (.enter fg args) w
  ep : ∀ args w, (callFunc fp args).run P w = .ok (.enter fp args) w
  get : ∀ w m a, U16 a → Rel w m → B ≤ w.heap.size → Calls P fg (ag ++ #[.int .u16 a] ++ cg) w fun e w' => e = .returned (.int .u8 (b.gV m a)) ∧ Rel w' (b.gS m a) ∧ Kp B NoX w w'
  put : ∀ w m a n, U16 a → U8 n → 0 < b.room m → Rel w m → B ≤ w.heap.size → Calls P fp (ap ++ #[.int .u16 a, .int .u8 n] ++ cp) w fun e w' => e = .returned (.tuple #[]) ∧ Rel w' (b.pS m a n) ∧ Kp B NoX w w'
theorem BusOk.below {P : Program} {fg fp : FuncId} {ag cg ap cp : Array Value} {σ : Type} {b : Bus σ} {Rel : World → σ → Prop} {B : Nat} (h : BusOk P fg fp ag cg ap cp b Rel B) {w w' : World} {m : σ} (hr : Rel w m) (hb : Below w.heap.size w w') (hB : B ≤ w.heap.size) : Rel w' m := h.stable w w' m hr (St.of hb hB (Nat.le_refl _))

def nx (a : Int) : Int := (a + 1) % 65536
def wV {σ : Type} (b : Bus σ) (m : σ) (a : Int) : Int := b.gV m a * 256 + b.gV (b.gS m a) (nx a)
def wS {σ : Type} (b : Bus σ) (m : σ) (a : Int) : σ := b.gS (b.gS m a) (nx a)
def pW {σ : Type} (b : Bus σ) (m : σ) (a n : Int) : σ := b.pS (b.pS m a (n / 256)) (nx a) (n % 256)
theorem nx_u (a : Int) : U16 (nx a) := by unfold U16 nx; omega
theorem wV_u {P : Program} {fg fp : FuncId} {ag cg ap cp : Array Value} {σ : Type} {b : Bus σ} {Rel : World → σ → Prop} {B : Nat} (h : BusOk P fg fp ag cg ap cp b Rel B) (m : σ) (a : Int) : U16 (wV b m a) := by
  have := h.byte m a
  have := h.byte (b.gS m a) (nx a)
  unfold U8 at *
  unfold U16 wV
  omega
theorem room_w {P : Program} {fg fp : FuncId} {ag cg ap cp : Array Value} {σ : Type} {b : Bus σ} {Rel : World → σ → Prop} {B : Nat} (h : BusOk P fg fp ag cg ap cp b Rel B) (m : σ) (a : Int) : b.room m ≤ b.room (wS b m a) :=
  Nat.le_trans (h.roomg m a) (h.roomg _ _)
theorem room_pw {P : Program} {fg fp : FuncId} {ag cg ap cp : Array Value} {σ : Type} {b : Bus σ} {Rel : World → σ → Prop} {B : Nat} (h : BusOk P fg fp ag cg ap cp b Rel B) (m : σ) (a n : Int) : b.room m ≤ b.room (pW b m a n) + 2 := by
  have h1 := h.roomp m a (n / 256)
  have h2 := h.roomp (b.pS m a (n / 256)) (nx a) (n % 256)
  unfold pW
  omega
end Go.Mq

namespace Go.Proofs.Ytimccpmdgfneoaa
open Go.RowKit Go.Mq
set_option linter.unusedVariables false
set_option linter.unusedSimpArgs false
set_option maxHeartbeats 400000
set_option maxRecDepth 100000

theorem word_any {fg fp : FuncId} {ag cg ap cp : Array Value} {σ : Type} {b : Bus σ} {Rel : World → σ → Prop} {B : Nat} (hb : BusOk Try.prog fg fp ag cg ap cp b Rel B) (m : σ) (a : Int) (ha : U16 a) (w : World) (hr : Rel w m) (hB : B ≤ w.heap.size) :
    Calls Try.prog 44 #[.agg #[.func (.func fg) ag cg, .func (.func fp) ap cp], .int .u16 a] w fun e w' => e = .returned (.int .u16 (wV b m a)) ∧ Rel w' (wS b m a) ∧ Kp B NoX w w' := by
  have G1 := Lib.hid (fun w' => hb.get w' m a ha)
  have G2 := Lib.hid (fun w' => hb.get w' (b.gS m a) (nx a) (nx_u a))
  have y1 := hb.byte m a
  have y2 := hb.byte (b.gS m a) (nx a)
  have hw : IntKind.u16.wrap (a + 1) = nx a := wrap16 _
  have HR := Lib.hid (fun w' (h : Below w.heap.size w w') => hb.below hr h hB)
  have eg := hb.eg
  clear hr
  unfold wV wS
  obtain ⟨v1, e1⟩ : ∃ v, v = b.gV m a := ⟨_, rfl⟩
  obtain ⟨v2, e2⟩ : ∃ v, v = b.gV (b.gS m a) (nx a) := ⟨_, rfl⟩
  rw [← e1] at G1 y1 ⊢
  rw [← e2] at G2 y2 ⊢
  obtain ⟨n, hn⟩ : ∃ n, n = nx a := ⟨_, rfl⟩
  rw [← hn] at hw
  rw [← hn] at G2 ⊢
  clear e1 e2 hn
  unfold U8 at y1 y2
  unfold U16 at ha
  go_enter Try.func44, Try.ntmps44
  go_wp2_with fail
  refine wp_region_held_drew (S := fun W => Blk W (w.heap.size) (#[.func (.func fg) ag cg, .func (.func fp) ap cp]) 72) (by kernel_rfl) (Blk.drew (show Blk _ (w.heap.size) (#[.func (.func fg) ag cg, .func (.func fp) ap cp]) 72 from (by repeat' (first | (with_reducible first | exact Hid.out (by assumption) | exact Blk.new _ _ _ | (refine Blk.new_at _ _ _ _ ?_; simp; done) | refine Blk.alloc ?_ _ | refine Blk.drewN ?_ _ | refine Blk.drew ?_ | apply Blk.set | refine Blk.put ?_ (by assumption) (by first | (simp; done) | (simp; omega) | omega) | refine Blk.below ?_ (by assumption)) | (refine Blk.setAt ?_ (by first | (simp; done) | (simp; omega))) | rfl)))) (fun hS => ?_)
  refine wpAnyH_take (i := 0) (v := ?v0_1) rfl (by kernel_rfl) (by kernel_rfl) (by kernel_rfl) (fun _ _ _ h => h) (Or.inl ⟨by rfl, ?y0_1⟩) hS ?_
  case y0_1 => (intro w hSw; go_simp; try with_reducible rfl)
  try simp only [List.getElem_toArray, List.getElem_cons_succ, List.getElem_cons_zero, Act.put, List.setIfInBounds_toArray, List.set_cons_zero, List.set_cons_succ]
  refine wpAnyH_take (i := 1) (v := ?v1_1) rfl (by kernel_rfl) (by kernel_rfl) (by kernel_rfl) (fun _ _ _ h => h) (Or.inl ⟨by rfl, ?y1_1⟩) hS ?_
  case y1_1 => (intro w hSw; have c0 := (hSw).cell; go_simp; try with_reducible rfl)
  try simp only [List.getElem_toArray, List.getElem_cons_succ, List.getElem_cons_zero, Act.put, List.setIfInBounds_toArray, List.set_cons_zero, List.set_cons_succ]
  refine wpAnyH_take (i := 2) (v := ?v2_1) rfl (by kernel_rfl) (by kernel_rfl) (by kernel_rfl) (fun _ _ _ h => h) (Or.inl ⟨by rfl, ?y2_1⟩) hS ?_
  case y2_1 => (intro w hSw; go_simp; try with_reducible rfl)
  try simp only [List.getElem_toArray, List.getElem_cons_succ, List.getElem_cons_zero, Act.put, List.setIfInBounds_toArray, List.set_cons_zero, List.set_cons_succ]
  refine wpAnyH_take (i := 4) (v := ?v4_1) rfl (by kernel_rfl) (by kernel_rfl) (by kernel_rfl) (fun _ _ _ h => h) (Or.inl ⟨by rfl, ?y4_1⟩) hS ?_
  case y4_1 => (intro w hSw; go_simp; try with_reducible rfl)
  try simp only [List.getElem_toArray, List.getElem_cons_succ, List.getElem_cons_zero, Act.put, List.setIfInBounds_toArray, List.set_cons_zero, List.set_cons_succ]
  refine wpAnyH_take (i := 5) (v := ?v5_1) rfl (by kernel_rfl) (by kernel_rfl) (by kernel_rfl) (fun _ _ _ h => h) (Or.inl ⟨by rfl, ?y5_1⟩) hS ?_
  case y5_1 => (intro w hSw; have c0 := (hSw).cell; go_simp; try with_reducible rfl)
  try simp only [List.getElem_toArray, List.getElem_cons_succ, List.getElem_cons_zero, Act.put, List.setIfInBounds_toArray, List.set_cons_zero, List.set_cons_succ]
  refine wpAnyH_take (i := 6) (v := ?v6_1) rfl (by kernel_rfl) (by kernel_rfl) (by kernel_rfl) (fun _ _ _ h => h) (Or.inl ⟨by rfl, ?y6_1⟩) hS ?_
  case y6_1 => (intro w hSw; go_simp; try with_reducible rfl)
  try simp only [List.getElem_toArray, List.getElem_cons_succ, List.getElem_cons_zero, Act.put, List.setIfInBounds_toArray, List.set_cons_zero, List.set_cons_succ]
  refine wpAnyH_take (i := 7) (v := ?v7_1) rfl (by kernel_rfl) (by kernel_rfl) (by kernel_rfl) (fun _ _ _ h => h) (Or.inl ⟨by rfl, ?y7_1⟩) hS ?_
  case y7_1 => (intro w hSw; go_simp; try with_reducible rfl)
  try simp only [List.getElem_toArray, List.getElem_cons_succ, List.getElem_cons_zero, Act.put, List.setIfInBounds_toArray, List.set_cons_zero, List.set_cons_succ]
  try simp only [hw]
  refine wpAnyH_ready (rs := [3]) (by kernel_rfl) (by simp) (AllReadyH.cons rfl (fun K hK => ?_) AllReadyH.nil)
  go_simp
  refine (G1.out _ (HR.out _ (by repeat' (first | (with_reducible first | exact Below.refl _ _ | assumption | refine below_alloc ?_ _ | refine Below.drew ?_ | refine below_drewN ?_ _ | refine below_then ?_ (by assumption) | refine below_put ?_ (by assumption) (by first | (simp; done) | (simp; omega) | omega) | refine Below.setCell ?_ ?_ _) | (simp; done) | (simp; omega) | omega))) (by first | omega | (simp; omega))).mono ?_
  rintro e w1 ⟨rfl, hr1, hk1⟩
  try go_wp2_with fail
  refine hK.out _ _ (hS.kp hk1 (by omega) id) (fun hS => ?_)
  clear hK K
  try simp only [List.getElem_toArray, List.getElem_cons_succ, List.getElem_cons_zero, Act.put, List.setIfInBounds_toArray, List.set_cons_zero, List.set_cons_succ]
  refine wpAnyH_ready (rs := [8]) (by kernel_rfl) (by simp) (AllReadyH.cons rfl (fun K hK => ?_) AllReadyH.nil)
  go_simp
  refine (G2.out _ hr1 (by have := hk1.size; first | omega | (simp at this; omega))).mono ?_
  rintro e w2 ⟨rfl, hr2, hk2⟩
  try go_wp2_with fail
  refine hK.out _ _ (hS.kp hk2 (by omega) id) (fun hS => ?_)
  clear hK K
  try simp only [List.getElem_toArray, List.getElem_cons_succ, List.getElem_cons_zero, Act.put, List.setIfInBounds_toArray, List.set_cons_zero, List.set_cons_succ]
  refine wpAnyH_ready (rs := [9]) (by kernel_rfl) (by simp) (AllReadyH.cons rfl (fun K hK => ?_) AllReadyH.nil)
  go_simp
  refine (of_any v1 v2 y1.1 y1.2 y2.1 y2.2 _).mono ?_
  rintro e w3 ⟨rfl, rfl⟩
  try go_wp2_with fail
  refine hK.out _ _ (hS) (fun hS => ?_)
  clear hK K
  try simp only [List.getElem_toArray, List.getElem_cons_succ, List.getElem_cons_zero, Act.put, List.setIfInBounds_toArray, List.set_cons_zero, List.set_cons_succ]
  refine wpAnyH_take (i := 10) (v := ?v10_1) rfl (by kernel_rfl) (by kernel_rfl) (by kernel_rfl) (fun _ _ _ h => h) (Or.inl ⟨by rfl, ?y10_1⟩) hS ?_
  case y10_1 => (intro w hSw; go_simp; try with_reducible rfl)
  try simp only [List.getElem_toArray, List.getElem_cons_succ, List.getElem_cons_zero, Act.put, List.setIfInBounds_toArray, List.set_cons_zero, List.set_cons_succ]
  refine wpAnyH_done (by kernel_rfl) ?_ _
  go_wp2
  go_ret
  exact ⟨rfl, hr2, (((Kp.refl _ _ _).alloc _).drew.trans hk1).trans hk2⟩

end Go.Proofs.Ytimccpmdgfneoaa
