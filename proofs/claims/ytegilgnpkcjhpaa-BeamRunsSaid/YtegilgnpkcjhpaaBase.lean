/- Small words that all my texts share: endings by their parts, bounds of integers, worlds that have only drawn. Conditions: none. -/
import Derived.WalkKit
import Derived.WalkSpells
import Derived.WalkLawsBesides
import Derived.BigQuiet
import Derived.Deep.QuietTactic
import Derived.Lib.Hide
import Derived.Lib.SmallJoins
import Derived.Deep.RegionHeld3
namespace Go.Mq
open Go.RowKit

def U8 (a : Int) : Prop := 0 ≤ a ∧ a ≤ 255
/-- a word -/
def U16 (a : Int) : Prop := 0 ≤ a ∧ a ≤ 65535
def I64 (a : Int) : Prop := -9223372036854775808 ≤ a ∧ a ≤ 9223372036854775807

theorem ret1 {u v : Value} (h : u = v) : Ending.returned u = .returned v := by rw [h]
theorem ret2 {a b a' b' : Value} (h : a = a') (h1 : b = b') : Ending.returned (.tuple #[a, b]) = .returned (.tuple #[a', b']) := by rw [h, h1]
theorem ret3 {a b c a' b' c' : Value} (h : a = a') (h1 : b = b') (h2 : c = c') : Ending.returned (.tuple #[a, b, c]) = .returned (.tuple #[a', b', c']) := by rw [h, h1, h2]
theorem vi {k : IntKind} {a b : Int} (h : a = b) : Value.int k a = .int k b := by rw [h]
theorem vb {a b : Bool} (h : a = b) : Value.bool a = .bool b := by rw [h]
theorem wrap16 (n : Int) : IntKind.u16.wrap n = n % 65536 := IntKind.wrap_u16 n
theorem wrap8 (n : Int) : IntKind.u8.wrap n = n % 256 := IntKind.wrap_u8 n

/-- the world has drawn, no more -/
def Drew (w w' : World) : Prop := ∃ d, w' = w.drewN d
theorem Drew.refl (w : World) : Drew w w := ⟨0, rfl⟩
theorem Drew.drewN {w w' : World} (h : Drew w w') (n : Nat) : Drew w (w'.drewN n) := by
  obtain ⟨d, rfl⟩ := h
  exact ⟨d + n, by rw [World.drewN_drewN]⟩
theorem Drew.trans {a b c : World} (h : Drew a b) (h' : Drew b c) : Drew a c := by
  obtain ⟨d, rfl⟩ := h'
  exact h.drewN d
theorem Drew.cell {w w' : World} (h : Drew w w') (a : Addr) : w'.cell? a = w.cell? a := by
  obtain ⟨d, rfl⟩ := h
  rfl
theorem Drew.frozen {w w' : World} (h : Drew w w') (a : Addr) : w'.frozen? a = w.frozen? a := by
  obtain ⟨d, rfl⟩ := h
  rfl
theorem Drew.heap {w w' : World} (h : Drew w w') : w'.heap = w.heap := by
  obtain ⟨d, rfl⟩ := h
  rfl
theorem Drew.below {w w' : World} (h : Drew w w') (B : Nat) : Below B w w' := by
  obtain ⟨d, rfl⟩ := h
  exact ⟨rfl, rfl, rfl, Nat.le_refl _, fun _ _ => rfl⟩

/-- a callee that draws nothing, at a region that reads alone -/
theorem quiet_sym {P : Program} {f : FuncId} {args : Array Value} {w : World} {n : Nat} {v : Value}
    (h : Calls P f args (w.drewN n) fun e w' => e = .returned v ∧ w.drewN n = w') : Calls P f args (w.drewN n) fun e w'' => e = .returned v ∧ ∃ m, w'' = w.drewN m :=
  h.mono fun _ _ ⟨he, hm⟩ => ⟨he, n, hm.symm⟩
theorem quiet_drew {P : Program} {f : FuncId} {args : Array Value} {w : World} {n : Nat} {v : Value}
    (h : Calls P f args (w.drewN n) fun e w' => e = .returned v ∧ Drew (w.drewN n) w') : Calls P f args (w.drewN n) fun e w'' => e = .returned v ∧ ∃ m, w'' = w.drewN m :=
  h.mono fun _ _ ⟨he, hm⟩ => ⟨he, by obtain ⟨d, rfl⟩ := hm; exact ⟨n + d, by rw [World.drewN_drewN]⟩⟩

theorem push_set {α : Type} (xs : Array α) (a b : α) : (xs.push a).setIfInBounds xs.size b = xs.push b := by
  apply Array.ext_getElem?
  intro i
  rw [Array.getElem?_setIfInBounds, Array.getElem?_push, Array.getElem?_push]
  by_cases h : xs.size = i
  · subst h; simp
  · have h' : ¬ i = xs.size := fun e => h e.symm
    simp [h, h']
/-- a store into a map that the call has just made -/
theorem run_put_new {P : Program} (w0 : World) {mty kt et : TypeId} {d : TypeDesc} {es : Array MapEntry} {clock n : Nat} {key val : Value} (hn : n = w0.heap.size)
    (hm : P.underlying mty = some (.map kt et)) (hd : P.underlying kt = some d) (hk : MapKept.IsKey d key) (hf : Instr.findNow d key es.toList 0 = some none) :
    (Instr.mapUpdate mty (.map (some n)) key val).run P (w0.alloc (.map es clock)) = .ok () (w0.alloc (.map (es.push { key := key, val := val, born := clock }) (clock + 1))) := by
  subst hn
  have hb := (MapKept.heap_alloc w0 (.map es clock)).1
  have hc := MapKept.run_checkKey (P := P) (w := w0.alloc (.map es clock)) hd hk false 9999
  have hfk := MapKept.run_findKey (P := P) (w := w0.alloc (.map es clock)) hd hf
  simp [Instr.mapUpdate, run_underlying hm, MapKept.run_getObj_map hb, hc, hfk, MapKept.run_setObj_map _ hb, Result.andThen]
  unfold World.alloc
  congr 1
  exact push_set w0.heap _ _
/-- a look-up that finds -/
theorem run_get_new {P : Program} (w0 : World) {mty kt et : TypeId} {d : TypeDesc} {es : Array MapEntry} {clock n i : Nat} {key v : Value} (hn : n = w0.heap.size)
    (hm : P.underlying mty = some (.map kt et)) (hd : P.underlying kt = some d) (hk : MapKept.IsKey d key) (hf : Instr.findNow d key es.toList 0 = some (some (i, v))) :
    (Instr.lookup mty (.map (some n)) key false).run P (w0.alloc (.map es clock)) = .ok v (w0.alloc (.map es clock)) := by
  subst hn
  have hb := (MapKept.heap_alloc w0 (.map es clock)).1
  have hc := MapKept.run_checkKey (P := P) (w := w0.alloc (.map es clock)) hd hk es.isEmpty 9999
  have hfk := MapKept.run_findKey (P := P) (w := w0.alloc (.map es clock)) hd hf
  simp [Instr.lookup, run_underlying hm, MapKept.run_getObj_map hb, hc, hfk, Result.andThen]
/-- a look-up that finds nothing -/
theorem run_get_none {P : Program} (w0 : World) {mty kt et : TypeId} {d : TypeDesc} {es : Array MapEntry} {clock n : Nat} {key z : Value} (hn : n = w0.heap.size)
    (hm : P.underlying mty = some (.map kt et)) (hd : P.underlying kt = some d) (hk : MapKept.IsKey d key) (hf : Instr.findNow d key es.toList 0 = some none)
    (hz : ∀ w, (zeroValue et).run P w = .ok z w) :
    (Instr.lookup mty (.map (some n)) key false).run P (w0.alloc (.map es clock)) = .ok z (w0.alloc (.map es clock)) := by
  subst hn
  have hb := (MapKept.heap_alloc w0 (.map es clock)).1
  have hc := MapKept.run_checkKey (P := P) (w := w0.alloc (.map es clock)) hd hk es.isEmpty 9999
  have hfk := MapKept.run_findKey (P := P) (w := w0.alloc (.map es clock)) hd hf
  simp [Instr.lookup, run_underlying hm, MapKept.run_getObj_map hb, hc, hfk, hz, Result.andThen]

@[go_sem] theorem setCell_drewN (w : World) (n : Nat) (a : Addr) (v : Value) : (w.drewN n).setCell a v = (w.setCell a v).drewN n := rfl
@[go_sem] theorem alloc_drewN (w : World) (n : Nat) (o : Obj) : (w.drewN n).alloc o = (w.alloc o).drewN n := rfl

theorem below_drewN {B : Nat} {a w : World} (h : Below B a w) (n : Nat) : Below B a (w.drewN n) := h.trans ((Drew.refl w).drewN n |>.below B)

theorem below_then {w X Y : World} (h : Below w.heap.size w X) (hb : Below X.heap.size X Y) : Below w.heap.size w Y := h.trans (hb.mono h.size)
theorem below_alloc {w X : World} (h : Below w.heap.size w X) (o : Obj) : Below w.heap.size w (X.alloc o) := h.alloc h.size o

theorem below_cells {W w1 : World} (hb : Below W.heap.size W w1) : (∀ b o, b < W.heap.size → w1.cell? ⟨b, o, none⟩ = W.cell? ⟨b, o, none⟩) ∧ (∀ b o, b < W.heap.size → w1.frozen? ⟨b, o, none⟩ = W.frozen? ⟨b, o, none⟩) :=
  ⟨fun b o h => hb.cell (p := ⟨b, o, none⟩) h, fun b o h => hb.frozen (p := ⟨b, o, none⟩) h⟩

/-! ### A slice of integers that came in -/
def SliceAt (w : World) (k : IntKind) (v : Value) (xs : List Int) : Prop :=
  ∃ a cap, v = .slice a xs.length cap ∧ xs.length ≤ cap ∧ cap ≤ maxLen ∧ (∀ x ∈ xs, (Lit.int k x).wf = true) ∧
    (0 < xs.length → ∃ b off, a = some ⟨b, off, none⟩ ∧ b < w.heap.size ∧ ∀ i, i < xs.length → w.cell? ⟨b, off + i, none⟩ = some (.int k (xs.getD i 0)))
theorem SliceAt.below {w w' : World} {k : IntKind} {v : Value} {xs : List Int} (h : SliceAt w k v xs) (hb : Below w.heap.size w w') : SliceAt w' k v xs := by
  obtain ⟨a, cap, hv, h1, h2, h3, h4⟩ := h
  refine ⟨a, cap, hv, h1, h2, h3, fun h0 => ?_⟩
  obtain ⟨b, off, ha, hlt, hc⟩ := h4 h0
  exact ⟨b, off, ha, Nat.lt_of_lt_of_le hlt hb.size, fun i hi => by rw [hb.cell (p := ⟨b, off + i, none⟩) hlt]; exact hc i hi⟩

/-! ### A block that is known whole -/
def Blk (w : World) (b : Nat) (cs : Array Value) (t : TypeId) : Prop := w.heap[b]? = some (.cells cs t (0, 0))
theorem Blk.lt {w : World} {b : Nat} {cs : Array Value} {t : TypeId} (h : Blk w b cs t) : b < w.heap.size := (Array.getElem?_eq_some_iff.1 h).1
theorem Blk.cell {w : World} {b : Nat} {cs : Array Value} {t : TypeId} (h : Blk w b cs t) (i : Nat) : w.cell? ⟨b, i, none⟩ = cs[i]? := by
  unfold Blk at h; simp [World.cell?, h]
theorem Blk.free {w : World} {b : Nat} {cs : Array Value} {t : TypeId} (h : Blk w b cs t) (i : Nat) : w.frozen? ⟨b, i, none⟩ = false := by
  unfold Blk at h; simp [World.frozen?, h]
/-- what the walk uses of it -/
theorem Blk.use {w : World} {b : Nat} {cs : Array Value} {t : TypeId} (h : Blk w b cs t) : b < w.heap.size ∧ (∀ i, w.cell? ⟨b, i, none⟩ = cs[i]?) ∧ (∀ i, w.frozen? ⟨b, i, none⟩ = false) := ⟨h.lt, h.cell, h.free⟩
theorem Blk.new (w : World) (cs : Array Value) (t : TypeId) : Blk (w.alloc (.cells cs t)) w.heap.size cs t := (MapKept.heap_alloc w (.cells cs t)).1
theorem Blk.new_at (w : World) (cs : Array Value) (t : TypeId) (n : Nat) (h : n = w.heap.size) : Blk (w.alloc (.cells cs t)) n cs t := by subst h; exact Blk.new w cs t
theorem Blk.alloc {w : World} {b : Nat} {cs : Array Value} {t : TypeId} (h : Blk w b cs t) (o : Obj) : Blk (w.alloc o) b cs t := by
  unfold Blk; rw [(MapKept.heap_alloc w o).2 b h.lt]; exact h
theorem Blk.below {X Y : World} {b : Nat} {cs : Array Value} {t : TypeId} (h : Blk X b cs t) (hb : Below X.heap.size X Y) : Blk Y b cs t := by
  unfold Blk; rw [hb.block b h.lt]; exact h
theorem Blk.drewN {w : World} {b : Nat} {cs : Array Value} {t : TypeId} (h : Blk w b cs t) (n : Nat) : Blk (w.drewN n) b cs t := h
theorem Blk.drew {w : World} {b : Nat} {cs : Array Value} {t : TypeId} (h : Blk w b cs t) : Blk w.drew b cs t := h
theorem Blk.setAt {w : World} {b : Nat} {cs : Array Value} {t : TypeId} (h : Blk w b cs t) {a : Addr} {v : Value} (hne : b ≠ a.block) : Blk (w.setCell a v) b cs t := by
  unfold Blk; rw [Below.heap_setCell w a v b hne]; exact h
theorem Blk.set {w : World} {b i : Nat} {cs cs' : Array Value} {t : TypeId} {v : Value} (h : Blk w b cs t) (hcs : cs.setIfInBounds i v = cs') : Blk (w.setCell ⟨b, i, none⟩ v) b cs' t := by
  subst hcs
  exact Joins.block_setCell h v

/-- what is known of a world, and no more, from here on -/
theorem wp_mark {P : Program} {c : Code} {Q : Exit → Act → World → Prop} {a : Act} {W : World} {R : World → Prop} (h : R W) (k : ∀ W', R W' → c.wp P Q a W') : c.wp P Q a W := k W h
/-! ### Blocks held through a region that draws: old memory as it was, the blocks whole -/
theorem held1_of {w X : World} {b1 : Nat} {c1 : Array Value} {t1 : TypeId} (h0 : Below w.heap.size w X) (h1 : Blk X b1 c1 t1) : Below w.heap.size w X ∧ Blk X b1 c1 t1 ∧ (∀ i, X.cell? ⟨b1, i, none⟩ = c1[i]?) ∧ b1 < X.heap.size :=
  ⟨h0, h1, h1.cell, h1.lt⟩
theorem held1_drew {w X : World} {b1 : Nat} {c1 : Array Value} {t1 : TypeId} (h : Below w.heap.size w X ∧ Blk X b1 c1 t1 ∧ (∀ i, X.cell? ⟨b1, i, none⟩ = c1[i]?) ∧ b1 < X.heap.size) : Below w.heap.size w X.drew ∧ Blk X.drew b1 c1 t1 ∧ (∀ i, X.drew.cell? ⟨b1, i, none⟩ = c1[i]?) ∧ b1 < X.drew.heap.size := by
  obtain ⟨h0, h1, _, _⟩ := h
  exact held1_of h0.drew h1.drew
theorem held1_below {w X Y : World} {b1 : Nat} {c1 : Array Value} {t1 : TypeId} (h : Below w.heap.size w X ∧ Blk X b1 c1 t1 ∧ (∀ i, X.cell? ⟨b1, i, none⟩ = c1[i]?) ∧ b1 < X.heap.size) (hb : Below X.heap.size X Y) : Below w.heap.size w Y ∧ Blk Y b1 c1 t1 ∧ (∀ i, Y.cell? ⟨b1, i, none⟩ = c1[i]?) ∧ b1 < Y.heap.size := by
  obtain ⟨h0, h1, _, _⟩ := h
  exact held1_of (below_then h0 hb) (h1.below hb)
theorem held2_of {w X : World} {b1 : Nat} {c1 : Array Value} {t1 : TypeId} {b2 : Nat} {c2 : Array Value} {t2 : TypeId} (h0 : Below w.heap.size w X) (h1 : Blk X b1 c1 t1) (h2 : Blk X b2 c2 t2) : Below w.heap.size w X ∧ Blk X b1 c1 t1 ∧ (∀ i, X.cell? ⟨b1, i, none⟩ = c1[i]?) ∧ b1 < X.heap.size ∧ Blk X b2 c2 t2 ∧ (∀ i, X.cell? ⟨b2, i, none⟩ = c2[i]?) ∧ b2 < X.heap.size :=
  ⟨h0, h1, h1.cell, h1.lt, h2, h2.cell, h2.lt⟩
theorem held2_drew {w X : World} {b1 : Nat} {c1 : Array Value} {t1 : TypeId} {b2 : Nat} {c2 : Array Value} {t2 : TypeId} (h : Below w.heap.size w X ∧ Blk X b1 c1 t1 ∧ (∀ i, X.cell? ⟨b1, i, none⟩ = c1[i]?) ∧ b1 < X.heap.size ∧ Blk X b2 c2 t2 ∧ (∀ i, X.cell? ⟨b2, i, none⟩ = c2[i]?) ∧ b2 < X.heap.size) : Below w.heap.size w X.drew ∧ Blk X.drew b1 c1 t1 ∧ (∀ i, X.drew.cell? ⟨b1, i, none⟩ = c1[i]?) ∧ b1 < X.drew.heap.size ∧ Blk X.drew b2 c2 t2 ∧ (∀ i, X.drew.cell? ⟨b2, i, none⟩ = c2[i]?) ∧ b2 < X.drew.heap.size := by
  obtain ⟨h0, h1, _, _, h2, _, _⟩ := h
  exact held2_of h0.drew h1.drew h2.drew
theorem held2_below {w X Y : World} {b1 : Nat} {c1 : Array Value} {t1 : TypeId} {b2 : Nat} {c2 : Array Value} {t2 : TypeId} (h : Below w.heap.size w X ∧ Blk X b1 c1 t1 ∧ (∀ i, X.cell? ⟨b1, i, none⟩ = c1[i]?) ∧ b1 < X.heap.size ∧ Blk X b2 c2 t2 ∧ (∀ i, X.cell? ⟨b2, i, none⟩ = c2[i]?) ∧ b2 < X.heap.size) (hb : Below X.heap.size X Y) : Below w.heap.size w Y ∧ Blk Y b1 c1 t1 ∧ (∀ i, Y.cell? ⟨b1, i, none⟩ = c1[i]?) ∧ b1 < Y.heap.size ∧ Blk Y b2 c2 t2 ∧ (∀ i, Y.cell? ⟨b2, i, none⟩ = c2[i]?) ∧ b2 < Y.heap.size := by
  obtain ⟨h0, h1, _, _, h2, _, _⟩ := h
  exact held2_of (below_then h0 hb) (h1.below hb) (h2.below hb)
theorem held3_of {w X : World} {b1 : Nat} {c1 : Array Value} {t1 : TypeId} {b2 : Nat} {c2 : Array Value} {t2 : TypeId} {b3 : Nat} {c3 : Array Value} {t3 : TypeId} (h0 : Below w.heap.size w X) (h1 : Blk X b1 c1 t1) (h2 : Blk X b2 c2 t2) (h3 : Blk X b3 c3 t3) : Below w.heap.size w X ∧ Blk X b1 c1 t1 ∧ (∀ i, X.cell? ⟨b1, i, none⟩ = c1[i]?) ∧ b1 < X.heap.size ∧ Blk X b2 c2 t2 ∧ (∀ i, X.cell? ⟨b2, i, none⟩ = c2[i]?) ∧ b2 < X.heap.size ∧ Blk X b3 c3 t3 ∧ (∀ i, X.cell? ⟨b3, i, none⟩ = c3[i]?) ∧ b3 < X.heap.size :=
  ⟨h0, h1, h1.cell, h1.lt, h2, h2.cell, h2.lt, h3, h3.cell, h3.lt⟩
theorem held3_drew {w X : World} {b1 : Nat} {c1 : Array Value} {t1 : TypeId} {b2 : Nat} {c2 : Array Value} {t2 : TypeId} {b3 : Nat} {c3 : Array Value} {t3 : TypeId} (h : Below w.heap.size w X ∧ Blk X b1 c1 t1 ∧ (∀ i, X.cell? ⟨b1, i, none⟩ = c1[i]?) ∧ b1 < X.heap.size ∧ Blk X b2 c2 t2 ∧ (∀ i, X.cell? ⟨b2, i, none⟩ = c2[i]?) ∧ b2 < X.heap.size ∧ Blk X b3 c3 t3 ∧ (∀ i, X.cell? ⟨b3, i, none⟩ = c3[i]?) ∧ b3 < X.heap.size) : Below w.heap.size w X.drew ∧ Blk X.drew b1 c1 t1 ∧ (∀ i, X.drew.cell? ⟨b1, i, none⟩ = c1[i]?) ∧ b1 < X.drew.heap.size ∧ Blk X.drew b2 c2 t2 ∧ (∀ i, X.drew.cell? ⟨b2, i, none⟩ = c2[i]?) ∧ b2 < X.drew.heap.size ∧ Blk X.drew b3 c3 t3 ∧ (∀ i, X.drew.cell? ⟨b3, i, none⟩ = c3[i]?) ∧ b3 < X.drew.heap.size := by
  obtain ⟨h0, h1, _, _, h2, _, _, h3, _, _⟩ := h
  exact held3_of h0.drew h1.drew h2.drew h3.drew
theorem held3_below {w X Y : World} {b1 : Nat} {c1 : Array Value} {t1 : TypeId} {b2 : Nat} {c2 : Array Value} {t2 : TypeId} {b3 : Nat} {c3 : Array Value} {t3 : TypeId} (h : Below w.heap.size w X ∧ Blk X b1 c1 t1 ∧ (∀ i, X.cell? ⟨b1, i, none⟩ = c1[i]?) ∧ b1 < X.heap.size ∧ Blk X b2 c2 t2 ∧ (∀ i, X.cell? ⟨b2, i, none⟩ = c2[i]?) ∧ b2 < X.heap.size ∧ Blk X b3 c3 t3 ∧ (∀ i, X.cell? ⟨b3, i, none⟩ = c3[i]?) ∧ b3 < X.heap.size) (hb : Below X.heap.size X Y) : Below w.heap.size w Y ∧ Blk Y b1 c1 t1 ∧ (∀ i, Y.cell? ⟨b1, i, none⟩ = c1[i]?) ∧ b1 < Y.heap.size ∧ Blk Y b2 c2 t2 ∧ (∀ i, Y.cell? ⟨b2, i, none⟩ = c2[i]?) ∧ b2 < Y.heap.size ∧ Blk Y b3 c3 t3 ∧ (∀ i, Y.cell? ⟨b3, i, none⟩ = c3[i]?) ∧ b3 < Y.heap.size := by
  obtain ⟨h0, h1, _, _, h2, _, _, h3, _, _⟩ := h
  exact held3_of (below_then h0 hb) (h1.below hb) (h2.below hb) (h3.below hb)
theorem held4_of {w X : World} {b1 : Nat} {c1 : Array Value} {t1 : TypeId} {b2 : Nat} {c2 : Array Value} {t2 : TypeId} {b3 : Nat} {c3 : Array Value} {t3 : TypeId} {b4 : Nat} {c4 : Array Value} {t4 : TypeId} (h0 : Below w.heap.size w X) (h1 : Blk X b1 c1 t1) (h2 : Blk X b2 c2 t2) (h3 : Blk X b3 c3 t3) (h4 : Blk X b4 c4 t4) : Below w.heap.size w X ∧ Blk X b1 c1 t1 ∧ (∀ i, X.cell? ⟨b1, i, none⟩ = c1[i]?) ∧ b1 < X.heap.size ∧ Blk X b2 c2 t2 ∧ (∀ i, X.cell? ⟨b2, i, none⟩ = c2[i]?) ∧ b2 < X.heap.size ∧ Blk X b3 c3 t3 ∧ (∀ i, X.cell? ⟨b3, i, none⟩ = c3[i]?) ∧ b3 < X.heap.size ∧ Blk X b4 c4 t4 ∧ (∀ i, X.cell? ⟨b4, i, none⟩ = c4[i]?) ∧ b4 < X.heap.size :=
  ⟨h0, h1, h1.cell, h1.lt, h2, h2.cell, h2.lt, h3, h3.cell, h3.lt, h4, h4.cell, h4.lt⟩
theorem held4_drew {w X : World} {b1 : Nat} {c1 : Array Value} {t1 : TypeId} {b2 : Nat} {c2 : Array Value} {t2 : TypeId} {b3 : Nat} {c3 : Array Value} {t3 : TypeId} {b4 : Nat} {c4 : Array Value} {t4 : TypeId} (h : Below w.heap.size w X ∧ Blk X b1 c1 t1 ∧ (∀ i, X.cell? ⟨b1, i, none⟩ = c1[i]?) ∧ b1 < X.heap.size ∧ Blk X b2 c2 t2 ∧ (∀ i, X.cell? ⟨b2, i, none⟩ = c2[i]?) ∧ b2 < X.heap.size ∧ Blk X b3 c3 t3 ∧ (∀ i, X.cell? ⟨b3, i, none⟩ = c3[i]?) ∧ b3 < X.heap.size ∧ Blk X b4 c4 t4 ∧ (∀ i, X.cell? ⟨b4, i, none⟩ = c4[i]?) ∧ b4 < X.heap.size) : Below w.heap.size w X.drew ∧ Blk X.drew b1 c1 t1 ∧ (∀ i, X.drew.cell? ⟨b1, i, none⟩ = c1[i]?) ∧ b1 < X.drew.heap.size ∧ Blk X.drew b2 c2 t2 ∧ (∀ i, X.drew.cell? ⟨b2, i, none⟩ = c2[i]?) ∧ b2 < X.drew.heap.size ∧ Blk X.drew b3 c3 t3 ∧ (∀ i, X.drew.cell? ⟨b3, i, none⟩ = c3[i]?) ∧ b3 < X.drew.heap.size ∧ Blk X.drew b4 c4 t4 ∧ (∀ i, X.drew.cell? ⟨b4, i, none⟩ = c4[i]?) ∧ b4 < X.drew.heap.size := by
  obtain ⟨h0, h1, _, _, h2, _, _, h3, _, _, h4, _, _⟩ := h
  exact held4_of h0.drew h1.drew h2.drew h3.drew h4.drew
theorem held4_below {w X Y : World} {b1 : Nat} {c1 : Array Value} {t1 : TypeId} {b2 : Nat} {c2 : Array Value} {t2 : TypeId} {b3 : Nat} {c3 : Array Value} {t3 : TypeId} {b4 : Nat} {c4 : Array Value} {t4 : TypeId} (h : Below w.heap.size w X ∧ Blk X b1 c1 t1 ∧ (∀ i, X.cell? ⟨b1, i, none⟩ = c1[i]?) ∧ b1 < X.heap.size ∧ Blk X b2 c2 t2 ∧ (∀ i, X.cell? ⟨b2, i, none⟩ = c2[i]?) ∧ b2 < X.heap.size ∧ Blk X b3 c3 t3 ∧ (∀ i, X.cell? ⟨b3, i, none⟩ = c3[i]?) ∧ b3 < X.heap.size ∧ Blk X b4 c4 t4 ∧ (∀ i, X.cell? ⟨b4, i, none⟩ = c4[i]?) ∧ b4 < X.heap.size) (hb : Below X.heap.size X Y) : Below w.heap.size w Y ∧ Blk Y b1 c1 t1 ∧ (∀ i, Y.cell? ⟨b1, i, none⟩ = c1[i]?) ∧ b1 < Y.heap.size ∧ Blk Y b2 c2 t2 ∧ (∀ i, Y.cell? ⟨b2, i, none⟩ = c2[i]?) ∧ b2 < Y.heap.size ∧ Blk Y b3 c3 t3 ∧ (∀ i, Y.cell? ⟨b3, i, none⟩ = c3[i]?) ∧ b3 < Y.heap.size ∧ Blk Y b4 c4 t4 ∧ (∀ i, Y.cell? ⟨b4, i, none⟩ = c4[i]?) ∧ b4 < Y.heap.size := by
  obtain ⟨h0, h1, _, _, h2, _, _, h3, _, _, h4, _, _⟩ := h
  exact held4_of (below_then h0 hb) (h1.below hb) (h2.below hb) (h3.below hb) (h4.below hb)

end Go.Mq
