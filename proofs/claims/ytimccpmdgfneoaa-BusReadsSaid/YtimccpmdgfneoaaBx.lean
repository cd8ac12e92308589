/- Where a machine at work lies, and what of it is told. Conditions: none; no program in sight. -/
import Derived.Test.YtimccpmdgfneoaaMach
namespace Go.Mq
open Go.RowKit
set_option linter.unusedVariables false
/-- where the memories lie: apart from one another, from the box, within bounds -/
structure LiesX (V : Nat → Value) (bb B H : Nat) : Prop where
  lo : H ≤ bb
  hi : bb < B
  own : ∀ i g, i < 5 → (V i).ownBlock = some g → H ≤ g ∧ g < B ∧ g ≠ bb
  ap : ∀ i j g, i < 5 → j < 5 → i ≠ j → (V i).ownBlock = some g → (V j).ownBlock ≠ some g
def Mems (w : World) (V : Nat → Value) (m : Mach) : Prop := ∀ i, i < 5 → w.ownsRow 0 5 1 (V i) (m.mem i).length ((m.mem i).map (Value.int .u8))
def Wrs (w : World) (H : Nat) (wv : Value) (l : List Wr) : Prop := w.ownsRow H 90 3 wv l.length (wrC l)
structure RelX (T : TypeId) (w0 : World) (V : Nat → Value) (bb H : Nat) (w : World) (x : Bx) : Prop where
  old : Below H w0 w
  box : ∃ wv, Blk w bb (boxC V x wv) T ∧ Wrs w H wv x.ws
  mems : Mems w V x.m
  fit : x.m.Fit
  inn : x.m.In
theorem Wrs.lt {w : World} {H : Nat} {wv : Value} {l : List Wr} (h : Wrs w H wv l) {g : Nat} (hg : wv.ownBlock = some g) : H ≤ g ∧ IsW w g := by
  rcases h.2 with ⟨rfl, -⟩ | ⟨g', cap, cur, rfl, h1, h2, -⟩
  · cases hg
  · injection hg with hg
    subst hg
    exact ⟨h1, cur, h2⟩
theorem Wrs.keep {w w' : World} {H : Nat} {wv : Value} {l : List Wr} (h : Wrs w H wv l) (hk : ∀ k, IsW w k → w'.heap[k]? = w.heap[k]?) : Wrs w' H wv l := by
  refine ⟨h.1, ?_⟩
  rcases h.2 with hn | ⟨g, cap, cur, rfl, hbg, hgg, rest⟩
  · exact .inl hn
  · exact .inr ⟨g, cap, cur, rfl, hbg, by rw [hk g ⟨cur, hgg⟩]; exact hgg, rest⟩
theorem Mems.keep {w w' : World} {V : Nat → Value} {m : Mach} (h : Mems w V m) (hk : ∀ i g, i < 5 → (V i).ownBlock = some g → w'.heap[g]? = w.heap[g]?) : Mems w' V m := by
  intro i hi
  obtain ⟨h1, h2⟩ := h i hi
  refine ⟨h1, ?_⟩
  rcases h2 with hn | ⟨g, cap, cur, hv, hbg, hgg, rest⟩
  · exact .inl hn
  · exact .inr ⟨g, cap, cur, hv, hbg, by rw [hk i g hi (by rw [hv]; rfl)]; exact hgg, rest⟩
theorem RelX.stable {T : TypeId} {w0 : World} {V : Nat → Value} {bb B H : Nat} (L : LiesX V bb B H) {w w' : World} {x : Bx} (h : RelX T w0 V bb H w x) (k : St B w w') : RelX T w0 V bb H w' x := by
  obtain ⟨h1, ⟨wv, h2, h3⟩, h4, h5, h6⟩ := h
  refine ⟨h1.trans (k.below.mono (by have := L.lo; have := L.hi; omega)), ⟨wv, ?_, h3.keep k.keep⟩, h4.keep (fun i g hi hg => k.below.block g (L.own i g hi hg).2.1), h5, h6⟩
  unfold Blk
  rw [k.below.block bb L.hi]
  exact h2
/-- a memory that isn't empty, as a block -/
theorem Mems.at {w : World} {V : Nat → Value} {m : Mach} (h : Mems w V m) (i : Nat) (hi : i < 5) (k : Nat) (hk : k < (m.mem i).length) : ∃ g cap, V i = .slice (some ⟨g, 0, none⟩) (m.mem i).length cap ∧ (V i).ownBlock = some g ∧ w.cell? ⟨g, k, none⟩ = some (.int .u8 ((m.mem i).getD k 0)) ∧ w.frozen? ⟨g, k, none⟩ = false ∧ g < w.heap.size := by
  have h0 := h i hi
  rcases h0.2 with ⟨hn, h1⟩ | ⟨g, cap, cur, hv, -, hgg, -⟩
  · omega
  · refine ⟨g, cap, hv, by rw [hv]; rfl, ?_, Blk.free (show Blk w g cur 5 from hgg) k, (Array.getElem?_eq_some_iff.1 hgg).1⟩
    rw [hv] at h0
    exact own_cell h0 k hk
theorem Mems.shape {w : World} {V : Nat → Value} {m : Mach} (h : Mems w V m) (i : Nat) (hi : i < 5) : ∃ ao cp, V i = .slice ao (m.mem i).length cp := own_shape (h i hi)
/-- a byte is written into a memory -/
theorem RelX.poke {T : TypeId} {w0 : World} {V : Nat → Value} {bb B H : Nat} (L : LiesX V bb B H) {w : World} {x : Bx} (h : RelX T w0 V bb H w x) (i : Nat) (hi : i < 5) (k : Nat) (v : Int) (hv : U8 v) (g : Nat) (hg : (V i).ownBlock = some g) (ht : T ≠ 5) :
    RelX T w0 V bb H (w.setCell ⟨g, k, none⟩ (.int .u8 v)) { x with m := { x.m with mem := updM x.m.mem i ((x.m.mem i).set k v) } } := by
  obtain ⟨h1, ⟨wv, h2, h3⟩, h4, h5, h6⟩ := h
  obtain ⟨o1, o2, o3⟩ := L.own i g hi hg
  have lm : ∀ j, (updM x.m.mem i ((x.m.mem i).set k v) j).length = (x.m.mem j).length := fun j => by
    unfold updM
    split
    · next e => subst e; simp
    · rfl
  have hb : ∃ cur, w.heap[g]? = some (.cells cur 5 (0, 0)) := by
    rcases (h4 i hi).2 with ⟨hn, -⟩ | ⟨g', cap, cur, hv', -, hgg, -⟩
    · rw [hn] at hg; cases hg
    · rw [hv'] at hg
      injection hg with hg
      subst hg
      exact ⟨cur, hgg⟩
  obtain ⟨cur, hb⟩ := hb
  refine ⟨Below.setCell (p := ⟨g, k, none⟩) h1 o1 _, ⟨wv, ?_, ?_⟩, ?_, ⟨by rw [lm]; exact h5.l0, by rw [lm]; exact h5.l1, by rw [lm]; exact h5.l2, by rw [lm]; exact h5.l3, by rw [lm]; exact h5.l4⟩, ?_⟩
  · exact Blk.setAt h2 (fun e => o3 e.symm)
  · refine Wrs.keep h3 (fun q hq => ?_)
    refine Below.heap_setCell w _ _ q (fun e => ?_)
    have e : q = g := e
    subst e
    obtain ⟨cs, hc⟩ := hq
    unfold Blk at hc
    rw [hc] at hb
    injection hb with hb
    injection hb with _ hb
    exact absurd hb (by decide)
  · intro j hj
    by_cases hji : j = i
    · subst hji
      have hh := h4 j hj
      obtain ⟨ao, cp, hs⟩ := h4.shape j hj
      rw [hs] at hg hh
      cases ao with
      | none => cases hg
      | some a =>
        obtain ⟨b, o, d⟩ := a
        injection hg with hg
        have hg : b = g := hg
        subst hg
        have hz : (⟨b, o, d⟩ : Addr) = ⟨b, 0, none⟩ := by
          rcases hh.2 with ⟨hn, -⟩ | ⟨g', cap, cur, hv', -⟩
          · cases hn
          · injection hv' with e1
            injection e1 with e1
            rw [e1]
            injection e1 with e2
            rw [e2]
        rw [hz] at hh
        have := own_set hh k (Value.int .u8 v)
        show World.ownsRow _ _ _ _ (V j) (updM x.m.mem j ((x.m.mem j).set k v) j).length _
        rw [lm, hs, hz]
        have e2 : updM x.m.mem j ((x.m.mem j).set k v) j = (x.m.mem j).set k v := by unfold updM; rw [if_pos rfl]
        show World.ownsRow _ _ _ _ _ _ ((updM x.m.mem j ((x.m.mem j).set k v) j).map _)
        rw [e2, List.map_set]
        exact this
    · have e2 : updM x.m.mem i ((x.m.mem i).set k v) j = x.m.mem j := by unfold updM; rw [if_neg hji]
      show World.ownsRow _ _ _ _ (V j) (updM x.m.mem i ((x.m.mem i).set k v) j).length ((updM x.m.mem i ((x.m.mem i).set k v) j).map _)
      rw [e2]
      exact own_setAt (h4 j hj) (fun g' hg' e => L.ap i j g hi hj (fun e => hji e.symm) hg (by rw [hg', show g' = g from e]))
  · exact ⟨h6.mc, h6.ac, fun j => by
      show Bytes8 (updM x.m.mem i ((x.m.mem i).set k v) j)
      unfold updM
      split
      · exact byte_set (h6.mem i) k hv
      · exact h6.mem j, h6.p0, h6.p1, h6.tm, h6.sd, h6.wt, h6.ln, h6.pt, h6.fr, h6.fm, h6.to, h6.m0, h6.m1, h6.ck, h6.mr, h6.ar⟩
/-- all stays but one block -/
structure But (g : Nat) (w w' : World) : Prop where
  os : w'.os = w.os
  tape : w'.tape = w.tape
  output : w'.output = w.output
  size : w.heap.size ≤ w'.heap.size
  block : ∀ k, k < w.heap.size → k ≠ g → w'.heap[k]? = w.heap[k]?
theorem But.refl (g : Nat) (w : World) : But g w w := ⟨rfl, rfl, rfl, Nat.le_refl _, fun _ _ _ => rfl⟩
theorem But.trans {g : Nat} {a b c : World} (h : But g a b) (k : But g b c) : But g a c :=
  ⟨k.os.trans h.os, k.tape.trans h.tape, k.output.trans h.output, Nat.le_trans h.size k.size, fun i hi hn => (k.block i (Nat.lt_of_lt_of_le hi h.size) hn).trans (h.block i hi hn)⟩
theorem But.below {g n : Nat} {a b c : World} (h : But g a b) (k : Below n b c) (hn : a.heap.size ≤ n) : But g a c :=
  ⟨k.os.trans h.os, k.tape.trans h.tape, k.output.trans h.output, Nat.le_trans h.size k.size, fun i hi hg => (k.block i (by omega)).trans (h.block i hi hg)⟩
theorem But.of {g n : Nat} {a b : World} (k : Below n a b) (hn : a.heap.size ≤ n) : But g a b := (But.refl g a).below k hn
theorem But.thenb {g : Nat} {a b c : World} (h : But g a b) (k : Below b.heap.size b c) : But g a c := h.below k h.size
theorem But.put {g : Nat} {a b c : World} (h : But g a b) (k : Put g b c) : But g a c :=
  ⟨k.below.os.trans h.os, k.below.tape.trans h.tape, k.below.output.trans h.output, by rw [k.size]; exact h.size, fun i hi hg => (k.other i hg).trans (h.block i hi hg)⟩
theorem But.setCell {g : Nat} {a b : World} (h : But g a b) {p : Addr} (hp : p.block = g) (v : Value) : But g a (b.setCell p v) :=
  ⟨h.os, h.tape, h.output, by simpa using h.size, fun i hi hg => by rw [Below.heap_setCell b p v i (fun e => hg (e.trans hp))]; exact h.block i hi hg⟩
theorem But.drew {g : Nat} {a b : World} (h : But g a b) : But g a b.drew := ⟨h.os, h.tape, h.output, h.size, h.block⟩
theorem But.drewN {g : Nat} {a b : World} (h : But g a b) (n : Nat) : But g a (b.drewN n) := ⟨h.os, h.tape, h.output, h.size, h.block⟩
theorem But.alloc {g : Nat} {a b : World} (h : But g a b) (o : Obj) : But g a (b.alloc o) := h.thenb ((Below.refl b.heap.size b).alloc (Nat.le_refl _) o)
theorem But.kp {g B : Nat} {a b : World} (h : But g a b) (hg : g < B) : Kp B NoX a b := ⟨h.os, h.tape, h.output, h.size, fun k hk hl _ _ => h.block k hl (by omega)⟩
theorem But.belowH {g H : Nat} {w0 a b : World} (h : But g a b) (k : Below H w0 a) (hg : H ≤ g) (hl : H ≤ a.heap.size) : Below H w0 b :=
  k.trans ⟨h.os, h.tape, h.output, h.size, fun i hi => h.block i (by omega) (by omega)⟩
theorem Blk.but {w w' : World} {b g : Nat} {cs : Array Value} {t : TypeId} (h : Blk w b cs t) (k : But g w w') (hb : b ≠ g) : Blk w' b cs t := by
  unfold Blk
  rw [k.block b h.lt hb]
  exact h
/-- the box alone was written -/
theorem RelX.box1 {T : TypeId} {w0 : World} {V : Nat → Value} {bb B H : Nat} (L : LiesX V bb B H) {w w' : World} {x x' : Bx} {wv : Value} (S : Below H w0 w ∧ Wrs w H wv x.ws ∧ Mems w V x.m ∧ x.m.Fit ∧ x.m.In) (hl : Blk w bb (boxC V x wv) T)
    (k : But bb w w') (hT : T ≠ 90) (hb : Blk w' bb (boxC V x' wv) T) (hm : x'.m.mem = x.m.mem) (hw : x'.ws = x.ws) (hi : x'.m.In) : RelX T w0 V bb H w' x' := by
  obtain ⟨h1, h2, h3, h4, h5⟩ := S
  have h0 := hl.lt
  refine ⟨k.belowH h1 L.lo (by have := L.lo; omega), ⟨wv, hb, ?_⟩, ?_, ?_, hi⟩
  · rw [hw]
    refine h2.keep (fun g hg => k.block g hg.lt (fun e => ?_))
    subst e
    exact hl.nw hT hg
  · have : Mems w' V x.m := h3.keep (fun i g hi hg => by
      refine k.block g ?_ (L.own i g hi hg).2.2
      exact ((h3 i hi).lt g hg).2)
    intro i hi
    rw [hm]
    exact this i hi
  · exact ⟨by rw [hm]; exact h4.l0, by rw [hm]; exact h4.l1, by rw [hm]; exact h4.l2, by rw [hm]; exact h4.l3, by rw [hm]; exact h4.l4⟩
theorem But.kp0 {g : Nat} {a b : World} (h : But g a b) : Kp 0 (· = g) a b := ⟨h.os, h.tape, h.output, h.size, fun k _ hl hx _ => h.block k hl hx⟩
theorem Kp.grown {B : Nat} {X : Nat → Prop} {a b c : World} {row : Option Nat} (h : Kp B X a b) (hg : b.grownBy c row) (hr : ∀ g, row = some g → IsW b g) : Kp B X a c :=
  ⟨hg.os.trans h.os, hg.tape.trans h.tape, hg.output.trans h.output, Nat.le_trans h.size hg.size, fun i hi hl hx hw => (hg.block i (Nat.lt_of_lt_of_le hl h.size) (fun e => hw (IsW.at (h.block i hi hl hx hw) (hr i e.symm)))).trans (h.block i hi hl hx hw)⟩
theorem Kp.up {g B : Nat} {a b : World} (h : Kp 0 (· = g) a b) (hg : g < B) : Kp B NoX a b := ⟨h.os, h.tape, h.output, h.size, fun k hk hl _ hw => h.block k (Nat.zero_le _) hl (by omega) hw⟩
/-- the box and its list of writes were written -/
theorem RelX.box2 {T : TypeId} {w0 : World} {V : Nat → Value} {bb B H : Nat} (L : LiesX V bb B H) {w w' : World} {x x' : Bx} (S : Mems w V x.m ∧ x.m.Fit) (ht : 5 ≠ 90)
    (k : Kp 0 (· = bb) w w') (hB : Below H w0 w') {wv' : Value} (hb : Blk w' bb (boxC V x' wv') T) (hm : x'.m.mem = x.m.mem) (hw : Wrs w' H wv' x'.ws) (hi : x'.m.In) : RelX T w0 V bb H w' x' := by
  obtain ⟨h3, h4⟩ := S
  refine ⟨hB, ⟨wv', hb, hw⟩, ?_, ?_, hi⟩
  · have : Mems w' V x.m := h3.keep (fun i g hi hg => by
      refine k.block g (Nat.zero_le _) ((h3 i hi).lt g hg).2 (L.own i g hi hg).2.2 ?_
      rcases (h3 i hi).2 with ⟨hn, -⟩ | ⟨g', cap, cur, hv, -, hgg, -⟩
      · rw [hn] at hg; cases hg
      · rw [hv] at hg
        injection hg with hg
        subst hg
        exact Blk.nw (show Blk w g' cur 5 from hgg) ht)
    intro i hi
    rw [hm]
    exact this i hi
  · exact ⟨by rw [hm]; exact h4.l0, by rw [hm]; exact h4.l1, by rw [hm]; exact h4.l2, by rw [hm]; exact h4.l3, by rw [hm]; exact h4.l4⟩
theorem IsW.alloc {w : World} {k : Nat} (h : IsW w k) (o : Obj) : IsW (w.alloc o) k := by
  obtain ⟨cs, hc⟩ := h
  exact ⟨cs, hc.alloc o⟩
end Go.Mq
