/- Two games side by side: each is apart from the other. Conditions: none. -/
import Derived.Test.YtimccpmdgfneoaaGxM
import Derived.Test.YtimccpmdgfneoaaOwnM
import Derived.Test.YtimccpmdgfneoaaNoMach
namespace Go.Mq
open Go.RowKit
set_option linter.unusedVariables false
structure Two (T : TypeId) (wA W : World) (m : Mach) (g1 g2 : Nat) (U1 U2 : Nat → Value) : Prop where
  below : Below wA.heap.size wA W
  b1 : Blk W g1 (boxC U1 ⟨m, [], 0⟩ (.slice none 0 0)) T
  b2 : Blk W g2 (boxC U2 ⟨m, [], 0⟩ (.slice none 0 0)) T
  o1 : ∀ i, i < 5 → W.ownsRow 0 5 1 (U1 i) (m.mem i).length ((m.mem i).map (Value.int .u8))
  o2 : ∀ i, i < 5 → W.ownsRow 0 5 1 (U2 i) (m.mem i).length ((m.mem i).map (Value.int .u8))
  l1 : LiesX U1 g1 W.heap.size wA.heap.size
  l2 : LiesX U2 g2 W.heap.size wA.heap.size
  ap : ∀ k, InX U1 g1 k → ¬ InX U2 g2 k
theorem two_of {T : TypeId} {wA W : World} {m : Mach} {g1 g2 : Nat} {U1 U2 : Nat → Value} (p q r : Nat) (below : Below wA.heap.size wA W)
    (b1 : Blk W g1 (boxC U1 ⟨m, [], 0⟩ (.slice none 0 0)) T) (b2 : Blk W g2 (boxC U2 ⟨m, [], 0⟩ (.slice none 0 0)) T)
    (o1 : ∀ i, i < 5 → W.ownsRow 0 5 1 (U1 i) (m.mem i).length ((m.mem i).map (Value.int .u8))) (o2 : ∀ i, i < 5 → W.ownsRow 0 5 1 (U2 i) (m.mem i).length ((m.mem i).map (Value.int .u8)))
    (a1 : ∀ i j g, i < 5 → j < 5 → i ≠ j → (U1 i).ownBlock = some g → (U1 j).ownBlock ≠ some g) (a2 : ∀ i j g, i < 5 → j < 5 → i ≠ j → (U2 i).ownBlock = some g → (U2 j).ownBlock ≠ some g)
    (n1 : ∀ i g, i < 5 → (U1 i).ownBlock = some g → wA.heap.size ≤ g ∧ g < p) (n2 : ∀ i g, i < 5 → (U2 i).ownBlock = some g → q ≤ g ∧ g < r) (hp : wA.heap.size ≤ p) (hq : p ≤ q) (hr : q ≤ r)
    (h1 : p ≤ g1 ∧ (g1 < q ∨ r ≤ g1)) (h2 : r ≤ g2) (h3 : g1 ≠ g2) : Two T wA W m g1 g2 U1 U2 := by
  have z1 := b1.lt
  have z2 := b2.lt
  refine ⟨below, b1, b2, o1, o2, ⟨by omega, z1, fun i g hi hg => ?_, a1⟩, ⟨by omega, z2, fun i g hi hg => ?_, a2⟩, fun k hk hk2 => ?_⟩
  · have := n1 i g hi hg
    have := ((o1 i hi).lt g hg).2
    omega
  · have := n2 i g hi hg
    have := ((o2 i hi).lt g hg).2
    omega
  · rcases hk with e | ⟨i, hi, hg⟩
    · rcases hk2 with e2 | ⟨j, hj, hg2⟩
      · omega
      · have := n2 j k hj hg2; omega
    · have := n1 i k hi hg
      rcases hk2 with e2 | ⟨j, hj, hg2⟩
      · omega
      · have := n2 j k hj hg2; omega
theorem cut_two {G : Prop} {F : Nat → Nat → (Nat → Value) → (Nat → Value) → World → Prop} (R : Nat → Nat → (Nat → Value) → (Nat → Value) → World → Prop) (h : (∀ g1 g2 U1 U2 W, R g1 g2 U1 U2 W → F g1 g2 U1 U2 W) → G) (H : ∀ g1 g2 U1 U2 W, R g1 g2 U1 U2 W → F g1 g2 U1 U2 W) : G := h H
/-- a game whose blocks nobody touched, at a world that the other one made -/
theorem relX_kp {T : TypeId} {w0 : World} {V V' : Nat → Value} {bb bb' H : Nat} {w w' : World} {x : Bx} (hT : T ≠ 90) (hb : Blk w bb (boxC V x (.slice none 0 0)) T) (hx : x.ws = []) (hm : Mems w V x.m) (hf : x.m.Fit) (hi : x.m.In)
    (old : Below H w0 w') (k : Kp 0 (InX V' bb') w w') (ap : ∀ k, InX V bb k → ¬ InX V' bb' k) : RelX T w0 V bb H w' x := by
  have iw : ∀ i g, i < 5 → (V i).ownBlock = some g → ¬ IsW w g := fun i g hi hg => by
    rcases (hm i hi).2 with ⟨hn, -⟩ | ⟨g', cap, cur, hv, -, hgg, -⟩
    · rw [hn] at hg; cases hg
    · rw [hv] at hg
      injection hg with hg
      subst hg
      exact Blk.nw (show Blk w g' cur 5 from hgg) (by decide)
  refine ⟨old, ⟨_, hb.kp k (Nat.zero_le _) (ap bb (Or.inl rfl)) hT, ?_⟩, hm.keep (fun i g hi hg => k.block g (Nat.zero_le _) ((hm i hi).lt g hg).2 (ap g (Or.inr ⟨i, hi, hg⟩)) (iw i g hi hg)), hf, hi⟩
  rw [hx]
  exact World.ownsRow_nil _ _ _ _
/-- what stays of a game while the other one writes -/
theorem mems_kp {w w' : World} {V V' : Nat → Value} {bb bb' : Nat} {m : Mach} (hm : Mems w V m) (k : Kp 0 (InX V' bb') w w') (ap : ∀ k, InX V bb k → ¬ InX V' bb' k) : Mems w' V m :=
  hm.keep (fun i g hi hg => k.block g (Nat.zero_le _) ((hm i hi).lt g hg).2 (ap g (Or.inr ⟨i, hi, hg⟩)) (by
    rcases (hm i hi).2 with ⟨hn, -⟩ | ⟨g', cap, cur, hv, -, hgg, -⟩
    · rw [hn] at hg; cases hg
    · rw [hv] at hg
      injection hg with hg
      subst hg
      exact Blk.nw (show Blk w g' cur 5 from hgg) (by decide)))
theorem mems_mv {w : World} {V : Nat → Value} {m : Mach} (hm : Mems w V m) (hi : ∀ i, Bytes8 (m.mem i)) : MV w V m := fun i h => own_slice (hm i h) (byte_wf8 (hi i))
theorem two_rel1 {T : TypeId} {wA W W' : World} {m : Mach} {g1 g2 : Nat} {U1 U2 : Nat → Value} (h : Two T wA W m g1 g2 U1 U2) (k : Below W.heap.size W W') (hf : m.Fit) (hi : m.In) : RelX T wA U1 g1 wA.heap.size W' ⟨m, [], 0⟩ :=
  ⟨h.below.trans (k.mono h.below.size), ⟨_, h.b1.below k, World.ownsRow_nil _ _ _ _⟩, fun i hi => own_below (h.o1 i hi) k, hf, hi⟩
theorem two_rel2 {T : TypeId} {wA W W' : World} {m : Mach} {g1 g2 : Nat} {U1 U2 : Nat → Value} (h : Two T wA W m g1 g2 U1 U2) (k : Below W.heap.size W W') (hf : m.Fit) (hi : m.In) : RelX T wA U2 g2 wA.heap.size W' ⟨m, [], 0⟩ :=
  ⟨h.below.trans (k.mono h.below.size), ⟨_, h.b2.below k, World.ownsRow_nil _ _ _ _⟩, fun i hi => own_below (h.o2 i hi) k, hf, hi⟩
end Go.Mq
namespace Go.Proofs.Ytimccpmdgfneoaa
open Go.RowKit Go.Mq
theorem Clo.lower {bb gc mc hc lc : Nat} {w w' : World} (c : Clo bb gc mc hc lc w) (k : Below w.heap.size w w') : Clo bb gc mc hc lc w' := ⟨c.g.below k, c.m.below k, c.h.below k, c.l.below k⟩
theorem Clo.kpx {V : Nat → Value} {bb bb' gc mc hc lc : Nat} {w w' : World} (c : Clo bb gc mc hc lc w) (k : Kp 0 (InX V bb') w w') (h1 : ¬ InX V bb' gc) (h2 : ¬ InX V bb' mc) (h3 : ¬ InX V bb' hc) (h4 : ¬ InX V bb' lc) : Clo bb gc mc hc lc w' :=
  ⟨c.g.kp k (Nat.zero_le _) h1, c.m.kp k (Nat.zero_le _) h2, c.h.kp k (Nat.zero_le _) h3, c.l.kp k (Nat.zero_le _) h4⟩
end Go.Proofs.Ytimccpmdgfneoaa
