/- Bytes; slices of one's own behind stores. Conditions: none. -/
import Derived.Test.YtmpdoiilakjmbaaDoorBase
namespace Go.Mq
open Go.RowKit
def Bytes8 (l : List Int) : Prop := ∀ x ∈ l, 0 ≤ x ∧ x ≤ 255
theorem own_stable {w w' : World} {B base size n : Nat} {e : TypeId} {v : Value} {xs : List Value} (h : w.ownsRow base e size v n xs) (hb : Below B w w') (hg : ∀ g, v.ownBlock = some g → g < B) : w'.ownsRow base e size v n xs := by
  refine ⟨h.1, ?_⟩
  rcases h.2 with hn | ⟨g, cap, cur, rfl, hbg, hgg, rest⟩
  · exact .inl hn
  · exact .inr ⟨g, cap, cur, rfl, hbg, by rw [hb.block g (hg g rfl)]; exact hgg, rest⟩
theorem own_setAt {w : World} {base size n : Nat} {e : TypeId} {v : Value} {xs : List Value} (h : w.ownsRow base e size v n xs) {p : Addr} {u : Value} (hp : ∀ g, v.ownBlock = some g → g ≠ p.block) : (w.setCell p u).ownsRow base e size v n xs := by
  refine ⟨h.1, ?_⟩
  rcases h.2 with hn | ⟨g, cap, cur, rfl, hbg, hgg, rest⟩
  · exact .inl hn
  · exact .inr ⟨g, cap, cur, rfl, hbg, by rw [Below.heap_setCell w p u g (hp g rfl)]; exact hgg, rest⟩
theorem own_set {w : World} {base n g cap : Nat} {e : TypeId} {xs : List Value} (h : w.ownsRow base e 1 (.slice (some ⟨g, 0, none⟩) n cap) n xs) (i : Nat) (u : Value) : (w.setCell ⟨g, i, none⟩ u).ownsRow base e 1 (.slice (some ⟨g, 0, none⟩) n cap) n (xs.set i u) := by
  refine ⟨by rw [List.length_set]; exact h.1, ?_⟩
  rcases h.2 with ⟨hn, -⟩ | ⟨g', cap', cur, hv, hbg, hgg, h1, h2, h3, h4⟩
  · cases hn
  · injection hv with e1 e2 e3
    injection e1 with e1
    injection e1 with e1
    subst e1 e3
    refine .inr ⟨g, cap, cur.setIfInBounds i u, rfl, hbg, Joins.block_setCell hgg u, h1, h2, by simpa using h3, ?_⟩
    rw [← h4, Array.toList_setIfInBounds, List.take_set]
theorem own_cell {w : World} {base n g cap : Nat} {e : TypeId} {k : IntKind} {xs : List Int} (h : w.ownsRow base e 1 (.slice (some ⟨g, 0, none⟩) n cap) n (xs.map (Value.int k))) (i : Nat) (hi : i < xs.length) : w.cell? ⟨g, i, none⟩ = some (.int k (xs.getD i 0)) := by
  have := h.cells (g := g) rfl i (.int k (xs.getD i 0)) (by simp [List.getElem?_eq_getElem hi])
  rw [Addr.add_lit, Nat.zero_add] at this
  exact this
theorem getD_byte {l : List Int} (h : Bytes8 l) (i : Nat) : U8 (l.getD i 0) := by
  unfold U8
  rw [List.getD_eq_getElem?_getD]
  cases hi : l[i]? with
  | none => simp
  | some x => simpa using h x (List.mem_of_getElem? hi)
theorem byte_set {l : List Int} (h : Bytes8 l) (i : Nat) {v : Int} (hv : U8 v) : Bytes8 (l.set i v) := fun x hx => by
  rcases List.mem_or_eq_of_mem_set hx with hx | rfl
  · exact h x hx
  · exact hv
end Go.Mq
