/- A builder of strings, kept while other memory turns. Conditions: none. -/
import Derived.Test.YtmpdoiilakjmbaaDoorLibS
import Derived.Test.YtmpdoiilakjmbaaDoorRegF
import Derived.Lib.ItoaLen
namespace Go.Mq
open Go.RowKit
theorem ownF_below {X Y : World} {base : Nat} {e : TypeId} {size : Nat} {v : Value} {n : Nat} {xs : List Value} (h : X.ownsRowF base e size v n xs) (hb : Below X.heap.size X Y) : Y.ownsRowF base e size v n xs := by
  refine ⟨h.1, ?_⟩
  rcases h.2 with hn | ⟨g, cap, cur, fz, rfl, hbg, hgg, rest⟩
  · exact .inl hn
  · exact .inr ⟨g, cap, cur, fz, rfl, hbg, by rw [hb.block g (Array.getElem?_eq_some_iff.1 hgg).1]; exact hgg, rest⟩
theorem isb_below {T e : TypeId} {B b : Nat} {bs : List Value} {w w' : World} (h : Lib.IsBuilderF T e B b bs w) (hb : Below w.heap.size w w') : Lib.IsBuilderF T e B b bs w' := by
  rcases h with ⟨h1, v, h2, h3, h4⟩ | ⟨h1, v, h2, h3, h4⟩
  · exact .inl ⟨h1, v, (hb.block b (Array.getElem?_eq_some_iff.1 h2).1).trans h2, ownF_below h3 hb, h4⟩
  · exact .inr ⟨h1, v, (hb.block b (Array.getElem?_eq_some_iff.1 h2).1).trans h2, ownF_below h3 hb, h4⟩
theorem Blk.othersKept {e t : TypeId} {b g : Nat} {w w' : World} {cs : Array Value} (h : Blk w g cs t) (hk : Lib.OthersKept e (some b) w w') (hg : g ≠ b) (ht : t ≠ e) : Blk w' g cs t :=
  hk g _ h (fun q => hg (Option.some.inj q)) (fun c fz q => ht (by injection q))
theorem strCells_eq (l : List UInt8) : Lib.strCells ⟨l.toArray⟩ = Lib.byteCells l := by simp [Lib.strCells, Lib.byteCells]
theorem str_app2 (a b : List UInt8) : (⟨a.toArray⟩ : ByteArray) ++ ⟨b.toArray⟩ = ⟨(a ++ b).toArray⟩ := by
  apply ByteArray.ext
  show (_ ++ _ : ByteArray).data = _
  simp [ByteArray.data_append]
theorem own_at1 {w : World} {b n m c : Nat} {e : TypeId} {lo : Option Addr} {vs : List Value} (h : w.ownsRow b e 1 (.slice lo m c) n vs) {k : Nat} {u : Value} (hk : k < n) (hu : vs[k]? = some u) : ∃ q, lo = some ⟨q, 0, none⟩ ∧ q < w.heap.size ∧ w.cell? ⟨q, k, none⟩ = some u := by
  rcases h.2 with ⟨hv, hn⟩ | ⟨q, cap, cur, hv, hbg, hgg, _⟩
  · omega
  · injection hv with h1 h2 h3
    subst h1
    have hc := h.cells (g := q) rfl k u hu
    rw [Addr.add_lit, Nat.zero_add] at hc
    exact ⟨q, rfl, (Array.getElem?_eq_some_iff.1 hgg).1, hc⟩
end Go.Mq
