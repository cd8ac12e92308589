/- A memory of one's own: written to byte by byte; slices.Contains; the closed fact on pictures. Conditions: none of its own. -/
import Derived.Test.YtcgigpglpbhakaaRows
import Derived.Test.YtcgigpglpbhakaaPicLine
import Derived.Test.YtcgigpglpbhakaaLibEq
set_option linter.unusedVariables false
set_option linter.unusedSimpArgs false
namespace Go.Mq
open Go Go.RowKit
/-- A buffer of one's own: 256 bytes and spare room behind them. -/
def Buf (t : TypeId) (w : World) (g cap : Nat) (xs : List Int) : Prop :=
  256 ≤ cap ∧ cap ≤ maxLen ∧ xs.length = 256 ∧ (∀ x ∈ xs, U8 x) ∧ ∃ cur : Array Value, Blk w g cur t ∧ cur.size = cap ∧ cur.toList.take 256 = xs.map (Value.int .u8)
theorem Buf.cell {t : TypeId} {w : World} {g cap : Nat} {xs : List Int} (h : Buf t w g cap xs) (i : Nat) (hi : i < 256) : w.cell? ⟨g, i, none⟩ = some (.int .u8 (bt xs i)) := by
  obtain ⟨h1, h2, h3, h4, cur, h5, h6, h7⟩ := h
  rw [h5.cell]
  have e1 : cur[i]? = cur.toList[i]? := by simp
  have e2 : cur.toList[i]? = (cur.toList.take 256)[i]? := (List.getElem?_take_of_lt hi).symm
  rw [e1, e2, h7, List.getElem?_map, List.getElem?_eq_getElem (by omega)]
  simp [bt, List.getElem?_eq_getElem (show i < xs.length by omega)]
theorem Buf.free {t : TypeId} {w : World} {g cap : Nat} {xs : List Int} (h : Buf t w g cap xs) (i : Nat) : w.frozen? ⟨g, i, none⟩ = false := by
  obtain ⟨_, _, _, _, cur, h5, _⟩ := h
  exact h5.free i
theorem Buf.lt {t : TypeId} {w : World} {g cap : Nat} {xs : List Int} (h : Buf t w g cap xs) : g < w.heap.size := by
  obtain ⟨_, _, _, _, cur, h5, _⟩ := h
  exact h5.lt
theorem Buf.set {t : TypeId} {w : World} {g cap : Nat} {xs : List Int} (h : Buf t w g cap xs) (i : Nat) (hi : i < 256) (v : Int) (hv : U8 v) : Buf t (w.setCell ⟨g, i, none⟩ (.int .u8 v)) g cap (xs.set i v) := by
  obtain ⟨h1, h2, h3, h4, cur, h5, h6, h7⟩ := h
  refine ⟨h1, h2, by simpa using h3, ?_, cur.setIfInBounds i (.int .u8 v), Blk.set h5 rfl, by simpa using h6, ?_⟩
  · intro x hx
    rcases List.mem_or_eq_of_mem_set hx with h | h
    · exact h4 x h
    · subst h; exact hv
  · rw [Array.toList_setIfInBounds, List.take_set, h7, List.map_set]
theorem Buf.below {t : TypeId} {w w' : World} {g cap : Nat} {xs : List Int} (h : Buf t w g cap xs) (hb : Below w.heap.size w w') : Buf t w' g cap xs := by
  obtain ⟨h1, h2, h3, h4, cur, h5, h6, h7⟩ := h
  exact ⟨h1, h2, h3, h4, cur, h5.below hb, h6, h7⟩
theorem Buf.other {t : TypeId} {w : World} {g cap : Nat} {xs : List Int} (h : Buf t w g cap xs) {a : Addr} {v : Value} (hne : g ≠ a.block) : Buf t (w.setCell a v) g cap xs := by
  obtain ⟨h1, h2, h3, h4, cur, h5, h6, h7⟩ := h
  exact ⟨h1, h2, h3, h4, cur, h5.setAt hne, h6, h7⟩
theorem u8_wf (x : Int) (h : U8 x) : (Lit.int .u8 x).wf = true := by
  unfold U8 at h
  simp only [Lit.wf, Bool.and_eq_true, decide_eq_true_eq]
  exact ⟨h.1, h.2⟩
theorem Buf.vid {t : TypeId} {w : World} {g cap : Nat} {xs : List Int} (h : Buf t w g cap xs) : Vid w (.slice (some ⟨g, 0, none⟩) 256 cap) xs := by
  have h' := h
  obtain ⟨h1, h2, h3, h4, _⟩ := h
  refine ⟨⟨some ⟨g, 0, none⟩, cap, by rw [h3], by omega, h2, fun x hx => u8_wf x (h4 x hx), fun _ => ⟨g, 0, rfl, h'.lt, fun i hi => ?_⟩⟩, h3, h4⟩
  have := h'.cell i (by omega)
  simpa [bt] using this
theorem Buf.of_own {t : TypeId} {w : World} {base : Nat} {v : Value} {xs : List Int} (h : w.ownsRow base t 1 v 256 (xs.map (Value.int .u8))) (hx : ∀ x ∈ xs, U8 x) : ∃ g cap, v = .slice (some ⟨g, 0, none⟩) 256 cap ∧ base ≤ g ∧ Buf t w g cap xs := by
  obtain ⟨h0, h | ⟨g, cap, cur, rfl, hb, hc, hn, hm, hs, ht⟩⟩ := h
  · omega
  · exact ⟨g, cap, rfl, hb, hn, hm, by simpa using h0, hx, cur, hc, by omega, by simpa using ht⟩
theorem bt_set (xs : List Int) (i : Nat) (v : Int) (h : i < xs.length) (j : Int) (hj : 0 ≤ j) : bt (xs.set i v) j = if j = i then v else bt xs j := by
  unfold bt
  rw [List.getD_eq_getElem?_getD, List.getD_eq_getElem?_getD, List.getElem?_set]
  by_cases e : j = i
  · subst e
    simp [h]
  · rw [if_neg (by omega), if_neg e]
/-- Every fourth byte from one on, eight of them, is written. -/
def setK (o : Nat) (v : Int) (xs : List Int) : Nat → List Int
  | 0 => xs
  | k + 1 => (setK o v xs k).set (o + 4 * k) v
theorem setK_len (o : Nat) (v : Int) (xs : List Int) : ∀ k, (setK o v xs k).length = xs.length
  | 0 => rfl
  | k + 1 => by simp [setK, setK_len o v xs k]
theorem setK_at (o : Nat) (v : Int) (xs : List Int) (h : xs.length = 256) (ho : o + 32 ≤ 256) : ∀ k, k ≤ 8 → ∀ j : Int, 0 ≤ j → bt (setK o v xs k) j = if (o ≤ j ∧ j < o + 4 * k ∧ (j - o) % 4 = 0) then v else bt xs j
  | 0, _, j, hj => by rw [if_neg (by omega)]; rfl
  | k + 1, hk, j, hj => by
    have ih := setK_at o v xs h ho k (by omega) j hj
    show bt ((setK o v xs k).set (o + 4 * k) v) j = _
    rw [bt_set _ _ _ (by rw [setK_len]; omega) j hj, ih]
    by_cases e : j = ((o + 4 * k : Nat) : Int)
    · rw [if_pos e, if_pos (by omega)]
    · rw [if_neg e]
      by_cases e2 : (o : Int) ≤ j ∧ j < o + 4 * k ∧ (j - o) % 4 = 0
      · rw [if_pos e2, if_pos (by omega)]
      · rw [if_neg e2, if_neg (by omega)]
theorem onF_none (xs : List Int) (y : Int) (hy : y ≤ 7) (h : ∀ k : Nat, k < 8 → bt xs (128 + 4 * k) = 200) : ∀ k : Nat, k ≤ 8 → onF xs y k = []
  | 0, _ => rfl
  | k + 1, hk => by
    unfold onF
    rw [if_pos (Or.inl (by rw [h k (by omega)]; omega)), onF_none xs y hy h k (by omega)]
end Go.Mq
