/- What was pressed, read: plain steps, and rows of one's own. Conditions: none; no program in sight. -/
import Derived.Test.YtmpdoiilakjmbaaDoorSepPure
import Derived.Test.YtmpdoiilakjmbaaDoorInpW
import Derived.Lib.AtoiAllCases
namespace Go.Mq
open Go Go.RowKit
theorem parse_nil (i : Nat) (acc : List Inp) : parseGo i acc (sepBy 10 []) = .inr acc := by simp [sepBy, parseGo]
theorem parse_miss (i : Nat) (acc : List Inp) (s : List UInt8) (h0 : s ≠ []) (h : (10 : UInt8) ∉ s) : parseGo i acc (sepBy 10 s) = .inl i := by
  rw [sepBy_miss 10 s h, parseGo, if_neg h0]
theorem parse_bad (i : Nat) (acc : List Inp) (a b : List UInt8) (h : (10 : UInt8) ∉ a) (hi : item a = none) : parseGo i acc (sepBy 10 (a ++ 10 :: b)) = .inl i := by
  rw [sepBy_hit 10 a b h]
  cases hq : sepBy 10 b with
  | nil => exact absurd hq (sepBy_ne 10 b)
  | cons u r => rw [parseGo, hi]
theorem parse_good (i : Nat) (acc : List Inp) (a b : List UInt8) (h : (10 : UInt8) ∉ a) (x : Inp) (hi : item a = some x) : parseGo i acc (sepBy 10 (a ++ 10 :: b)) = parseGo (i + 1) (acc ++ [x]) (sepBy 10 b) := by
  rw [sepBy_hit 10 a b h]
  cases hq : sepBy 10 b with
  | nil => exact absurd hq (sepBy_ne 10 b)
  | cons u r => rw [parseGo, hi]
def inpCells (l : List Inp) : List Value := l.flatMap fun x => [.int .i64 x.ck, .int .i64 x.pd, .int .u8 x.dn]
theorem inpCells_len (l : List Inp) : (inpCells l).length = l.length * 3 := by
  induction l with
  | nil => rfl
  | cons x t ih => simp only [inpCells, List.flatMap_cons, List.length_append, List.length_cons, List.length_nil] at ih ⊢; omega
theorem inpCells_at : ∀ (l : List Inp) (i : Nat), i < l.length → (inpCells l)[i * 3]? = some (.int .i64 (l.getD i Inp0).ck) ∧ (inpCells l)[i * 3 + 1]? = some (.int .i64 (l.getD i Inp0).pd) ∧ (inpCells l)[i * 3 + 2]? = some (.int .u8 (l.getD i Inp0).dn)
  | [], i, h => absurd h (Nat.not_lt_zero _)
  | x :: t, 0, _ => ⟨rfl, rfl, rfl⟩
  | x :: t, i + 1, h => by
    obtain ⟨h1, h2, h3⟩ := inpCells_at t i (by simpa using h)
    have e : ∀ j, (inpCells (x :: t))[(i + 1) * 3 + j]? = (inpCells t)[i * 3 + j]? := fun j => by
      show (([.int .i64 x.ck, .int .i64 x.pd, .int .u8 x.dn] : List Value) ++ inpCells t)[(i + 1) * 3 + j]? = _
      rw [List.getElem?_append_right (by simp; omega)]
      congr 1
      simp
      omega
    exact ⟨(e 0).trans h1, (e 1).trans h2, (e 2).trans h3⟩
theorem own_inps {w : World} {base : Nat} {e : TypeId} {v : Value} {xs : List Inp} (h : w.ownsRow base e 3 v xs.length (inpCells xs)) (hok : ∀ x ∈ xs, x.Ok) : InpsAt w v xs := by
  rcases h.2 with ⟨rfl, hn⟩ | ⟨g, cap, cur, rfl, hbg, hgg, h1, h2, h3, h4⟩
  · refine ⟨none, 0, by rw [hn], by omega, by simp [maxLen], hok, fun h0 => by omega⟩
  · refine ⟨some ⟨g, 0, none⟩, cap, rfl, h1, h2, hok, fun h0 => ⟨g, 0, rfl, (Array.getElem?_eq_some_iff.1 hgg).1, fun i hi => ?_⟩⟩
    obtain ⟨c0, c1, c2⟩ := inpCells_at xs i hi
    have k0 := h.cells (g := g) rfl (i * 3) _ c0
    have k1 := h.cells (g := g) rfl (i * 3 + 1) _ c1
    have k2 := h.cells (g := g) rfl (i * 3 + 2) _ c2
    rw [Addr.add_lit] at k0 k1 k2
    exact ⟨k0, by rw [Nat.add_assoc]; exact k1, by rw [Nat.add_assoc]; exact k2⟩
theorem whole_ok {l : List UInt8} {v : Int} (h : Lib.atoiAll l = .ok v) : I64 v := by
  have := Lib.atoiAll_bounds h
  unfold I64
  omega
end Go.Mq
