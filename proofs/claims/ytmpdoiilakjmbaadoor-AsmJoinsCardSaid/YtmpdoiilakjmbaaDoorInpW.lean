/- What was pressed, as it lies in memory. Conditions: none of its own. -/
import Derived.Test.YtmpdoiilakjmbaaDoorTapePure
import Derived.Test.YtmpdoiilakjmbaaDoorBase
namespace Go.Mq
open Go.RowKit
def Inp0 : Inp := ⟨0, 0, 0⟩
def Inp.Ok (x : Inp) : Prop := I64 x.ck ∧ I64 x.pd ∧ U8 x.dn
def InpsAt (w : World) (v : Value) (xs : List Inp) : Prop :=
  ∃ a cap, v = .slice a xs.length cap ∧ xs.length ≤ cap ∧ cap ≤ maxLen ∧ (∀ x ∈ xs, x.Ok) ∧
    (0 < xs.length → ∃ b off, a = some ⟨b, off, none⟩ ∧ b < w.heap.size ∧ ∀ i, i < xs.length →
      w.cell? ⟨b, off + i * 3, none⟩ = some (.int .i64 (xs.getD i Inp0).ck) ∧ w.cell? ⟨b, off + i * 3 + 1, none⟩ = some (.int .i64 (xs.getD i Inp0).pd) ∧ w.cell? ⟨b, off + i * 3 + 2, none⟩ = some (.int .u8 (xs.getD i Inp0).dn))
theorem InpsAt.below {w w' : World} {v : Value} {xs : List Inp} (h : InpsAt w v xs) (hb : Below w.heap.size w w') : InpsAt w' v xs := by
  obtain ⟨a, cap, h1, h2, h3, h4, h5⟩ := h
  refine ⟨a, cap, h1, h2, h3, h4, fun h0 => ?_⟩
  obtain ⟨b, off, e, hl, hc⟩ := h5 h0
  refine ⟨b, off, e, Nat.lt_of_lt_of_le hl hb.size, fun i hi => ?_⟩
  obtain ⟨c0, c1, c2⟩ := hc i hi
  exact ⟨(hb.cell (p := ⟨b, _, none⟩) hl).trans c0, (hb.cell (p := ⟨b, _, none⟩) hl).trans c1, (hb.cell (p := ⟨b, _, none⟩) hl).trans c2⟩
/-- the clock ahead of k -/
def lastAt (f : Int) (xs : List Inp) (k : Nat) : Int := if k = 0 then f else (xs.getD (k - 1) Inp0).ck
theorem drop_at {xs : List Inp} {k : Nat} (h : k < xs.length) : xs.drop k = xs.getD k Inp0 :: xs.drop (k + 1) := by
  rw [List.drop_eq_getElem_cons h, List.getD_eq_getElem?_getD, List.getElem?_eq_getElem h]
  rfl
theorem chk_at {f : Int} {xs : List Inp} {k : Nat} (h : k < xs.length) : chkFrom (lastAt f xs k) (xs.drop k) =
    if (xs.getD k Inp0).ck < lastAt f xs k ∨ 400000 < (xs.getD k Inp0).ck then 3 else if (xs.getD k Inp0).pd ≠ 0 ∧ (xs.getD k Inp0).pd ≠ 1 then 5 else chkFrom (lastAt f xs (k + 1)) (xs.drop (k + 1)) := by
  rw [drop_at h, chkFrom]
  rfl
end Go.Mq
