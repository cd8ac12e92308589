/- The rows of a whole picture. Conditions: none of its own. -/
import Derived.Test.YtcgigpglpbhakaaRows
import Derived.Test.YtcgigpglpbhakaaPicBad
set_option linter.unusedVariables false
set_option linter.unusedSimpArgs false
namespace Go.Mq
open Go
theorem whF_at (xs : List Int) : ∀ n k : Nat, k < n → ((whF xs n).drop (k * 16)).take 16 = (lnC xs k 16).toList
  | 0, k, h => by omega
  | n + 1, k, h => by
    have hl := whF_len xs n
    have hs : (lnC xs n 16).toList.length = 16 := by simpa using lnC_size xs n 16
    show ((whF xs n ++ (lnC xs n 16).toList).drop (k * 16)).take 16 = _
    by_cases e : k = n
    · subst e
      rw [List.drop_append, List.drop_of_length_le (by omega), hl, Nat.sub_self, List.drop_zero, List.nil_append, List.take_of_length_le (by omega)]
    · rw [List.drop_append_of_le_length (by omega), List.take_append_of_le_length (by rw [List.length_drop]; omega)]
      exact whF_at xs n k (by omega)
/-- The rows in memory. -/
theorem wh_own {w : World} {base : Nat} {v : Value} {e : TypeId} {xs : List Int} (h : w.ownsRow base e 16 v 8 (whF xs 8)) :
    ∃ g cap, ∃ cur : Array Value, v = .slice (some ⟨g, 0, none⟩) 8 cap ∧ base ≤ g ∧ Blk w g cur e ∧ ∀ k : Nat, k < 8 → (cur.toList.drop (k * 16)).take 16 = (lnC xs k 16).toList := by
  obtain ⟨h0, h | ⟨g, cap, cur, rfl, hb, hc, hn, hm, hs, ht⟩⟩ := h
  · omega
  · refine ⟨g, cap, cur, rfl, hb, hc, fun k hk => ?_⟩
    rw [← whF_at xs 8 k hk, ← ht, List.drop_take, List.take_take]
    congr 1
    omega
end Go.Mq
