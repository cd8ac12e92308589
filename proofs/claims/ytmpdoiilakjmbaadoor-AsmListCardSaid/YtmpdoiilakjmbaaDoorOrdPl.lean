/- The document's reading of two words is the program's: plain. Conditions: none of its own. -/
import Derived.Test.YtmpdoiilakjmbaaDoorOrderAll
import Derived.Test.YtmpdoiilakjmbaaDoorOfP
namespace Go.Proofs.YtmpdoiilakjmbaaDoor
open Go.Mq
theorem hs_tab : ∀ k : Nat, k < 32 → k ≠ 30 → hsK k = (if hasD k then [100] else []) ++ (if hasS k then [115] else []) ++ (if hasN k then [110] else []) ++ (if hasW k then [119] else []) := by decide +kernel
theorem sh_tab : ∀ k : Nat, k < 32 → shK k = (decide ((k : Int) = 12) || decide ((k : Int) = 13)) := by decide +kernel
theorem fold_read (a b : Int) (K : Nat) (hK : a / 2048 = K) (hk : K < 32) (h30 : K ≠ 30) :
    (readO a b).op = K ∧ (foldA (shK K) a b (hsK K)).d = (readO a b).d ∧ (foldA (shK K) a b (hsK K)).s = (readO a b).s ∧ (foldA (shK K) a b (hsK K)).n = (readO a b).n ∧ (foldA (shK K) a b (hsK K)).w = (readO a b).w ∧ (foldA (shK K) a b (hsK K)).l = readL a := by
  have hi : ¬ ((K : Int) = 30) := by omega
  have hn : nO (shK K) a = if (K : Int) = 12 ∨ (K : Int) = 13 then a % 32 % 16 else if 15 < a % 32 then a % 32 - 32 else a % 32 := by
    rw [sh_tab K hk]
    unfold nO
    by_cases h1 : (K : Int) = 12
    · simp [h1]
    · by_cases h2 : (K : Int) = 13
      · simp [h2]
      · simp only [h1, h2, decide_false, Bool.or_self, Bool.false_eq_true, if_false, or_self]
        by_cases h3 : 15 < a % 32
        · rw [if_pos h3, if_pos (by omega)]
        · rw [if_neg h3, if_neg (by omega)]
  simp only [readO, readL, hK, if_neg hi]
  rw [hs_tab K hk h30, ← hn]
  cases hasD K <;> cases hasS K <;> cases hasN K <;> cases hasW K <;> simp [foldA, stepA]
end Go.Proofs.YtmpdoiilakjmbaaDoor
