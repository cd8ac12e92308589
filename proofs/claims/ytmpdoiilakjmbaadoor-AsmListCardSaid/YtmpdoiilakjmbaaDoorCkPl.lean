/- The document's table tells which parts an order has: plain. Conditions: none of its own. -/
import Derived.Test.YtmpdoiilakjmbaaDoorOrdPl
import Derived.Lib.IndexMore
namespace Go.Proofs.YtmpdoiilakjmbaaDoor
open Go Go.Mq
theorem has_tab : ∀ k : Nat, k < 32 → k ≠ 30 → Lib.contains (hsK k) [100] = hasD k ∧ Lib.contains (hsK k) [115] = hasS k ∧ Lib.contains (hsK k) [110] = hasN k ∧ Lib.contains (hsK k) [119] = hasW k := by decide +kernel
theorem low_tab : ∀ k : Nat, k < 32 → (if shK k then (0 : Int) else -16) = lowO k := by decide +kernel
theorem cyc_tab : ∀ k : Nat, k < 32 → k ≠ 30 → cycO k = cyK k := by decide +kernel
end Go.Proofs.YtmpdoiilakjmbaaDoor
