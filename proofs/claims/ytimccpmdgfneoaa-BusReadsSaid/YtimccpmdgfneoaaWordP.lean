/- The words' program functions: sums, differences, products, shifts, bytes, and what Flags computes. Conditions: the arguments are words. -/
import Derived.Test.YtimccpmdgfneoaaRows
import Derived.Test.YtimccpmdgfneoaaWordPure
namespace Go.Proofs.Ytimccpmdgfneoaa
open Go.RowKit Go.Mq

theorem of_any (h l : Int) (h0 : 0 ≤ h) (h1 : h ≤ 255) (l0 : 0 ≤ l) (l1 : l ≤ 255) (w : World) :
    Calls Try.prog 50 #[.int .u8 h, .int .u8 l] w fun e w' => e = .returned (.int .u16 (h * 256 + l)) ∧ w = w' := by
  go_enter Try.func50, Try.ntmps50
  go_wp2
  go_ret
  refine ⟨ret1 (vi ?_), rfl⟩
  rw [show h * 256 = ((h.toNat * 256 : Nat) : Int) from by omega, show l = ((l.toNat : Nat) : Int) from by omega, u16_or_nat _ _ (by omega) (by omega), nat_join 8 _ _ (by omega) (by omega)]
  omega

end Go.Proofs.Ytimccpmdgfneoaa
