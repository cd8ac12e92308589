/- Two sounds' voices that are alike compare as alike. Conditions: none. -/
import Derived.Test.YtimccpmdgfneoaaRows
import Derived.Test.YtimccpmdgfneoaaTonePure
import Derived.ChangeKeysEq
namespace Go.Proofs.Ytimccpmdgfneoaa
open Go.RowKit Go.Mq
set_option linter.unusedVariables false
set_option maxHeartbeats 400000
set_option maxRecDepth 100000
theorem eqv_self (s : Sd) (w : World) : (Op.equalIn 9999 34 (.agg #[.int .u16 s.a.pd, .int .u16 s.a.ct, .int .u8 s.a.ld, .bool s.a.hi, .int .u16 s.a.nz, .int .u16 s.b.pd, .int .u16 s.b.ct, .int .u8 s.b.ld, .bool s.b.hi, .int .u16 s.b.nz, .int .u16 s.c.pd, .int .u16 s.c.ct, .int .u8 s.c.ld, .bool s.c.hi, .int .u16 s.c.nz]) (.agg #[.int .u16 s.a.pd, .int .u16 s.a.ct, .int .u8 s.a.ld, .bool s.a.hi, .int .u16 s.a.nz, .int .u16 s.b.pd, .int .u16 s.b.ct, .int .u8 s.b.ld, .bool s.b.hi, .int .u16 s.b.nz, .int .u16 s.c.pd, .int .u16 s.c.ct, .int .u8 s.c.ld, .bool s.c.hi, .int .u16 s.c.nz])).run Try.prog w = .ok true w := by
  obtain ⟨i, hi⟩ : ∃ i, (Try.prog).info? 33 = some i := Option.isSome_iff_exists.1 (by kernel_rfl)
  rw [run_equalIn_array w 9998 _ _ Try.underlying34 hi]
  have hc : (Try.prog).cellsOf 33 = 5 := by kernel_rfl
  rw [hc]
  simp [Op.eqItems, List.range, List.range.loop, go_sem]
theorem eqv_zero (w : World) : (Op.equalIn 9999 34 (.agg #[.int .u16 0, .int .u16 0, .int .u8 0, .bool false, .int .u16 0, .int .u16 0, .int .u16 0, .int .u8 0, .bool false, .int .u16 0, .int .u16 0, .int .u16 0, .int .u8 0, .bool false, .int .u16 0]) (.agg #[.int .u16 0, .int .u16 0, .int .u8 0, .bool false, .int .u16 0, .int .u16 0, .int .u16 0, .int .u8 0, .bool false, .int .u16 0, .int .u16 0, .int .u16 0, .int .u8 0, .bool false, .int .u16 0])).run Try.prog w = .ok true w := eqv_self ⟨⟨0, 0, 0, false, 0⟩, ⟨0, 0, 0, false, 0⟩, ⟨0, 0, 0, false, 0⟩, 0⟩ w
end Go.Proofs.Ytimccpmdgfneoaa
