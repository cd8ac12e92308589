/- What the program's runs of voices, and the levels of sounds, compute. Conditions: the fields are words, bytes, truths. -/
import Derived.Test.YtimccpmdgfneoaaTone
import Derived.LoopN
namespace Go.Proofs.Ytimccpmdgfneoaa
open Go.RowKit Go.Mq
set_option linter.unusedVariables false
set_option linter.unusedSimpArgs false
set_option maxHeartbeats 2000000
set_option maxRecDepth 100000

theorem vidx (s : Sd) (w : World) : (Instr.index 34 (.agg #[.int .u16 s.a.pd, .int .u16 s.a.ct, .int .u8 s.a.ld, .bool s.a.hi, .int .u16 s.a.nz, .int .u16 s.b.pd, .int .u16 s.b.ct, .int .u8 s.b.ld, .bool s.b.hi, .int .u16 s.b.nz, .int .u16 s.c.pd, .int .u16 s.c.ct, .int .u8 s.c.ld, .bool s.c.hi, .int .u16 s.c.nz]) (.int .i64 0)).run Try.prog w = .ok (.agg #[.int .u16 s.a.pd, .int .u16 s.a.ct, .int .u8 s.a.ld, .bool s.a.hi, .int .u16 s.a.nz]) w ∧ (Instr.index 34 (.agg #[.int .u16 s.a.pd, .int .u16 s.a.ct, .int .u8 s.a.ld, .bool s.a.hi, .int .u16 s.a.nz, .int .u16 s.b.pd, .int .u16 s.b.ct, .int .u8 s.b.ld, .bool s.b.hi, .int .u16 s.b.nz, .int .u16 s.c.pd, .int .u16 s.c.ct, .int .u8 s.c.ld, .bool s.c.hi, .int .u16 s.c.nz]) (.int .i64 1)).run Try.prog w = .ok (.agg #[.int .u16 s.b.pd, .int .u16 s.b.ct, .int .u8 s.b.ld, .bool s.b.hi, .int .u16 s.b.nz]) w ∧
    (Instr.index 34 (.agg #[.int .u16 s.a.pd, .int .u16 s.a.ct, .int .u8 s.a.ld, .bool s.a.hi, .int .u16 s.a.nz, .int .u16 s.b.pd, .int .u16 s.b.ct, .int .u8 s.b.ld, .bool s.b.hi, .int .u16 s.b.nz, .int .u16 s.c.pd, .int .u16 s.c.ct, .int .u8 s.c.ld, .bool s.c.hi, .int .u16 s.c.nz]) (.int .i64 2)).run Try.prog w = .ok (.agg #[.int .u16 s.c.pd, .int .u16 s.c.ct, .int .u8 s.c.ld, .bool s.c.hi, .int .u16 s.c.nz]) w := ⟨by kernel_rfl, by kernel_rfl, by kernel_rfl⟩

/-- what the first k voices add up to -/
def accS (s : Sd) (k : Int) : Int := if k = 0 then 0 else if k = 1 then levV s.a else if k = 2 then levV s.a + levV s.b else levS s

end Go.Proofs.Ytimccpmdgfneoaa
