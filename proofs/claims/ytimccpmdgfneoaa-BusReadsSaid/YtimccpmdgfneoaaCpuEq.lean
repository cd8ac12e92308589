/- A processor is like itself. Conditions: none. -/
import Derived.Test.YtimccpmdgfneoaaRows
import Derived.Test.YtimccpmdgfneoaaCpuCp
import Derived.ChangeKeysEq
import Derived.Laws.StructEq
namespace Go.Proofs.Ytimccpmdgfneoaa
open Go.RowKit Go.Mq
set_option linter.unusedVariables false
set_option linter.unusedSimpArgs false
set_option maxHeartbeats 400000
set_option maxRecDepth 100000
/-- a processor of its fields -/
def mkC (r0 r1 r2 r3 r4 r5 r6 r7 pc : Int) (z n c v may wt : Bool) : Cp := ⟨fun i => match i with | 0 => r0 | 1 => r1 | 2 => r2 | 3 => r3 | 4 => r4 | 5 => r5 | 6 => r6 | 7 => r7 | _ => 0, pc, z, n, c, v, may, wt⟩
theorem mkC_in {r0 r1 r2 r3 r4 r5 r6 r7 pc : Int} (z n c v may wt : Bool) (h0 : U16 r0) (h1 : U16 r1) (h2 : U16 r2) (h3 : U16 r3) (h4 : U16 r4) (h5 : U16 r5) (h6 : U16 r6) (h7 : U16 r7) (hp : U16 pc) : (mkC r0 r1 r2 r3 r4 r5 r6 r7 pc z n c v may wt).In := by
  refine ⟨fun i => ?_, hp⟩
  unfold mkC
  simp only
  split <;> first | assumption | (unfold U16; omega)
theorem regs_self (c : Cp) (w : World) : (Op.equalIn 9999 24 (.agg #[.int .u16 (c.r 0), .int .u16 (c.r 1), .int .u16 (c.r 2), .int .u16 (c.r 3), .int .u16 (c.r 4), .int .u16 (c.r 5), .int .u16 (c.r 6), .int .u16 (c.r 7)]) (.agg #[.int .u16 (c.r 0), .int .u16 (c.r 1), .int .u16 (c.r 2), .int .u16 (c.r 3), .int .u16 (c.r 4), .int .u16 (c.r 5), .int .u16 (c.r 6), .int .u16 (c.r 7)])).run Try.prog w = .ok true w := by
  obtain ⟨i, hi⟩ : ∃ i, (Try.prog).info? 23 = some i := Option.isSome_iff_exists.1 (by kernel_rfl)
  rw [run_equalIn_array w 9998 _ _ Try.underlying24 hi]
  have hc : (Try.prog).cellsOf 23 = 1 := by kernel_rfl
  rw [hc]
  simp [Op.eqItems, List.range, List.range.loop, go_sem]
theorem cpu_self (c : Cp) (w : World) : (Op.equalIn 10000 26 (.agg (cpuC c)) (.agg (cpuC c))).run Try.prog w = .ok true w := by
  have H := regs_self c
  have hf : (Try.prog).underlying 26 = some (.struct ((Try.prog).fieldsOf 26)) := by kernel_rfl
  rw [run_equalIn_struct w 9999 _ _ _ hf (by kernel_rfl)]
  unfold cpuC
  simp [Program.fieldsOf, Try.underlying26, Op.eqFields, go_sem, H]
end Go.Proofs.Ytimccpmdgfneoaa
