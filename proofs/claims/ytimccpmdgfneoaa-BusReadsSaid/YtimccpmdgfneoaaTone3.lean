/- What sounds are a clock on, what is a sound, and what samples it makes. Conditions: the fields are words, bytes, truths. -/
import Derived.Test.YtimccpmdgfneoaaTone2
namespace Go.Proofs.Ytimccpmdgfneoaa
open Go.RowKit Go.Mq
set_option linter.unusedVariables false
set_option linter.unusedSimpArgs false
set_option maxHeartbeats 2000000
set_option maxRecDepth 100000

theorem scheck_ok (s : Sd) (h0 : 0 ≤ s.wt) (h1 : s.wt ≤ 15) (w : World) :
    Calls Try.prog 24 #[.agg #[.int .u16 s.a.pd, .int .u16 s.a.ct, .int .u8 s.a.ld, .bool s.a.hi, .int .u16 s.a.nz, .int .u16 s.b.pd, .int .u16 s.b.ct, .int .u8 s.b.ld, .bool s.b.hi, .int .u16 s.b.nz, .int .u16 s.c.pd, .int .u16 s.c.ct, .int .u8 s.c.ld, .bool s.c.hi, .int .u16 s.c.nz, .int .i64 s.wt]] w fun e w' => e = .returned (.int .i64 0) ∧ Below w.heap.size w w' := by
  generalize s.wt = wt at *
  go_enter Try.func24, Try.ntmps24
  go_wp2
  go_ret
  exact ⟨rfl, by repeat' (first | (with_reducible first | exact Below.refl _ _ | assumption | refine below_alloc ?_ _ | refine Below.drew ?_ | refine below_drewN ?_ _ | refine below_then ?_ (by assumption) | refine below_put ?_ (by assumption) (by first | (simp; done) | (simp; omega) | omega) | refine Below.setCell ?_ ?_ _) | (simp; done) | (simp; omega) | omega)⟩
theorem scheck_bad (s : Sd) (h : s.wt < 0 ∨ 15 < s.wt) (w : World) :
    Calls Try.prog 24 #[.agg #[.int .u16 s.a.pd, .int .u16 s.a.ct, .int .u8 s.a.ld, .bool s.a.hi, .int .u16 s.a.nz, .int .u16 s.b.pd, .int .u16 s.b.ct, .int .u8 s.b.ld, .bool s.b.hi, .int .u16 s.b.nz, .int .u16 s.c.pd, .int .u16 s.c.ct, .int .u8 s.c.ld, .bool s.c.hi, .int .u16 s.c.nz, .int .i64 s.wt]] w fun e w' => e = .returned (.int .i64 3) ∧ Below w.heap.size w w' := by
  generalize s.wt = wt at *
  by_cases h1 : wt < 0
  · clear h
    go_enter Try.func24, Try.ntmps24
    go_wp2
    go_ret
    exact ⟨rfl, by repeat' (first | (with_reducible first | exact Below.refl _ _ | assumption | refine below_alloc ?_ _ | refine Below.drew ?_ | refine below_drewN ?_ _ | refine below_then ?_ (by assumption) | refine below_put ?_ (by assumption) (by first | (simp; done) | (simp; omega) | omega) | refine Below.setCell ?_ ?_ _) | (simp; done) | (simp; omega) | omega)⟩
  · have h2 : 16 ≤ wt := by omega
    clear h
    go_enter Try.func24, Try.ntmps24
    go_wp2
    go_ret
    exact ⟨rfl, by repeat' (first | (with_reducible first | exact Below.refl _ _ | assumption | refine below_alloc ?_ _ | refine Below.drew ?_ | refine below_drewN ?_ _ | refine below_then ?_ (by assumption) | refine below_put ?_ (by assumption) (by first | (simp; done) | (simp; omega) | omega) | refine Below.setCell ?_ ?_ _) | (simp; done) | (simp; omega) | omega)⟩

end Go.Proofs.Ytimccpmdgfneoaa
