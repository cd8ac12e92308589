/- The document's check of a machine, part D. Conditions: its memories are slices of bytes. -/
import Derived.Test.YtimccpmdgfneoaaBusChk
namespace Go.Proofs.Ytimccpmdgfneoaa
open Go.RowKit Go.Mq
set_option linter.unusedVariables false
set_option linter.unusedSimpArgs false
set_option maxHeartbeats 1000000
set_option maxRecDepth 100000
theorem rc_16 (V : Nat → Value) (m : Mach) (w : World) (hm : MV w V m) (n0 n1 n2 n3 n4 : Nat) (e0 : n0 = (m.mem 0).length) (e1 : n1 = (m.mem 1).length) (e2 : n2 = (m.mem 2).length) (e3 : n3 = (m.mem 3).length) (e4 : n4 = (m.mem 4).length) (h0 : ¬ 1024 < max (n0 : Int) n1) (h1 : n2 = 128) (h2 : n3 = 64) (h3 : n4 = 256) (h4 : ¬ m.sd.wt < 0) (h5 : ¬ 15 < m.sd.wt) (h6 : ¬ m.bm.ln < 0) (h7 : ¬ 9 < m.bm.ln) (h8 : ¬ m.bm.pt < 0) (h9 : ¬ 63 < m.bm.pt) (h10 : ¬ m.bm.fr < 0) (h11 : ¬ 20000 < m.bm.fr) (h12 : ¬ m.ck < 0) (h13 : ¬ 200000 < m.ck) (h14 : ¬ m.mr < 0) (h15 : ¬ m.ck + 20000 < m.mr) (h16 : m.ar < 0) : Calls Try.prog 11 #[.agg (machC V m)] w fun e w' => e = .returned (.int .i64 3) ∧ Below w.heap.size w w' := by
  obtain ⟨a0, q0, v0, -⟩ := hm 0 (by omega); obtain ⟨a1, q1, v1, -⟩ := hm 1 (by omega); obtain ⟨a2, q2, v2, -⟩ := hm 2 (by omega); obtain ⟨a3, q3, v3, -⟩ := hm 3 (by omega); obtain ⟨a4, q4, v4, -⟩ := hm 4 (by omega); have m30 := mx30 V m; have m31 := mx31 V m; have m32 := mx32 V m; have m33 := mx33 V m; have m34 := mx34 V m; rw [v0, ← e0] at m30; rw [v1, ← e1] at m31; rw [v2, ← e2] at m32; rw [v3, ← e3] at m33; rw [v4, ← e4] at m34; have m60 := mx60 V m; have m72 := mx72 V m; have m73 := mx73 V m; have m74 := mx74 V m; clear v0 v1 v2 v3 v4 hm e0 e1 e2 e3 e4
  subst h1
  subst h2
  subst h3
  have hm0 : IntKind.i64.wrap (m.ck + 20000) = m.ck + 20000 := by rw [IntKind.wrap_i64]; omega
  go_enter Try.func11, Try.ntmps11
  go_wp2_with (first | ((with_reducible show wpList _ _ _ _ _ _); refine wpList_loadA rfl 38 (.tmp 28) rfl (w.heap.size) (61) 4 rfl 41 (machC V m) #[.int .i64 m.bm.ln, .int .i64 m.bm.pt, .bool m.bm.rg, .int .i64 m.bm.fr] (show Blk _ (w.heap.size) (machC V m) 41 from (by repeat' (first | (with_reducible first | exact Hid.out (by assumption) | exact Blk.new _ _ _ | (refine Blk.new_at _ _ _ _ ?_; simp; done) | refine Blk.alloc ?_ _ | refine Blk.drewN ?_ _ | refine Blk.drew ?_ | apply Blk.set | refine Blk.put ?_ (by assumption) (by first | (simp; done) | (simp; omega) | omega) | refine Blk.below ?_ (by assumption)) | (refine Blk.setAt ?_ (by first | (simp; done) | (simp; omega))) | rfl))) _ Try.underlying38 rfl (by kernel_rfl) rfl rfl ?_))
  all_goals
    go_ret
    exact ⟨rfl, by repeat' (first | (with_reducible first | exact Below.refl _ _ | assumption | refine below_alloc ?_ _ | refine Below.drew ?_ | refine below_drewN ?_ _ | refine below_then ?_ (by assumption) | refine below_put ?_ (by assumption) (by first | (simp; done) | (simp; omega) | omega) | refine Below.setCell ?_ ?_ _) | (simp; done) | (simp; omega) | omega)⟩
theorem rc_17 (V : Nat → Value) (m : Mach) (w : World) (hm : MV w V m) (n0 n1 n2 n3 n4 : Nat) (e0 : n0 = (m.mem 0).length) (e1 : n1 = (m.mem 1).length) (e2 : n2 = (m.mem 2).length) (e3 : n3 = (m.mem 3).length) (e4 : n4 = (m.mem 4).length) (h0 : ¬ 1024 < max (n0 : Int) n1) (h1 : n2 = 128) (h2 : n3 = 64) (h3 : n4 = 256) (h4 : ¬ m.sd.wt < 0) (h5 : ¬ 15 < m.sd.wt) (h6 : ¬ m.bm.ln < 0) (h7 : ¬ 9 < m.bm.ln) (h8 : ¬ m.bm.pt < 0) (h9 : ¬ 63 < m.bm.pt) (h10 : ¬ m.bm.fr < 0) (h11 : ¬ 20000 < m.bm.fr) (h12 : ¬ m.ck < 0) (h13 : ¬ 200000 < m.ck) (h14 : ¬ m.mr < 0) (h15 : ¬ m.ck + 20000 < m.mr) (h16 : ¬ m.ar < 0) (h17 : m.ck + 20000 < m.ar) : Calls Try.prog 11 #[.agg (machC V m)] w fun e w' => e = .returned (.int .i64 3) ∧ Below w.heap.size w w' := by
  obtain ⟨a0, q0, v0, -⟩ := hm 0 (by omega); obtain ⟨a1, q1, v1, -⟩ := hm 1 (by omega); obtain ⟨a2, q2, v2, -⟩ := hm 2 (by omega); obtain ⟨a3, q3, v3, -⟩ := hm 3 (by omega); obtain ⟨a4, q4, v4, -⟩ := hm 4 (by omega); have m30 := mx30 V m; have m31 := mx31 V m; have m32 := mx32 V m; have m33 := mx33 V m; have m34 := mx34 V m; rw [v0, ← e0] at m30; rw [v1, ← e1] at m31; rw [v2, ← e2] at m32; rw [v3, ← e3] at m33; rw [v4, ← e4] at m34; have m60 := mx60 V m; have m72 := mx72 V m; have m73 := mx73 V m; have m74 := mx74 V m; clear v0 v1 v2 v3 v4 hm e0 e1 e2 e3 e4
  subst h1
  subst h2
  subst h3
  have hm0 : IntKind.i64.wrap (m.ck + 20000) = m.ck + 20000 := by rw [IntKind.wrap_i64]; omega
  go_enter Try.func11, Try.ntmps11
  go_wp2_with (first | ((with_reducible show wpList _ _ _ _ _ _); refine wpList_loadA rfl 38 (.tmp 28) rfl (w.heap.size) (61) 4 rfl 41 (machC V m) #[.int .i64 m.bm.ln, .int .i64 m.bm.pt, .bool m.bm.rg, .int .i64 m.bm.fr] (show Blk _ (w.heap.size) (machC V m) 41 from (by repeat' (first | (with_reducible first | exact Hid.out (by assumption) | exact Blk.new _ _ _ | (refine Blk.new_at _ _ _ _ ?_; simp; done) | refine Blk.alloc ?_ _ | refine Blk.drewN ?_ _ | refine Blk.drew ?_ | apply Blk.set | refine Blk.put ?_ (by assumption) (by first | (simp; done) | (simp; omega) | omega) | refine Blk.below ?_ (by assumption)) | (refine Blk.setAt ?_ (by first | (simp; done) | (simp; omega))) | rfl))) _ Try.underlying38 rfl (by kernel_rfl) rfl rfl ?_))
  all_goals
    go_ret
    exact ⟨rfl, by repeat' (first | (with_reducible first | exact Below.refl _ _ | assumption | refine below_alloc ?_ _ | refine Below.drew ?_ | refine below_drewN ?_ _ | refine below_then ?_ (by assumption) | refine below_put ?_ (by assumption) (by first | (simp; done) | (simp; omega) | omega) | refine Below.setCell ?_ ?_ _) | (simp; done) | (simp; omega) | omega)⟩
theorem rc_18 (V : Nat → Value) (m : Mach) (w : World) (hm : MV w V m) (n0 n1 n2 n3 n4 : Nat) (e0 : n0 = (m.mem 0).length) (e1 : n1 = (m.mem 1).length) (e2 : n2 = (m.mem 2).length) (e3 : n3 = (m.mem 3).length) (e4 : n4 = (m.mem 4).length) (h0 : ¬ 1024 < max (n0 : Int) n1) (h1 : n2 = 128) (h2 : n3 = 64) (h3 : n4 = 256) (h4 : ¬ m.sd.wt < 0) (h5 : ¬ 15 < m.sd.wt) (h6 : ¬ m.bm.ln < 0) (h7 : ¬ 9 < m.bm.ln) (h8 : ¬ m.bm.pt < 0) (h9 : ¬ 63 < m.bm.pt) (h10 : ¬ m.bm.fr < 0) (h11 : ¬ 20000 < m.bm.fr) (h12 : ¬ m.ck < 0) (h13 : ¬ 200000 < m.ck) (h14 : ¬ m.mr < 0) (h15 : ¬ m.ck + 20000 < m.mr) (h16 : ¬ m.ar < 0) (h17 : ¬ m.ck + 20000 < m.ar) : Calls Try.prog 11 #[.agg (machC V m)] w fun e w' => e = .returned (.int .i64 0) ∧ Below w.heap.size w w' := by
  obtain ⟨a0, q0, v0, -⟩ := hm 0 (by omega); obtain ⟨a1, q1, v1, -⟩ := hm 1 (by omega); obtain ⟨a2, q2, v2, -⟩ := hm 2 (by omega); obtain ⟨a3, q3, v3, -⟩ := hm 3 (by omega); obtain ⟨a4, q4, v4, -⟩ := hm 4 (by omega); have m30 := mx30 V m; have m31 := mx31 V m; have m32 := mx32 V m; have m33 := mx33 V m; have m34 := mx34 V m; rw [v0, ← e0] at m30; rw [v1, ← e1] at m31; rw [v2, ← e2] at m32; rw [v3, ← e3] at m33; rw [v4, ← e4] at m34; have m60 := mx60 V m; have m72 := mx72 V m; have m73 := mx73 V m; have m74 := mx74 V m; clear v0 v1 v2 v3 v4 hm e0 e1 e2 e3 e4
  subst h1
  subst h2
  subst h3
  have hm0 : IntKind.i64.wrap (m.ck + 20000) = m.ck + 20000 := by rw [IntKind.wrap_i64]; omega
  go_enter Try.func11, Try.ntmps11
  go_wp2_with (first | ((with_reducible show wpList _ _ _ _ _ _); refine wpList_loadA rfl 38 (.tmp 28) rfl (w.heap.size) (61) 4 rfl 41 (machC V m) #[.int .i64 m.bm.ln, .int .i64 m.bm.pt, .bool m.bm.rg, .int .i64 m.bm.fr] (show Blk _ (w.heap.size) (machC V m) 41 from (by repeat' (first | (with_reducible first | exact Hid.out (by assumption) | exact Blk.new _ _ _ | (refine Blk.new_at _ _ _ _ ?_; simp; done) | refine Blk.alloc ?_ _ | refine Blk.drewN ?_ _ | refine Blk.drew ?_ | apply Blk.set | refine Blk.put ?_ (by assumption) (by first | (simp; done) | (simp; omega) | omega) | refine Blk.below ?_ (by assumption)) | (refine Blk.setAt ?_ (by first | (simp; done) | (simp; omega))) | rfl))) _ Try.underlying38 rfl (by kernel_rfl) rfl rfl ?_))
  all_goals
    go_ret
    exact ⟨rfl, by repeat' (first | (with_reducible first | exact Below.refl _ _ | assumption | refine below_alloc ?_ _ | refine Below.drew ?_ | refine below_drewN ?_ _ | refine below_then ?_ (by assumption) | refine below_put ?_ (by assumption) (by first | (simp; done) | (simp; omega) | omega) | refine Below.setCell ?_ ?_ _) | (simp; done) | (simp; omega) | omega)⟩
end Go.Proofs.Ytimccpmdgfneoaa
