/- A machine checked. Conditions: its memories are slices of bytes. -/
import Derived.Test.YtimccpmdgfneoaaPartW
import Derived.Test.YtimccpmdgfneoaaTone3
import Derived.Test.YtimccpmdgfneoaaBusCopy
import Derived.Test.YtimccpmdgfneoaaBxPure
namespace Go.Mq
open Go.RowKit
instance (b : Bm) : Decidable b.Ok := by unfold Bm.Ok Bm.In; infer_instance
def inTime (m : Mach) : Prop := (0 ≤ m.ck ∧ m.ck ≤ 200000) ∧ (0 ≤ m.mr ∧ m.mr ≤ m.ck + 20000) ∧ 0 ≤ m.ar ∧ m.ar ≤ m.ck + 20000
instance (m : Mach) : Decidable (inTime m) := by unfold inTime; infer_instance
def chk (m : Mach) : Int :=
  if 1024 < (m.mem 0).length ∨ 1024 < (m.mem 1).length then 2 else if (m.mem 2).length ≠ 128 ∨ (m.mem 3).length ≠ 64 ∨ (m.mem 4).length ≠ 256 then 4
  else if m.sd.wt < 0 ∨ 15 < m.sd.wt then 3 else if ¬ m.bm.Ok then 3 else if ¬ inTime m then 3 else 0
structure Mach.Right (m : Mach) : Prop where
  fit : m.Fit
  wt : 0 ≤ m.sd.wt ∧ m.sd.wt ≤ 15
  bm : m.bm.Ok
  time : inTime m
theorem chk_zero (m : Mach) : chk m = 0 ↔ m.Right := by
  unfold chk
  constructor
  · intro h
    by_cases h1 : 1024 < (m.mem 0).length ∨ 1024 < (m.mem 1).length
    · rw [if_pos h1] at h; cases h
    rw [if_neg h1] at h
    by_cases h2 : (m.mem 2).length ≠ 128 ∨ (m.mem 3).length ≠ 64 ∨ (m.mem 4).length ≠ 256
    · rw [if_pos h2] at h; cases h
    rw [if_neg h2] at h
    by_cases h3 : m.sd.wt < 0 ∨ 15 < m.sd.wt
    · rw [if_pos h3] at h; cases h
    rw [if_neg h3] at h
    by_cases h4 : ¬ m.bm.Ok
    · rw [if_pos h4] at h; cases h
    rw [if_neg h4] at h
    by_cases h5 : ¬ inTime m
    · rw [if_pos h5] at h; cases h
    exact ⟨⟨by omega, by omega, by omega, by omega, by omega⟩, by omega, Decidable.of_not_not h4, Decidable.of_not_not h5⟩
  · rintro ⟨⟨a, b, c, d, e⟩, f, g, h⟩
    rw [if_neg (by omega), if_neg (by omega), if_neg (by omega), if_neg (by simpa using g), if_neg (by simpa using h)]
theorem chk_range (m : Mach) : chk m = 0 ∨ chk m = 2 ∨ chk m = 3 ∨ chk m = 4 := by
  unfold chk
  repeat' split
  all_goals simp
end Go.Mq
namespace Go.Proofs.Ytimccpmdgfneoaa
open Go.RowKit Go.Mq
set_option linter.unusedVariables false
set_option linter.unusedSimpArgs false
set_option maxHeartbeats 1000000
set_option maxRecDepth 100000
theorem soon_any (n ck : Int) (h0 : 0 ≤ ck) (h1 : ck ≤ 200000) (b : Nat) (w : World) (cc : w.cell? ⟨b, 72, none⟩ = some (.int .i64 ck)) :
    Calls Try.prog 26 #[.int .i64 n, .pointer (some ⟨b, 0, none⟩)] w fun e w' => e = .returned (.bool (decide (0 ≤ n ∧ n ≤ ck + 20000))) ∧ w = w' := by
  by_cases c1 : 0 ≤ n
  · by_cases c2 : n ≤ ck + 20000
    · rw [show decide (0 ≤ n ∧ n ≤ ck + 20000) = true from by simp; exact ⟨c1, c2⟩]
      go_enter Try.func26, Try.ntmps26
      go_wp2
      go_ret
      exact ⟨rfl, rfl⟩
    · rw [show decide (0 ≤ n ∧ n ≤ ck + 20000) = false from by simp; omega]
      go_enter Try.func26, Try.ntmps26
      go_wp2
      go_ret
      exact ⟨rfl, rfl⟩
  · rw [show decide (0 ≤ n ∧ n ≤ ck + 20000) = false from by simp; omega]
    go_enter Try.func26, Try.ntmps26
    go_wp2
    go_ret
    exact ⟨rfl, rfl⟩
theorem chk_many (V : Nat → Value) (m : Mach) (w : World) (hm : MV w V m) (h : 1024 < (m.mem 0).length ∨ 1024 < (m.mem 1).length) : Calls Try.prog 10 #[.agg (machC V m)] w fun e w' => e = .returned (.int .i64 2) ∧ Below w.heap.size w w' := by
  obtain ⟨a0, q0, v0, -⟩ := hm 0 (by omega); obtain ⟨a1, q1, v1, -⟩ := hm 1 (by omega); obtain ⟨a2, q2, v2, -⟩ := hm 2 (by omega); obtain ⟨a3, q3, v3, -⟩ := hm 3 (by omega); obtain ⟨a4, q4, v4, -⟩ := hm 4 (by omega); have m30 := mx30 V m; have m31 := mx31 V m; have m32 := mx32 V m; have m33 := mx33 V m; have m34 := mx34 V m; rw [v0] at m30; rw [v1] at m31; rw [v2] at m32; rw [v3] at m33; rw [v4] at m34; have m72 := mx72 V m; have m73 := mx73 V m; have m74 := mx74 V m; clear v0 v1 v2 v3 v4 hm
  obtain ⟨n0, e0⟩ : ∃ n, n = (m.mem 0).length := ⟨_, rfl⟩
  obtain ⟨n1, e1⟩ : ∃ n, n = (m.mem 1).length := ⟨_, rfl⟩
  rw [← e0] at h m30
  rw [← e1] at h m31
  clear e0 e1
  by_cases h0 : 1024 < n0
  · have i0 : (1024 : Int) < n0 := by omega
    clear h
    go_enter Try.func10, Try.ntmps10
    go_wp2
    go_ret
    exact ⟨rfl, by repeat' (first | (with_reducible first | exact Below.refl _ _ | assumption | refine below_alloc ?_ _ | refine Below.drew ?_ | refine below_drewN ?_ _ | refine below_then ?_ (by assumption) | refine below_put ?_ (by assumption) (by first | (simp; done) | (simp; omega) | omega) | refine Below.setCell ?_ ?_ _) | (simp; done) | (simp; omega) | omega)⟩
  · have i0 : ¬ (1024 : Int) < n0 := by omega
    have i1 : (1024 : Int) < n1 := by omega
    clear h
    go_enter Try.func10, Try.ntmps10
    go_wp2
    go_ret
    exact ⟨rfl, by repeat' (first | (with_reducible first | exact Below.refl _ _ | assumption | refine below_alloc ?_ _ | refine Below.drew ?_ | refine below_drewN ?_ _ | refine below_then ?_ (by assumption) | refine below_put ?_ (by assumption) (by first | (simp; done) | (simp; omega) | omega) | refine Below.setCell ?_ ?_ _) | (simp; done) | (simp; omega) | omega)⟩
theorem chk_forma (V : Nat → Value) (m : Mach) (w : World) (hm : MV w V m) (n2 n3 n4 : Nat) (e2 : n2 = (m.mem 2).length) (e3 : n3 = (m.mem 3).length) (e4 : n4 = (m.mem 4).length) (h0 : (m.mem 0).length ≤ 1024) (h1 : (m.mem 1).length ≤ 1024) (h : n2 ≠ 128) : Calls Try.prog 10 #[.agg (machC V m)] w fun e w' => e = .returned (.int .i64 4) ∧ Below w.heap.size w w' := by
  obtain ⟨a0, q0, v0, -⟩ := hm 0 (by omega); obtain ⟨a1, q1, v1, -⟩ := hm 1 (by omega); obtain ⟨a2, q2, v2, -⟩ := hm 2 (by omega); obtain ⟨a3, q3, v3, -⟩ := hm 3 (by omega); obtain ⟨a4, q4, v4, -⟩ := hm 4 (by omega); have m30 := mx30 V m; have m31 := mx31 V m; have m32 := mx32 V m; have m33 := mx33 V m; have m34 := mx34 V m; rw [v0] at m30; rw [v1] at m31; rw [v2] at m32; rw [v3] at m33; rw [v4] at m34; have m72 := mx72 V m; have m73 := mx73 V m; have m74 := mx74 V m; clear v0 v1 v2 v3 v4 hm
  rw [← e2] at m32
  rw [← e3] at m33
  rw [← e4] at m34
  obtain ⟨n0, e0⟩ : ∃ n, n = (m.mem 0).length := ⟨_, rfl⟩
  obtain ⟨n1, e1⟩ : ∃ n, n = (m.mem 1).length := ⟨_, rfl⟩
  rw [← e0] at h0 m30
  rw [← e1] at h1 m31
  clear e0 e1 e2 e3 e4
  have i0 : ¬ (1024 : Int) < n0 := by omega
  have i1 : ¬ (1024 : Int) < n1 := by omega
  have j2 : ((n2 : Int) != 128) = true := by rw [bne_iff_ne]; omega
  clear h
  go_enter Try.func10, Try.ntmps10
  go_wp2
  go_ret
  exact ⟨rfl, by repeat' (first | (with_reducible first | exact Below.refl _ _ | assumption | refine below_alloc ?_ _ | refine Below.drew ?_ | refine below_drewN ?_ _ | refine below_then ?_ (by assumption) | refine below_put ?_ (by assumption) (by first | (simp; done) | (simp; omega) | omega) | refine Below.setCell ?_ ?_ _) | (simp; done) | (simp; omega) | omega)⟩
theorem chk_formb (V : Nat → Value) (m : Mach) (w : World) (hm : MV w V m) (n2 n3 n4 : Nat) (e2 : n2 = (m.mem 2).length) (e3 : n3 = (m.mem 3).length) (e4 : n4 = (m.mem 4).length) (h0 : (m.mem 0).length ≤ 1024) (h1 : (m.mem 1).length ≤ 1024) (h : n2 = 128 ∧ n3 ≠ 64) : Calls Try.prog 10 #[.agg (machC V m)] w fun e w' => e = .returned (.int .i64 4) ∧ Below w.heap.size w w' := by
  obtain ⟨a0, q0, v0, -⟩ := hm 0 (by omega); obtain ⟨a1, q1, v1, -⟩ := hm 1 (by omega); obtain ⟨a2, q2, v2, -⟩ := hm 2 (by omega); obtain ⟨a3, q3, v3, -⟩ := hm 3 (by omega); obtain ⟨a4, q4, v4, -⟩ := hm 4 (by omega); have m30 := mx30 V m; have m31 := mx31 V m; have m32 := mx32 V m; have m33 := mx33 V m; have m34 := mx34 V m; rw [v0] at m30; rw [v1] at m31; rw [v2] at m32; rw [v3] at m33; rw [v4] at m34; have m72 := mx72 V m; have m73 := mx73 V m; have m74 := mx74 V m; clear v0 v1 v2 v3 v4 hm
  rw [← e2] at m32
  rw [← e3] at m33
  rw [← e4] at m34
  obtain ⟨n0, e0⟩ : ∃ n, n = (m.mem 0).length := ⟨_, rfl⟩
  obtain ⟨n1, e1⟩ : ∃ n, n = (m.mem 1).length := ⟨_, rfl⟩
  rw [← e0] at h0 m30
  rw [← e1] at h1 m31
  clear e0 e1 e2 e3 e4
  have i0 : ¬ (1024 : Int) < n0 := by omega
  have i1 : ¬ (1024 : Int) < n1 := by omega
  have j2 : ((n2 : Int) != 128) = false := (by obtain ⟨h1, h2⟩ := h; subst h1; rfl); have j3 : ((n3 : Int) != 64) = true := by rw [bne_iff_ne]; omega
  clear h
  go_enter Try.func10, Try.ntmps10
  go_wp2
  go_ret
  exact ⟨rfl, by repeat' (first | (with_reducible first | exact Below.refl _ _ | assumption | refine below_alloc ?_ _ | refine Below.drew ?_ | refine below_drewN ?_ _ | refine below_then ?_ (by assumption) | refine below_put ?_ (by assumption) (by first | (simp; done) | (simp; omega) | omega) | refine Below.setCell ?_ ?_ _) | (simp; done) | (simp; omega) | omega)⟩
theorem chk_formc (V : Nat → Value) (m : Mach) (w : World) (hm : MV w V m) (n2 n3 n4 : Nat) (e2 : n2 = (m.mem 2).length) (e3 : n3 = (m.mem 3).length) (e4 : n4 = (m.mem 4).length) (h0 : (m.mem 0).length ≤ 1024) (h1 : (m.mem 1).length ≤ 1024) (h : n2 = 128 ∧ n3 = 64 ∧ n4 ≠ 256) : Calls Try.prog 10 #[.agg (machC V m)] w fun e w' => e = .returned (.int .i64 4) ∧ Below w.heap.size w w' := by
  obtain ⟨a0, q0, v0, -⟩ := hm 0 (by omega); obtain ⟨a1, q1, v1, -⟩ := hm 1 (by omega); obtain ⟨a2, q2, v2, -⟩ := hm 2 (by omega); obtain ⟨a3, q3, v3, -⟩ := hm 3 (by omega); obtain ⟨a4, q4, v4, -⟩ := hm 4 (by omega); have m30 := mx30 V m; have m31 := mx31 V m; have m32 := mx32 V m; have m33 := mx33 V m; have m34 := mx34 V m; rw [v0] at m30; rw [v1] at m31; rw [v2] at m32; rw [v3] at m33; rw [v4] at m34; have m72 := mx72 V m; have m73 := mx73 V m; have m74 := mx74 V m; clear v0 v1 v2 v3 v4 hm
  rw [← e2] at m32
  rw [← e3] at m33
  rw [← e4] at m34
  obtain ⟨n0, e0⟩ : ∃ n, n = (m.mem 0).length := ⟨_, rfl⟩
  obtain ⟨n1, e1⟩ : ∃ n, n = (m.mem 1).length := ⟨_, rfl⟩
  rw [← e0] at h0 m30
  rw [← e1] at h1 m31
  clear e0 e1 e2 e3 e4
  have i0 : ¬ (1024 : Int) < n0 := by omega
  have i1 : ¬ (1024 : Int) < n1 := by omega
  have j2 : ((n2 : Int) != 128) = false := (by obtain ⟨h1, h2, h3⟩ := h; subst h1; rfl); have j3 : ((n3 : Int) != 64) = false := (by obtain ⟨h1, h2, h3⟩ := h; subst h2; rfl); have j4 : ((n4 : Int) != 256) = true := by rw [bne_iff_ne]; omega
  clear h
  go_enter Try.func10, Try.ntmps10
  go_wp2
  go_ret
  exact ⟨rfl, by repeat' (first | (with_reducible first | exact Below.refl _ _ | assumption | refine below_alloc ?_ _ | refine Below.drew ?_ | refine below_drewN ?_ _ | refine below_then ?_ (by assumption) | refine below_put ?_ (by assumption) (by first | (simp; done) | (simp; omega) | omega) | refine Below.setCell ?_ ?_ _) | (simp; done) | (simp; omega) | omega)⟩
theorem chk_wt (V : Nat → Value) (m : Mach) (w : World) (hm : MV w V m) (hf : m.Fit) (h : m.sd.wt < 0 ∨ 15 < m.sd.wt) : Calls Try.prog 10 #[.agg (machC V m)] w fun e w' => e = .returned (.int .i64 3) ∧ Below w.heap.size w w' := by
  obtain ⟨a0, q0, v0, -⟩ := hm 0 (by omega); obtain ⟨a1, q1, v1, -⟩ := hm 1 (by omega); obtain ⟨a2, q2, v2, -⟩ := hm 2 (by omega); obtain ⟨a3, q3, v3, -⟩ := hm 3 (by omega); obtain ⟨a4, q4, v4, -⟩ := hm 4 (by omega); have m30 := mx30 V m; have m31 := mx31 V m; have m32 := mx32 V m; have m33 := mx33 V m; have m34 := mx34 V m; rw [v0] at m30; rw [v1] at m31; rw [v2] at m32; rw [v3] at m33; rw [v4] at m34; have m72 := mx72 V m; have m73 := mx73 V m; have m74 := mx74 V m; clear v0 v1 v2 v3 v4 hm
  have h0 := hf.l0; have h1 := hf.l1; have h2 := hf.l2; have h3 := hf.l3; have h4 := hf.l4; rw [h2] at m32; rw [h3] at m33; rw [h4] at m34; clear h2 h3 h4 hf
  obtain ⟨n0, e0⟩ : ∃ n, n = (m.mem 0).length := ⟨_, rfl⟩; obtain ⟨n1, e1⟩ : ∃ n, n = (m.mem 1).length := ⟨_, rfl⟩; rw [← e0] at h0 m30; rw [← e1] at h1 m31; clear e0 e1; have i0 : ¬ (1024 : Int) < n0 := (by omega); have i1 : ¬ (1024 : Int) < n1 := by omega
  have SC := Lib.hid (scheck_bad m.sd h)
  clear h
  go_enter Try.func10, Try.ntmps10
  go_wp2_with (first | ((with_reducible show wpList _ _ _ _ _ _); refine wpList_loadA rfl 36 (.tmp 32) rfl (w.heap.size) (45) 16 rfl 41 (machC V m) #[.int .u16 m.sd.a.pd, .int .u16 m.sd.a.ct, .int .u8 m.sd.a.ld, .bool m.sd.a.hi, .int .u16 m.sd.a.nz, .int .u16 m.sd.b.pd, .int .u16 m.sd.b.ct, .int .u8 m.sd.b.ld, .bool m.sd.b.hi, .int .u16 m.sd.b.nz, .int .u16 m.sd.c.pd, .int .u16 m.sd.c.ct, .int .u8 m.sd.c.ld, .bool m.sd.c.hi, .int .u16 m.sd.c.nz, .int .i64 m.sd.wt] (show Blk _ (w.heap.size) (machC V m) 41 from (by repeat' (first | (with_reducible first | exact Hid.out (by assumption) | exact Blk.new _ _ _ | (refine Blk.new_at _ _ _ _ ?_; simp; done) | refine Blk.alloc ?_ _ | refine Blk.drewN ?_ _ | refine Blk.drew ?_ | apply Blk.set | refine Blk.put ?_ (by assumption) (by first | (simp; done) | (simp; omega) | omega) | refine Blk.below ?_ (by assumption)) | (refine Blk.setAt ?_ (by first | (simp; done) | (simp; omega))) | rfl))) _ Try.underlying36 rfl (by kernel_rfl) rfl rfl ?_))
  refine (SC.out _).mono ?_
  rintro e w1 ⟨rfl, hb1⟩
  go_wp2
  go_ret
  exact ⟨rfl, by repeat' (first | (with_reducible first | exact Below.refl _ _ | assumption | refine below_alloc ?_ _ | refine Below.drew ?_ | refine below_drewN ?_ _ | refine below_then ?_ (by assumption) | refine below_put ?_ (by assumption) (by first | (simp; done) | (simp; omega) | omega) | refine Below.setCell ?_ ?_ _) | (simp; done) | (simp; omega) | omega)⟩
theorem chk_bm (V : Nat → Value) (m : Mach) (w : World) (hm : MV w V m) (hf : m.Fit) (hs : 0 ≤ m.sd.wt ∧ m.sd.wt ≤ 15) (h : ¬ m.bm.Ok) : Calls Try.prog 10 #[.agg (machC V m)] w fun e w' => e = .returned (.int .i64 3) ∧ Below w.heap.size w w' := by
  obtain ⟨a0, q0, v0, -⟩ := hm 0 (by omega); obtain ⟨a1, q1, v1, -⟩ := hm 1 (by omega); obtain ⟨a2, q2, v2, -⟩ := hm 2 (by omega); obtain ⟨a3, q3, v3, -⟩ := hm 3 (by omega); obtain ⟨a4, q4, v4, -⟩ := hm 4 (by omega); have m30 := mx30 V m; have m31 := mx31 V m; have m32 := mx32 V m; have m33 := mx33 V m; have m34 := mx34 V m; rw [v0] at m30; rw [v1] at m31; rw [v2] at m32; rw [v3] at m33; rw [v4] at m34; have m72 := mx72 V m; have m73 := mx73 V m; have m74 := mx74 V m; clear v0 v1 v2 v3 v4 hm
  have h0 := hf.l0; have h1 := hf.l1; have h2 := hf.l2; have h3 := hf.l3; have h4 := hf.l4; rw [h2] at m32; rw [h3] at m33; rw [h4] at m34; clear h2 h3 h4 hf
  obtain ⟨n0, e0⟩ : ∃ n, n = (m.mem 0).length := ⟨_, rfl⟩; obtain ⟨n1, e1⟩ : ∃ n, n = (m.mem 1).length := ⟨_, rfl⟩; rw [← e0] at h0 m30; rw [← e1] at h1 m31; clear e0 e1; have i0 : ¬ (1024 : Int) < n0 := (by omega); have i1 : ¬ (1024 : Int) < n1 := by omega
  have SC := Lib.hid (scheck_ok m.sd hs.1 hs.2)
  have BC := Lib.hid (bcheck_bad m.bm h)
  clear h hs
  go_enter Try.func10, Try.ntmps10
  go_wp2_with (first | ((with_reducible show wpList _ _ _ _ _ _); refine wpList_loadA rfl 36 (.tmp 32) rfl (w.heap.size) (45) 16 rfl 41 (machC V m) #[.int .u16 m.sd.a.pd, .int .u16 m.sd.a.ct, .int .u8 m.sd.a.ld, .bool m.sd.a.hi, .int .u16 m.sd.a.nz, .int .u16 m.sd.b.pd, .int .u16 m.sd.b.ct, .int .u8 m.sd.b.ld, .bool m.sd.b.hi, .int .u16 m.sd.b.nz, .int .u16 m.sd.c.pd, .int .u16 m.sd.c.ct, .int .u8 m.sd.c.ld, .bool m.sd.c.hi, .int .u16 m.sd.c.nz, .int .i64 m.sd.wt] (show Blk _ (w.heap.size) (machC V m) 41 from (by repeat' (first | (with_reducible first | exact Hid.out (by assumption) | exact Blk.new _ _ _ | (refine Blk.new_at _ _ _ _ ?_; simp; done) | refine Blk.alloc ?_ _ | refine Blk.drewN ?_ _ | refine Blk.drew ?_ | apply Blk.set | refine Blk.put ?_ (by assumption) (by first | (simp; done) | (simp; omega) | omega) | refine Blk.below ?_ (by assumption)) | (refine Blk.setAt ?_ (by first | (simp; done) | (simp; omega))) | rfl))) _ Try.underlying36 rfl (by kernel_rfl) rfl rfl ?_))
  refine (SC.out _).mono ?_
  rintro e w1 ⟨rfl, hb1⟩
  have K1 := Lib.hid ((Blk.new w (machC V m) 41).below hb1)
  go_wp2_with (first | ((with_reducible show wpList _ _ _ _ _ _); refine wpList_loadA rfl 38 (.tmp 38) rfl (w.heap.size) (61) 4 rfl 41 (machC V m) #[.int .i64 m.bm.ln, .int .i64 m.bm.pt, .bool m.bm.rg, .int .i64 m.bm.fr] (show Blk _ (w.heap.size) (machC V m) 41 from (by repeat' (first | (with_reducible first | exact Hid.out (by assumption) | exact Blk.new _ _ _ | (refine Blk.new_at _ _ _ _ ?_; simp; done) | refine Blk.alloc ?_ _ | refine Blk.drewN ?_ _ | refine Blk.drew ?_ | apply Blk.set | refine Blk.put ?_ (by assumption) (by first | (simp; done) | (simp; omega) | omega) | refine Blk.below ?_ (by assumption)) | (refine Blk.setAt ?_ (by first | (simp; done) | (simp; omega))) | rfl))) _ Try.underlying38 rfl (by kernel_rfl) rfl rfl ?_))
  refine (BC.out _).mono ?_
  rintro e w2 ⟨rfl, hb2⟩
  go_wp2
  go_ret
  exact ⟨rfl, by repeat' (first | (with_reducible first | exact Below.refl _ _ | assumption | refine below_alloc ?_ _ | refine Below.drew ?_ | refine below_drewN ?_ _ | refine below_then ?_ (by assumption) | refine below_put ?_ (by assumption) (by first | (simp; done) | (simp; omega) | omega) | refine Below.setCell ?_ ?_ _) | (simp; done) | (simp; omega) | omega)⟩
theorem chk_tlo (V : Nat → Value) (m : Mach) (w : World) (hm : MV w V m) (hf : m.Fit) (hs : 0 ≤ m.sd.wt ∧ m.sd.wt ≤ 15) (hbm : m.bm.Ok) (h : m.ck < 0) : Calls Try.prog 10 #[.agg (machC V m)] w fun e w' => e = .returned (.int .i64 3) ∧ Below w.heap.size w w' := by
  obtain ⟨a0, q0, v0, -⟩ := hm 0 (by omega); obtain ⟨a1, q1, v1, -⟩ := hm 1 (by omega); obtain ⟨a2, q2, v2, -⟩ := hm 2 (by omega); obtain ⟨a3, q3, v3, -⟩ := hm 3 (by omega); obtain ⟨a4, q4, v4, -⟩ := hm 4 (by omega); have m30 := mx30 V m; have m31 := mx31 V m; have m32 := mx32 V m; have m33 := mx33 V m; have m34 := mx34 V m; rw [v0] at m30; rw [v1] at m31; rw [v2] at m32; rw [v3] at m33; rw [v4] at m34; have m72 := mx72 V m; have m73 := mx73 V m; have m74 := mx74 V m; clear v0 v1 v2 v3 v4 hm
  have h0 := hf.l0; have h1 := hf.l1; have h2 := hf.l2; have h3 := hf.l3; have h4 := hf.l4; rw [h2] at m32; rw [h3] at m33; rw [h4] at m34; clear h2 h3 h4 hf
  obtain ⟨n0, e0⟩ : ∃ n, n = (m.mem 0).length := ⟨_, rfl⟩; obtain ⟨n1, e1⟩ : ∃ n, n = (m.mem 1).length := ⟨_, rfl⟩; rw [← e0] at h0 m30; rw [← e1] at h1 m31; clear e0 e1; have i0 : ¬ (1024 : Int) < n0 := (by omega); have i1 : ¬ (1024 : Int) < n1 := by omega
  have SC := Lib.hid (scheck_ok m.sd hs.1 hs.2)
  have BC := Lib.hid (bcheck_ok m.bm hbm)
  clear hbm hs
  go_enter Try.func10, Try.ntmps10
  go_wp2_with (first | ((with_reducible show wpList _ _ _ _ _ _); refine wpList_loadA rfl 36 (.tmp 32) rfl (w.heap.size) (45) 16 rfl 41 (machC V m) #[.int .u16 m.sd.a.pd, .int .u16 m.sd.a.ct, .int .u8 m.sd.a.ld, .bool m.sd.a.hi, .int .u16 m.sd.a.nz, .int .u16 m.sd.b.pd, .int .u16 m.sd.b.ct, .int .u8 m.sd.b.ld, .bool m.sd.b.hi, .int .u16 m.sd.b.nz, .int .u16 m.sd.c.pd, .int .u16 m.sd.c.ct, .int .u8 m.sd.c.ld, .bool m.sd.c.hi, .int .u16 m.sd.c.nz, .int .i64 m.sd.wt] (show Blk _ (w.heap.size) (machC V m) 41 from (by repeat' (first | (with_reducible first | exact Hid.out (by assumption) | exact Blk.new _ _ _ | (refine Blk.new_at _ _ _ _ ?_; simp; done) | refine Blk.alloc ?_ _ | refine Blk.drewN ?_ _ | refine Blk.drew ?_ | apply Blk.set | refine Blk.put ?_ (by assumption) (by first | (simp; done) | (simp; omega) | omega) | refine Blk.below ?_ (by assumption)) | (refine Blk.setAt ?_ (by first | (simp; done) | (simp; omega))) | rfl))) _ Try.underlying36 rfl (by kernel_rfl) rfl rfl ?_))
  refine (SC.out _).mono ?_
  rintro e w1 ⟨rfl, hb1⟩
  have K1 := Lib.hid ((Blk.new w (machC V m) 41).below hb1)
  go_wp2_with (first | ((with_reducible show wpList _ _ _ _ _ _); refine wpList_loadA rfl 38 (.tmp 38) rfl (w.heap.size) (61) 4 rfl 41 (machC V m) #[.int .i64 m.bm.ln, .int .i64 m.bm.pt, .bool m.bm.rg, .int .i64 m.bm.fr] (show Blk _ (w.heap.size) (machC V m) 41 from (by repeat' (first | (with_reducible first | exact Hid.out (by assumption) | exact Blk.new _ _ _ | (refine Blk.new_at _ _ _ _ ?_; simp; done) | refine Blk.alloc ?_ _ | refine Blk.drewN ?_ _ | refine Blk.drew ?_ | apply Blk.set | refine Blk.put ?_ (by assumption) (by first | (simp; done) | (simp; omega) | omega) | refine Blk.below ?_ (by assumption)) | (refine Blk.setAt ?_ (by first | (simp; done) | (simp; omega))) | rfl))) _ Try.underlying38 rfl (by kernel_rfl) rfl rfl ?_))
  refine (BC.out _).mono ?_
  rintro e w2 ⟨rfl, hb2⟩
  have K2 := Lib.hid (K1.out.below hb2)
  have c72 := (K2.out.cell 72).trans m72; have c73 := (K2.out.cell 73).trans m73; have c74 := (K2.out.cell 74).trans m74; have l2 := K2.out.lt
  have t1 : m.ck < 0 := h
  have B2 : Below w.heap.size w w2 := by repeat' (first | (with_reducible first | exact Below.refl _ _ | assumption | refine below_alloc ?_ _ | refine Below.drew ?_ | refine below_drewN ?_ _ | refine below_then ?_ (by assumption) | refine below_put ?_ (by assumption) (by first | (simp; done) | (simp; omega) | omega) | refine Below.setCell ?_ ?_ _) | (simp; done) | (simp; omega) | omega)
  clear hb1 hb2 SC BC K1 m72 m73 m74
  have HH := Lib.hid h
  go_wp2
  go_ret
  exact ⟨rfl, B2⟩
theorem chk_thi (V : Nat → Value) (m : Mach) (w : World) (hm : MV w V m) (hf : m.Fit) (hs : 0 ≤ m.sd.wt ∧ m.sd.wt ≤ 15) (hbm : m.bm.Ok) (h : 200000 < m.ck) : Calls Try.prog 10 #[.agg (machC V m)] w fun e w' => e = .returned (.int .i64 3) ∧ Below w.heap.size w w' := by
  obtain ⟨a0, q0, v0, -⟩ := hm 0 (by omega); obtain ⟨a1, q1, v1, -⟩ := hm 1 (by omega); obtain ⟨a2, q2, v2, -⟩ := hm 2 (by omega); obtain ⟨a3, q3, v3, -⟩ := hm 3 (by omega); obtain ⟨a4, q4, v4, -⟩ := hm 4 (by omega); have m30 := mx30 V m; have m31 := mx31 V m; have m32 := mx32 V m; have m33 := mx33 V m; have m34 := mx34 V m; rw [v0] at m30; rw [v1] at m31; rw [v2] at m32; rw [v3] at m33; rw [v4] at m34; have m72 := mx72 V m; have m73 := mx73 V m; have m74 := mx74 V m; clear v0 v1 v2 v3 v4 hm
  have h0 := hf.l0; have h1 := hf.l1; have h2 := hf.l2; have h3 := hf.l3; have h4 := hf.l4; rw [h2] at m32; rw [h3] at m33; rw [h4] at m34; clear h2 h3 h4 hf
  obtain ⟨n0, e0⟩ : ∃ n, n = (m.mem 0).length := ⟨_, rfl⟩; obtain ⟨n1, e1⟩ : ∃ n, n = (m.mem 1).length := ⟨_, rfl⟩; rw [← e0] at h0 m30; rw [← e1] at h1 m31; clear e0 e1; have i0 : ¬ (1024 : Int) < n0 := (by omega); have i1 : ¬ (1024 : Int) < n1 := by omega
  have SC := Lib.hid (scheck_ok m.sd hs.1 hs.2)
  have BC := Lib.hid (bcheck_ok m.bm hbm)
  clear hbm hs
  go_enter Try.func10, Try.ntmps10
  go_wp2_with (first | ((with_reducible show wpList _ _ _ _ _ _); refine wpList_loadA rfl 36 (.tmp 32) rfl (w.heap.size) (45) 16 rfl 41 (machC V m) #[.int .u16 m.sd.a.pd, .int .u16 m.sd.a.ct, .int .u8 m.sd.a.ld, .bool m.sd.a.hi, .int .u16 m.sd.a.nz, .int .u16 m.sd.b.pd, .int .u16 m.sd.b.ct, .int .u8 m.sd.b.ld, .bool m.sd.b.hi, .int .u16 m.sd.b.nz, .int .u16 m.sd.c.pd, .int .u16 m.sd.c.ct, .int .u8 m.sd.c.ld, .bool m.sd.c.hi, .int .u16 m.sd.c.nz, .int .i64 m.sd.wt] (show Blk _ (w.heap.size) (machC V m) 41 from (by repeat' (first | (with_reducible first | exact Hid.out (by assumption) | exact Blk.new _ _ _ | (refine Blk.new_at _ _ _ _ ?_; simp; done) | refine Blk.alloc ?_ _ | refine Blk.drewN ?_ _ | refine Blk.drew ?_ | apply Blk.set | refine Blk.put ?_ (by assumption) (by first | (simp; done) | (simp; omega) | omega) | refine Blk.below ?_ (by assumption)) | (refine Blk.setAt ?_ (by first | (simp; done) | (simp; omega))) | rfl))) _ Try.underlying36 rfl (by kernel_rfl) rfl rfl ?_))
  refine (SC.out _).mono ?_
  rintro e w1 ⟨rfl, hb1⟩
  have K1 := Lib.hid ((Blk.new w (machC V m) 41).below hb1)
  go_wp2_with (first | ((with_reducible show wpList _ _ _ _ _ _); refine wpList_loadA rfl 38 (.tmp 38) rfl (w.heap.size) (61) 4 rfl 41 (machC V m) #[.int .i64 m.bm.ln, .int .i64 m.bm.pt, .bool m.bm.rg, .int .i64 m.bm.fr] (show Blk _ (w.heap.size) (machC V m) 41 from (by repeat' (first | (with_reducible first | exact Hid.out (by assumption) | exact Blk.new _ _ _ | (refine Blk.new_at _ _ _ _ ?_; simp; done) | refine Blk.alloc ?_ _ | refine Blk.drewN ?_ _ | refine Blk.drew ?_ | apply Blk.set | refine Blk.put ?_ (by assumption) (by first | (simp; done) | (simp; omega) | omega) | refine Blk.below ?_ (by assumption)) | (refine Blk.setAt ?_ (by first | (simp; done) | (simp; omega))) | rfl))) _ Try.underlying38 rfl (by kernel_rfl) rfl rfl ?_))
  refine (BC.out _).mono ?_
  rintro e w2 ⟨rfl, hb2⟩
  have K2 := Lib.hid (K1.out.below hb2)
  have c72 := (K2.out.cell 72).trans m72; have c73 := (K2.out.cell 73).trans m73; have c74 := (K2.out.cell 74).trans m74; have l2 := K2.out.lt
  have t1 : ¬ m.ck < 0 := by omega
  have B2 : Below w.heap.size w w2 := by repeat' (first | (with_reducible first | exact Below.refl _ _ | assumption | refine below_alloc ?_ _ | refine Below.drew ?_ | refine below_drewN ?_ _ | refine below_then ?_ (by assumption) | refine below_put ?_ (by assumption) (by first | (simp; done) | (simp; omega) | omega) | refine Below.setCell ?_ ?_ _) | (simp; done) | (simp; omega) | omega)
  clear hb1 hb2 SC BC K1 m72 m73 m74
  have HH := Lib.hid h
  go_wp2
  go_ret
  exact ⟨rfl, B2⟩
theorem chk_tmr (V : Nat → Value) (m : Mach) (w : World) (hm : MV w V m) (hf : m.Fit) (hs : 0 ≤ m.sd.wt ∧ m.sd.wt ≤ 15) (hbm : m.bm.Ok) (h : (0 ≤ m.ck ∧ m.ck ≤ 200000) ∧ ¬ (0 ≤ m.mr ∧ m.mr ≤ m.ck + 20000)) : Calls Try.prog 10 #[.agg (machC V m)] w fun e w' => e = .returned (.int .i64 3) ∧ Below w.heap.size w w' := by
  obtain ⟨a0, q0, v0, -⟩ := hm 0 (by omega); obtain ⟨a1, q1, v1, -⟩ := hm 1 (by omega); obtain ⟨a2, q2, v2, -⟩ := hm 2 (by omega); obtain ⟨a3, q3, v3, -⟩ := hm 3 (by omega); obtain ⟨a4, q4, v4, -⟩ := hm 4 (by omega); have m30 := mx30 V m; have m31 := mx31 V m; have m32 := mx32 V m; have m33 := mx33 V m; have m34 := mx34 V m; rw [v0] at m30; rw [v1] at m31; rw [v2] at m32; rw [v3] at m33; rw [v4] at m34; have m72 := mx72 V m; have m73 := mx73 V m; have m74 := mx74 V m; clear v0 v1 v2 v3 v4 hm
  have h0 := hf.l0; have h1 := hf.l1; have h2 := hf.l2; have h3 := hf.l3; have h4 := hf.l4; rw [h2] at m32; rw [h3] at m33; rw [h4] at m34; clear h2 h3 h4 hf
  obtain ⟨n0, e0⟩ : ∃ n, n = (m.mem 0).length := ⟨_, rfl⟩; obtain ⟨n1, e1⟩ : ∃ n, n = (m.mem 1).length := ⟨_, rfl⟩; rw [← e0] at h0 m30; rw [← e1] at h1 m31; clear e0 e1; have i0 : ¬ (1024 : Int) < n0 := (by omega); have i1 : ¬ (1024 : Int) < n1 := by omega
  have SC := Lib.hid (scheck_ok m.sd hs.1 hs.2)
  have BC := Lib.hid (bcheck_ok m.bm hbm)
  clear hbm hs
  go_enter Try.func10, Try.ntmps10
  go_wp2_with (first | ((with_reducible show wpList _ _ _ _ _ _); refine wpList_loadA rfl 36 (.tmp 32) rfl (w.heap.size) (45) 16 rfl 41 (machC V m) #[.int .u16 m.sd.a.pd, .int .u16 m.sd.a.ct, .int .u8 m.sd.a.ld, .bool m.sd.a.hi, .int .u16 m.sd.a.nz, .int .u16 m.sd.b.pd, .int .u16 m.sd.b.ct, .int .u8 m.sd.b.ld, .bool m.sd.b.hi, .int .u16 m.sd.b.nz, .int .u16 m.sd.c.pd, .int .u16 m.sd.c.ct, .int .u8 m.sd.c.ld, .bool m.sd.c.hi, .int .u16 m.sd.c.nz, .int .i64 m.sd.wt] (show Blk _ (w.heap.size) (machC V m) 41 from (by repeat' (first | (with_reducible first | exact Hid.out (by assumption) | exact Blk.new _ _ _ | (refine Blk.new_at _ _ _ _ ?_; simp; done) | refine Blk.alloc ?_ _ | refine Blk.drewN ?_ _ | refine Blk.drew ?_ | apply Blk.set | refine Blk.put ?_ (by assumption) (by first | (simp; done) | (simp; omega) | omega) | refine Blk.below ?_ (by assumption)) | (refine Blk.setAt ?_ (by first | (simp; done) | (simp; omega))) | rfl))) _ Try.underlying36 rfl (by kernel_rfl) rfl rfl ?_))
  refine (SC.out _).mono ?_
  rintro e w1 ⟨rfl, hb1⟩
  have K1 := Lib.hid ((Blk.new w (machC V m) 41).below hb1)
  go_wp2_with (first | ((with_reducible show wpList _ _ _ _ _ _); refine wpList_loadA rfl 38 (.tmp 38) rfl (w.heap.size) (61) 4 rfl 41 (machC V m) #[.int .i64 m.bm.ln, .int .i64 m.bm.pt, .bool m.bm.rg, .int .i64 m.bm.fr] (show Blk _ (w.heap.size) (machC V m) 41 from (by repeat' (first | (with_reducible first | exact Hid.out (by assumption) | exact Blk.new _ _ _ | (refine Blk.new_at _ _ _ _ ?_; simp; done) | refine Blk.alloc ?_ _ | refine Blk.drewN ?_ _ | refine Blk.drew ?_ | apply Blk.set | refine Blk.put ?_ (by assumption) (by first | (simp; done) | (simp; omega) | omega) | refine Blk.below ?_ (by assumption)) | (refine Blk.setAt ?_ (by first | (simp; done) | (simp; omega))) | rfl))) _ Try.underlying38 rfl (by kernel_rfl) rfl rfl ?_))
  refine (BC.out _).mono ?_
  rintro e w2 ⟨rfl, hb2⟩
  have K2 := Lib.hid (K1.out.below hb2)
  have c72 := (K2.out.cell 72).trans m72; have c73 := (K2.out.cell 73).trans m73; have c74 := (K2.out.cell 74).trans m74; have l2 := K2.out.lt
  have S1 := Lib.hid (fun W k => soon_any m.mr m.ck h.1.1 h.1.2 w.heap.size W k)
  have B2 : Below w.heap.size w w2 := by repeat' (first | (with_reducible first | exact Below.refl _ _ | assumption | refine below_alloc ?_ _ | refine Below.drew ?_ | refine below_drewN ?_ _ | refine below_then ?_ (by assumption) | refine below_put ?_ (by assumption) (by first | (simp; done) | (simp; omega) | omega) | refine Below.setCell ?_ ?_ _) | (simp; done) | (simp; omega) | omega)
  clear hb1 hb2 SC BC K1 m72 m73 m74
  have HH := Lib.hid h
  have D1 : decide (0 ≤ m.mr ∧ m.mr ≤ m.ck + 20000) = false := by simp; omega
  rw [D1] at S1
  obtain ⟨⟨t1, t2⟩, t3⟩ := h
  clear t3 D1
  go_wp2_with fail
  refine (S1.out _ c72).mono ?_
  rintro e w3 ⟨rfl, rfl⟩
  go_wp2
  go_ret
  exact ⟨rfl, B2⟩
theorem chk_tar (V : Nat → Value) (m : Mach) (w : World) (hm : MV w V m) (hf : m.Fit) (hs : 0 ≤ m.sd.wt ∧ m.sd.wt ≤ 15) (hbm : m.bm.Ok) (h : (0 ≤ m.ck ∧ m.ck ≤ 200000) ∧ (0 ≤ m.mr ∧ m.mr ≤ m.ck + 20000) ∧ ¬ (0 ≤ m.ar ∧ m.ar ≤ m.ck + 20000)) : Calls Try.prog 10 #[.agg (machC V m)] w fun e w' => e = .returned (.int .i64 3) ∧ Below w.heap.size w w' := by
  obtain ⟨a0, q0, v0, -⟩ := hm 0 (by omega); obtain ⟨a1, q1, v1, -⟩ := hm 1 (by omega); obtain ⟨a2, q2, v2, -⟩ := hm 2 (by omega); obtain ⟨a3, q3, v3, -⟩ := hm 3 (by omega); obtain ⟨a4, q4, v4, -⟩ := hm 4 (by omega); have m30 := mx30 V m; have m31 := mx31 V m; have m32 := mx32 V m; have m33 := mx33 V m; have m34 := mx34 V m; rw [v0] at m30; rw [v1] at m31; rw [v2] at m32; rw [v3] at m33; rw [v4] at m34; have m72 := mx72 V m; have m73 := mx73 V m; have m74 := mx74 V m; clear v0 v1 v2 v3 v4 hm
  have h0 := hf.l0; have h1 := hf.l1; have h2 := hf.l2; have h3 := hf.l3; have h4 := hf.l4; rw [h2] at m32; rw [h3] at m33; rw [h4] at m34; clear h2 h3 h4 hf
  obtain ⟨n0, e0⟩ : ∃ n, n = (m.mem 0).length := ⟨_, rfl⟩; obtain ⟨n1, e1⟩ : ∃ n, n = (m.mem 1).length := ⟨_, rfl⟩; rw [← e0] at h0 m30; rw [← e1] at h1 m31; clear e0 e1; have i0 : ¬ (1024 : Int) < n0 := (by omega); have i1 : ¬ (1024 : Int) < n1 := by omega
  have SC := Lib.hid (scheck_ok m.sd hs.1 hs.2)
  have BC := Lib.hid (bcheck_ok m.bm hbm)
  clear hbm hs
  go_enter Try.func10, Try.ntmps10
  go_wp2_with (first | ((with_reducible show wpList _ _ _ _ _ _); refine wpList_loadA rfl 36 (.tmp 32) rfl (w.heap.size) (45) 16 rfl 41 (machC V m) #[.int .u16 m.sd.a.pd, .int .u16 m.sd.a.ct, .int .u8 m.sd.a.ld, .bool m.sd.a.hi, .int .u16 m.sd.a.nz, .int .u16 m.sd.b.pd, .int .u16 m.sd.b.ct, .int .u8 m.sd.b.ld, .bool m.sd.b.hi, .int .u16 m.sd.b.nz, .int .u16 m.sd.c.pd, .int .u16 m.sd.c.ct, .int .u8 m.sd.c.ld, .bool m.sd.c.hi, .int .u16 m.sd.c.nz, .int .i64 m.sd.wt] (show Blk _ (w.heap.size) (machC V m) 41 from (by repeat' (first | (with_reducible first | exact Hid.out (by assumption) | exact Blk.new _ _ _ | (refine Blk.new_at _ _ _ _ ?_; simp; done) | refine Blk.alloc ?_ _ | refine Blk.drewN ?_ _ | refine Blk.drew ?_ | apply Blk.set | refine Blk.put ?_ (by assumption) (by first | (simp; done) | (simp; omega) | omega) | refine Blk.below ?_ (by assumption)) | (refine Blk.setAt ?_ (by first | (simp; done) | (simp; omega))) | rfl))) _ Try.underlying36 rfl (by kernel_rfl) rfl rfl ?_))
  refine (SC.out _).mono ?_
  rintro e w1 ⟨rfl, hb1⟩
  have K1 := Lib.hid ((Blk.new w (machC V m) 41).below hb1)
  go_wp2_with (first | ((with_reducible show wpList _ _ _ _ _ _); refine wpList_loadA rfl 38 (.tmp 38) rfl (w.heap.size) (61) 4 rfl 41 (machC V m) #[.int .i64 m.bm.ln, .int .i64 m.bm.pt, .bool m.bm.rg, .int .i64 m.bm.fr] (show Blk _ (w.heap.size) (machC V m) 41 from (by repeat' (first | (with_reducible first | exact Hid.out (by assumption) | exact Blk.new _ _ _ | (refine Blk.new_at _ _ _ _ ?_; simp; done) | refine Blk.alloc ?_ _ | refine Blk.drewN ?_ _ | refine Blk.drew ?_ | apply Blk.set | refine Blk.put ?_ (by assumption) (by first | (simp; done) | (simp; omega) | omega) | refine Blk.below ?_ (by assumption)) | (refine Blk.setAt ?_ (by first | (simp; done) | (simp; omega))) | rfl))) _ Try.underlying38 rfl (by kernel_rfl) rfl rfl ?_))
  refine (BC.out _).mono ?_
  rintro e w2 ⟨rfl, hb2⟩
  have K2 := Lib.hid (K1.out.below hb2)
  have c72 := (K2.out.cell 72).trans m72; have c73 := (K2.out.cell 73).trans m73; have c74 := (K2.out.cell 74).trans m74; have l2 := K2.out.lt
  have S1 := Lib.hid (fun W k => soon_any m.mr m.ck h.1.1 h.1.2 w.heap.size W k)
  have B2 : Below w.heap.size w w2 := by repeat' (first | (with_reducible first | exact Below.refl _ _ | assumption | refine below_alloc ?_ _ | refine Below.drew ?_ | refine below_drewN ?_ _ | refine below_then ?_ (by assumption) | refine below_put ?_ (by assumption) (by first | (simp; done) | (simp; omega) | omega) | refine Below.setCell ?_ ?_ _) | (simp; done) | (simp; omega) | omega)
  clear hb1 hb2 SC BC K1 m72 m73 m74
  have HH := Lib.hid h
  have D1 : decide (0 ≤ m.mr ∧ m.mr ≤ m.ck + 20000) = true := by simp; omega
  have D2 : decide (0 ≤ m.ar ∧ m.ar ≤ m.ck + 20000) = false := by simp; omega
  have S2 := Lib.hid (fun W k => soon_any m.ar m.ck h.1.1 h.1.2 w.heap.size W k)
  rw [D1] at S1
  rw [D2] at S2
  obtain ⟨⟨t1, t2⟩, t3⟩ := h
  clear t3 D1 D2
  go_wp2_with fail
  refine (S1.out _ c72).mono ?_
  rintro e w3 ⟨rfl, rfl⟩
  go_wp2_with fail
  refine (S2.out _ c72).mono ?_
  rintro e w3 ⟨rfl, rfl⟩
  go_wp2
  go_ret
  exact ⟨rfl, B2⟩
theorem chk_tok (V : Nat → Value) (m : Mach) (w : World) (hm : MV w V m) (hf : m.Fit) (hs : 0 ≤ m.sd.wt ∧ m.sd.wt ≤ 15) (hbm : m.bm.Ok) (h : (0 ≤ m.ck ∧ m.ck ≤ 200000) ∧ (0 ≤ m.mr ∧ m.mr ≤ m.ck + 20000) ∧ (0 ≤ m.ar ∧ m.ar ≤ m.ck + 20000)) : Calls Try.prog 10 #[.agg (machC V m)] w fun e w' => e = .returned (.int .i64 0) ∧ Below w.heap.size w w' := by
  obtain ⟨a0, q0, v0, -⟩ := hm 0 (by omega); obtain ⟨a1, q1, v1, -⟩ := hm 1 (by omega); obtain ⟨a2, q2, v2, -⟩ := hm 2 (by omega); obtain ⟨a3, q3, v3, -⟩ := hm 3 (by omega); obtain ⟨a4, q4, v4, -⟩ := hm 4 (by omega); have m30 := mx30 V m; have m31 := mx31 V m; have m32 := mx32 V m; have m33 := mx33 V m; have m34 := mx34 V m; rw [v0] at m30; rw [v1] at m31; rw [v2] at m32; rw [v3] at m33; rw [v4] at m34; have m72 := mx72 V m; have m73 := mx73 V m; have m74 := mx74 V m; clear v0 v1 v2 v3 v4 hm
  have h0 := hf.l0; have h1 := hf.l1; have h2 := hf.l2; have h3 := hf.l3; have h4 := hf.l4; rw [h2] at m32; rw [h3] at m33; rw [h4] at m34; clear h2 h3 h4 hf
  obtain ⟨n0, e0⟩ : ∃ n, n = (m.mem 0).length := ⟨_, rfl⟩; obtain ⟨n1, e1⟩ : ∃ n, n = (m.mem 1).length := ⟨_, rfl⟩; rw [← e0] at h0 m30; rw [← e1] at h1 m31; clear e0 e1; have i0 : ¬ (1024 : Int) < n0 := (by omega); have i1 : ¬ (1024 : Int) < n1 := by omega
  have SC := Lib.hid (scheck_ok m.sd hs.1 hs.2)
  have BC := Lib.hid (bcheck_ok m.bm hbm)
  clear hbm hs
  go_enter Try.func10, Try.ntmps10
  go_wp2_with (first | ((with_reducible show wpList _ _ _ _ _ _); refine wpList_loadA rfl 36 (.tmp 32) rfl (w.heap.size) (45) 16 rfl 41 (machC V m) #[.int .u16 m.sd.a.pd, .int .u16 m.sd.a.ct, .int .u8 m.sd.a.ld, .bool m.sd.a.hi, .int .u16 m.sd.a.nz, .int .u16 m.sd.b.pd, .int .u16 m.sd.b.ct, .int .u8 m.sd.b.ld, .bool m.sd.b.hi, .int .u16 m.sd.b.nz, .int .u16 m.sd.c.pd, .int .u16 m.sd.c.ct, .int .u8 m.sd.c.ld, .bool m.sd.c.hi, .int .u16 m.sd.c.nz, .int .i64 m.sd.wt] (show Blk _ (w.heap.size) (machC V m) 41 from (by repeat' (first | (with_reducible first | exact Hid.out (by assumption) | exact Blk.new _ _ _ | (refine Blk.new_at _ _ _ _ ?_; simp; done) | refine Blk.alloc ?_ _ | refine Blk.drewN ?_ _ | refine Blk.drew ?_ | apply Blk.set | refine Blk.put ?_ (by assumption) (by first | (simp; done) | (simp; omega) | omega) | refine Blk.below ?_ (by assumption)) | (refine Blk.setAt ?_ (by first | (simp; done) | (simp; omega))) | rfl))) _ Try.underlying36 rfl (by kernel_rfl) rfl rfl ?_))
  refine (SC.out _).mono ?_
  rintro e w1 ⟨rfl, hb1⟩
  have K1 := Lib.hid ((Blk.new w (machC V m) 41).below hb1)
  go_wp2_with (first | ((with_reducible show wpList _ _ _ _ _ _); refine wpList_loadA rfl 38 (.tmp 38) rfl (w.heap.size) (61) 4 rfl 41 (machC V m) #[.int .i64 m.bm.ln, .int .i64 m.bm.pt, .bool m.bm.rg, .int .i64 m.bm.fr] (show Blk _ (w.heap.size) (machC V m) 41 from (by repeat' (first | (with_reducible first | exact Hid.out (by assumption) | exact Blk.new _ _ _ | (refine Blk.new_at _ _ _ _ ?_; simp; done) | refine Blk.alloc ?_ _ | refine Blk.drewN ?_ _ | refine Blk.drew ?_ | apply Blk.set | refine Blk.put ?_ (by assumption) (by first | (simp; done) | (simp; omega) | omega) | refine Blk.below ?_ (by assumption)) | (refine Blk.setAt ?_ (by first | (simp; done) | (simp; omega))) | rfl))) _ Try.underlying38 rfl (by kernel_rfl) rfl rfl ?_))
  refine (BC.out _).mono ?_
  rintro e w2 ⟨rfl, hb2⟩
  have K2 := Lib.hid (K1.out.below hb2)
  have c72 := (K2.out.cell 72).trans m72; have c73 := (K2.out.cell 73).trans m73; have c74 := (K2.out.cell 74).trans m74; have l2 := K2.out.lt
  have S1 := Lib.hid (fun W k => soon_any m.mr m.ck h.1.1 h.1.2 w.heap.size W k)
  have B2 : Below w.heap.size w w2 := by repeat' (first | (with_reducible first | exact Below.refl _ _ | assumption | refine below_alloc ?_ _ | refine Below.drew ?_ | refine below_drewN ?_ _ | refine below_then ?_ (by assumption) | refine below_put ?_ (by assumption) (by first | (simp; done) | (simp; omega) | omega) | refine Below.setCell ?_ ?_ _) | (simp; done) | (simp; omega) | omega)
  clear hb1 hb2 SC BC K1 m72 m73 m74
  have HH := Lib.hid h
  have D1 : decide (0 ≤ m.mr ∧ m.mr ≤ m.ck + 20000) = true := by simp; omega
  have D2 : decide (0 ≤ m.ar ∧ m.ar ≤ m.ck + 20000) = true := by simp; omega
  have S2 := Lib.hid (fun W k => soon_any m.ar m.ck h.1.1 h.1.2 w.heap.size W k)
  rw [D1] at S1
  rw [D2] at S2
  obtain ⟨⟨t1, t2⟩, t3⟩ := h
  clear t3 D1 D2
  go_wp2_with fail
  refine (S1.out _ c72).mono ?_
  rintro e w3 ⟨rfl, rfl⟩
  go_wp2_with fail
  refine (S2.out _ c72).mono ?_
  rintro e w3 ⟨rfl, rfl⟩
  go_wp2
  go_ret
  exact ⟨rfl, B2⟩
theorem check_any (V : Nat → Value) (m : Mach) (w : World) (hm : MV w V m) : Calls Try.prog 10 #[.agg (machC V m)] w fun e w' => e = .returned (.int .i64 (chk m)) ∧ Below w.heap.size w w' := by
  unfold chk
  by_cases h1 : 1024 < (m.mem 0).length ∨ 1024 < (m.mem 1).length
  · rw [if_pos h1]; exact chk_many V m w hm h1
  rw [if_neg h1]
  by_cases h2 : (m.mem 2).length ≠ 128 ∨ (m.mem 3).length ≠ 64 ∨ (m.mem 4).length ≠ 256
  · rw [if_pos h2]
    by_cases a : (m.mem 2).length = 128
    · by_cases b : (m.mem 3).length = 64
      · exact chk_formc V m w hm _ _ _ rfl rfl rfl (by omega) (by omega) ⟨a, b, by omega⟩
      · exact chk_formb V m w hm _ _ _ rfl rfl rfl (by omega) (by omega) ⟨a, b⟩
    · exact chk_forma V m w hm _ _ _ rfl rfl rfl (by omega) (by omega) a
  rw [if_neg h2]
  have hf : m.Fit := ⟨by omega, by omega, by omega, by omega, by omega⟩
  by_cases h3 : m.sd.wt < 0 ∨ 15 < m.sd.wt
  · rw [if_pos h3]; exact chk_wt V m w hm hf h3
  rw [if_neg h3]
  by_cases h4 : ¬ m.bm.Ok
  · rw [if_pos h4]; exact chk_bm V m w hm hf (by omega) h4
  rw [if_neg h4]
  have hb : m.bm.Ok := Decidable.of_not_not h4
  by_cases h5 : ¬ inTime m
  · rw [if_pos h5]
    by_cases a : m.ck < 0
    · exact chk_tlo V m w hm hf (by omega) hb a
    by_cases b : 200000 < m.ck
    · exact chk_thi V m w hm hf (by omega) hb b
    by_cases c : 0 ≤ m.mr ∧ m.mr ≤ m.ck + 20000
    · refine chk_tar V m w hm hf (by omega) hb ⟨by omega, c, fun d => h5 ⟨by omega, c, d⟩⟩
    · exact chk_tmr V m w hm hf (by omega) hb ⟨by omega, c⟩
  · rw [if_neg h5]
    exact chk_tok V m w hm hf (by omega) hb (Decidable.of_not_not h5)
end Go.Proofs.Ytimccpmdgfneoaa
