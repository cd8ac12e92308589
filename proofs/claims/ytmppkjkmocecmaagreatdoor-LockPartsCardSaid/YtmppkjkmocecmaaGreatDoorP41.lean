/- The closed fact of the laws of the run clock by clock; is a frame's number great? Conditions: the library's variables hold what they were laid with. -/
import Derived.Test.YtmppkjkmocecmaaGreatDoorSq
import Derived.Test.YtmppkjkmocecmaaGreatDoorSh
import Derived.Test.YtmppkjkmocecmaaGreatDoorLockRn
import Derived.Test.YtmppkjkmocecmaaGreatDoorP39
import Derived.Test.YtmppkjkmocecmaaGreatDoorBusM
import Derived.Test.YtmppkjkmocecmaaGreatDoorP26
set_option linter.unusedVariables false
set_option linter.unusedSimpArgs false
set_option maxHeartbeats 4000000
set_option maxRecDepth 100000
namespace Go.Proofs.YtmppkjkmocecmaaGreatDoor
open Go.RowKit Go.Mq
def lkR : List Int := [0, 6, 0, 0, 0, 0, 17, 0, 128, 0, 49, 33, 216, 0]
theorem bld_l : buildF [46, 119, 111, 114, 100, 32, 54, 10, 46, 119, 111, 114, 100, 32, 48, 10, 46, 119, 111, 114, 100, 32, 48, 10, 108, 100, 105, 32, 114, 49, 44, 32, 51, 50, 55, 54, 56, 10, 115, 116, 98, 32, 114, 49, 44, 32, 114, 49, 44, 32, 49, 10, 104, 108, 116, 10] = (lkR, 0, 0) := by decide +kernel
def lkM : Mach := newMach lkR []
def lkF : Cn := lkN (cn0 lkM []) 64
theorem lkF_ls : lkF.ls.length = 1 := by decide +kernel
theorem lkF_ss : lkF.ss.length = 4 := by decide +kernel
theorem lkF_wt : lkF.x.m.mc.wt = true := by decide +kernel
theorem lkF_ck : lkF.x.m.ck = 64 := by decide +kernel
theorem lkF_ln : lkF.x.m.bm.ln = 1 := by decide +kernel
theorem lkM_lit : lkM.sd.wt = 0 ∧ lkM.bm.ln = 0 ∧ lkM.bm.pt = 0 ∧ lkM.bm.fr = 0 ∧ lkM.ck = 0 ∧ lkM.mr = 0 ∧ lkM.ar = 0 := by decide +kernel
theorem nil_inps (w : World) : InpsAt w (.slice none 0 0) [] := ⟨none, 0, rfl, by simp, by simp [maxLen], by simp, fun h => by simp at h⟩
theorem run_one {w w' : World} {U : Nat → Value} {lv sv wv : Value} {m : Mach} {ls : List Ln} {ss : List Int} {ws : List Wr} (h : RunTold w w' U lv sv wv m ls ss ws) : (machC U m).all (·.oneCell') = true := told_one h.told
theorem shown_one {w w' : World} {U : Nat → Value} {lv sv wv : Value} {m : Mach} {ls : List Ln} {ss : List Int} {ws : List Wr} (h : RunTold w w' U lv sv wv m ls ss ws) : (#[lv, sv, wv] : Array Value).all (·.oneCell') = true := by
 obtain ⟨a1, c1, rfl⟩ := own_shape h.lns
 obtain ⟨a2, c2, rfl⟩ := own_shape h.sms
 obtain ⟨a3, c3, rfl⟩ := own_shape h.wrs
 simp [Value.oneCell']
theorem long_any (V : Nat → Value) (m : Mach) (n : Int) (w : World) (h1 : (machC V m).all (·.oneCell') = true) :
  Calls Tryz.prog 10 #[.agg (machC V m), .int .i64 n] w fun e w' => e = .returned (.bool (decide (19000 < m.bm.fr))) ∧ Below w.heap.size w w' := by
 have ON := Lib.hid h1
 have c64 : (w.alloc (.cells (machC V m) 41)).cell? ⟨w.heap.size, 64, none⟩ = some (.int .i64 m.bm.fr) := ((Blk.new w _ _).cell 64).trans (mx64 ..)
 generalize m.bm.fr = f at *
 clear h1
 go_enter Tryz.func10, Tryz.ntmps10
 go_wp2
 go_ret
 exact ⟨rfl, kL⟩
theorem locked_any (w : World) (hL : Lk w) : Calls Tryz.prog 9 #[] w fun e w' => e = .returned (.bool true) ∧ Below w.heap.size w w' := by
 have HL := Lib.hid hL
 have BA := Lib.hid (build_any [46, 119, 111, 114, 100, 32, 54, 10, 46, 119, 111, 114, 100, 32, 48, 10, 46, 119, 111, 114, 100, 32, 48, 10, 108, 100, 105, 32, 114, 49, 44, 32, 51, 50, 55, 54, 56, 10, 115, 116, 98, 32, 114, 49, 44, 32, 114, 49, 44, 32, 49, 10, 104, 108, 116, 10] kD)
 have ZE := zeroM_one
 have by1 : Bytes8 lkR := by unfold Bytes8 lkR; decide
 have by2 : Bytes8 [] := fun x h => (List.not_mem_nil h).elim
 have BY := Lib.hid (And.intro by1 by2)
 clear hL by1 by2
 go_enter Tryz.func9, Tryz.ntmps9
 go_wp2_with fail
 refine (BA.out _ HL.out).mono ?_
 rintro e w1 ⟨v, rfl, hs, hb1⟩
 rw [bld_l] at hs ⊢
 have HS := Lib.hid hs
 have B1 := hb1
 clear hs hb1 BA HL
 go_wp2_with fail
 refine (new_ok v (.slice none 0 0) lkR [] _ BY.out.1 BY.out.2 HS.out (nil_bytes _) kD kD).mono ?_
 rintro e w2 ⟨U0, rfl, T0⟩
 have e0 : newMach lkR [] = lkM := rfl
 rw [e0] at T0 ⊢
 have hb2 := T0.below
 have z2 : w.heap.size ≤ w2.heap.size := (below_then B1 hb2).size
 have s2 := hb2.size
 have B2 : Below w.heap.size w w2 := below_then B1 hb2
 have TT0 := Lib.hid T0
 have ON0 := told_one T0
 clear hb2 T0 B1 HS
 go_wp2_with (first | ((with_reducible show wpList _ _ _ _ _ _); first | (refine sW 41 4 16 rfl rfl (w2.heap.size) (machC U0 lkM) rfl rfl Tryz.zeroCells41 kB ?_; intro w3 hp_w3 K_w3) | (refine lW 41 4 rfl rfl (w2.heap.size) rfl (machC U0 lkM) kB Tryz.underlying41 ?_)))
 have b23 : Below w2.heap.size w2 w3 := kL
 have sz3 : w2.heap.size + 1 ≤ w3.heap.size := by have := hp_w3.size; simp at this; omega
 have B3 : Below w.heap.size w w3 := B2.trans (b23.mono B2.size)
 have KK3 := Lib.hid K_w3.out
 have RN := Lib.hid (lock_ok U0 lkM (.slice none 0 0) [] 64 w3 (TT0.out.mv.below b23) TT0.out.inn (right_of TT0.out.fit lkM_lit) (nil_inps w3) rfl kD (by rw [lkM_lit.2.2.2.2.1]; decide))
 rw [show lkN (cn0 lkM []) 64 = lkF from rfl] at RN
 clear K_w3 hp_w3 b23 B2
 refine RN.out.mono ?_
 rintro e w4 ⟨U1, lv, sv, wv, rfl, T1⟩
 have hb4 := T1.told.below
 have s4 := hb4.size
 have ON1 := run_one T1
 have OS1 := shown_one T1
 have KK4 := Lib.hid (KK3.out.below hb4)
 have B4 : Below w.heap.size w w4 := below_then B3 hb4
 have z4 := B4.size
 obtain ⟨a1, c1, e1⟩ := own_shape T1.lns
 obtain ⟨a2, c2, e2⟩ := own_shape T1.sms
 rw [lkF_ls] at e1
 rw [lkF_ss] at e2
 subst e1 e2
 clear hb4 T1 RN KK3 TT0 B3
 go_upto_region 4 with (first | ((with_reducible show wpList _ _ _ _ _ _); first | (refine sW 41 4 21 rfl rfl (w2.heap.size) (machC U1 lkF.x.m) rfl rfl (machC U0 lkM) kB ?_; intro w5 hp_w5 K_w5) | (refine sW 45 6 22 rfl rfl (w4.heap.size) (#[.slice a1 1 c1, .slice a2 4 c2, wv]) rfl rfl (#[.slice none 0 0, .slice none 0 0, .slice none 0 0]) kB ?_; intro w6 hp_w6 K_w6)))
 have KM := Lib.hid (K_w5.out.put hp_w6 (Nat.ne_of_lt kO))
 have c14 : w6.cell? ⟨w2.heap.size, 14, none⟩ = some (.bool true) := (KM.out.cell 14).trans ((mx14 ..).trans (by rw [lkF_wt]))
 have c72 : w6.cell? ⟨w2.heap.size, 72, none⟩ = some (.int .i64 64) := (KM.out.cell 72).trans ((mx72 ..).trans (by rw [lkF_ck]))
 have c61 : w6.cell? ⟨w2.heap.size, 61, none⟩ = some (.int .i64 1) := (KM.out.cell 61).trans ((mx61 ..).trans (by rw [lkF_ln]))
 have d0 : w6.cell? ⟨w4.heap.size, 0, none⟩ = some (.slice a1 1 c1) := K_w6.out.cell 0
 have d1 : w6.cell? ⟨w4.heap.size, 1, none⟩ = some (.slice a2 4 c2) := K_w6.out.cell 1
 have BB : Below w.heap.size w w6 := kL
 clear K_w5 K_w6 hp_w5 hp_w6 KM KK4
 go_wp2_with (first | ((with_reducible show wpList _ _ _ _ _ _); first | (refine sW 41 4 21 rfl rfl (w2.heap.size) (machC U1 lkF.x.m) rfl rfl (machC U0 lkM) kB ?_; intro w5 hp_w5 K_w5) | (refine sW 45 6 22 rfl rfl (w4.heap.size) (#[.slice a1 1 c1, .slice a2 4 c2, wv]) rfl rfl (#[.slice none 0 0, .slice none 0 0, .slice none 0 0]) kB ?_; intro w6 hp_w6 K_w6)) | go_in)
 go_ret
 exact ⟨rfl, kL⟩
theorem rc_0 (V : Nat → Value) (m : Mach) (w : World) (hm : MV w V m) (n0 n1 n2 n3 n4 : Nat) (e0 : n0 = (m.mem 0).length) (e1 : n1 = (m.mem 1).length) (e2 : n2 = (m.mem 2).length) (e3 : n3 = (m.mem 3).length) (e4 : n4 = (m.mem 4).length) (h0 : 1024 < max (n0 : Int) n1) : Calls Tryz.prog 37 #[.agg (machC V m)] w fun e w' => e = .returned (.int .i64 2) ∧ Below w.heap.size w w' := by
 obtain ⟨a0, q0, v0, -⟩ := hm 0 kO; obtain ⟨a1, q1, v1, -⟩ := hm 1 kO; obtain ⟨a2, q2, v2, -⟩ := hm 2 kO; obtain ⟨a3, q3, v3, -⟩ := hm 3 kO; obtain ⟨a4, q4, v4, -⟩ := hm 4 kO; have m30 := mx30 V m; have m31 := mx31 V m; have m32 := mx32 V m; have m33 := mx33 V m; have m34 := mx34 V m; rw [v0, ← e0] at m30; rw [v1, ← e1] at m31; rw [v2, ← e2] at m32; rw [v3, ← e3] at m33; rw [v4, ← e4] at m34; have m60 := mx60 V m; have m72 := mx72 V m; have m73 := mx73 V m; have m74 := mx74 V m; clear v0 v1 v2 v3 v4 hm e0 e1 e2 e3 e4
 go_enter Tryz.func37, Tryz.ntmps37
 go_wp2_with (first | ((with_reducible show wpList _ _ _ _ _ _); refine lA 38 28 rfl rfl (w.heap.size) (61) 4 rfl 41 (machC V m) #[.int .i64 m.bm.ln, .int .i64 m.bm.pt, .bool m.bm.rg, .int .i64 m.bm.fr] kB Tryz.underlying38 ?_))
 all_goals
  go_ret
  exact ⟨rfl, kL⟩
theorem rc_1 (V : Nat → Value) (m : Mach) (w : World) (hm : MV w V m) (n0 n1 n2 n3 n4 : Nat) (e0 : n0 = (m.mem 0).length) (e1 : n1 = (m.mem 1).length) (e2 : n2 = (m.mem 2).length) (e3 : n3 = (m.mem 3).length) (e4 : n4 = (m.mem 4).length) (h0 : ¬ 1024 < max (n0 : Int) n1) (h1 : n2 ≠ 128) : Calls Tryz.prog 37 #[.agg (machC V m)] w fun e w' => e = .returned (.int .i64 4) ∧ Below w.heap.size w w' := by
 obtain ⟨a0, q0, v0, -⟩ := hm 0 kO; obtain ⟨a1, q1, v1, -⟩ := hm 1 kO; obtain ⟨a2, q2, v2, -⟩ := hm 2 kO; obtain ⟨a3, q3, v3, -⟩ := hm 3 kO; obtain ⟨a4, q4, v4, -⟩ := hm 4 kO; have m30 := mx30 V m; have m31 := mx31 V m; have m32 := mx32 V m; have m33 := mx33 V m; have m34 := mx34 V m; rw [v0, ← e0] at m30; rw [v1, ← e1] at m31; rw [v2, ← e2] at m32; rw [v3, ← e3] at m33; rw [v4, ← e4] at m34; have m60 := mx60 V m; have m72 := mx72 V m; have m73 := mx73 V m; have m74 := mx74 V m; clear v0 v1 v2 v3 v4 hm e0 e1 e2 e3 e4
 have j2 : ((n2 : Int) != 128) = true := by rw [bne_iff_ne]; omega
 clear h1
 go_enter Tryz.func37, Tryz.ntmps37
 go_wp2_with (first | ((with_reducible show wpList _ _ _ _ _ _); refine lA 38 28 rfl rfl (w.heap.size) (61) 4 rfl 41 (machC V m) #[.int .i64 m.bm.ln, .int .i64 m.bm.pt, .bool m.bm.rg, .int .i64 m.bm.fr] kB Tryz.underlying38 ?_))
 all_goals
  go_ret
  exact ⟨rfl, kL⟩
theorem rc_2 (V : Nat → Value) (m : Mach) (w : World) (hm : MV w V m) (n0 n1 n2 n3 n4 : Nat) (e0 : n0 = (m.mem 0).length) (e1 : n1 = (m.mem 1).length) (e2 : n2 = (m.mem 2).length) (e3 : n3 = (m.mem 3).length) (e4 : n4 = (m.mem 4).length) (h0 : ¬ 1024 < max (n0 : Int) n1) (h1 : n2 = 128) (h2 : n3 ≠ 64) : Calls Tryz.prog 37 #[.agg (machC V m)] w fun e w' => e = .returned (.int .i64 4) ∧ Below w.heap.size w w' := by
 obtain ⟨a0, q0, v0, -⟩ := hm 0 kO; obtain ⟨a1, q1, v1, -⟩ := hm 1 kO; obtain ⟨a2, q2, v2, -⟩ := hm 2 kO; obtain ⟨a3, q3, v3, -⟩ := hm 3 kO; obtain ⟨a4, q4, v4, -⟩ := hm 4 kO; have m30 := mx30 V m; have m31 := mx31 V m; have m32 := mx32 V m; have m33 := mx33 V m; have m34 := mx34 V m; rw [v0, ← e0] at m30; rw [v1, ← e1] at m31; rw [v2, ← e2] at m32; rw [v3, ← e3] at m33; rw [v4, ← e4] at m34; have m60 := mx60 V m; have m72 := mx72 V m; have m73 := mx73 V m; have m74 := mx74 V m; clear v0 v1 v2 v3 v4 hm e0 e1 e2 e3 e4
 subst h1
 have j3 : ((n3 : Int) != 64) = true := by rw [bne_iff_ne]; omega
 clear h2
 go_enter Tryz.func37, Tryz.ntmps37
 go_wp2_with (first | ((with_reducible show wpList _ _ _ _ _ _); refine lA 38 28 rfl rfl (w.heap.size) (61) 4 rfl 41 (machC V m) #[.int .i64 m.bm.ln, .int .i64 m.bm.pt, .bool m.bm.rg, .int .i64 m.bm.fr] kB Tryz.underlying38 ?_))
 all_goals
  go_ret
  exact ⟨rfl, kL⟩
theorem rc_3 (V : Nat → Value) (m : Mach) (w : World) (hm : MV w V m) (n0 n1 n2 n3 n4 : Nat) (e0 : n0 = (m.mem 0).length) (e1 : n1 = (m.mem 1).length) (e2 : n2 = (m.mem 2).length) (e3 : n3 = (m.mem 3).length) (e4 : n4 = (m.mem 4).length) (h0 : ¬ 1024 < max (n0 : Int) n1) (h1 : n2 = 128) (h2 : n3 = 64) (h3 : n4 ≠ 256) : Calls Tryz.prog 37 #[.agg (machC V m)] w fun e w' => e = .returned (.int .i64 4) ∧ Below w.heap.size w w' := by
 obtain ⟨a0, q0, v0, -⟩ := hm 0 kO; obtain ⟨a1, q1, v1, -⟩ := hm 1 kO; obtain ⟨a2, q2, v2, -⟩ := hm 2 kO; obtain ⟨a3, q3, v3, -⟩ := hm 3 kO; obtain ⟨a4, q4, v4, -⟩ := hm 4 kO; have m30 := mx30 V m; have m31 := mx31 V m; have m32 := mx32 V m; have m33 := mx33 V m; have m34 := mx34 V m; rw [v0, ← e0] at m30; rw [v1, ← e1] at m31; rw [v2, ← e2] at m32; rw [v3, ← e3] at m33; rw [v4, ← e4] at m34; have m60 := mx60 V m; have m72 := mx72 V m; have m73 := mx73 V m; have m74 := mx74 V m; clear v0 v1 v2 v3 v4 hm e0 e1 e2 e3 e4
 subst h1
 subst h2
 have j4 : ((n4 : Int) != 256) = true := by rw [bne_iff_ne]; omega
 clear h3
 go_enter Tryz.func37, Tryz.ntmps37
 go_wp2_with (first | ((with_reducible show wpList _ _ _ _ _ _); refine lA 38 28 rfl rfl (w.heap.size) (61) 4 rfl 41 (machC V m) #[.int .i64 m.bm.ln, .int .i64 m.bm.pt, .bool m.bm.rg, .int .i64 m.bm.fr] kB Tryz.underlying38 ?_))
 all_goals
  go_ret
  exact ⟨rfl, kL⟩
theorem rc_4 (V : Nat → Value) (m : Mach) (w : World) (hm : MV w V m) (n0 n1 n2 n3 n4 : Nat) (e0 : n0 = (m.mem 0).length) (e1 : n1 = (m.mem 1).length) (e2 : n2 = (m.mem 2).length) (e3 : n3 = (m.mem 3).length) (e4 : n4 = (m.mem 4).length) (h0 : ¬ 1024 < max (n0 : Int) n1) (h1 : n2 = 128) (h2 : n3 = 64) (h3 : n4 = 256) (h4 : m.sd.wt < 0) : Calls Tryz.prog 37 #[.agg (machC V m)] w fun e w' => e = .returned (.int .i64 3) ∧ Below w.heap.size w w' := by
 obtain ⟨a0, q0, v0, -⟩ := hm 0 kO; obtain ⟨a1, q1, v1, -⟩ := hm 1 kO; obtain ⟨a2, q2, v2, -⟩ := hm 2 kO; obtain ⟨a3, q3, v3, -⟩ := hm 3 kO; obtain ⟨a4, q4, v4, -⟩ := hm 4 kO; have m30 := mx30 V m; have m31 := mx31 V m; have m32 := mx32 V m; have m33 := mx33 V m; have m34 := mx34 V m; rw [v0, ← e0] at m30; rw [v1, ← e1] at m31; rw [v2, ← e2] at m32; rw [v3, ← e3] at m33; rw [v4, ← e4] at m34; have m60 := mx60 V m; have m72 := mx72 V m; have m73 := mx73 V m; have m74 := mx74 V m; clear v0 v1 v2 v3 v4 hm e0 e1 e2 e3 e4
 subst h1
 subst h2
 subst h3
 go_enter Tryz.func37, Tryz.ntmps37
 go_wp2_with (first | ((with_reducible show wpList _ _ _ _ _ _); refine lA 38 28 rfl rfl (w.heap.size) (61) 4 rfl 41 (machC V m) #[.int .i64 m.bm.ln, .int .i64 m.bm.pt, .bool m.bm.rg, .int .i64 m.bm.fr] kB Tryz.underlying38 ?_))
 all_goals
  go_ret
  exact ⟨rfl, kL⟩
theorem rc_5 (V : Nat → Value) (m : Mach) (w : World) (hm : MV w V m) (n0 n1 n2 n3 n4 : Nat) (e0 : n0 = (m.mem 0).length) (e1 : n1 = (m.mem 1).length) (e2 : n2 = (m.mem 2).length) (e3 : n3 = (m.mem 3).length) (e4 : n4 = (m.mem 4).length) (h0 : ¬ 1024 < max (n0 : Int) n1) (h1 : n2 = 128) (h2 : n3 = 64) (h3 : n4 = 256) (h4 : ¬ m.sd.wt < 0) (h5 : 15 < m.sd.wt) : Calls Tryz.prog 37 #[.agg (machC V m)] w fun e w' => e = .returned (.int .i64 3) ∧ Below w.heap.size w w' := by
 obtain ⟨a0, q0, v0, -⟩ := hm 0 kO; obtain ⟨a1, q1, v1, -⟩ := hm 1 kO; obtain ⟨a2, q2, v2, -⟩ := hm 2 kO; obtain ⟨a3, q3, v3, -⟩ := hm 3 kO; obtain ⟨a4, q4, v4, -⟩ := hm 4 kO; have m30 := mx30 V m; have m31 := mx31 V m; have m32 := mx32 V m; have m33 := mx33 V m; have m34 := mx34 V m; rw [v0, ← e0] at m30; rw [v1, ← e1] at m31; rw [v2, ← e2] at m32; rw [v3, ← e3] at m33; rw [v4, ← e4] at m34; have m60 := mx60 V m; have m72 := mx72 V m; have m73 := mx73 V m; have m74 := mx74 V m; clear v0 v1 v2 v3 v4 hm e0 e1 e2 e3 e4
 subst h1
 subst h2
 subst h3
 go_enter Tryz.func37, Tryz.ntmps37
 go_wp2_with (first | ((with_reducible show wpList _ _ _ _ _ _); refine lA 38 28 rfl rfl (w.heap.size) (61) 4 rfl 41 (machC V m) #[.int .i64 m.bm.ln, .int .i64 m.bm.pt, .bool m.bm.rg, .int .i64 m.bm.fr] kB Tryz.underlying38 ?_))
 all_goals
  go_ret
  exact ⟨rfl, kL⟩
theorem rc_6 (V : Nat → Value) (m : Mach) (w : World) (hm : MV w V m) (n0 n1 n2 n3 n4 : Nat) (e0 : n0 = (m.mem 0).length) (e1 : n1 = (m.mem 1).length) (e2 : n2 = (m.mem 2).length) (e3 : n3 = (m.mem 3).length) (e4 : n4 = (m.mem 4).length) (h0 : ¬ 1024 < max (n0 : Int) n1) (h1 : n2 = 128) (h2 : n3 = 64) (h3 : n4 = 256) (h4 : ¬ m.sd.wt < 0) (h5 : ¬ 15 < m.sd.wt) (h6 : m.bm.ln < 0) : Calls Tryz.prog 37 #[.agg (machC V m)] w fun e w' => e = .returned (.int .i64 3) ∧ Below w.heap.size w w' := by
 obtain ⟨a0, q0, v0, -⟩ := hm 0 kO; obtain ⟨a1, q1, v1, -⟩ := hm 1 kO; obtain ⟨a2, q2, v2, -⟩ := hm 2 kO; obtain ⟨a3, q3, v3, -⟩ := hm 3 kO; obtain ⟨a4, q4, v4, -⟩ := hm 4 kO; have m30 := mx30 V m; have m31 := mx31 V m; have m32 := mx32 V m; have m33 := mx33 V m; have m34 := mx34 V m; rw [v0, ← e0] at m30; rw [v1, ← e1] at m31; rw [v2, ← e2] at m32; rw [v3, ← e3] at m33; rw [v4, ← e4] at m34; have m60 := mx60 V m; have m72 := mx72 V m; have m73 := mx73 V m; have m74 := mx74 V m; clear v0 v1 v2 v3 v4 hm e0 e1 e2 e3 e4
 subst h1
 subst h2
 subst h3
 go_enter Tryz.func37, Tryz.ntmps37
 go_wp2_with (first | ((with_reducible show wpList _ _ _ _ _ _); refine lA 38 28 rfl rfl (w.heap.size) (61) 4 rfl 41 (machC V m) #[.int .i64 m.bm.ln, .int .i64 m.bm.pt, .bool m.bm.rg, .int .i64 m.bm.fr] kB Tryz.underlying38 ?_))
 all_goals
  go_ret
  exact ⟨rfl, kL⟩
theorem rc_7 (V : Nat → Value) (m : Mach) (w : World) (hm : MV w V m) (n0 n1 n2 n3 n4 : Nat) (e0 : n0 = (m.mem 0).length) (e1 : n1 = (m.mem 1).length) (e2 : n2 = (m.mem 2).length) (e3 : n3 = (m.mem 3).length) (e4 : n4 = (m.mem 4).length) (h0 : ¬ 1024 < max (n0 : Int) n1) (h1 : n2 = 128) (h2 : n3 = 64) (h3 : n4 = 256) (h4 : ¬ m.sd.wt < 0) (h5 : ¬ 15 < m.sd.wt) (h6 : ¬ m.bm.ln < 0) (h7 : 9 < m.bm.ln) : Calls Tryz.prog 37 #[.agg (machC V m)] w fun e w' => e = .returned (.int .i64 3) ∧ Below w.heap.size w w' := by
 obtain ⟨a0, q0, v0, -⟩ := hm 0 kO; obtain ⟨a1, q1, v1, -⟩ := hm 1 kO; obtain ⟨a2, q2, v2, -⟩ := hm 2 kO; obtain ⟨a3, q3, v3, -⟩ := hm 3 kO; obtain ⟨a4, q4, v4, -⟩ := hm 4 kO; have m30 := mx30 V m; have m31 := mx31 V m; have m32 := mx32 V m; have m33 := mx33 V m; have m34 := mx34 V m; rw [v0, ← e0] at m30; rw [v1, ← e1] at m31; rw [v2, ← e2] at m32; rw [v3, ← e3] at m33; rw [v4, ← e4] at m34; have m60 := mx60 V m; have m72 := mx72 V m; have m73 := mx73 V m; have m74 := mx74 V m; clear v0 v1 v2 v3 v4 hm e0 e1 e2 e3 e4
 subst h1
 subst h2
 subst h3
 go_enter Tryz.func37, Tryz.ntmps37
 go_wp2_with (first | ((with_reducible show wpList _ _ _ _ _ _); refine lA 38 28 rfl rfl (w.heap.size) (61) 4 rfl 41 (machC V m) #[.int .i64 m.bm.ln, .int .i64 m.bm.pt, .bool m.bm.rg, .int .i64 m.bm.fr] kB Tryz.underlying38 ?_))
 all_goals
  go_ret
  exact ⟨rfl, kL⟩
theorem rc_8 (V : Nat → Value) (m : Mach) (w : World) (hm : MV w V m) (n0 n1 n2 n3 n4 : Nat) (e0 : n0 = (m.mem 0).length) (e1 : n1 = (m.mem 1).length) (e2 : n2 = (m.mem 2).length) (e3 : n3 = (m.mem 3).length) (e4 : n4 = (m.mem 4).length) (h0 : ¬ 1024 < max (n0 : Int) n1) (h1 : n2 = 128) (h2 : n3 = 64) (h3 : n4 = 256) (h4 : ¬ m.sd.wt < 0) (h5 : ¬ 15 < m.sd.wt) (h6 : ¬ m.bm.ln < 0) (h7 : ¬ 9 < m.bm.ln) (h8 : m.bm.pt < 0) : Calls Tryz.prog 37 #[.agg (machC V m)] w fun e w' => e = .returned (.int .i64 3) ∧ Below w.heap.size w w' := by
 obtain ⟨a0, q0, v0, -⟩ := hm 0 kO; obtain ⟨a1, q1, v1, -⟩ := hm 1 kO; obtain ⟨a2, q2, v2, -⟩ := hm 2 kO; obtain ⟨a3, q3, v3, -⟩ := hm 3 kO; obtain ⟨a4, q4, v4, -⟩ := hm 4 kO; have m30 := mx30 V m; have m31 := mx31 V m; have m32 := mx32 V m; have m33 := mx33 V m; have m34 := mx34 V m; rw [v0, ← e0] at m30; rw [v1, ← e1] at m31; rw [v2, ← e2] at m32; rw [v3, ← e3] at m33; rw [v4, ← e4] at m34; have m60 := mx60 V m; have m72 := mx72 V m; have m73 := mx73 V m; have m74 := mx74 V m; clear v0 v1 v2 v3 v4 hm e0 e1 e2 e3 e4
 subst h1
 subst h2
 subst h3
 go_enter Tryz.func37, Tryz.ntmps37
 go_wp2_with (first | ((with_reducible show wpList _ _ _ _ _ _); refine lA 38 28 rfl rfl (w.heap.size) (61) 4 rfl 41 (machC V m) #[.int .i64 m.bm.ln, .int .i64 m.bm.pt, .bool m.bm.rg, .int .i64 m.bm.fr] kB Tryz.underlying38 ?_))
 all_goals
  go_ret
  exact ⟨rfl, kL⟩
theorem rc_9 (V : Nat → Value) (m : Mach) (w : World) (hm : MV w V m) (n0 n1 n2 n3 n4 : Nat) (e0 : n0 = (m.mem 0).length) (e1 : n1 = (m.mem 1).length) (e2 : n2 = (m.mem 2).length) (e3 : n3 = (m.mem 3).length) (e4 : n4 = (m.mem 4).length) (h0 : ¬ 1024 < max (n0 : Int) n1) (h1 : n2 = 128) (h2 : n3 = 64) (h3 : n4 = 256) (h4 : ¬ m.sd.wt < 0) (h5 : ¬ 15 < m.sd.wt) (h6 : ¬ m.bm.ln < 0) (h7 : ¬ 9 < m.bm.ln) (h8 : ¬ m.bm.pt < 0) (h9 : 63 < m.bm.pt) : Calls Tryz.prog 37 #[.agg (machC V m)] w fun e w' => e = .returned (.int .i64 3) ∧ Below w.heap.size w w' := by
 obtain ⟨a0, q0, v0, -⟩ := hm 0 kO; obtain ⟨a1, q1, v1, -⟩ := hm 1 kO; obtain ⟨a2, q2, v2, -⟩ := hm 2 kO; obtain ⟨a3, q3, v3, -⟩ := hm 3 kO; obtain ⟨a4, q4, v4, -⟩ := hm 4 kO; have m30 := mx30 V m; have m31 := mx31 V m; have m32 := mx32 V m; have m33 := mx33 V m; have m34 := mx34 V m; rw [v0, ← e0] at m30; rw [v1, ← e1] at m31; rw [v2, ← e2] at m32; rw [v3, ← e3] at m33; rw [v4, ← e4] at m34; have m60 := mx60 V m; have m72 := mx72 V m; have m73 := mx73 V m; have m74 := mx74 V m; clear v0 v1 v2 v3 v4 hm e0 e1 e2 e3 e4
 subst h1
 subst h2
 subst h3
 go_enter Tryz.func37, Tryz.ntmps37
 go_wp2_with (first | ((with_reducible show wpList _ _ _ _ _ _); refine lA 38 28 rfl rfl (w.heap.size) (61) 4 rfl 41 (machC V m) #[.int .i64 m.bm.ln, .int .i64 m.bm.pt, .bool m.bm.rg, .int .i64 m.bm.fr] kB Tryz.underlying38 ?_))
 all_goals
  go_ret
  exact ⟨rfl, kL⟩
theorem rc_10 (V : Nat → Value) (m : Mach) (w : World) (hm : MV w V m) (n0 n1 n2 n3 n4 : Nat) (e0 : n0 = (m.mem 0).length) (e1 : n1 = (m.mem 1).length) (e2 : n2 = (m.mem 2).length) (e3 : n3 = (m.mem 3).length) (e4 : n4 = (m.mem 4).length) (h0 : ¬ 1024 < max (n0 : Int) n1) (h1 : n2 = 128) (h2 : n3 = 64) (h3 : n4 = 256) (h4 : ¬ m.sd.wt < 0) (h5 : ¬ 15 < m.sd.wt) (h6 : ¬ m.bm.ln < 0) (h7 : ¬ 9 < m.bm.ln) (h8 : ¬ m.bm.pt < 0) (h9 : ¬ 63 < m.bm.pt) (h10 : m.bm.fr < 0) : Calls Tryz.prog 37 #[.agg (machC V m)] w fun e w' => e = .returned (.int .i64 3) ∧ Below w.heap.size w w' := by
 obtain ⟨a0, q0, v0, -⟩ := hm 0 kO; obtain ⟨a1, q1, v1, -⟩ := hm 1 kO; obtain ⟨a2, q2, v2, -⟩ := hm 2 kO; obtain ⟨a3, q3, v3, -⟩ := hm 3 kO; obtain ⟨a4, q4, v4, -⟩ := hm 4 kO; have m30 := mx30 V m; have m31 := mx31 V m; have m32 := mx32 V m; have m33 := mx33 V m; have m34 := mx34 V m; rw [v0, ← e0] at m30; rw [v1, ← e1] at m31; rw [v2, ← e2] at m32; rw [v3, ← e3] at m33; rw [v4, ← e4] at m34; have m60 := mx60 V m; have m72 := mx72 V m; have m73 := mx73 V m; have m74 := mx74 V m; clear v0 v1 v2 v3 v4 hm e0 e1 e2 e3 e4
 subst h1
 subst h2
 subst h3
 go_enter Tryz.func37, Tryz.ntmps37
 go_wp2_with (first | ((with_reducible show wpList _ _ _ _ _ _); refine lA 38 28 rfl rfl (w.heap.size) (61) 4 rfl 41 (machC V m) #[.int .i64 m.bm.ln, .int .i64 m.bm.pt, .bool m.bm.rg, .int .i64 m.bm.fr] kB Tryz.underlying38 ?_))
 all_goals
  go_ret
  exact ⟨rfl, kL⟩
theorem rc_11 (V : Nat → Value) (m : Mach) (w : World) (hm : MV w V m) (n0 n1 n2 n3 n4 : Nat) (e0 : n0 = (m.mem 0).length) (e1 : n1 = (m.mem 1).length) (e2 : n2 = (m.mem 2).length) (e3 : n3 = (m.mem 3).length) (e4 : n4 = (m.mem 4).length) (h0 : ¬ 1024 < max (n0 : Int) n1) (h1 : n2 = 128) (h2 : n3 = 64) (h3 : n4 = 256) (h4 : ¬ m.sd.wt < 0) (h5 : ¬ 15 < m.sd.wt) (h6 : ¬ m.bm.ln < 0) (h7 : ¬ 9 < m.bm.ln) (h8 : ¬ m.bm.pt < 0) (h9 : ¬ 63 < m.bm.pt) (h10 : ¬ m.bm.fr < 0) (h11 : 20000 < m.bm.fr) : Calls Tryz.prog 37 #[.agg (machC V m)] w fun e w' => e = .returned (.int .i64 3) ∧ Below w.heap.size w w' := by
 obtain ⟨a0, q0, v0, -⟩ := hm 0 kO; obtain ⟨a1, q1, v1, -⟩ := hm 1 kO; obtain ⟨a2, q2, v2, -⟩ := hm 2 kO; obtain ⟨a3, q3, v3, -⟩ := hm 3 kO; obtain ⟨a4, q4, v4, -⟩ := hm 4 kO; have m30 := mx30 V m; have m31 := mx31 V m; have m32 := mx32 V m; have m33 := mx33 V m; have m34 := mx34 V m; rw [v0, ← e0] at m30; rw [v1, ← e1] at m31; rw [v2, ← e2] at m32; rw [v3, ← e3] at m33; rw [v4, ← e4] at m34; have m60 := mx60 V m; have m72 := mx72 V m; have m73 := mx73 V m; have m74 := mx74 V m; clear v0 v1 v2 v3 v4 hm e0 e1 e2 e3 e4
 subst h1
 subst h2
 subst h3
 go_enter Tryz.func37, Tryz.ntmps37
 go_wp2_with (first | ((with_reducible show wpList _ _ _ _ _ _); refine lA 38 28 rfl rfl (w.heap.size) (61) 4 rfl 41 (machC V m) #[.int .i64 m.bm.ln, .int .i64 m.bm.pt, .bool m.bm.rg, .int .i64 m.bm.fr] kB Tryz.underlying38 ?_))
 all_goals
  go_ret
  exact ⟨rfl, kL⟩
theorem rc_12 (V : Nat → Value) (m : Mach) (w : World) (hm : MV w V m) (n0 n1 n2 n3 n4 : Nat) (e0 : n0 = (m.mem 0).length) (e1 : n1 = (m.mem 1).length) (e2 : n2 = (m.mem 2).length) (e3 : n3 = (m.mem 3).length) (e4 : n4 = (m.mem 4).length) (h0 : ¬ 1024 < max (n0 : Int) n1) (h1 : n2 = 128) (h2 : n3 = 64) (h3 : n4 = 256) (h4 : ¬ m.sd.wt < 0) (h5 : ¬ 15 < m.sd.wt) (h6 : ¬ m.bm.ln < 0) (h7 : ¬ 9 < m.bm.ln) (h8 : ¬ m.bm.pt < 0) (h9 : ¬ 63 < m.bm.pt) (h10 : ¬ m.bm.fr < 0) (h11 : ¬ 20000 < m.bm.fr) (h12 : m.ck < 0) : Calls Tryz.prog 37 #[.agg (machC V m)] w fun e w' => e = .returned (.int .i64 3) ∧ Below w.heap.size w w' := by
 obtain ⟨a0, q0, v0, -⟩ := hm 0 kO; obtain ⟨a1, q1, v1, -⟩ := hm 1 kO; obtain ⟨a2, q2, v2, -⟩ := hm 2 kO; obtain ⟨a3, q3, v3, -⟩ := hm 3 kO; obtain ⟨a4, q4, v4, -⟩ := hm 4 kO; have m30 := mx30 V m; have m31 := mx31 V m; have m32 := mx32 V m; have m33 := mx33 V m; have m34 := mx34 V m; rw [v0, ← e0] at m30; rw [v1, ← e1] at m31; rw [v2, ← e2] at m32; rw [v3, ← e3] at m33; rw [v4, ← e4] at m34; have m60 := mx60 V m; have m72 := mx72 V m; have m73 := mx73 V m; have m74 := mx74 V m; clear v0 v1 v2 v3 v4 hm e0 e1 e2 e3 e4
 subst h1
 subst h2
 subst h3
 go_enter Tryz.func37, Tryz.ntmps37
 go_wp2_with (first | ((with_reducible show wpList _ _ _ _ _ _); refine lA 38 28 rfl rfl (w.heap.size) (61) 4 rfl 41 (machC V m) #[.int .i64 m.bm.ln, .int .i64 m.bm.pt, .bool m.bm.rg, .int .i64 m.bm.fr] kB Tryz.underlying38 ?_))
 all_goals
  go_ret
  exact ⟨rfl, kL⟩
theorem rc_13 (V : Nat → Value) (m : Mach) (w : World) (hm : MV w V m) (n0 n1 n2 n3 n4 : Nat) (e0 : n0 = (m.mem 0).length) (e1 : n1 = (m.mem 1).length) (e2 : n2 = (m.mem 2).length) (e3 : n3 = (m.mem 3).length) (e4 : n4 = (m.mem 4).length) (h0 : ¬ 1024 < max (n0 : Int) n1) (h1 : n2 = 128) (h2 : n3 = 64) (h3 : n4 = 256) (h4 : ¬ m.sd.wt < 0) (h5 : ¬ 15 < m.sd.wt) (h6 : ¬ m.bm.ln < 0) (h7 : ¬ 9 < m.bm.ln) (h8 : ¬ m.bm.pt < 0) (h9 : ¬ 63 < m.bm.pt) (h10 : ¬ m.bm.fr < 0) (h11 : ¬ 20000 < m.bm.fr) (h12 : ¬ m.ck < 0) (h13 : 200000 < m.ck) : Calls Tryz.prog 37 #[.agg (machC V m)] w fun e w' => e = .returned (.int .i64 3) ∧ Below w.heap.size w w' := by
 obtain ⟨a0, q0, v0, -⟩ := hm 0 kO; obtain ⟨a1, q1, v1, -⟩ := hm 1 kO; obtain ⟨a2, q2, v2, -⟩ := hm 2 kO; obtain ⟨a3, q3, v3, -⟩ := hm 3 kO; obtain ⟨a4, q4, v4, -⟩ := hm 4 kO; have m30 := mx30 V m; have m31 := mx31 V m; have m32 := mx32 V m; have m33 := mx33 V m; have m34 := mx34 V m; rw [v0, ← e0] at m30; rw [v1, ← e1] at m31; rw [v2, ← e2] at m32; rw [v3, ← e3] at m33; rw [v4, ← e4] at m34; have m60 := mx60 V m; have m72 := mx72 V m; have m73 := mx73 V m; have m74 := mx74 V m; clear v0 v1 v2 v3 v4 hm e0 e1 e2 e3 e4
 subst h1
 subst h2
 subst h3
 go_enter Tryz.func37, Tryz.ntmps37
 go_wp2_with (first | ((with_reducible show wpList _ _ _ _ _ _); refine lA 38 28 rfl rfl (w.heap.size) (61) 4 rfl 41 (machC V m) #[.int .i64 m.bm.ln, .int .i64 m.bm.pt, .bool m.bm.rg, .int .i64 m.bm.fr] kB Tryz.underlying38 ?_))
 all_goals
  go_ret
  exact ⟨rfl, kL⟩
theorem rc_14 (V : Nat → Value) (m : Mach) (w : World) (hm : MV w V m) (n0 n1 n2 n3 n4 : Nat) (e0 : n0 = (m.mem 0).length) (e1 : n1 = (m.mem 1).length) (e2 : n2 = (m.mem 2).length) (e3 : n3 = (m.mem 3).length) (e4 : n4 = (m.mem 4).length) (h0 : ¬ 1024 < max (n0 : Int) n1) (h1 : n2 = 128) (h2 : n3 = 64) (h3 : n4 = 256) (h4 : ¬ m.sd.wt < 0) (h5 : ¬ 15 < m.sd.wt) (h6 : ¬ m.bm.ln < 0) (h7 : ¬ 9 < m.bm.ln) (h8 : ¬ m.bm.pt < 0) (h9 : ¬ 63 < m.bm.pt) (h10 : ¬ m.bm.fr < 0) (h11 : ¬ 20000 < m.bm.fr) (h12 : ¬ m.ck < 0) (h13 : ¬ 200000 < m.ck) (h14 : m.mr < 0) : Calls Tryz.prog 37 #[.agg (machC V m)] w fun e w' => e = .returned (.int .i64 3) ∧ Below w.heap.size w w' := by
 obtain ⟨a0, q0, v0, -⟩ := hm 0 kO; obtain ⟨a1, q1, v1, -⟩ := hm 1 kO; obtain ⟨a2, q2, v2, -⟩ := hm 2 kO; obtain ⟨a3, q3, v3, -⟩ := hm 3 kO; obtain ⟨a4, q4, v4, -⟩ := hm 4 kO; have m30 := mx30 V m; have m31 := mx31 V m; have m32 := mx32 V m; have m33 := mx33 V m; have m34 := mx34 V m; rw [v0, ← e0] at m30; rw [v1, ← e1] at m31; rw [v2, ← e2] at m32; rw [v3, ← e3] at m33; rw [v4, ← e4] at m34; have m60 := mx60 V m; have m72 := mx72 V m; have m73 := mx73 V m; have m74 := mx74 V m; clear v0 v1 v2 v3 v4 hm e0 e1 e2 e3 e4
 subst h1
 subst h2
 subst h3
 go_enter Tryz.func37, Tryz.ntmps37
 go_wp2_with (first | ((with_reducible show wpList _ _ _ _ _ _); refine lA 38 28 rfl rfl (w.heap.size) (61) 4 rfl 41 (machC V m) #[.int .i64 m.bm.ln, .int .i64 m.bm.pt, .bool m.bm.rg, .int .i64 m.bm.fr] kB Tryz.underlying38 ?_))
 all_goals
  go_ret
  exact ⟨rfl, kL⟩
theorem rc_15 (V : Nat → Value) (m : Mach) (w : World) (hm : MV w V m) (n0 n1 n2 n3 n4 : Nat) (e0 : n0 = (m.mem 0).length) (e1 : n1 = (m.mem 1).length) (e2 : n2 = (m.mem 2).length) (e3 : n3 = (m.mem 3).length) (e4 : n4 = (m.mem 4).length) (h0 : ¬ 1024 < max (n0 : Int) n1) (h1 : n2 = 128) (h2 : n3 = 64) (h3 : n4 = 256) (h4 : ¬ m.sd.wt < 0) (h5 : ¬ 15 < m.sd.wt) (h6 : ¬ m.bm.ln < 0) (h7 : ¬ 9 < m.bm.ln) (h8 : ¬ m.bm.pt < 0) (h9 : ¬ 63 < m.bm.pt) (h10 : ¬ m.bm.fr < 0) (h11 : ¬ 20000 < m.bm.fr) (h12 : ¬ m.ck < 0) (h13 : ¬ 200000 < m.ck) (h14 : ¬ m.mr < 0) (h15 : m.ck + 20000 < m.mr) : Calls Tryz.prog 37 #[.agg (machC V m)] w fun e w' => e = .returned (.int .i64 3) ∧ Below w.heap.size w w' := by
 obtain ⟨a0, q0, v0, -⟩ := hm 0 kO; obtain ⟨a1, q1, v1, -⟩ := hm 1 kO; obtain ⟨a2, q2, v2, -⟩ := hm 2 kO; obtain ⟨a3, q3, v3, -⟩ := hm 3 kO; obtain ⟨a4, q4, v4, -⟩ := hm 4 kO; have m30 := mx30 V m; have m31 := mx31 V m; have m32 := mx32 V m; have m33 := mx33 V m; have m34 := mx34 V m; rw [v0, ← e0] at m30; rw [v1, ← e1] at m31; rw [v2, ← e2] at m32; rw [v3, ← e3] at m33; rw [v4, ← e4] at m34; have m60 := mx60 V m; have m72 := mx72 V m; have m73 := mx73 V m; have m74 := mx74 V m; clear v0 v1 v2 v3 v4 hm e0 e1 e2 e3 e4
 subst h1
 subst h2
 subst h3
 have hm0 : IntKind.i64.wrap (m.ck + 20000) = m.ck + 20000 := by rw [IntKind.wrap_i64]; omega
 go_enter Tryz.func37, Tryz.ntmps37
 go_wp2_with (first | ((with_reducible show wpList _ _ _ _ _ _); refine lA 38 28 rfl rfl (w.heap.size) (61) 4 rfl 41 (machC V m) #[.int .i64 m.bm.ln, .int .i64 m.bm.pt, .bool m.bm.rg, .int .i64 m.bm.fr] kB Tryz.underlying38 ?_))
 all_goals
  go_ret
  exact ⟨rfl, kL⟩
theorem rc_16 (V : Nat → Value) (m : Mach) (w : World) (hm : MV w V m) (n0 n1 n2 n3 n4 : Nat) (e0 : n0 = (m.mem 0).length) (e1 : n1 = (m.mem 1).length) (e2 : n2 = (m.mem 2).length) (e3 : n3 = (m.mem 3).length) (e4 : n4 = (m.mem 4).length) (h0 : ¬ 1024 < max (n0 : Int) n1) (h1 : n2 = 128) (h2 : n3 = 64) (h3 : n4 = 256) (h4 : ¬ m.sd.wt < 0) (h5 : ¬ 15 < m.sd.wt) (h6 : ¬ m.bm.ln < 0) (h7 : ¬ 9 < m.bm.ln) (h8 : ¬ m.bm.pt < 0) (h9 : ¬ 63 < m.bm.pt) (h10 : ¬ m.bm.fr < 0) (h11 : ¬ 20000 < m.bm.fr) (h12 : ¬ m.ck < 0) (h13 : ¬ 200000 < m.ck) (h14 : ¬ m.mr < 0) (h15 : ¬ m.ck + 20000 < m.mr) (h16 : m.ar < 0) : Calls Tryz.prog 37 #[.agg (machC V m)] w fun e w' => e = .returned (.int .i64 3) ∧ Below w.heap.size w w' := by
 obtain ⟨a0, q0, v0, -⟩ := hm 0 kO; obtain ⟨a1, q1, v1, -⟩ := hm 1 kO; obtain ⟨a2, q2, v2, -⟩ := hm 2 kO; obtain ⟨a3, q3, v3, -⟩ := hm 3 kO; obtain ⟨a4, q4, v4, -⟩ := hm 4 kO; have m30 := mx30 V m; have m31 := mx31 V m; have m32 := mx32 V m; have m33 := mx33 V m; have m34 := mx34 V m; rw [v0, ← e0] at m30; rw [v1, ← e1] at m31; rw [v2, ← e2] at m32; rw [v3, ← e3] at m33; rw [v4, ← e4] at m34; have m60 := mx60 V m; have m72 := mx72 V m; have m73 := mx73 V m; have m74 := mx74 V m; clear v0 v1 v2 v3 v4 hm e0 e1 e2 e3 e4
 subst h1
 subst h2
 subst h3
 have hm0 : IntKind.i64.wrap (m.ck + 20000) = m.ck + 20000 := by rw [IntKind.wrap_i64]; omega
 go_enter Tryz.func37, Tryz.ntmps37
 go_wp2_with (first | ((with_reducible show wpList _ _ _ _ _ _); refine lA 38 28 rfl rfl (w.heap.size) (61) 4 rfl 41 (machC V m) #[.int .i64 m.bm.ln, .int .i64 m.bm.pt, .bool m.bm.rg, .int .i64 m.bm.fr] kB Tryz.underlying38 ?_))
 all_goals
  go_ret
  exact ⟨rfl, kL⟩
theorem rc_17 (V : Nat → Value) (m : Mach) (w : World) (hm : MV w V m) (n0 n1 n2 n3 n4 : Nat) (e0 : n0 = (m.mem 0).length) (e1 : n1 = (m.mem 1).length) (e2 : n2 = (m.mem 2).length) (e3 : n3 = (m.mem 3).length) (e4 : n4 = (m.mem 4).length) (h0 : ¬ 1024 < max (n0 : Int) n1) (h1 : n2 = 128) (h2 : n3 = 64) (h3 : n4 = 256) (h4 : ¬ m.sd.wt < 0) (h5 : ¬ 15 < m.sd.wt) (h6 : ¬ m.bm.ln < 0) (h7 : ¬ 9 < m.bm.ln) (h8 : ¬ m.bm.pt < 0) (h9 : ¬ 63 < m.bm.pt) (h10 : ¬ m.bm.fr < 0) (h11 : ¬ 20000 < m.bm.fr) (h12 : ¬ m.ck < 0) (h13 : ¬ 200000 < m.ck) (h14 : ¬ m.mr < 0) (h15 : ¬ m.ck + 20000 < m.mr) (h16 : ¬ m.ar < 0) (h17 : m.ck + 20000 < m.ar) : Calls Tryz.prog 37 #[.agg (machC V m)] w fun e w' => e = .returned (.int .i64 3) ∧ Below w.heap.size w w' := by
 obtain ⟨a0, q0, v0, -⟩ := hm 0 kO; obtain ⟨a1, q1, v1, -⟩ := hm 1 kO; obtain ⟨a2, q2, v2, -⟩ := hm 2 kO; obtain ⟨a3, q3, v3, -⟩ := hm 3 kO; obtain ⟨a4, q4, v4, -⟩ := hm 4 kO; have m30 := mx30 V m; have m31 := mx31 V m; have m32 := mx32 V m; have m33 := mx33 V m; have m34 := mx34 V m; rw [v0, ← e0] at m30; rw [v1, ← e1] at m31; rw [v2, ← e2] at m32; rw [v3, ← e3] at m33; rw [v4, ← e4] at m34; have m60 := mx60 V m; have m72 := mx72 V m; have m73 := mx73 V m; have m74 := mx74 V m; clear v0 v1 v2 v3 v4 hm e0 e1 e2 e3 e4
 subst h1
 subst h2
 subst h3
 have hm0 : IntKind.i64.wrap (m.ck + 20000) = m.ck + 20000 := by rw [IntKind.wrap_i64]; omega
 go_enter Tryz.func37, Tryz.ntmps37
 go_wp2_with (first | ((with_reducible show wpList _ _ _ _ _ _); refine lA 38 28 rfl rfl (w.heap.size) (61) 4 rfl 41 (machC V m) #[.int .i64 m.bm.ln, .int .i64 m.bm.pt, .bool m.bm.rg, .int .i64 m.bm.fr] kB Tryz.underlying38 ?_))
 all_goals
  go_ret
  exact ⟨rfl, kL⟩
theorem rc_18 (V : Nat → Value) (m : Mach) (w : World) (hm : MV w V m) (n0 n1 n2 n3 n4 : Nat) (e0 : n0 = (m.mem 0).length) (e1 : n1 = (m.mem 1).length) (e2 : n2 = (m.mem 2).length) (e3 : n3 = (m.mem 3).length) (e4 : n4 = (m.mem 4).length) (h0 : ¬ 1024 < max (n0 : Int) n1) (h1 : n2 = 128) (h2 : n3 = 64) (h3 : n4 = 256) (h4 : ¬ m.sd.wt < 0) (h5 : ¬ 15 < m.sd.wt) (h6 : ¬ m.bm.ln < 0) (h7 : ¬ 9 < m.bm.ln) (h8 : ¬ m.bm.pt < 0) (h9 : ¬ 63 < m.bm.pt) (h10 : ¬ m.bm.fr < 0) (h11 : ¬ 20000 < m.bm.fr) (h12 : ¬ m.ck < 0) (h13 : ¬ 200000 < m.ck) (h14 : ¬ m.mr < 0) (h15 : ¬ m.ck + 20000 < m.mr) (h16 : ¬ m.ar < 0) (h17 : ¬ m.ck + 20000 < m.ar) : Calls Tryz.prog 37 #[.agg (machC V m)] w fun e w' => e = .returned (.int .i64 0) ∧ Below w.heap.size w w' := by
 obtain ⟨a0, q0, v0, -⟩ := hm 0 kO; obtain ⟨a1, q1, v1, -⟩ := hm 1 kO; obtain ⟨a2, q2, v2, -⟩ := hm 2 kO; obtain ⟨a3, q3, v3, -⟩ := hm 3 kO; obtain ⟨a4, q4, v4, -⟩ := hm 4 kO; have m30 := mx30 V m; have m31 := mx31 V m; have m32 := mx32 V m; have m33 := mx33 V m; have m34 := mx34 V m; rw [v0, ← e0] at m30; rw [v1, ← e1] at m31; rw [v2, ← e2] at m32; rw [v3, ← e3] at m33; rw [v4, ← e4] at m34; have m60 := mx60 V m; have m72 := mx72 V m; have m73 := mx73 V m; have m74 := mx74 V m; clear v0 v1 v2 v3 v4 hm e0 e1 e2 e3 e4
 subst h1
 subst h2
 subst h3
 have hm0 : IntKind.i64.wrap (m.ck + 20000) = m.ck + 20000 := by rw [IntKind.wrap_i64]; omega
 go_enter Tryz.func37, Tryz.ntmps37
 go_wp2_with (first | ((with_reducible show wpList _ _ _ _ _ _); refine lA 38 28 rfl rfl (w.heap.size) (61) 4 rfl 41 (machC V m) #[.int .i64 m.bm.ln, .int .i64 m.bm.pt, .bool m.bm.rg, .int .i64 m.bm.fr] kB Tryz.underlying38 ?_))
 all_goals
  go_ret
  exact ⟨rfl, kL⟩
end Go.Proofs.YtmppkjkmocecmaaGreatDoor
