/- BusProgram: whatever a processor writes, its program stays; whoever reads it changes nothing: for every machine, processor, place and byte the law answers true. Conditions: none. -/
import Derived.Test.YtimccpmdgfneoaaBusM
import Derived.Test.YtimccpmdgfneoaaBusSame
namespace Go.Proofs.Ytimccpmdgfneoaa.busProgram
open Go.RowKit Go.Mq
set_option linter.unusedVariables false
set_option linter.unusedSimpArgs false
set_option maxHeartbeats 2000000
set_option maxRecDepth 100000
theorem bad (V : Nat → Value) (m : Mach) (aux : Bool) (a n : Int) (w : World) (hm : MV w V m) (h : ¬ m.Right) :
    Calls Try.prog 7 #[.agg (machC V m), .bool aux, .int .u16 a, .int .u8 n] w fun e w' => e = .returned (.bool true) ∧ Below w.heap.size w w' := by
  have WR := Lib.hid (fun (W : World) (x : Int) (k : Below w.heap.size w W) => write_bad V m aux x n W (hm.below k) h)
  have hc : chk m ≠ 0 := fun e => h ((chk_zero m).1 e)
  obtain ⟨c, ec⟩ : ∃ c, c = chk m := ⟨_, rfl⟩
  rw [← ec] at WR hc
  have hcb : (c != 0) = true := by rw [bne_iff_ne]; exact hc
  have ON := Lib.hid (machC_one m (fun i hi => hm.one i hi))
  have ONZ := zeroM_one
  clear hm h ec hc
  go_enter Try.func7, Try.ntmps7
  go_wp2_with (first | ((with_reducible show wpList _ _ _ _ _ _); refine wpList_loadW rfl 41 (.tmp 4) rfl (w.heap.size) rfl 41 (machC V m) (show Blk _ (w.heap.size) (machC V m) 41 from (by repeat' (first | (with_reducible first | exact Hid.out (by assumption) | exact Blk.new _ _ _ | (refine Blk.new_at _ _ _ _ ?_; simp; done) | refine Blk.alloc ?_ _ | refine Blk.drewN ?_ _ | refine Blk.drew ?_ | apply Blk.set | refine Blk.put ?_ (by assumption) (by first | (simp; done) | (simp; omega) | omega) | refine Blk.below ?_ (by assumption)) | (refine Blk.setAt ?_ (by first | (simp; done) | (simp; omega))) | rfl))) _ Try.underlying41 rfl (by kernel_rfl) ?_))
  refine (WR.out _ _ (by repeat' (first | (with_reducible first | exact Below.refl _ _ | assumption | refine below_alloc ?_ _ | refine Below.drew ?_ | refine below_drewN ?_ _ | refine below_then ?_ (by assumption) | refine below_put ?_ (by assumption) (by first | (simp; done) | (simp; omega) | omega) | refine Below.setCell ?_ ?_ _) | (simp; done) | (simp; omega) | omega))).mono ?_
  rintro e w1 ⟨rfl, hb1⟩
  have s1 : w.heap.size + 1 ≤ w1.heap.size := by have := hb1.size; simpa using this
  go_wp2_with (first | ((with_reducible show wpList _ _ _ _ _ _); refine wpList_storeW rfl 41 (.tmp 9) (.tmp 23) rfl (w1.heap.size) Try.zeroCells41 rfl rfl 41 _ (show Blk _ (w1.heap.size) Try.zeroCells41 41 from (by repeat' (first | (with_reducible first | exact Hid.out (by assumption) | exact Blk.new _ _ _ | (refine Blk.new_at _ _ _ _ ?_; simp; done) | refine Blk.alloc ?_ _ | refine Blk.drewN ?_ _ | refine Blk.drew ?_ | apply Blk.set | refine Blk.put ?_ (by assumption) (by first | (simp; done) | (simp; omega) | omega) | refine Blk.below ?_ (by assumption)) | (refine Blk.setAt ?_ (by first | (simp; done) | (simp; omega))) | rfl))) (by kernel_rfl) rfl (by first | (with_reducible assumption) | simp [Value.oneCell']) ?_; intro w2 hp_w2 K_w2))
  have B2 : Below w.heap.size w w2 := by repeat' (first | (with_reducible first | exact Below.refl _ _ | assumption | refine below_alloc ?_ _ | refine Below.drew ?_ | refine below_drewN ?_ _ | refine below_then ?_ (by assumption) | refine below_put ?_ (by assumption) (by first | (simp; done) | (simp; omega) | omega) | refine Below.setCell ?_ ?_ _) | (simp; done) | (simp; omega) | omega)
  clear hb1 hp_w2 K_w2
  refine (bussed_any _).mono ?_
  rintro e w3 ⟨rfl, hb3⟩
  have B3 : Below w.heap.size w w3 := below_then B2 hb3
  clear hb3 B2
  go_wp2_with fail
  refine (bussed_any _).mono ?_
  rintro e w4 ⟨rfl, hb4⟩
  go_wp2
  go_ret
  exact ⟨rfl, by repeat' (first | (with_reducible first | exact Below.refl _ _ | assumption | refine below_alloc ?_ _ | refine Below.drew ?_ | refine below_drewN ?_ _ | refine below_then ?_ (by assumption) | refine below_put ?_ (by assumption) (by first | (simp; done) | (simp; omega) | omega) | refine Below.setCell ?_ ?_ _) | (simp; done) | (simp; omega) | omega)⟩
theorem good_main_lo (V : Nat → Value) (m : Mach) (a n : Int) (ha : U16 a) (hn : U8 n) (w : World) (hm : MV w V m) (hi : m.In) (h : m.Right) (q : Nat) (hq : (q : Int) = a % 32768) (hc : q < (m.mem 0).length) :
    Calls Try.prog 7 #[.agg (machC V m), .bool false, .int .u16 a, .int .u8 n] w fun e w' => e = .returned (.bool true) ∧ Below w.heap.size w w' := by
  obtain ⟨X, hX⟩ : ∃ X, X = writeX m false a n := ⟨_, rfl⟩
  have X0 := write_rom m false a n (j := 0) (by omega)
  have X1 := write_rom m false a n (j := 1) (by omega)
  rw [← hX] at X0 X1
  have WR := Lib.hid (fun (W : World) (k : Below w.heap.size w W) => write_main V m a n ha hn W (hm.below k) hi h)
  rw [← hX] at WR
  obtain ⟨dl, hdl⟩ : ∃ d, d = X.dl := ⟨_, rfl⟩
  obtain ⟨E, hE⟩ : ∃ E, E = X.m := ⟨_, rfl⟩
  rw [← hdl, ← hE] at WR
  rw [← hE] at X0 X1
  have RD := Lib.hid (fun (W : World) (k : Below w.heap.size w W) => read_main V m q (by unfold U16; omega) W (hm.below k) hi h)
  rw [rom_get m false (by omega) (by omega), readX_no _ false (by omega)] at RD
  obtain ⟨r, hr⟩ : ∃ r, r = romV m false q := ⟨_, rfl⟩
  rw [← hr] at RD
  have HM := Lib.hid hm
  have SA := Lib.hid (fun (W : World) (U1 U2 : Nat → Value) (k1 : MV W U1 m) (k2 : MV W U2 m) => same_any U1 U2 m W k1 k2)
  have EQ := Lib.hid (fun (W : World) (v u : Value) (xs ys : List Int) (k : SliceAt W .u8 v xs) (k2 : SliceAt W .u8 u ys) => bytesEqual_any v u xs ys W k k2)
  have ON := Lib.hid (machC_one m (fun i hi => hm.one i hi))
  have ONZ := zeroM_one
  have eA : bits .and .u16 a 32767 = q := by rw [at_low a ha, hq]
  have q0 : (q : Int) < 32768 := by omega
  have hlen : (m.mem 0).length ≤ 1024 := h.fit.l0
  obtain ⟨N, hN⟩ : ∃ N, N = (m.mem 0).length := ⟨_, rfl⟩
  have HX0 := Lib.hid X0
  have HX1 := Lib.hid X1
  have HN := Lib.hid hN.symm
  have hnn : N ≤ 1024 := by omega
  have HR : Hid ((m.mem 0).getD q 0 = r) := Lib.hid (by rw [hr]; unfold romV; simp only [Bool.false_eq_true, if_false]; rw [if_pos (by omega)]; rfl)
  have hcq : (q : Int) < N := by omega
  clear hm hi h hX hdl hE X0 X1 hr hN hq hc hlen
  go_enter Try.func7, Try.ntmps7
  go_wp2_with (first | ((with_reducible show wpList _ _ _ _ _ _); refine wpList_loadW rfl 41 (.tmp 4) rfl (w.heap.size) rfl 41 (machC V m) (show Blk _ (w.heap.size) (machC V m) 41 from (by repeat' (first | (with_reducible first | exact Hid.out (by assumption) | exact Blk.new _ _ _ | (refine Blk.new_at _ _ _ _ ?_; simp; done) | refine Blk.alloc ?_ _ | refine Blk.drewN ?_ _ | refine Blk.drew ?_ | apply Blk.set | refine Blk.put ?_ (by assumption) (by first | (simp; done) | (simp; omega) | omega) | refine Blk.below ?_ (by assumption)) | (refine Blk.setAt ?_ (by first | (simp; done) | (simp; omega))) | rfl))) _ Try.underlying41 rfl (by kernel_rfl) ?_))
  refine (WR.out _ (by repeat' (first | (with_reducible first | exact Below.refl _ _ | assumption | refine below_alloc ?_ _ | refine Below.drew ?_ | refine below_drewN ?_ _ | refine below_then ?_ (by assumption) | refine below_put ?_ (by assumption) (by first | (simp; done) | (simp; omega) | omega) | refine Below.setCell ?_ ?_ _) | (simp; done) | (simp; omega) | omega))).mono ?_
  rintro e w1 ⟨U, rfl, T1⟩
  have hb1 := T1.below
  have s1 : w.heap.size + 1 ≤ w1.heap.size := by have := hb1.size; simpa using this
  have B1 : Below w.heap.size w w1 := by repeat' (first | (with_reducible first | exact Below.refl _ _ | assumption | refine below_alloc ?_ _ | refine Below.drew ?_ | refine below_drewN ?_ _ | refine below_then ?_ (by assumption) | refine below_put ?_ (by assumption) (by first | (simp; done) | (simp; omega) | omega) | refine Below.setCell ?_ ?_ _) | (simp; done) | (simp; omega) | omega)
  have KM1 := Lib.hid ((Blk.new w (machC V m) 41).below hb1)
  have ON1 := told_one T1
  have TT1 := Lib.hid T1
  clear hb1 T1 WR
  go_wp2_with (first | ((with_reducible show wpList _ _ _ _ _ _); refine wpList_storeW rfl 41 (.tmp 9) (.tmp 23) rfl (w1.heap.size) (machC U E) rfl rfl 41 _ (show Blk _ (w1.heap.size) Try.zeroCells41 41 from (by repeat' (first | (with_reducible first | exact Hid.out (by assumption) | exact Blk.new _ _ _ | (refine Blk.new_at _ _ _ _ ?_; simp; done) | refine Blk.alloc ?_ _ | refine Blk.drewN ?_ _ | refine Blk.drew ?_ | apply Blk.set | refine Blk.put ?_ (by assumption) (by first | (simp; done) | (simp; omega) | omega) | refine Blk.below ?_ (by assumption)) | (refine Blk.setAt ?_ (by first | (simp; done) | (simp; omega))) | rfl))) (by kernel_rfl) rfl (by first | (with_reducible assumption) | simp [Value.oneCell']) ?_; intro w2 hp_w2 K_w2))
  have sz2 : w1.heap.size + 1 ≤ w2.heap.size := by have := hp_w2.size; simp at this; omega
  have b12 : Below w1.heap.size w1 w2 := by repeat' (first | (with_reducible first | exact Below.refl _ _ | assumption | refine below_alloc ?_ _ | refine Below.drew ?_ | refine below_drewN ?_ _ | refine below_then ?_ (by assumption) | refine below_put ?_ (by assumption) (by first | (simp; done) | (simp; omega) | omega) | refine Below.setCell ?_ ?_ _) | (simp; done) | (simp; omega) | omega)
  have B2 : Below w.heap.size w w2 := B1.trans (b12.mono (by omega))
  have KK2 := Lib.hid K_w2.out
  have KM2 := Lib.hid (KM1.out.below b12)
  have MV2 := Lib.hid (TT1.out.mv.below b12)
  clear K_w2 hp_w2 b12 TT1 B1 KM1
  refine (bussed_any _).mono ?_
  rintro e w3 ⟨rfl, hb3⟩
  have B3 : Below w.heap.size w w3 := below_then B2 hb3
  have KK3 := Lib.hid (KK2.out.below hb3)
  have KM3 := Lib.hid (KM2.out.below hb3)
  have MV3 := Lib.hid (MV2.out.below hb3)
  have s3 := hb3.size
  clear hb3 B2 KK2 KM2 MV2
  go_wp2_with (first | ((with_reducible show wpList _ _ _ _ _ _); refine wpList_loadW rfl 41 (.tmp 4) rfl (w.heap.size) rfl 41 (machC V m) (show Blk _ (w.heap.size) (machC V m) 41 from (by repeat' (first | (with_reducible first | exact Hid.out (by assumption) | exact Blk.new _ _ _ | (refine Blk.new_at _ _ _ _ ?_; simp; done) | refine Blk.alloc ?_ _ | refine Blk.drewN ?_ _ | refine Blk.drew ?_ | apply Blk.set | refine Blk.put ?_ (by assumption) (by first | (simp; done) | (simp; omega) | omega) | refine Blk.below ?_ (by assumption)) | (refine Blk.setAt ?_ (by first | (simp; done) | (simp; omega))) | rfl))) _ Try.underlying41 rfl (by kernel_rfl) ?_))
  refine (RD.out _ B3).mono ?_
  rintro e w4 ⟨U2, rfl, T4⟩
  have hb4 := T4.below
  have s4 := hb4.size
  have B4 : Below w.heap.size w w4 := below_then B3 hb4
  have KK4 := Lib.hid (KK3.out.below hb4)
  have KM4 := Lib.hid (KM3.out.below hb4)
  have MV4 := Lib.hid (MV3.out.below hb4)
  have ON4 := told_one T4
  have MW4 := Lib.hid T4.mv
  clear hb4 T4 KK3 KM3 MV3 B3 RD
  have lB4 := KM4.out.lt
  have c30 := (KM4.out.cell 30).trans (mx30 V m)
  have c31 := (KM4.out.cell 31).trans (mx31 V m)
  go_wp2_with (first | (((with_reducible show wpList _ _ _ _ _ _); refine wpList_storeW rfl 41 (.tmp 13) (.tmp 40) rfl (w4.heap.size) (machC U2 m) rfl rfl 41 _ (show Blk _ (w4.heap.size) Try.zeroCells41 41 from (by repeat' (first | (with_reducible first | exact Hid.out (by assumption) | exact Blk.new _ _ _ | (refine Blk.new_at _ _ _ _ ?_; simp; done) | refine Blk.alloc ?_ _ | refine Blk.drewN ?_ _ | refine Blk.drew ?_ | apply Blk.set | refine Blk.put ?_ (by assumption) (by first | (simp; done) | (simp; omega) | omega) | refine Blk.below ?_ (by assumption)) | (refine Blk.setAt ?_ (by first | (simp; done) | (simp; omega))) | rfl))) (by kernel_rfl) rfl (by first | (with_reducible assumption) | simp [Value.oneCell']) ?_; intro w5 hp_w5 K_w5); have b45 : Below w4.heap.size w4 w5 := (by repeat' (first | (with_reducible first | exact Below.refl _ _ | assumption | refine below_alloc ?_ _ | refine Below.drew ?_ | refine below_drewN ?_ _ | refine below_then ?_ (by assumption) | refine below_put ?_ (by assumption) (by first | (simp; done) | (simp; omega) | omega) | refine Below.setCell ?_ ?_ _) | (simp; done) | (simp; omega) | omega)); have KV5 := Lib.hid (KM4.out.below b45); have KE5 := Lib.hid (KK4.out.below b45); have l50 := KV5.out.lt; have l51 := KE5.out.lt; have c30 := (KV5.out.cell 30).trans (mx30 V m); have c31 := (KV5.out.cell 31).trans (mx31 V m); have d30 := (KE5.out.cell 30).trans (mx30 U E); have d31 := (KE5.out.cell 31).trans (mx31 U E); obtain ⟨z, p, vz, -, -, -, h4⟩ := (HM.out.below (B4.trans (b45.mono (by omega)))) 0 (by omega); rw [HN.out] at vz h4; rw [vz] at c30; obtain ⟨b9, o9, ez9, lb9, hc9⟩ := h4 (by omega); have cq := hc9 q (by omega); rw [HR.out] at cq; rw [ez9] at c30; replace ez9 := Lib.hid ez9; replace hc9 := Lib.hid hc9; replace h4 := Lib.hid h4; replace vz := Lib.hid vz) | ((with_reducible show wpList _ _ _ _ _ _); refine wpList_loadGA (by rfl) 41 (.tmp 13) rfl (w4.heap.size) (0) 75 rfl 41 (machC U2 m) (machC U2 m) (show Blk _ (w4.heap.size) (machC U2 m) 41 from (by repeat' (first | (with_reducible first | exact Hid.out (by assumption) | exact Blk.new _ _ _ | (refine Blk.new_at _ _ _ _ ?_; simp; done) | refine Blk.alloc ?_ _ | refine Blk.drewN ?_ _ | refine Blk.drew ?_ | apply Blk.set | refine Blk.put ?_ (by assumption) (by first | (simp; done) | (simp; omega) | omega) | refine Blk.below ?_ (by assumption)) | (refine Blk.setAt ?_ (by first | (simp; done) | (simp; omega))) | rfl))) _ Try.underlying41 rfl (by kernel_rfl) rfl rfl ?_) | ((with_reducible show wpList _ _ _ _ _ _); refine wpList_loadGA (by rfl) 41 (.tmp 4) rfl (w.heap.size) (0) 75 rfl 41 (machC V m) (machC V m) (show Blk _ (w.heap.size) (machC V m) 41 from (by repeat' (first | (with_reducible first | exact Hid.out (by assumption) | exact Blk.new _ _ _ | (refine Blk.new_at _ _ _ _ ?_; simp; done) | refine Blk.alloc ?_ _ | refine Blk.drewN ?_ _ | refine Blk.drew ?_ | apply Blk.set | refine Blk.put ?_ (by assumption) (by first | (simp; done) | (simp; omega) | omega) | refine Blk.below ?_ (by assumption)) | (refine Blk.setAt ?_ (by first | (simp; done) | (simp; omega))) | rfl))) _ Try.underlying41 rfl (by kernel_rfl) rfl rfl ?_))
  have B5 : Below w.heap.size w w5 := B4.trans (b45.mono (by omega))
  have M5 := Lib.hid (MV4.out.below b45)
  refine (SA.out _ U2 V (MW4.out.below b45) (HM.out.below B5)).mono ?_
  rintro e w6 ⟨rfl, hb6⟩
  have B6 : Below w.heap.size w w6 := below_then B5 hb6
  have M6 := Lib.hid (M5.out.below hb6)
  have s6 := hb6.size
  have KV6 := Lib.hid (KV5.out.below hb6)
  have KE6 := Lib.hid (KE5.out.below hb6)
  clear c30 c31 d30 d31 l50 l51 KV5 KE5 B5 M5 hb6 b45 K_w5 hp_w5 KM4 KK4 MV4 MW4 SA
  have l60 := KV6.out.lt
  have l61 := KE6.out.lt
  have c30 := (KV6.out.cell 30).trans (mx30 V m)
  have c31 := (KV6.out.cell 31).trans (mx31 V m)
  have d30 := (KE6.out.cell 30).trans (mx30 U E)
  have d31 := (KE6.out.cell 31).trans (mx31 U E)
  go_wp2_with (first | (((with_reducible show wpList _ _ _ _ _ _); refine wpList_storeW rfl 41 (.tmp 13) (.tmp 40) rfl (w4.heap.size) (machC U2 m) rfl rfl 41 _ (show Blk _ (w4.heap.size) Try.zeroCells41 41 from (by repeat' (first | (with_reducible first | exact Hid.out (by assumption) | exact Blk.new _ _ _ | (refine Blk.new_at _ _ _ _ ?_; simp; done) | refine Blk.alloc ?_ _ | refine Blk.drewN ?_ _ | refine Blk.drew ?_ | apply Blk.set | refine Blk.put ?_ (by assumption) (by first | (simp; done) | (simp; omega) | omega) | refine Blk.below ?_ (by assumption)) | (refine Blk.setAt ?_ (by first | (simp; done) | (simp; omega))) | rfl))) (by kernel_rfl) rfl (by first | (with_reducible assumption) | simp [Value.oneCell']) ?_; intro w5 hp_w5 K_w5); have b45 : Below w4.heap.size w4 w5 := (by repeat' (first | (with_reducible first | exact Below.refl _ _ | assumption | refine below_alloc ?_ _ | refine Below.drew ?_ | refine below_drewN ?_ _ | refine below_then ?_ (by assumption) | refine below_put ?_ (by assumption) (by first | (simp; done) | (simp; omega) | omega) | refine Below.setCell ?_ ?_ _) | (simp; done) | (simp; omega) | omega)); have KV5 := Lib.hid (KM4.out.below b45); have KE5 := Lib.hid (KK4.out.below b45); have l50 := KV5.out.lt; have l51 := KE5.out.lt; have c30 := (KV5.out.cell 30).trans (mx30 V m); have c31 := (KV5.out.cell 31).trans (mx31 V m); have d30 := (KE5.out.cell 30).trans (mx30 U E); have d31 := (KE5.out.cell 31).trans (mx31 U E); obtain ⟨z, p, vz, -, -, -, h4⟩ := (HM.out.below (B4.trans (b45.mono (by omega)))) 0 (by omega); rw [HN.out] at vz h4; rw [vz] at c30; obtain ⟨b9, o9, ez9, lb9, hc9⟩ := h4 (by omega); have cq := hc9 q (by omega); rw [HR.out] at cq; rw [ez9] at c30; replace ez9 := Lib.hid ez9; replace hc9 := Lib.hid hc9; replace h4 := Lib.hid h4; replace vz := Lib.hid vz) | ((with_reducible show wpList _ _ _ _ _ _); refine wpList_loadGA (by rfl) 41 (.tmp 13) rfl (w4.heap.size) (0) 75 rfl 41 (machC U2 m) (machC U2 m) (show Blk _ (w4.heap.size) (machC U2 m) 41 from (by repeat' (first | (with_reducible first | exact Hid.out (by assumption) | exact Blk.new _ _ _ | (refine Blk.new_at _ _ _ _ ?_; simp; done) | refine Blk.alloc ?_ _ | refine Blk.drewN ?_ _ | refine Blk.drew ?_ | apply Blk.set | refine Blk.put ?_ (by assumption) (by first | (simp; done) | (simp; omega) | omega) | refine Blk.below ?_ (by assumption)) | (refine Blk.setAt ?_ (by first | (simp; done) | (simp; omega))) | rfl))) _ Try.underlying41 rfl (by kernel_rfl) rfl rfl ?_) | ((with_reducible show wpList _ _ _ _ _ _); refine wpList_loadGA (by rfl) 41 (.tmp 4) rfl (w.heap.size) (0) 75 rfl 41 (machC V m) (machC V m) (show Blk _ (w.heap.size) (machC V m) 41 from (by repeat' (first | (with_reducible first | exact Hid.out (by assumption) | exact Blk.new _ _ _ | (refine Blk.new_at _ _ _ _ ?_; simp; done) | refine Blk.alloc ?_ _ | refine Blk.drewN ?_ _ | refine Blk.drew ?_ | apply Blk.set | refine Blk.put ?_ (by assumption) (by first | (simp; done) | (simp; omega) | omega) | refine Blk.below ?_ (by assumption)) | (refine Blk.setAt ?_ (by first | (simp; done) | (simp; omega))) | rfl))) _ Try.underlying41 rfl (by kernel_rfl) rfl rfl ?_))
  refine (EQ.out _ _ _ _ _ (M6.out 0 (by omega)) ((HM.out.below B6) 0 (by omega))).mono ?_
  rw [HX0.out, show decide (m.mem 0 = m.mem 0) = true by simp]
  rintro e w' ⟨rfl, rfl⟩
  go_wp2_with (first | (((with_reducible show wpList _ _ _ _ _ _); refine wpList_storeW rfl 41 (.tmp 13) (.tmp 40) rfl (w4.heap.size) (machC U2 m) rfl rfl 41 _ (show Blk _ (w4.heap.size) Try.zeroCells41 41 from (by repeat' (first | (with_reducible first | exact Hid.out (by assumption) | exact Blk.new _ _ _ | (refine Blk.new_at _ _ _ _ ?_; simp; done) | refine Blk.alloc ?_ _ | refine Blk.drewN ?_ _ | refine Blk.drew ?_ | apply Blk.set | refine Blk.put ?_ (by assumption) (by first | (simp; done) | (simp; omega) | omega) | refine Blk.below ?_ (by assumption)) | (refine Blk.setAt ?_ (by first | (simp; done) | (simp; omega))) | rfl))) (by kernel_rfl) rfl (by first | (with_reducible assumption) | simp [Value.oneCell']) ?_; intro w5 hp_w5 K_w5); have b45 : Below w4.heap.size w4 w5 := (by repeat' (first | (with_reducible first | exact Below.refl _ _ | assumption | refine below_alloc ?_ _ | refine Below.drew ?_ | refine below_drewN ?_ _ | refine below_then ?_ (by assumption) | refine below_put ?_ (by assumption) (by first | (simp; done) | (simp; omega) | omega) | refine Below.setCell ?_ ?_ _) | (simp; done) | (simp; omega) | omega)); have KV5 := Lib.hid (KM4.out.below b45); have KE5 := Lib.hid (KK4.out.below b45); have l50 := KV5.out.lt; have l51 := KE5.out.lt; have c30 := (KV5.out.cell 30).trans (mx30 V m); have c31 := (KV5.out.cell 31).trans (mx31 V m); have d30 := (KE5.out.cell 30).trans (mx30 U E); have d31 := (KE5.out.cell 31).trans (mx31 U E); obtain ⟨z, p, vz, -, -, -, h4⟩ := (HM.out.below (B4.trans (b45.mono (by omega)))) 0 (by omega); rw [HN.out] at vz h4; rw [vz] at c30; obtain ⟨b9, o9, ez9, lb9, hc9⟩ := h4 (by omega); have cq := hc9 q (by omega); rw [HR.out] at cq; rw [ez9] at c30; replace ez9 := Lib.hid ez9; replace hc9 := Lib.hid hc9; replace h4 := Lib.hid h4; replace vz := Lib.hid vz) | ((with_reducible show wpList _ _ _ _ _ _); refine wpList_loadGA (by rfl) 41 (.tmp 13) rfl (w4.heap.size) (0) 75 rfl 41 (machC U2 m) (machC U2 m) (show Blk _ (w4.heap.size) (machC U2 m) 41 from (by repeat' (first | (with_reducible first | exact Hid.out (by assumption) | exact Blk.new _ _ _ | (refine Blk.new_at _ _ _ _ ?_; simp; done) | refine Blk.alloc ?_ _ | refine Blk.drewN ?_ _ | refine Blk.drew ?_ | apply Blk.set | refine Blk.put ?_ (by assumption) (by first | (simp; done) | (simp; omega) | omega) | refine Blk.below ?_ (by assumption)) | (refine Blk.setAt ?_ (by first | (simp; done) | (simp; omega))) | rfl))) _ Try.underlying41 rfl (by kernel_rfl) rfl rfl ?_) | ((with_reducible show wpList _ _ _ _ _ _); refine wpList_loadGA (by rfl) 41 (.tmp 4) rfl (w.heap.size) (0) 75 rfl 41 (machC V m) (machC V m) (show Blk _ (w.heap.size) (machC V m) 41 from (by repeat' (first | (with_reducible first | exact Hid.out (by assumption) | exact Blk.new _ _ _ | (refine Blk.new_at _ _ _ _ ?_; simp; done) | refine Blk.alloc ?_ _ | refine Blk.drewN ?_ _ | refine Blk.drew ?_ | apply Blk.set | refine Blk.put ?_ (by assumption) (by first | (simp; done) | (simp; omega) | omega) | refine Blk.below ?_ (by assumption)) | (refine Blk.setAt ?_ (by first | (simp; done) | (simp; omega))) | rfl))) _ Try.underlying41 rfl (by kernel_rfl) rfl rfl ?_))
  refine (EQ.out _ _ _ _ _ (M6.out 1 (by omega)) ((HM.out.below B6) 1 (by omega))).mono ?_
  rw [HX1.out, show decide (m.mem 1 = m.mem 1) = true by simp]
  rintro e w' ⟨rfl, rfl⟩
  go_wp2_with (first | (((with_reducible show wpList _ _ _ _ _ _); refine wpList_storeW rfl 41 (.tmp 13) (.tmp 40) rfl (w4.heap.size) (machC U2 m) rfl rfl 41 _ (show Blk _ (w4.heap.size) Try.zeroCells41 41 from (by repeat' (first | (with_reducible first | exact Hid.out (by assumption) | exact Blk.new _ _ _ | (refine Blk.new_at _ _ _ _ ?_; simp; done) | refine Blk.alloc ?_ _ | refine Blk.drewN ?_ _ | refine Blk.drew ?_ | apply Blk.set | refine Blk.put ?_ (by assumption) (by first | (simp; done) | (simp; omega) | omega) | refine Blk.below ?_ (by assumption)) | (refine Blk.setAt ?_ (by first | (simp; done) | (simp; omega))) | rfl))) (by kernel_rfl) rfl (by first | (with_reducible assumption) | simp [Value.oneCell']) ?_; intro w5 hp_w5 K_w5); have b45 : Below w4.heap.size w4 w5 := (by repeat' (first | (with_reducible first | exact Below.refl _ _ | assumption | refine below_alloc ?_ _ | refine Below.drew ?_ | refine below_drewN ?_ _ | refine below_then ?_ (by assumption) | refine below_put ?_ (by assumption) (by first | (simp; done) | (simp; omega) | omega) | refine Below.setCell ?_ ?_ _) | (simp; done) | (simp; omega) | omega)); have KV5 := Lib.hid (KM4.out.below b45); have KE5 := Lib.hid (KK4.out.below b45); have l50 := KV5.out.lt; have l51 := KE5.out.lt; have c30 := (KV5.out.cell 30).trans (mx30 V m); have c31 := (KV5.out.cell 31).trans (mx31 V m); have d30 := (KE5.out.cell 30).trans (mx30 U E); have d31 := (KE5.out.cell 31).trans (mx31 U E); obtain ⟨z, p, vz, -, -, -, h4⟩ := (HM.out.below (B4.trans (b45.mono (by omega)))) 0 (by omega); rw [HN.out] at vz h4; rw [vz] at c30; obtain ⟨b9, o9, ez9, lb9, hc9⟩ := h4 (by omega); have cq := hc9 q (by omega); rw [HR.out] at cq; rw [ez9] at c30; replace ez9 := Lib.hid ez9; replace hc9 := Lib.hid hc9; replace h4 := Lib.hid h4; replace vz := Lib.hid vz) | ((with_reducible show wpList _ _ _ _ _ _); refine wpList_loadGA (by rfl) 41 (.tmp 13) rfl (w4.heap.size) (0) 75 rfl 41 (machC U2 m) (machC U2 m) (show Blk _ (w4.heap.size) (machC U2 m) 41 from (by repeat' (first | (with_reducible first | exact Hid.out (by assumption) | exact Blk.new _ _ _ | (refine Blk.new_at _ _ _ _ ?_; simp; done) | refine Blk.alloc ?_ _ | refine Blk.drewN ?_ _ | refine Blk.drew ?_ | apply Blk.set | refine Blk.put ?_ (by assumption) (by first | (simp; done) | (simp; omega) | omega) | refine Blk.below ?_ (by assumption)) | (refine Blk.setAt ?_ (by first | (simp; done) | (simp; omega))) | rfl))) _ Try.underlying41 rfl (by kernel_rfl) rfl rfl ?_) | ((with_reducible show wpList _ _ _ _ _ _); refine wpList_loadGA (by rfl) 41 (.tmp 4) rfl (w.heap.size) (0) 75 rfl 41 (machC V m) (machC V m) (show Blk _ (w.heap.size) (machC V m) 41 from (by repeat' (first | (with_reducible first | exact Hid.out (by assumption) | exact Blk.new _ _ _ | (refine Blk.new_at _ _ _ _ ?_; simp; done) | refine Blk.alloc ?_ _ | refine Blk.drewN ?_ _ | refine Blk.drew ?_ | apply Blk.set | refine Blk.put ?_ (by assumption) (by first | (simp; done) | (simp; omega) | omega) | refine Blk.below ?_ (by assumption)) | (refine Blk.setAt ?_ (by first | (simp; done) | (simp; omega))) | rfl))) _ Try.underlying41 rfl (by kernel_rfl) rfl rfl ?_) | go_in)
  go_ret
  exact ⟨rfl, B6⟩
theorem good_main_hi (V : Nat → Value) (m : Mach) (a n : Int) (ha : U16 a) (hn : U8 n) (w : World) (hm : MV w V m) (hi : m.In) (h : m.Right) (q : Nat) (hq : (q : Int) = a % 32768) (hc : ¬ q < (m.mem 0).length) :
    Calls Try.prog 7 #[.agg (machC V m), .bool false, .int .u16 a, .int .u8 n] w fun e w' => e = .returned (.bool true) ∧ Below w.heap.size w w' := by
  obtain ⟨X, hX⟩ : ∃ X, X = writeX m false a n := ⟨_, rfl⟩
  have X0 := write_rom m false a n (j := 0) (by omega)
  have X1 := write_rom m false a n (j := 1) (by omega)
  rw [← hX] at X0 X1
  have WR := Lib.hid (fun (W : World) (k : Below w.heap.size w W) => write_main V m a n ha hn W (hm.below k) hi h)
  rw [← hX] at WR
  obtain ⟨dl, hdl⟩ : ∃ d, d = X.dl := ⟨_, rfl⟩
  obtain ⟨E, hE⟩ : ∃ E, E = X.m := ⟨_, rfl⟩
  rw [← hdl, ← hE] at WR
  rw [← hE] at X0 X1
  have RD := Lib.hid (fun (W : World) (k : Below w.heap.size w W) => read_main V m q (by unfold U16; omega) W (hm.below k) hi h)
  rw [rom_get m false (by omega) (by omega), readX_no _ false (by omega)] at RD
  obtain ⟨r, hr⟩ : ∃ r, r = romV m false q := ⟨_, rfl⟩
  rw [← hr] at RD
  have HM := Lib.hid hm
  have SA := Lib.hid (fun (W : World) (U1 U2 : Nat → Value) (k1 : MV W U1 m) (k2 : MV W U2 m) => same_any U1 U2 m W k1 k2)
  have EQ := Lib.hid (fun (W : World) (v u : Value) (xs ys : List Int) (k : SliceAt W .u8 v xs) (k2 : SliceAt W .u8 u ys) => bytesEqual_any v u xs ys W k k2)
  have ON := Lib.hid (machC_one m (fun i hi => hm.one i hi))
  have ONZ := zeroM_one
  have eA : bits .and .u16 a 32767 = q := by rw [at_low a ha, hq]
  have q0 : (q : Int) < 32768 := by omega
  have hlen : (m.mem 0).length ≤ 1024 := h.fit.l0
  obtain ⟨N, hN⟩ : ∃ N, N = (m.mem 0).length := ⟨_, rfl⟩
  have HX0 := Lib.hid X0
  have HX1 := Lib.hid X1
  have HN := Lib.hid hN.symm
  have hnn : N ≤ 1024 := by omega
  have HR : Hid (r = 255) := Lib.hid (by rw [hr]; unfold romV; simp only [Bool.false_eq_true, if_false]; rw [if_neg (by omega)])
  have hcq : ¬ (q : Int) < N := by omega
  obtain ⟨qi, eqi⟩ : ∃ k, k = (q : Int) := ⟨_, rfl⟩
  rw [← eqi] at eA RD hcq q0
  clear eqi hm hi h hX hdl hE X0 X1 hr hN hq hc hlen
  go_enter Try.func7, Try.ntmps7
  go_wp2_with (first | ((with_reducible show wpList _ _ _ _ _ _); refine wpList_loadW rfl 41 (.tmp 4) rfl (w.heap.size) rfl 41 (machC V m) (show Blk _ (w.heap.size) (machC V m) 41 from (by repeat' (first | (with_reducible first | exact Hid.out (by assumption) | exact Blk.new _ _ _ | (refine Blk.new_at _ _ _ _ ?_; simp; done) | refine Blk.alloc ?_ _ | refine Blk.drewN ?_ _ | refine Blk.drew ?_ | apply Blk.set | refine Blk.put ?_ (by assumption) (by first | (simp; done) | (simp; omega) | omega) | refine Blk.below ?_ (by assumption)) | (refine Blk.setAt ?_ (by first | (simp; done) | (simp; omega))) | rfl))) _ Try.underlying41 rfl (by kernel_rfl) ?_))
  refine (WR.out _ (by repeat' (first | (with_reducible first | exact Below.refl _ _ | assumption | refine below_alloc ?_ _ | refine Below.drew ?_ | refine below_drewN ?_ _ | refine below_then ?_ (by assumption) | refine below_put ?_ (by assumption) (by first | (simp; done) | (simp; omega) | omega) | refine Below.setCell ?_ ?_ _) | (simp; done) | (simp; omega) | omega))).mono ?_
  rintro e w1 ⟨U, rfl, T1⟩
  have hb1 := T1.below
  have s1 : w.heap.size + 1 ≤ w1.heap.size := by have := hb1.size; simpa using this
  have B1 : Below w.heap.size w w1 := by repeat' (first | (with_reducible first | exact Below.refl _ _ | assumption | refine below_alloc ?_ _ | refine Below.drew ?_ | refine below_drewN ?_ _ | refine below_then ?_ (by assumption) | refine below_put ?_ (by assumption) (by first | (simp; done) | (simp; omega) | omega) | refine Below.setCell ?_ ?_ _) | (simp; done) | (simp; omega) | omega)
  have KM1 := Lib.hid ((Blk.new w (machC V m) 41).below hb1)
  have ON1 := told_one T1
  have TT1 := Lib.hid T1
  clear hb1 T1 WR
  go_wp2_with (first | ((with_reducible show wpList _ _ _ _ _ _); refine wpList_storeW rfl 41 (.tmp 9) (.tmp 23) rfl (w1.heap.size) (machC U E) rfl rfl 41 _ (show Blk _ (w1.heap.size) Try.zeroCells41 41 from (by repeat' (first | (with_reducible first | exact Hid.out (by assumption) | exact Blk.new _ _ _ | (refine Blk.new_at _ _ _ _ ?_; simp; done) | refine Blk.alloc ?_ _ | refine Blk.drewN ?_ _ | refine Blk.drew ?_ | apply Blk.set | refine Blk.put ?_ (by assumption) (by first | (simp; done) | (simp; omega) | omega) | refine Blk.below ?_ (by assumption)) | (refine Blk.setAt ?_ (by first | (simp; done) | (simp; omega))) | rfl))) (by kernel_rfl) rfl (by first | (with_reducible assumption) | simp [Value.oneCell']) ?_; intro w2 hp_w2 K_w2))
  have sz2 : w1.heap.size + 1 ≤ w2.heap.size := by have := hp_w2.size; simp at this; omega
  have b12 : Below w1.heap.size w1 w2 := by repeat' (first | (with_reducible first | exact Below.refl _ _ | assumption | refine below_alloc ?_ _ | refine Below.drew ?_ | refine below_drewN ?_ _ | refine below_then ?_ (by assumption) | refine below_put ?_ (by assumption) (by first | (simp; done) | (simp; omega) | omega) | refine Below.setCell ?_ ?_ _) | (simp; done) | (simp; omega) | omega)
  have B2 : Below w.heap.size w w2 := B1.trans (b12.mono (by omega))
  have KK2 := Lib.hid K_w2.out
  have KM2 := Lib.hid (KM1.out.below b12)
  have MV2 := Lib.hid (TT1.out.mv.below b12)
  clear K_w2 hp_w2 b12 TT1 B1 KM1
  refine (bussed_any _).mono ?_
  rintro e w3 ⟨rfl, hb3⟩
  have B3 : Below w.heap.size w w3 := below_then B2 hb3
  have KK3 := Lib.hid (KK2.out.below hb3)
  have KM3 := Lib.hid (KM2.out.below hb3)
  have MV3 := Lib.hid (MV2.out.below hb3)
  have s3 := hb3.size
  clear hb3 B2 KK2 KM2 MV2
  go_wp2_with (first | ((with_reducible show wpList _ _ _ _ _ _); refine wpList_loadW rfl 41 (.tmp 4) rfl (w.heap.size) rfl 41 (machC V m) (show Blk _ (w.heap.size) (machC V m) 41 from (by repeat' (first | (with_reducible first | exact Hid.out (by assumption) | exact Blk.new _ _ _ | (refine Blk.new_at _ _ _ _ ?_; simp; done) | refine Blk.alloc ?_ _ | refine Blk.drewN ?_ _ | refine Blk.drew ?_ | apply Blk.set | refine Blk.put ?_ (by assumption) (by first | (simp; done) | (simp; omega) | omega) | refine Blk.below ?_ (by assumption)) | (refine Blk.setAt ?_ (by first | (simp; done) | (simp; omega))) | rfl))) _ Try.underlying41 rfl (by kernel_rfl) ?_))
  refine (RD.out _ B3).mono ?_
  rintro e w4 ⟨U2, rfl, T4⟩
  have hb4 := T4.below
  have s4 := hb4.size
  have B4 : Below w.heap.size w w4 := below_then B3 hb4
  have KK4 := Lib.hid (KK3.out.below hb4)
  have KM4 := Lib.hid (KM3.out.below hb4)
  have MV4 := Lib.hid (MV3.out.below hb4)
  have ON4 := told_one T4
  have MW4 := Lib.hid T4.mv
  clear hb4 T4 KK3 KM3 MV3 B3 RD
  have lB4 := KM4.out.lt
  have c30 := (KM4.out.cell 30).trans (mx30 V m)
  have c31 := (KM4.out.cell 31).trans (mx31 V m)
  go_wp2_with (first | (((with_reducible show wpList _ _ _ _ _ _); refine wpList_storeW rfl 41 (.tmp 13) (.tmp 40) rfl (w4.heap.size) (machC U2 m) rfl rfl 41 _ (show Blk _ (w4.heap.size) Try.zeroCells41 41 from (by repeat' (first | (with_reducible first | exact Hid.out (by assumption) | exact Blk.new _ _ _ | (refine Blk.new_at _ _ _ _ ?_; simp; done) | refine Blk.alloc ?_ _ | refine Blk.drewN ?_ _ | refine Blk.drew ?_ | apply Blk.set | refine Blk.put ?_ (by assumption) (by first | (simp; done) | (simp; omega) | omega) | refine Blk.below ?_ (by assumption)) | (refine Blk.setAt ?_ (by first | (simp; done) | (simp; omega))) | rfl))) (by kernel_rfl) rfl (by first | (with_reducible assumption) | simp [Value.oneCell']) ?_; intro w5 hp_w5 K_w5); have b45 : Below w4.heap.size w4 w5 := (by repeat' (first | (with_reducible first | exact Below.refl _ _ | assumption | refine below_alloc ?_ _ | refine Below.drew ?_ | refine below_drewN ?_ _ | refine below_then ?_ (by assumption) | refine below_put ?_ (by assumption) (by first | (simp; done) | (simp; omega) | omega) | refine Below.setCell ?_ ?_ _) | (simp; done) | (simp; omega) | omega)); have KV5 := Lib.hid (KM4.out.below b45); have KE5 := Lib.hid (KK4.out.below b45); have l50 := KV5.out.lt; have l51 := KE5.out.lt; have c30 := (KV5.out.cell 30).trans (mx30 V m); have c31 := (KV5.out.cell 31).trans (mx31 V m); have d30 := (KE5.out.cell 30).trans (mx30 U E); have d31 := (KE5.out.cell 31).trans (mx31 U E); obtain ⟨z, p, vz, -, -, -, h4⟩ := (HM.out.below (B4.trans (b45.mono (by omega)))) 0 (by omega); rw [HN.out] at vz h4; rw [vz] at c30; have hr9 : (r == 255) = true := (by rw [HR.out]; rfl); replace h4 := Lib.hid h4; replace vz := Lib.hid vz) | ((with_reducible show wpList _ _ _ _ _ _); refine wpList_loadGA (by rfl) 41 (.tmp 13) rfl (w4.heap.size) (0) 75 rfl 41 (machC U2 m) (machC U2 m) (show Blk _ (w4.heap.size) (machC U2 m) 41 from (by repeat' (first | (with_reducible first | exact Hid.out (by assumption) | exact Blk.new _ _ _ | (refine Blk.new_at _ _ _ _ ?_; simp; done) | refine Blk.alloc ?_ _ | refine Blk.drewN ?_ _ | refine Blk.drew ?_ | apply Blk.set | refine Blk.put ?_ (by assumption) (by first | (simp; done) | (simp; omega) | omega) | refine Blk.below ?_ (by assumption)) | (refine Blk.setAt ?_ (by first | (simp; done) | (simp; omega))) | rfl))) _ Try.underlying41 rfl (by kernel_rfl) rfl rfl ?_) | ((with_reducible show wpList _ _ _ _ _ _); refine wpList_loadGA (by rfl) 41 (.tmp 4) rfl (w.heap.size) (0) 75 rfl 41 (machC V m) (machC V m) (show Blk _ (w.heap.size) (machC V m) 41 from (by repeat' (first | (with_reducible first | exact Hid.out (by assumption) | exact Blk.new _ _ _ | (refine Blk.new_at _ _ _ _ ?_; simp; done) | refine Blk.alloc ?_ _ | refine Blk.drewN ?_ _ | refine Blk.drew ?_ | apply Blk.set | refine Blk.put ?_ (by assumption) (by first | (simp; done) | (simp; omega) | omega) | refine Blk.below ?_ (by assumption)) | (refine Blk.setAt ?_ (by first | (simp; done) | (simp; omega))) | rfl))) _ Try.underlying41 rfl (by kernel_rfl) rfl rfl ?_))
  have B5 : Below w.heap.size w w5 := B4.trans (b45.mono (by omega))
  have M5 := Lib.hid (MV4.out.below b45)
  refine (SA.out _ U2 V (MW4.out.below b45) (HM.out.below B5)).mono ?_
  rintro e w6 ⟨rfl, hb6⟩
  have B6 : Below w.heap.size w w6 := below_then B5 hb6
  have M6 := Lib.hid (M5.out.below hb6)
  have s6 := hb6.size
  have KV6 := Lib.hid (KV5.out.below hb6)
  have KE6 := Lib.hid (KE5.out.below hb6)
  clear c30 c31 d30 d31 l50 l51 KV5 KE5 B5 M5 hb6 b45 K_w5 hp_w5 KM4 KK4 MV4 MW4 SA
  have l60 := KV6.out.lt
  have l61 := KE6.out.lt
  have c30 := (KV6.out.cell 30).trans (mx30 V m)
  have c31 := (KV6.out.cell 31).trans (mx31 V m)
  have d30 := (KE6.out.cell 30).trans (mx30 U E)
  have d31 := (KE6.out.cell 31).trans (mx31 U E)
  go_wp2_with (first | (((with_reducible show wpList _ _ _ _ _ _); refine wpList_storeW rfl 41 (.tmp 13) (.tmp 40) rfl (w4.heap.size) (machC U2 m) rfl rfl 41 _ (show Blk _ (w4.heap.size) Try.zeroCells41 41 from (by repeat' (first | (with_reducible first | exact Hid.out (by assumption) | exact Blk.new _ _ _ | (refine Blk.new_at _ _ _ _ ?_; simp; done) | refine Blk.alloc ?_ _ | refine Blk.drewN ?_ _ | refine Blk.drew ?_ | apply Blk.set | refine Blk.put ?_ (by assumption) (by first | (simp; done) | (simp; omega) | omega) | refine Blk.below ?_ (by assumption)) | (refine Blk.setAt ?_ (by first | (simp; done) | (simp; omega))) | rfl))) (by kernel_rfl) rfl (by first | (with_reducible assumption) | simp [Value.oneCell']) ?_; intro w5 hp_w5 K_w5); have b45 : Below w4.heap.size w4 w5 := (by repeat' (first | (with_reducible first | exact Below.refl _ _ | assumption | refine below_alloc ?_ _ | refine Below.drew ?_ | refine below_drewN ?_ _ | refine below_then ?_ (by assumption) | refine below_put ?_ (by assumption) (by first | (simp; done) | (simp; omega) | omega) | refine Below.setCell ?_ ?_ _) | (simp; done) | (simp; omega) | omega)); have KV5 := Lib.hid (KM4.out.below b45); have KE5 := Lib.hid (KK4.out.below b45); have l50 := KV5.out.lt; have l51 := KE5.out.lt; have c30 := (KV5.out.cell 30).trans (mx30 V m); have c31 := (KV5.out.cell 31).trans (mx31 V m); have d30 := (KE5.out.cell 30).trans (mx30 U E); have d31 := (KE5.out.cell 31).trans (mx31 U E); obtain ⟨z, p, vz, -, -, -, h4⟩ := (HM.out.below (B4.trans (b45.mono (by omega)))) 0 (by omega); rw [HN.out] at vz h4; rw [vz] at c30; have hr9 : (r == 255) = true := (by rw [HR.out]; rfl); replace h4 := Lib.hid h4; replace vz := Lib.hid vz) | ((with_reducible show wpList _ _ _ _ _ _); refine wpList_loadGA (by rfl) 41 (.tmp 13) rfl (w4.heap.size) (0) 75 rfl 41 (machC U2 m) (machC U2 m) (show Blk _ (w4.heap.size) (machC U2 m) 41 from (by repeat' (first | (with_reducible first | exact Hid.out (by assumption) | exact Blk.new _ _ _ | (refine Blk.new_at _ _ _ _ ?_; simp; done) | refine Blk.alloc ?_ _ | refine Blk.drewN ?_ _ | refine Blk.drew ?_ | apply Blk.set | refine Blk.put ?_ (by assumption) (by first | (simp; done) | (simp; omega) | omega) | refine Blk.below ?_ (by assumption)) | (refine Blk.setAt ?_ (by first | (simp; done) | (simp; omega))) | rfl))) _ Try.underlying41 rfl (by kernel_rfl) rfl rfl ?_) | ((with_reducible show wpList _ _ _ _ _ _); refine wpList_loadGA (by rfl) 41 (.tmp 4) rfl (w.heap.size) (0) 75 rfl 41 (machC V m) (machC V m) (show Blk _ (w.heap.size) (machC V m) 41 from (by repeat' (first | (with_reducible first | exact Hid.out (by assumption) | exact Blk.new _ _ _ | (refine Blk.new_at _ _ _ _ ?_; simp; done) | refine Blk.alloc ?_ _ | refine Blk.drewN ?_ _ | refine Blk.drew ?_ | apply Blk.set | refine Blk.put ?_ (by assumption) (by first | (simp; done) | (simp; omega) | omega) | refine Blk.below ?_ (by assumption)) | (refine Blk.setAt ?_ (by first | (simp; done) | (simp; omega))) | rfl))) _ Try.underlying41 rfl (by kernel_rfl) rfl rfl ?_))
  refine (EQ.out _ _ _ _ _ (M6.out 0 (by omega)) ((HM.out.below B6) 0 (by omega))).mono ?_
  rw [HX0.out, show decide (m.mem 0 = m.mem 0) = true by simp]
  rintro e w' ⟨rfl, rfl⟩
  go_wp2_with (first | (((with_reducible show wpList _ _ _ _ _ _); refine wpList_storeW rfl 41 (.tmp 13) (.tmp 40) rfl (w4.heap.size) (machC U2 m) rfl rfl 41 _ (show Blk _ (w4.heap.size) Try.zeroCells41 41 from (by repeat' (first | (with_reducible first | exact Hid.out (by assumption) | exact Blk.new _ _ _ | (refine Blk.new_at _ _ _ _ ?_; simp; done) | refine Blk.alloc ?_ _ | refine Blk.drewN ?_ _ | refine Blk.drew ?_ | apply Blk.set | refine Blk.put ?_ (by assumption) (by first | (simp; done) | (simp; omega) | omega) | refine Blk.below ?_ (by assumption)) | (refine Blk.setAt ?_ (by first | (simp; done) | (simp; omega))) | rfl))) (by kernel_rfl) rfl (by first | (with_reducible assumption) | simp [Value.oneCell']) ?_; intro w5 hp_w5 K_w5); have b45 : Below w4.heap.size w4 w5 := (by repeat' (first | (with_reducible first | exact Below.refl _ _ | assumption | refine below_alloc ?_ _ | refine Below.drew ?_ | refine below_drewN ?_ _ | refine below_then ?_ (by assumption) | refine below_put ?_ (by assumption) (by first | (simp; done) | (simp; omega) | omega) | refine Below.setCell ?_ ?_ _) | (simp; done) | (simp; omega) | omega)); have KV5 := Lib.hid (KM4.out.below b45); have KE5 := Lib.hid (KK4.out.below b45); have l50 := KV5.out.lt; have l51 := KE5.out.lt; have c30 := (KV5.out.cell 30).trans (mx30 V m); have c31 := (KV5.out.cell 31).trans (mx31 V m); have d30 := (KE5.out.cell 30).trans (mx30 U E); have d31 := (KE5.out.cell 31).trans (mx31 U E); obtain ⟨z, p, vz, -, -, -, h4⟩ := (HM.out.below (B4.trans (b45.mono (by omega)))) 0 (by omega); rw [HN.out] at vz h4; rw [vz] at c30; have hr9 : (r == 255) = true := (by rw [HR.out]; rfl); replace h4 := Lib.hid h4; replace vz := Lib.hid vz) | ((with_reducible show wpList _ _ _ _ _ _); refine wpList_loadGA (by rfl) 41 (.tmp 13) rfl (w4.heap.size) (0) 75 rfl 41 (machC U2 m) (machC U2 m) (show Blk _ (w4.heap.size) (machC U2 m) 41 from (by repeat' (first | (with_reducible first | exact Hid.out (by assumption) | exact Blk.new _ _ _ | (refine Blk.new_at _ _ _ _ ?_; simp; done) | refine Blk.alloc ?_ _ | refine Blk.drewN ?_ _ | refine Blk.drew ?_ | apply Blk.set | refine Blk.put ?_ (by assumption) (by first | (simp; done) | (simp; omega) | omega) | refine Blk.below ?_ (by assumption)) | (refine Blk.setAt ?_ (by first | (simp; done) | (simp; omega))) | rfl))) _ Try.underlying41 rfl (by kernel_rfl) rfl rfl ?_) | ((with_reducible show wpList _ _ _ _ _ _); refine wpList_loadGA (by rfl) 41 (.tmp 4) rfl (w.heap.size) (0) 75 rfl 41 (machC V m) (machC V m) (show Blk _ (w.heap.size) (machC V m) 41 from (by repeat' (first | (with_reducible first | exact Hid.out (by assumption) | exact Blk.new _ _ _ | (refine Blk.new_at _ _ _ _ ?_; simp; done) | refine Blk.alloc ?_ _ | refine Blk.drewN ?_ _ | refine Blk.drew ?_ | apply Blk.set | refine Blk.put ?_ (by assumption) (by first | (simp; done) | (simp; omega) | omega) | refine Blk.below ?_ (by assumption)) | (refine Blk.setAt ?_ (by first | (simp; done) | (simp; omega))) | rfl))) _ Try.underlying41 rfl (by kernel_rfl) rfl rfl ?_))
  refine (EQ.out _ _ _ _ _ (M6.out 1 (by omega)) ((HM.out.below B6) 1 (by omega))).mono ?_
  rw [HX1.out, show decide (m.mem 1 = m.mem 1) = true by simp]
  rintro e w' ⟨rfl, rfl⟩
  go_wp2_with (first | (((with_reducible show wpList _ _ _ _ _ _); refine wpList_storeW rfl 41 (.tmp 13) (.tmp 40) rfl (w4.heap.size) (machC U2 m) rfl rfl 41 _ (show Blk _ (w4.heap.size) Try.zeroCells41 41 from (by repeat' (first | (with_reducible first | exact Hid.out (by assumption) | exact Blk.new _ _ _ | (refine Blk.new_at _ _ _ _ ?_; simp; done) | refine Blk.alloc ?_ _ | refine Blk.drewN ?_ _ | refine Blk.drew ?_ | apply Blk.set | refine Blk.put ?_ (by assumption) (by first | (simp; done) | (simp; omega) | omega) | refine Blk.below ?_ (by assumption)) | (refine Blk.setAt ?_ (by first | (simp; done) | (simp; omega))) | rfl))) (by kernel_rfl) rfl (by first | (with_reducible assumption) | simp [Value.oneCell']) ?_; intro w5 hp_w5 K_w5); have b45 : Below w4.heap.size w4 w5 := (by repeat' (first | (with_reducible first | exact Below.refl _ _ | assumption | refine below_alloc ?_ _ | refine Below.drew ?_ | refine below_drewN ?_ _ | refine below_then ?_ (by assumption) | refine below_put ?_ (by assumption) (by first | (simp; done) | (simp; omega) | omega) | refine Below.setCell ?_ ?_ _) | (simp; done) | (simp; omega) | omega)); have KV5 := Lib.hid (KM4.out.below b45); have KE5 := Lib.hid (KK4.out.below b45); have l50 := KV5.out.lt; have l51 := KE5.out.lt; have c30 := (KV5.out.cell 30).trans (mx30 V m); have c31 := (KV5.out.cell 31).trans (mx31 V m); have d30 := (KE5.out.cell 30).trans (mx30 U E); have d31 := (KE5.out.cell 31).trans (mx31 U E); obtain ⟨z, p, vz, -, -, -, h4⟩ := (HM.out.below (B4.trans (b45.mono (by omega)))) 0 (by omega); rw [HN.out] at vz h4; rw [vz] at c30; have hr9 : (r == 255) = true := (by rw [HR.out]; rfl); replace h4 := Lib.hid h4; replace vz := Lib.hid vz) | ((with_reducible show wpList _ _ _ _ _ _); refine wpList_loadGA (by rfl) 41 (.tmp 13) rfl (w4.heap.size) (0) 75 rfl 41 (machC U2 m) (machC U2 m) (show Blk _ (w4.heap.size) (machC U2 m) 41 from (by repeat' (first | (with_reducible first | exact Hid.out (by assumption) | exact Blk.new _ _ _ | (refine Blk.new_at _ _ _ _ ?_; simp; done) | refine Blk.alloc ?_ _ | refine Blk.drewN ?_ _ | refine Blk.drew ?_ | apply Blk.set | refine Blk.put ?_ (by assumption) (by first | (simp; done) | (simp; omega) | omega) | refine Blk.below ?_ (by assumption)) | (refine Blk.setAt ?_ (by first | (simp; done) | (simp; omega))) | rfl))) _ Try.underlying41 rfl (by kernel_rfl) rfl rfl ?_) | ((with_reducible show wpList _ _ _ _ _ _); refine wpList_loadGA (by rfl) 41 (.tmp 4) rfl (w.heap.size) (0) 75 rfl 41 (machC V m) (machC V m) (show Blk _ (w.heap.size) (machC V m) 41 from (by repeat' (first | (with_reducible first | exact Hid.out (by assumption) | exact Blk.new _ _ _ | (refine Blk.new_at _ _ _ _ ?_; simp; done) | refine Blk.alloc ?_ _ | refine Blk.drewN ?_ _ | refine Blk.drew ?_ | apply Blk.set | refine Blk.put ?_ (by assumption) (by first | (simp; done) | (simp; omega) | omega) | refine Blk.below ?_ (by assumption)) | (refine Blk.setAt ?_ (by first | (simp; done) | (simp; omega))) | rfl))) _ Try.underlying41 rfl (by kernel_rfl) rfl rfl ?_) | go_in)
  go_ret
  exact ⟨rfl, B6⟩
theorem good_aux_lo (V : Nat → Value) (m : Mach) (a n : Int) (ha : U16 a) (hn : U8 n) (w : World) (hm : MV w V m) (hi : m.In) (h : m.Right) (q : Nat) (hq : (q : Int) = a % 32768) (hc : q < (m.mem 1).length) :
    Calls Try.prog 7 #[.agg (machC V m), .bool true, .int .u16 a, .int .u8 n] w fun e w' => e = .returned (.bool true) ∧ Below w.heap.size w w' := by
  obtain ⟨X, hX⟩ : ∃ X, X = writeX m true a n := ⟨_, rfl⟩
  have X0 := write_rom m true a n (j := 0) (by omega)
  have X1 := write_rom m true a n (j := 1) (by omega)
  rw [← hX] at X0 X1
  have WR := Lib.hid (fun (W : World) (k : Below w.heap.size w W) => write_aux V m a n ha hn W (hm.below k) hi h)
  rw [← hX] at WR
  obtain ⟨dl, hdl⟩ : ∃ d, d = X.dl := ⟨_, rfl⟩
  obtain ⟨E, hE⟩ : ∃ E, E = X.m := ⟨_, rfl⟩
  rw [← hdl, ← hE] at WR
  rw [← hE] at X0 X1
  have RD := Lib.hid (fun (W : World) (k : Below w.heap.size w W) => read_aux V m q (by unfold U16; omega) W (hm.below k) hi h)
  rw [rom_get m true (by omega) (by omega), readX_no _ true (by omega)] at RD
  obtain ⟨r, hr⟩ : ∃ r, r = romV m true q := ⟨_, rfl⟩
  rw [← hr] at RD
  have HM := Lib.hid hm
  have SA := Lib.hid (fun (W : World) (U1 U2 : Nat → Value) (k1 : MV W U1 m) (k2 : MV W U2 m) => same_any U1 U2 m W k1 k2)
  have EQ := Lib.hid (fun (W : World) (v u : Value) (xs ys : List Int) (k : SliceAt W .u8 v xs) (k2 : SliceAt W .u8 u ys) => bytesEqual_any v u xs ys W k k2)
  have ON := Lib.hid (machC_one m (fun i hi => hm.one i hi))
  have ONZ := zeroM_one
  have eA : bits .and .u16 a 32767 = q := by rw [at_low a ha, hq]
  have q0 : (q : Int) < 32768 := by omega
  have hlen : (m.mem 1).length ≤ 1024 := h.fit.l1
  obtain ⟨N, hN⟩ : ∃ N, N = (m.mem 1).length := ⟨_, rfl⟩
  have HX0 := Lib.hid X0
  have HX1 := Lib.hid X1
  have HN := Lib.hid hN.symm
  have hnn : N ≤ 1024 := by omega
  have HR : Hid ((m.mem 1).getD q 0 = r) := Lib.hid (by rw [hr]; unfold romV; simp only [if_true]; rw [if_pos (by omega)]; rfl)
  have hcq : (q : Int) < N := by omega
  clear hm hi h hX hdl hE X0 X1 hr hN hq hc hlen
  go_enter Try.func7, Try.ntmps7
  go_wp2_with (first | ((with_reducible show wpList _ _ _ _ _ _); refine wpList_loadW rfl 41 (.tmp 4) rfl (w.heap.size) rfl 41 (machC V m) (show Blk _ (w.heap.size) (machC V m) 41 from (by repeat' (first | (with_reducible first | exact Hid.out (by assumption) | exact Blk.new _ _ _ | (refine Blk.new_at _ _ _ _ ?_; simp; done) | refine Blk.alloc ?_ _ | refine Blk.drewN ?_ _ | refine Blk.drew ?_ | apply Blk.set | refine Blk.put ?_ (by assumption) (by first | (simp; done) | (simp; omega) | omega) | refine Blk.below ?_ (by assumption)) | (refine Blk.setAt ?_ (by first | (simp; done) | (simp; omega))) | rfl))) _ Try.underlying41 rfl (by kernel_rfl) ?_))
  refine (WR.out _ (by repeat' (first | (with_reducible first | exact Below.refl _ _ | assumption | refine below_alloc ?_ _ | refine Below.drew ?_ | refine below_drewN ?_ _ | refine below_then ?_ (by assumption) | refine below_put ?_ (by assumption) (by first | (simp; done) | (simp; omega) | omega) | refine Below.setCell ?_ ?_ _) | (simp; done) | (simp; omega) | omega))).mono ?_
  rintro e w1 ⟨U, rfl, T1⟩
  have hb1 := T1.below
  have s1 : w.heap.size + 1 ≤ w1.heap.size := by have := hb1.size; simpa using this
  have B1 : Below w.heap.size w w1 := by repeat' (first | (with_reducible first | exact Below.refl _ _ | assumption | refine below_alloc ?_ _ | refine Below.drew ?_ | refine below_drewN ?_ _ | refine below_then ?_ (by assumption) | refine below_put ?_ (by assumption) (by first | (simp; done) | (simp; omega) | omega) | refine Below.setCell ?_ ?_ _) | (simp; done) | (simp; omega) | omega)
  have KM1 := Lib.hid ((Blk.new w (machC V m) 41).below hb1)
  have ON1 := told_one T1
  have TT1 := Lib.hid T1
  clear hb1 T1 WR
  go_wp2_with (first | ((with_reducible show wpList _ _ _ _ _ _); refine wpList_storeW rfl 41 (.tmp 9) (.tmp 23) rfl (w1.heap.size) (machC U E) rfl rfl 41 _ (show Blk _ (w1.heap.size) Try.zeroCells41 41 from (by repeat' (first | (with_reducible first | exact Hid.out (by assumption) | exact Blk.new _ _ _ | (refine Blk.new_at _ _ _ _ ?_; simp; done) | refine Blk.alloc ?_ _ | refine Blk.drewN ?_ _ | refine Blk.drew ?_ | apply Blk.set | refine Blk.put ?_ (by assumption) (by first | (simp; done) | (simp; omega) | omega) | refine Blk.below ?_ (by assumption)) | (refine Blk.setAt ?_ (by first | (simp; done) | (simp; omega))) | rfl))) (by kernel_rfl) rfl (by first | (with_reducible assumption) | simp [Value.oneCell']) ?_; intro w2 hp_w2 K_w2))
  have sz2 : w1.heap.size + 1 ≤ w2.heap.size := by have := hp_w2.size; simp at this; omega
  have b12 : Below w1.heap.size w1 w2 := by repeat' (first | (with_reducible first | exact Below.refl _ _ | assumption | refine below_alloc ?_ _ | refine Below.drew ?_ | refine below_drewN ?_ _ | refine below_then ?_ (by assumption) | refine below_put ?_ (by assumption) (by first | (simp; done) | (simp; omega) | omega) | refine Below.setCell ?_ ?_ _) | (simp; done) | (simp; omega) | omega)
  have B2 : Below w.heap.size w w2 := B1.trans (b12.mono (by omega))
  have KK2 := Lib.hid K_w2.out
  have KM2 := Lib.hid (KM1.out.below b12)
  have MV2 := Lib.hid (TT1.out.mv.below b12)
  clear K_w2 hp_w2 b12 TT1 B1 KM1
  refine (bussed_any _).mono ?_
  rintro e w3 ⟨rfl, hb3⟩
  have B3 : Below w.heap.size w w3 := below_then B2 hb3
  have KK3 := Lib.hid (KK2.out.below hb3)
  have KM3 := Lib.hid (KM2.out.below hb3)
  have MV3 := Lib.hid (MV2.out.below hb3)
  have s3 := hb3.size
  clear hb3 B2 KK2 KM2 MV2
  go_wp2_with (first | ((with_reducible show wpList _ _ _ _ _ _); refine wpList_loadW rfl 41 (.tmp 4) rfl (w.heap.size) rfl 41 (machC V m) (show Blk _ (w.heap.size) (machC V m) 41 from (by repeat' (first | (with_reducible first | exact Hid.out (by assumption) | exact Blk.new _ _ _ | (refine Blk.new_at _ _ _ _ ?_; simp; done) | refine Blk.alloc ?_ _ | refine Blk.drewN ?_ _ | refine Blk.drew ?_ | apply Blk.set | refine Blk.put ?_ (by assumption) (by first | (simp; done) | (simp; omega) | omega) | refine Blk.below ?_ (by assumption)) | (refine Blk.setAt ?_ (by first | (simp; done) | (simp; omega))) | rfl))) _ Try.underlying41 rfl (by kernel_rfl) ?_))
  refine (RD.out _ B3).mono ?_
  rintro e w4 ⟨U2, rfl, T4⟩
  have hb4 := T4.below
  have s4 := hb4.size
  have B4 : Below w.heap.size w w4 := below_then B3 hb4
  have KK4 := Lib.hid (KK3.out.below hb4)
  have KM4 := Lib.hid (KM3.out.below hb4)
  have MV4 := Lib.hid (MV3.out.below hb4)
  have ON4 := told_one T4
  have MW4 := Lib.hid T4.mv
  clear hb4 T4 KK3 KM3 MV3 B3 RD
  have lB4 := KM4.out.lt
  have c30 := (KM4.out.cell 30).trans (mx30 V m)
  have c31 := (KM4.out.cell 31).trans (mx31 V m)
  go_wp2_with (first | (((with_reducible show wpList _ _ _ _ _ _); refine wpList_storeW rfl 41 (.tmp 13) (.tmp 40) rfl (w4.heap.size) (machC U2 m) rfl rfl 41 _ (show Blk _ (w4.heap.size) Try.zeroCells41 41 from (by repeat' (first | (with_reducible first | exact Hid.out (by assumption) | exact Blk.new _ _ _ | (refine Blk.new_at _ _ _ _ ?_; simp; done) | refine Blk.alloc ?_ _ | refine Blk.drewN ?_ _ | refine Blk.drew ?_ | apply Blk.set | refine Blk.put ?_ (by assumption) (by first | (simp; done) | (simp; omega) | omega) | refine Blk.below ?_ (by assumption)) | (refine Blk.setAt ?_ (by first | (simp; done) | (simp; omega))) | rfl))) (by kernel_rfl) rfl (by first | (with_reducible assumption) | simp [Value.oneCell']) ?_; intro w5 hp_w5 K_w5); have b45 : Below w4.heap.size w4 w5 := (by repeat' (first | (with_reducible first | exact Below.refl _ _ | assumption | refine below_alloc ?_ _ | refine Below.drew ?_ | refine below_drewN ?_ _ | refine below_then ?_ (by assumption) | refine below_put ?_ (by assumption) (by first | (simp; done) | (simp; omega) | omega) | refine Below.setCell ?_ ?_ _) | (simp; done) | (simp; omega) | omega)); have KV5 := Lib.hid (KM4.out.below b45); have KE5 := Lib.hid (KK4.out.below b45); have l50 := KV5.out.lt; have l51 := KE5.out.lt; have c30 := (KV5.out.cell 30).trans (mx30 V m); have c31 := (KV5.out.cell 31).trans (mx31 V m); have d30 := (KE5.out.cell 30).trans (mx30 U E); have d31 := (KE5.out.cell 31).trans (mx31 U E); obtain ⟨z, p, vz, -, -, -, h4⟩ := (HM.out.below (B4.trans (b45.mono (by omega)))) 1 (by omega); rw [HN.out] at vz h4; rw [vz] at c31; obtain ⟨b9, o9, ez9, lb9, hc9⟩ := h4 (by omega); have cq := hc9 q (by omega); rw [HR.out] at cq; rw [ez9] at c31; replace ez9 := Lib.hid ez9; replace hc9 := Lib.hid hc9; replace h4 := Lib.hid h4; replace vz := Lib.hid vz) | ((with_reducible show wpList _ _ _ _ _ _); refine wpList_loadGA (by rfl) 41 (.tmp 13) rfl (w4.heap.size) (0) 75 rfl 41 (machC U2 m) (machC U2 m) (show Blk _ (w4.heap.size) (machC U2 m) 41 from (by repeat' (first | (with_reducible first | exact Hid.out (by assumption) | exact Blk.new _ _ _ | (refine Blk.new_at _ _ _ _ ?_; simp; done) | refine Blk.alloc ?_ _ | refine Blk.drewN ?_ _ | refine Blk.drew ?_ | apply Blk.set | refine Blk.put ?_ (by assumption) (by first | (simp; done) | (simp; omega) | omega) | refine Blk.below ?_ (by assumption)) | (refine Blk.setAt ?_ (by first | (simp; done) | (simp; omega))) | rfl))) _ Try.underlying41 rfl (by kernel_rfl) rfl rfl ?_) | ((with_reducible show wpList _ _ _ _ _ _); refine wpList_loadGA (by rfl) 41 (.tmp 4) rfl (w.heap.size) (0) 75 rfl 41 (machC V m) (machC V m) (show Blk _ (w.heap.size) (machC V m) 41 from (by repeat' (first | (with_reducible first | exact Hid.out (by assumption) | exact Blk.new _ _ _ | (refine Blk.new_at _ _ _ _ ?_; simp; done) | refine Blk.alloc ?_ _ | refine Blk.drewN ?_ _ | refine Blk.drew ?_ | apply Blk.set | refine Blk.put ?_ (by assumption) (by first | (simp; done) | (simp; omega) | omega) | refine Blk.below ?_ (by assumption)) | (refine Blk.setAt ?_ (by first | (simp; done) | (simp; omega))) | rfl))) _ Try.underlying41 rfl (by kernel_rfl) rfl rfl ?_))
  have B5 : Below w.heap.size w w5 := B4.trans (b45.mono (by omega))
  have M5 := Lib.hid (MV4.out.below b45)
  refine (SA.out _ U2 V (MW4.out.below b45) (HM.out.below B5)).mono ?_
  rintro e w6 ⟨rfl, hb6⟩
  have B6 : Below w.heap.size w w6 := below_then B5 hb6
  have M6 := Lib.hid (M5.out.below hb6)
  have s6 := hb6.size
  have KV6 := Lib.hid (KV5.out.below hb6)
  have KE6 := Lib.hid (KE5.out.below hb6)
  clear c30 c31 d30 d31 l50 l51 KV5 KE5 B5 M5 hb6 b45 K_w5 hp_w5 KM4 KK4 MV4 MW4 SA
  have l60 := KV6.out.lt
  have l61 := KE6.out.lt
  have c30 := (KV6.out.cell 30).trans (mx30 V m)
  have c31 := (KV6.out.cell 31).trans (mx31 V m)
  have d30 := (KE6.out.cell 30).trans (mx30 U E)
  have d31 := (KE6.out.cell 31).trans (mx31 U E)
  go_wp2_with (first | (((with_reducible show wpList _ _ _ _ _ _); refine wpList_storeW rfl 41 (.tmp 13) (.tmp 40) rfl (w4.heap.size) (machC U2 m) rfl rfl 41 _ (show Blk _ (w4.heap.size) Try.zeroCells41 41 from (by repeat' (first | (with_reducible first | exact Hid.out (by assumption) | exact Blk.new _ _ _ | (refine Blk.new_at _ _ _ _ ?_; simp; done) | refine Blk.alloc ?_ _ | refine Blk.drewN ?_ _ | refine Blk.drew ?_ | apply Blk.set | refine Blk.put ?_ (by assumption) (by first | (simp; done) | (simp; omega) | omega) | refine Blk.below ?_ (by assumption)) | (refine Blk.setAt ?_ (by first | (simp; done) | (simp; omega))) | rfl))) (by kernel_rfl) rfl (by first | (with_reducible assumption) | simp [Value.oneCell']) ?_; intro w5 hp_w5 K_w5); have b45 : Below w4.heap.size w4 w5 := (by repeat' (first | (with_reducible first | exact Below.refl _ _ | assumption | refine below_alloc ?_ _ | refine Below.drew ?_ | refine below_drewN ?_ _ | refine below_then ?_ (by assumption) | refine below_put ?_ (by assumption) (by first | (simp; done) | (simp; omega) | omega) | refine Below.setCell ?_ ?_ _) | (simp; done) | (simp; omega) | omega)); have KV5 := Lib.hid (KM4.out.below b45); have KE5 := Lib.hid (KK4.out.below b45); have l50 := KV5.out.lt; have l51 := KE5.out.lt; have c30 := (KV5.out.cell 30).trans (mx30 V m); have c31 := (KV5.out.cell 31).trans (mx31 V m); have d30 := (KE5.out.cell 30).trans (mx30 U E); have d31 := (KE5.out.cell 31).trans (mx31 U E); obtain ⟨z, p, vz, -, -, -, h4⟩ := (HM.out.below (B4.trans (b45.mono (by omega)))) 1 (by omega); rw [HN.out] at vz h4; rw [vz] at c31; obtain ⟨b9, o9, ez9, lb9, hc9⟩ := h4 (by omega); have cq := hc9 q (by omega); rw [HR.out] at cq; rw [ez9] at c31; replace ez9 := Lib.hid ez9; replace hc9 := Lib.hid hc9; replace h4 := Lib.hid h4; replace vz := Lib.hid vz) | ((with_reducible show wpList _ _ _ _ _ _); refine wpList_loadGA (by rfl) 41 (.tmp 13) rfl (w4.heap.size) (0) 75 rfl 41 (machC U2 m) (machC U2 m) (show Blk _ (w4.heap.size) (machC U2 m) 41 from (by repeat' (first | (with_reducible first | exact Hid.out (by assumption) | exact Blk.new _ _ _ | (refine Blk.new_at _ _ _ _ ?_; simp; done) | refine Blk.alloc ?_ _ | refine Blk.drewN ?_ _ | refine Blk.drew ?_ | apply Blk.set | refine Blk.put ?_ (by assumption) (by first | (simp; done) | (simp; omega) | omega) | refine Blk.below ?_ (by assumption)) | (refine Blk.setAt ?_ (by first | (simp; done) | (simp; omega))) | rfl))) _ Try.underlying41 rfl (by kernel_rfl) rfl rfl ?_) | ((with_reducible show wpList _ _ _ _ _ _); refine wpList_loadGA (by rfl) 41 (.tmp 4) rfl (w.heap.size) (0) 75 rfl 41 (machC V m) (machC V m) (show Blk _ (w.heap.size) (machC V m) 41 from (by repeat' (first | (with_reducible first | exact Hid.out (by assumption) | exact Blk.new _ _ _ | (refine Blk.new_at _ _ _ _ ?_; simp; done) | refine Blk.alloc ?_ _ | refine Blk.drewN ?_ _ | refine Blk.drew ?_ | apply Blk.set | refine Blk.put ?_ (by assumption) (by first | (simp; done) | (simp; omega) | omega) | refine Blk.below ?_ (by assumption)) | (refine Blk.setAt ?_ (by first | (simp; done) | (simp; omega))) | rfl))) _ Try.underlying41 rfl (by kernel_rfl) rfl rfl ?_))
  refine (EQ.out _ _ _ _ _ (M6.out 0 (by omega)) ((HM.out.below B6) 0 (by omega))).mono ?_
  rw [HX0.out, show decide (m.mem 0 = m.mem 0) = true by simp]
  rintro e w' ⟨rfl, rfl⟩
  go_wp2_with (first | (((with_reducible show wpList _ _ _ _ _ _); refine wpList_storeW rfl 41 (.tmp 13) (.tmp 40) rfl (w4.heap.size) (machC U2 m) rfl rfl 41 _ (show Blk _ (w4.heap.size) Try.zeroCells41 41 from (by repeat' (first | (with_reducible first | exact Hid.out (by assumption) | exact Blk.new _ _ _ | (refine Blk.new_at _ _ _ _ ?_; simp; done) | refine Blk.alloc ?_ _ | refine Blk.drewN ?_ _ | refine Blk.drew ?_ | apply Blk.set | refine Blk.put ?_ (by assumption) (by first | (simp; done) | (simp; omega) | omega) | refine Blk.below ?_ (by assumption)) | (refine Blk.setAt ?_ (by first | (simp; done) | (simp; omega))) | rfl))) (by kernel_rfl) rfl (by first | (with_reducible assumption) | simp [Value.oneCell']) ?_; intro w5 hp_w5 K_w5); have b45 : Below w4.heap.size w4 w5 := (by repeat' (first | (with_reducible first | exact Below.refl _ _ | assumption | refine below_alloc ?_ _ | refine Below.drew ?_ | refine below_drewN ?_ _ | refine below_then ?_ (by assumption) | refine below_put ?_ (by assumption) (by first | (simp; done) | (simp; omega) | omega) | refine Below.setCell ?_ ?_ _) | (simp; done) | (simp; omega) | omega)); have KV5 := Lib.hid (KM4.out.below b45); have KE5 := Lib.hid (KK4.out.below b45); have l50 := KV5.out.lt; have l51 := KE5.out.lt; have c30 := (KV5.out.cell 30).trans (mx30 V m); have c31 := (KV5.out.cell 31).trans (mx31 V m); have d30 := (KE5.out.cell 30).trans (mx30 U E); have d31 := (KE5.out.cell 31).trans (mx31 U E); obtain ⟨z, p, vz, -, -, -, h4⟩ := (HM.out.below (B4.trans (b45.mono (by omega)))) 1 (by omega); rw [HN.out] at vz h4; rw [vz] at c31; obtain ⟨b9, o9, ez9, lb9, hc9⟩ := h4 (by omega); have cq := hc9 q (by omega); rw [HR.out] at cq; rw [ez9] at c31; replace ez9 := Lib.hid ez9; replace hc9 := Lib.hid hc9; replace h4 := Lib.hid h4; replace vz := Lib.hid vz) | ((with_reducible show wpList _ _ _ _ _ _); refine wpList_loadGA (by rfl) 41 (.tmp 13) rfl (w4.heap.size) (0) 75 rfl 41 (machC U2 m) (machC U2 m) (show Blk _ (w4.heap.size) (machC U2 m) 41 from (by repeat' (first | (with_reducible first | exact Hid.out (by assumption) | exact Blk.new _ _ _ | (refine Blk.new_at _ _ _ _ ?_; simp; done) | refine Blk.alloc ?_ _ | refine Blk.drewN ?_ _ | refine Blk.drew ?_ | apply Blk.set | refine Blk.put ?_ (by assumption) (by first | (simp; done) | (simp; omega) | omega) | refine Blk.below ?_ (by assumption)) | (refine Blk.setAt ?_ (by first | (simp; done) | (simp; omega))) | rfl))) _ Try.underlying41 rfl (by kernel_rfl) rfl rfl ?_) | ((with_reducible show wpList _ _ _ _ _ _); refine wpList_loadGA (by rfl) 41 (.tmp 4) rfl (w.heap.size) (0) 75 rfl 41 (machC V m) (machC V m) (show Blk _ (w.heap.size) (machC V m) 41 from (by repeat' (first | (with_reducible first | exact Hid.out (by assumption) | exact Blk.new _ _ _ | (refine Blk.new_at _ _ _ _ ?_; simp; done) | refine Blk.alloc ?_ _ | refine Blk.drewN ?_ _ | refine Blk.drew ?_ | apply Blk.set | refine Blk.put ?_ (by assumption) (by first | (simp; done) | (simp; omega) | omega) | refine Blk.below ?_ (by assumption)) | (refine Blk.setAt ?_ (by first | (simp; done) | (simp; omega))) | rfl))) _ Try.underlying41 rfl (by kernel_rfl) rfl rfl ?_))
  refine (EQ.out _ _ _ _ _ (M6.out 1 (by omega)) ((HM.out.below B6) 1 (by omega))).mono ?_
  rw [HX1.out, show decide (m.mem 1 = m.mem 1) = true by simp]
  rintro e w' ⟨rfl, rfl⟩
  go_wp2_with (first | (((with_reducible show wpList _ _ _ _ _ _); refine wpList_storeW rfl 41 (.tmp 13) (.tmp 40) rfl (w4.heap.size) (machC U2 m) rfl rfl 41 _ (show Blk _ (w4.heap.size) Try.zeroCells41 41 from (by repeat' (first | (with_reducible first | exact Hid.out (by assumption) | exact Blk.new _ _ _ | (refine Blk.new_at _ _ _ _ ?_; simp; done) | refine Blk.alloc ?_ _ | refine Blk.drewN ?_ _ | refine Blk.drew ?_ | apply Blk.set | refine Blk.put ?_ (by assumption) (by first | (simp; done) | (simp; omega) | omega) | refine Blk.below ?_ (by assumption)) | (refine Blk.setAt ?_ (by first | (simp; done) | (simp; omega))) | rfl))) (by kernel_rfl) rfl (by first | (with_reducible assumption) | simp [Value.oneCell']) ?_; intro w5 hp_w5 K_w5); have b45 : Below w4.heap.size w4 w5 := (by repeat' (first | (with_reducible first | exact Below.refl _ _ | assumption | refine below_alloc ?_ _ | refine Below.drew ?_ | refine below_drewN ?_ _ | refine below_then ?_ (by assumption) | refine below_put ?_ (by assumption) (by first | (simp; done) | (simp; omega) | omega) | refine Below.setCell ?_ ?_ _) | (simp; done) | (simp; omega) | omega)); have KV5 := Lib.hid (KM4.out.below b45); have KE5 := Lib.hid (KK4.out.below b45); have l50 := KV5.out.lt; have l51 := KE5.out.lt; have c30 := (KV5.out.cell 30).trans (mx30 V m); have c31 := (KV5.out.cell 31).trans (mx31 V m); have d30 := (KE5.out.cell 30).trans (mx30 U E); have d31 := (KE5.out.cell 31).trans (mx31 U E); obtain ⟨z, p, vz, -, -, -, h4⟩ := (HM.out.below (B4.trans (b45.mono (by omega)))) 1 (by omega); rw [HN.out] at vz h4; rw [vz] at c31; obtain ⟨b9, o9, ez9, lb9, hc9⟩ := h4 (by omega); have cq := hc9 q (by omega); rw [HR.out] at cq; rw [ez9] at c31; replace ez9 := Lib.hid ez9; replace hc9 := Lib.hid hc9; replace h4 := Lib.hid h4; replace vz := Lib.hid vz) | ((with_reducible show wpList _ _ _ _ _ _); refine wpList_loadGA (by rfl) 41 (.tmp 13) rfl (w4.heap.size) (0) 75 rfl 41 (machC U2 m) (machC U2 m) (show Blk _ (w4.heap.size) (machC U2 m) 41 from (by repeat' (first | (with_reducible first | exact Hid.out (by assumption) | exact Blk.new _ _ _ | (refine Blk.new_at _ _ _ _ ?_; simp; done) | refine Blk.alloc ?_ _ | refine Blk.drewN ?_ _ | refine Blk.drew ?_ | apply Blk.set | refine Blk.put ?_ (by assumption) (by first | (simp; done) | (simp; omega) | omega) | refine Blk.below ?_ (by assumption)) | (refine Blk.setAt ?_ (by first | (simp; done) | (simp; omega))) | rfl))) _ Try.underlying41 rfl (by kernel_rfl) rfl rfl ?_) | ((with_reducible show wpList _ _ _ _ _ _); refine wpList_loadGA (by rfl) 41 (.tmp 4) rfl (w.heap.size) (0) 75 rfl 41 (machC V m) (machC V m) (show Blk _ (w.heap.size) (machC V m) 41 from (by repeat' (first | (with_reducible first | exact Hid.out (by assumption) | exact Blk.new _ _ _ | (refine Blk.new_at _ _ _ _ ?_; simp; done) | refine Blk.alloc ?_ _ | refine Blk.drewN ?_ _ | refine Blk.drew ?_ | apply Blk.set | refine Blk.put ?_ (by assumption) (by first | (simp; done) | (simp; omega) | omega) | refine Blk.below ?_ (by assumption)) | (refine Blk.setAt ?_ (by first | (simp; done) | (simp; omega))) | rfl))) _ Try.underlying41 rfl (by kernel_rfl) rfl rfl ?_) | go_in)
  go_ret
  exact ⟨rfl, B6⟩
theorem good_aux_hi (V : Nat → Value) (m : Mach) (a n : Int) (ha : U16 a) (hn : U8 n) (w : World) (hm : MV w V m) (hi : m.In) (h : m.Right) (q : Nat) (hq : (q : Int) = a % 32768) (hc : ¬ q < (m.mem 1).length) :
    Calls Try.prog 7 #[.agg (machC V m), .bool true, .int .u16 a, .int .u8 n] w fun e w' => e = .returned (.bool true) ∧ Below w.heap.size w w' := by
  obtain ⟨X, hX⟩ : ∃ X, X = writeX m true a n := ⟨_, rfl⟩
  have X0 := write_rom m true a n (j := 0) (by omega)
  have X1 := write_rom m true a n (j := 1) (by omega)
  rw [← hX] at X0 X1
  have WR := Lib.hid (fun (W : World) (k : Below w.heap.size w W) => write_aux V m a n ha hn W (hm.below k) hi h)
  rw [← hX] at WR
  obtain ⟨dl, hdl⟩ : ∃ d, d = X.dl := ⟨_, rfl⟩
  obtain ⟨E, hE⟩ : ∃ E, E = X.m := ⟨_, rfl⟩
  rw [← hdl, ← hE] at WR
  rw [← hE] at X0 X1
  have RD := Lib.hid (fun (W : World) (k : Below w.heap.size w W) => read_aux V m q (by unfold U16; omega) W (hm.below k) hi h)
  rw [rom_get m true (by omega) (by omega), readX_no _ true (by omega)] at RD
  obtain ⟨r, hr⟩ : ∃ r, r = romV m true q := ⟨_, rfl⟩
  rw [← hr] at RD
  have HM := Lib.hid hm
  have SA := Lib.hid (fun (W : World) (U1 U2 : Nat → Value) (k1 : MV W U1 m) (k2 : MV W U2 m) => same_any U1 U2 m W k1 k2)
  have EQ := Lib.hid (fun (W : World) (v u : Value) (xs ys : List Int) (k : SliceAt W .u8 v xs) (k2 : SliceAt W .u8 u ys) => bytesEqual_any v u xs ys W k k2)
  have ON := Lib.hid (machC_one m (fun i hi => hm.one i hi))
  have ONZ := zeroM_one
  have eA : bits .and .u16 a 32767 = q := by rw [at_low a ha, hq]
  have q0 : (q : Int) < 32768 := by omega
  have hlen : (m.mem 1).length ≤ 1024 := h.fit.l1
  obtain ⟨N, hN⟩ : ∃ N, N = (m.mem 1).length := ⟨_, rfl⟩
  have HX0 := Lib.hid X0
  have HX1 := Lib.hid X1
  have HN := Lib.hid hN.symm
  have hnn : N ≤ 1024 := by omega
  have HR : Hid (r = 255) := Lib.hid (by rw [hr]; unfold romV; simp only [if_true]; rw [if_neg (by omega)])
  have hcq : ¬ (q : Int) < N := by omega
  obtain ⟨qi, eqi⟩ : ∃ k, k = (q : Int) := ⟨_, rfl⟩
  rw [← eqi] at eA RD hcq q0
  clear eqi hm hi h hX hdl hE X0 X1 hr hN hq hc hlen
  go_enter Try.func7, Try.ntmps7
  go_wp2_with (first | ((with_reducible show wpList _ _ _ _ _ _); refine wpList_loadW rfl 41 (.tmp 4) rfl (w.heap.size) rfl 41 (machC V m) (show Blk _ (w.heap.size) (machC V m) 41 from (by repeat' (first | (with_reducible first | exact Hid.out (by assumption) | exact Blk.new _ _ _ | (refine Blk.new_at _ _ _ _ ?_; simp; done) | refine Blk.alloc ?_ _ | refine Blk.drewN ?_ _ | refine Blk.drew ?_ | apply Blk.set | refine Blk.put ?_ (by assumption) (by first | (simp; done) | (simp; omega) | omega) | refine Blk.below ?_ (by assumption)) | (refine Blk.setAt ?_ (by first | (simp; done) | (simp; omega))) | rfl))) _ Try.underlying41 rfl (by kernel_rfl) ?_))
  refine (WR.out _ (by repeat' (first | (with_reducible first | exact Below.refl _ _ | assumption | refine below_alloc ?_ _ | refine Below.drew ?_ | refine below_drewN ?_ _ | refine below_then ?_ (by assumption) | refine below_put ?_ (by assumption) (by first | (simp; done) | (simp; omega) | omega) | refine Below.setCell ?_ ?_ _) | (simp; done) | (simp; omega) | omega))).mono ?_
  rintro e w1 ⟨U, rfl, T1⟩
  have hb1 := T1.below
  have s1 : w.heap.size + 1 ≤ w1.heap.size := by have := hb1.size; simpa using this
  have B1 : Below w.heap.size w w1 := by repeat' (first | (with_reducible first | exact Below.refl _ _ | assumption | refine below_alloc ?_ _ | refine Below.drew ?_ | refine below_drewN ?_ _ | refine below_then ?_ (by assumption) | refine below_put ?_ (by assumption) (by first | (simp; done) | (simp; omega) | omega) | refine Below.setCell ?_ ?_ _) | (simp; done) | (simp; omega) | omega)
  have KM1 := Lib.hid ((Blk.new w (machC V m) 41).below hb1)
  have ON1 := told_one T1
  have TT1 := Lib.hid T1
  clear hb1 T1 WR
  go_wp2_with (first | ((with_reducible show wpList _ _ _ _ _ _); refine wpList_storeW rfl 41 (.tmp 9) (.tmp 23) rfl (w1.heap.size) (machC U E) rfl rfl 41 _ (show Blk _ (w1.heap.size) Try.zeroCells41 41 from (by repeat' (first | (with_reducible first | exact Hid.out (by assumption) | exact Blk.new _ _ _ | (refine Blk.new_at _ _ _ _ ?_; simp; done) | refine Blk.alloc ?_ _ | refine Blk.drewN ?_ _ | refine Blk.drew ?_ | apply Blk.set | refine Blk.put ?_ (by assumption) (by first | (simp; done) | (simp; omega) | omega) | refine Blk.below ?_ (by assumption)) | (refine Blk.setAt ?_ (by first | (simp; done) | (simp; omega))) | rfl))) (by kernel_rfl) rfl (by first | (with_reducible assumption) | simp [Value.oneCell']) ?_; intro w2 hp_w2 K_w2))
  have sz2 : w1.heap.size + 1 ≤ w2.heap.size := by have := hp_w2.size; simp at this; omega
  have b12 : Below w1.heap.size w1 w2 := by repeat' (first | (with_reducible first | exact Below.refl _ _ | assumption | refine below_alloc ?_ _ | refine Below.drew ?_ | refine below_drewN ?_ _ | refine below_then ?_ (by assumption) | refine below_put ?_ (by assumption) (by first | (simp; done) | (simp; omega) | omega) | refine Below.setCell ?_ ?_ _) | (simp; done) | (simp; omega) | omega)
  have B2 : Below w.heap.size w w2 := B1.trans (b12.mono (by omega))
  have KK2 := Lib.hid K_w2.out
  have KM2 := Lib.hid (KM1.out.below b12)
  have MV2 := Lib.hid (TT1.out.mv.below b12)
  clear K_w2 hp_w2 b12 TT1 B1 KM1
  refine (bussed_any _).mono ?_
  rintro e w3 ⟨rfl, hb3⟩
  have B3 : Below w.heap.size w w3 := below_then B2 hb3
  have KK3 := Lib.hid (KK2.out.below hb3)
  have KM3 := Lib.hid (KM2.out.below hb3)
  have MV3 := Lib.hid (MV2.out.below hb3)
  have s3 := hb3.size
  clear hb3 B2 KK2 KM2 MV2
  go_wp2_with (first | ((with_reducible show wpList _ _ _ _ _ _); refine wpList_loadW rfl 41 (.tmp 4) rfl (w.heap.size) rfl 41 (machC V m) (show Blk _ (w.heap.size) (machC V m) 41 from (by repeat' (first | (with_reducible first | exact Hid.out (by assumption) | exact Blk.new _ _ _ | (refine Blk.new_at _ _ _ _ ?_; simp; done) | refine Blk.alloc ?_ _ | refine Blk.drewN ?_ _ | refine Blk.drew ?_ | apply Blk.set | refine Blk.put ?_ (by assumption) (by first | (simp; done) | (simp; omega) | omega) | refine Blk.below ?_ (by assumption)) | (refine Blk.setAt ?_ (by first | (simp; done) | (simp; omega))) | rfl))) _ Try.underlying41 rfl (by kernel_rfl) ?_))
  refine (RD.out _ B3).mono ?_
  rintro e w4 ⟨U2, rfl, T4⟩
  have hb4 := T4.below
  have s4 := hb4.size
  have B4 : Below w.heap.size w w4 := below_then B3 hb4
  have KK4 := Lib.hid (KK3.out.below hb4)
  have KM4 := Lib.hid (KM3.out.below hb4)
  have MV4 := Lib.hid (MV3.out.below hb4)
  have ON4 := told_one T4
  have MW4 := Lib.hid T4.mv
  clear hb4 T4 KK3 KM3 MV3 B3 RD
  have lB4 := KM4.out.lt
  have c30 := (KM4.out.cell 30).trans (mx30 V m)
  have c31 := (KM4.out.cell 31).trans (mx31 V m)
  go_wp2_with (first | (((with_reducible show wpList _ _ _ _ _ _); refine wpList_storeW rfl 41 (.tmp 13) (.tmp 40) rfl (w4.heap.size) (machC U2 m) rfl rfl 41 _ (show Blk _ (w4.heap.size) Try.zeroCells41 41 from (by repeat' (first | (with_reducible first | exact Hid.out (by assumption) | exact Blk.new _ _ _ | (refine Blk.new_at _ _ _ _ ?_; simp; done) | refine Blk.alloc ?_ _ | refine Blk.drewN ?_ _ | refine Blk.drew ?_ | apply Blk.set | refine Blk.put ?_ (by assumption) (by first | (simp; done) | (simp; omega) | omega) | refine Blk.below ?_ (by assumption)) | (refine Blk.setAt ?_ (by first | (simp; done) | (simp; omega))) | rfl))) (by kernel_rfl) rfl (by first | (with_reducible assumption) | simp [Value.oneCell']) ?_; intro w5 hp_w5 K_w5); have b45 : Below w4.heap.size w4 w5 := (by repeat' (first | (with_reducible first | exact Below.refl _ _ | assumption | refine below_alloc ?_ _ | refine Below.drew ?_ | refine below_drewN ?_ _ | refine below_then ?_ (by assumption) | refine below_put ?_ (by assumption) (by first | (simp; done) | (simp; omega) | omega) | refine Below.setCell ?_ ?_ _) | (simp; done) | (simp; omega) | omega)); have KV5 := Lib.hid (KM4.out.below b45); have KE5 := Lib.hid (KK4.out.below b45); have l50 := KV5.out.lt; have l51 := KE5.out.lt; have c30 := (KV5.out.cell 30).trans (mx30 V m); have c31 := (KV5.out.cell 31).trans (mx31 V m); have d30 := (KE5.out.cell 30).trans (mx30 U E); have d31 := (KE5.out.cell 31).trans (mx31 U E); obtain ⟨z, p, vz, -, -, -, h4⟩ := (HM.out.below (B4.trans (b45.mono (by omega)))) 1 (by omega); rw [HN.out] at vz h4; rw [vz] at c31; have hr9 : (r == 255) = true := (by rw [HR.out]; rfl); replace h4 := Lib.hid h4; replace vz := Lib.hid vz) | ((with_reducible show wpList _ _ _ _ _ _); refine wpList_loadGA (by rfl) 41 (.tmp 13) rfl (w4.heap.size) (0) 75 rfl 41 (machC U2 m) (machC U2 m) (show Blk _ (w4.heap.size) (machC U2 m) 41 from (by repeat' (first | (with_reducible first | exact Hid.out (by assumption) | exact Blk.new _ _ _ | (refine Blk.new_at _ _ _ _ ?_; simp; done) | refine Blk.alloc ?_ _ | refine Blk.drewN ?_ _ | refine Blk.drew ?_ | apply Blk.set | refine Blk.put ?_ (by assumption) (by first | (simp; done) | (simp; omega) | omega) | refine Blk.below ?_ (by assumption)) | (refine Blk.setAt ?_ (by first | (simp; done) | (simp; omega))) | rfl))) _ Try.underlying41 rfl (by kernel_rfl) rfl rfl ?_) | ((with_reducible show wpList _ _ _ _ _ _); refine wpList_loadGA (by rfl) 41 (.tmp 4) rfl (w.heap.size) (0) 75 rfl 41 (machC V m) (machC V m) (show Blk _ (w.heap.size) (machC V m) 41 from (by repeat' (first | (with_reducible first | exact Hid.out (by assumption) | exact Blk.new _ _ _ | (refine Blk.new_at _ _ _ _ ?_; simp; done) | refine Blk.alloc ?_ _ | refine Blk.drewN ?_ _ | refine Blk.drew ?_ | apply Blk.set | refine Blk.put ?_ (by assumption) (by first | (simp; done) | (simp; omega) | omega) | refine Blk.below ?_ (by assumption)) | (refine Blk.setAt ?_ (by first | (simp; done) | (simp; omega))) | rfl))) _ Try.underlying41 rfl (by kernel_rfl) rfl rfl ?_))
  have B5 : Below w.heap.size w w5 := B4.trans (b45.mono (by omega))
  have M5 := Lib.hid (MV4.out.below b45)
  refine (SA.out _ U2 V (MW4.out.below b45) (HM.out.below B5)).mono ?_
  rintro e w6 ⟨rfl, hb6⟩
  have B6 : Below w.heap.size w w6 := below_then B5 hb6
  have M6 := Lib.hid (M5.out.below hb6)
  have s6 := hb6.size
  have KV6 := Lib.hid (KV5.out.below hb6)
  have KE6 := Lib.hid (KE5.out.below hb6)
  clear c30 c31 d30 d31 l50 l51 KV5 KE5 B5 M5 hb6 b45 K_w5 hp_w5 KM4 KK4 MV4 MW4 SA
  have l60 := KV6.out.lt
  have l61 := KE6.out.lt
  have c30 := (KV6.out.cell 30).trans (mx30 V m)
  have c31 := (KV6.out.cell 31).trans (mx31 V m)
  have d30 := (KE6.out.cell 30).trans (mx30 U E)
  have d31 := (KE6.out.cell 31).trans (mx31 U E)
  go_wp2_with (first | (((with_reducible show wpList _ _ _ _ _ _); refine wpList_storeW rfl 41 (.tmp 13) (.tmp 40) rfl (w4.heap.size) (machC U2 m) rfl rfl 41 _ (show Blk _ (w4.heap.size) Try.zeroCells41 41 from (by repeat' (first | (with_reducible first | exact Hid.out (by assumption) | exact Blk.new _ _ _ | (refine Blk.new_at _ _ _ _ ?_; simp; done) | refine Blk.alloc ?_ _ | refine Blk.drewN ?_ _ | refine Blk.drew ?_ | apply Blk.set | refine Blk.put ?_ (by assumption) (by first | (simp; done) | (simp; omega) | omega) | refine Blk.below ?_ (by assumption)) | (refine Blk.setAt ?_ (by first | (simp; done) | (simp; omega))) | rfl))) (by kernel_rfl) rfl (by first | (with_reducible assumption) | simp [Value.oneCell']) ?_; intro w5 hp_w5 K_w5); have b45 : Below w4.heap.size w4 w5 := (by repeat' (first | (with_reducible first | exact Below.refl _ _ | assumption | refine below_alloc ?_ _ | refine Below.drew ?_ | refine below_drewN ?_ _ | refine below_then ?_ (by assumption) | refine below_put ?_ (by assumption) (by first | (simp; done) | (simp; omega) | omega) | refine Below.setCell ?_ ?_ _) | (simp; done) | (simp; omega) | omega)); have KV5 := Lib.hid (KM4.out.below b45); have KE5 := Lib.hid (KK4.out.below b45); have l50 := KV5.out.lt; have l51 := KE5.out.lt; have c30 := (KV5.out.cell 30).trans (mx30 V m); have c31 := (KV5.out.cell 31).trans (mx31 V m); have d30 := (KE5.out.cell 30).trans (mx30 U E); have d31 := (KE5.out.cell 31).trans (mx31 U E); obtain ⟨z, p, vz, -, -, -, h4⟩ := (HM.out.below (B4.trans (b45.mono (by omega)))) 1 (by omega); rw [HN.out] at vz h4; rw [vz] at c31; have hr9 : (r == 255) = true := (by rw [HR.out]; rfl); replace h4 := Lib.hid h4; replace vz := Lib.hid vz) | ((with_reducible show wpList _ _ _ _ _ _); refine wpList_loadGA (by rfl) 41 (.tmp 13) rfl (w4.heap.size) (0) 75 rfl 41 (machC U2 m) (machC U2 m) (show Blk _ (w4.heap.size) (machC U2 m) 41 from (by repeat' (first | (with_reducible first | exact Hid.out (by assumption) | exact Blk.new _ _ _ | (refine Blk.new_at _ _ _ _ ?_; simp; done) | refine Blk.alloc ?_ _ | refine Blk.drewN ?_ _ | refine Blk.drew ?_ | apply Blk.set | refine Blk.put ?_ (by assumption) (by first | (simp; done) | (simp; omega) | omega) | refine Blk.below ?_ (by assumption)) | (refine Blk.setAt ?_ (by first | (simp; done) | (simp; omega))) | rfl))) _ Try.underlying41 rfl (by kernel_rfl) rfl rfl ?_) | ((with_reducible show wpList _ _ _ _ _ _); refine wpList_loadGA (by rfl) 41 (.tmp 4) rfl (w.heap.size) (0) 75 rfl 41 (machC V m) (machC V m) (show Blk _ (w.heap.size) (machC V m) 41 from (by repeat' (first | (with_reducible first | exact Hid.out (by assumption) | exact Blk.new _ _ _ | (refine Blk.new_at _ _ _ _ ?_; simp; done) | refine Blk.alloc ?_ _ | refine Blk.drewN ?_ _ | refine Blk.drew ?_ | apply Blk.set | refine Blk.put ?_ (by assumption) (by first | (simp; done) | (simp; omega) | omega) | refine Blk.below ?_ (by assumption)) | (refine Blk.setAt ?_ (by first | (simp; done) | (simp; omega))) | rfl))) _ Try.underlying41 rfl (by kernel_rfl) rfl rfl ?_))
  refine (EQ.out _ _ _ _ _ (M6.out 0 (by omega)) ((HM.out.below B6) 0 (by omega))).mono ?_
  rw [HX0.out, show decide (m.mem 0 = m.mem 0) = true by simp]
  rintro e w' ⟨rfl, rfl⟩
  go_wp2_with (first | (((with_reducible show wpList _ _ _ _ _ _); refine wpList_storeW rfl 41 (.tmp 13) (.tmp 40) rfl (w4.heap.size) (machC U2 m) rfl rfl 41 _ (show Blk _ (w4.heap.size) Try.zeroCells41 41 from (by repeat' (first | (with_reducible first | exact Hid.out (by assumption) | exact Blk.new _ _ _ | (refine Blk.new_at _ _ _ _ ?_; simp; done) | refine Blk.alloc ?_ _ | refine Blk.drewN ?_ _ | refine Blk.drew ?_ | apply Blk.set | refine Blk.put ?_ (by assumption) (by first | (simp; done) | (simp; omega) | omega) | refine Blk.below ?_ (by assumption)) | (refine Blk.setAt ?_ (by first | (simp; done) | (simp; omega))) | rfl))) (by kernel_rfl) rfl (by first | (with_reducible assumption) | simp [Value.oneCell']) ?_; intro w5 hp_w5 K_w5); have b45 : Below w4.heap.size w4 w5 := (by repeat' (first | (with_reducible first | exact Below.refl _ _ | assumption | refine below_alloc ?_ _ | refine Below.drew ?_ | refine below_drewN ?_ _ | refine below_then ?_ (by assumption) | refine below_put ?_ (by assumption) (by first | (simp; done) | (simp; omega) | omega) | refine Below.setCell ?_ ?_ _) | (simp; done) | (simp; omega) | omega)); have KV5 := Lib.hid (KM4.out.below b45); have KE5 := Lib.hid (KK4.out.below b45); have l50 := KV5.out.lt; have l51 := KE5.out.lt; have c30 := (KV5.out.cell 30).trans (mx30 V m); have c31 := (KV5.out.cell 31).trans (mx31 V m); have d30 := (KE5.out.cell 30).trans (mx30 U E); have d31 := (KE5.out.cell 31).trans (mx31 U E); obtain ⟨z, p, vz, -, -, -, h4⟩ := (HM.out.below (B4.trans (b45.mono (by omega)))) 1 (by omega); rw [HN.out] at vz h4; rw [vz] at c31; have hr9 : (r == 255) = true := (by rw [HR.out]; rfl); replace h4 := Lib.hid h4; replace vz := Lib.hid vz) | ((with_reducible show wpList _ _ _ _ _ _); refine wpList_loadGA (by rfl) 41 (.tmp 13) rfl (w4.heap.size) (0) 75 rfl 41 (machC U2 m) (machC U2 m) (show Blk _ (w4.heap.size) (machC U2 m) 41 from (by repeat' (first | (with_reducible first | exact Hid.out (by assumption) | exact Blk.new _ _ _ | (refine Blk.new_at _ _ _ _ ?_; simp; done) | refine Blk.alloc ?_ _ | refine Blk.drewN ?_ _ | refine Blk.drew ?_ | apply Blk.set | refine Blk.put ?_ (by assumption) (by first | (simp; done) | (simp; omega) | omega) | refine Blk.below ?_ (by assumption)) | (refine Blk.setAt ?_ (by first | (simp; done) | (simp; omega))) | rfl))) _ Try.underlying41 rfl (by kernel_rfl) rfl rfl ?_) | ((with_reducible show wpList _ _ _ _ _ _); refine wpList_loadGA (by rfl) 41 (.tmp 4) rfl (w.heap.size) (0) 75 rfl 41 (machC V m) (machC V m) (show Blk _ (w.heap.size) (machC V m) 41 from (by repeat' (first | (with_reducible first | exact Hid.out (by assumption) | exact Blk.new _ _ _ | (refine Blk.new_at _ _ _ _ ?_; simp; done) | refine Blk.alloc ?_ _ | refine Blk.drewN ?_ _ | refine Blk.drew ?_ | apply Blk.set | refine Blk.put ?_ (by assumption) (by first | (simp; done) | (simp; omega) | omega) | refine Blk.below ?_ (by assumption)) | (refine Blk.setAt ?_ (by first | (simp; done) | (simp; omega))) | rfl))) _ Try.underlying41 rfl (by kernel_rfl) rfl rfl ?_))
  refine (EQ.out _ _ _ _ _ (M6.out 1 (by omega)) ((HM.out.below B6) 1 (by omega))).mono ?_
  rw [HX1.out, show decide (m.mem 1 = m.mem 1) = true by simp]
  rintro e w' ⟨rfl, rfl⟩
  go_wp2_with (first | (((with_reducible show wpList _ _ _ _ _ _); refine wpList_storeW rfl 41 (.tmp 13) (.tmp 40) rfl (w4.heap.size) (machC U2 m) rfl rfl 41 _ (show Blk _ (w4.heap.size) Try.zeroCells41 41 from (by repeat' (first | (with_reducible first | exact Hid.out (by assumption) | exact Blk.new _ _ _ | (refine Blk.new_at _ _ _ _ ?_; simp; done) | refine Blk.alloc ?_ _ | refine Blk.drewN ?_ _ | refine Blk.drew ?_ | apply Blk.set | refine Blk.put ?_ (by assumption) (by first | (simp; done) | (simp; omega) | omega) | refine Blk.below ?_ (by assumption)) | (refine Blk.setAt ?_ (by first | (simp; done) | (simp; omega))) | rfl))) (by kernel_rfl) rfl (by first | (with_reducible assumption) | simp [Value.oneCell']) ?_; intro w5 hp_w5 K_w5); have b45 : Below w4.heap.size w4 w5 := (by repeat' (first | (with_reducible first | exact Below.refl _ _ | assumption | refine below_alloc ?_ _ | refine Below.drew ?_ | refine below_drewN ?_ _ | refine below_then ?_ (by assumption) | refine below_put ?_ (by assumption) (by first | (simp; done) | (simp; omega) | omega) | refine Below.setCell ?_ ?_ _) | (simp; done) | (simp; omega) | omega)); have KV5 := Lib.hid (KM4.out.below b45); have KE5 := Lib.hid (KK4.out.below b45); have l50 := KV5.out.lt; have l51 := KE5.out.lt; have c30 := (KV5.out.cell 30).trans (mx30 V m); have c31 := (KV5.out.cell 31).trans (mx31 V m); have d30 := (KE5.out.cell 30).trans (mx30 U E); have d31 := (KE5.out.cell 31).trans (mx31 U E); obtain ⟨z, p, vz, -, -, -, h4⟩ := (HM.out.below (B4.trans (b45.mono (by omega)))) 1 (by omega); rw [HN.out] at vz h4; rw [vz] at c31; have hr9 : (r == 255) = true := (by rw [HR.out]; rfl); replace h4 := Lib.hid h4; replace vz := Lib.hid vz) | ((with_reducible show wpList _ _ _ _ _ _); refine wpList_loadGA (by rfl) 41 (.tmp 13) rfl (w4.heap.size) (0) 75 rfl 41 (machC U2 m) (machC U2 m) (show Blk _ (w4.heap.size) (machC U2 m) 41 from (by repeat' (first | (with_reducible first | exact Hid.out (by assumption) | exact Blk.new _ _ _ | (refine Blk.new_at _ _ _ _ ?_; simp; done) | refine Blk.alloc ?_ _ | refine Blk.drewN ?_ _ | refine Blk.drew ?_ | apply Blk.set | refine Blk.put ?_ (by assumption) (by first | (simp; done) | (simp; omega) | omega) | refine Blk.below ?_ (by assumption)) | (refine Blk.setAt ?_ (by first | (simp; done) | (simp; omega))) | rfl))) _ Try.underlying41 rfl (by kernel_rfl) rfl rfl ?_) | ((with_reducible show wpList _ _ _ _ _ _); refine wpList_loadGA (by rfl) 41 (.tmp 4) rfl (w.heap.size) (0) 75 rfl 41 (machC V m) (machC V m) (show Blk _ (w.heap.size) (machC V m) 41 from (by repeat' (first | (with_reducible first | exact Hid.out (by assumption) | exact Blk.new _ _ _ | (refine Blk.new_at _ _ _ _ ?_; simp; done) | refine Blk.alloc ?_ _ | refine Blk.drewN ?_ _ | refine Blk.drew ?_ | apply Blk.set | refine Blk.put ?_ (by assumption) (by first | (simp; done) | (simp; omega) | omega) | refine Blk.below ?_ (by assumption)) | (refine Blk.setAt ?_ (by first | (simp; done) | (simp; omega))) | rfl))) _ Try.underlying41 rfl (by kernel_rfl) rfl rfl ?_) | go_in)
  go_ret
  exact ⟨rfl, B6⟩
theorem walk (V : Nat → Value) (m : Mach) (aux : Bool) (a n : Int) (w : World) (hm : MV w V m) (hi : m.In) (ha : U16 a) (hn : U8 n) :
    Calls Try.prog 7 #[.agg (machC V m), .bool aux, .int .u16 a, .int .u8 n] w fun e w' => e = .returned (.bool true) ∧ Below w.heap.size w w' := by
  by_cases h : m.Right
  · obtain ⟨q, hq⟩ : ∃ q : Nat, (q : Int) = a % 32768 := ⟨(a % 32768).toNat, by omega⟩
    cases aux
    · by_cases c : q < (m.mem 0).length
      · exact good_main_lo V m a n ha hn w hm hi h q hq c
      · exact good_main_hi V m a n ha hn w hm hi h q hq c
    · by_cases c : q < (m.mem 1).length
      · exact good_aux_lo V m a n ha hn w hm hi h q hq c
      · exact good_aux_hi V m a n ha hn w hm hi h q hq c
  · exact bad V m aux a n w hm h
end Go.Proofs.Ytimccpmdgfneoaa.busProgram
