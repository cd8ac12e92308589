/- BusBack: what the main processor writes into a memory it reads there: for every machine, place and byte the law answers true. Conditions: none. -/
import Derived.Test.YtimccpmdgfneoaaBusM
import Derived.Test.YtimccpmdgfneoaaBusSame
namespace Go.Proofs.Ytimccpmdgfneoaa.busBack
open Go.RowKit Go.Mq
set_option linter.unusedVariables false
set_option linter.unusedSimpArgs false
set_option maxHeartbeats 2000000
set_option maxRecDepth 100000
theorem bad (V : Nat → Value) (m : Mach) (a n : Int) (w : World) (hm : MV w V m) (h : ¬ m.Right) :
    Calls Try.prog 6 #[.agg (machC V m), .int .u16 a, .int .u8 n] w fun e w' => e = .returned (.bool true) ∧ Below w.heap.size w w' := by
  have WR := Lib.hid (fun (W : World) (x : Int) (k : Below w.heap.size w W) => write_bad V m false x n W (hm.below k) h)
  have hc : chk m ≠ 0 := fun e => h ((chk_zero m).1 e)
  obtain ⟨c, ec⟩ : ∃ c, c = chk m := ⟨_, rfl⟩
  rw [← ec] at WR hc
  have hcb : (c != 0) = true := by rw [bne_iff_ne]; exact hc
  have ON := Lib.hid (machC_one m (fun i hi => hm.one i hi))
  have ONZ := zeroM_one
  clear hm h ec hc
  go_enter Try.func6, Try.ntmps6
  go_wp2_with (first | ((with_reducible show wpList _ _ _ _ _ _); refine wpList_loadW rfl 41 (.tmp 3) rfl (w.heap.size) rfl 41 (machC V m) (show Blk _ (w.heap.size) (machC V m) 41 from (by repeat' (first | (with_reducible first | exact Hid.out (by assumption) | exact Blk.new _ _ _ | (refine Blk.new_at _ _ _ _ ?_; simp; done) | refine Blk.alloc ?_ _ | refine Blk.drewN ?_ _ | refine Blk.drew ?_ | apply Blk.set | refine Blk.put ?_ (by assumption) (by first | (simp; done) | (simp; omega) | omega) | refine Blk.below ?_ (by assumption)) | (refine Blk.setAt ?_ (by first | (simp; done) | (simp; omega))) | rfl))) _ Try.underlying41 rfl (by kernel_rfl) ?_))
  refine (WR.out _ _ (by repeat' (first | (with_reducible first | exact Below.refl _ _ | assumption | refine below_alloc ?_ _ | refine Below.drew ?_ | refine below_drewN ?_ _ | refine below_then ?_ (by assumption) | refine below_put ?_ (by assumption) (by first | (simp; done) | (simp; omega) | omega) | refine Below.setCell ?_ ?_ _) | (simp; done) | (simp; omega) | omega))).mono ?_
  rintro e w1 ⟨rfl, hb1⟩
  have s1 : w.heap.size + 1 ≤ w1.heap.size := by have := hb1.size; simpa using this
  go_wp2_with (first | ((with_reducible show wpList _ _ _ _ _ _); refine wpList_storeW rfl 41 (.tmp 7) (.tmp 20) rfl (w1.heap.size) Try.zeroCells41 rfl rfl 41 _ (show Blk _ (w1.heap.size) Try.zeroCells41 41 from (by repeat' (first | (with_reducible first | exact Hid.out (by assumption) | exact Blk.new _ _ _ | (refine Blk.new_at _ _ _ _ ?_; simp; done) | refine Blk.alloc ?_ _ | refine Blk.drewN ?_ _ | refine Blk.drew ?_ | apply Blk.set | refine Blk.put ?_ (by assumption) (by first | (simp; done) | (simp; omega) | omega) | refine Blk.below ?_ (by assumption)) | (refine Blk.setAt ?_ (by first | (simp; done) | (simp; omega))) | rfl))) (by kernel_rfl) rfl (by first | (with_reducible assumption) | simp [Value.oneCell']) ?_; intro w2 hp_w2 K_w2))
  have B2 : Below w.heap.size w w2 := by repeat' (first | (with_reducible first | exact Below.refl _ _ | assumption | refine below_alloc ?_ _ | refine Below.drew ?_ | refine below_drewN ?_ _ | refine below_then ?_ (by assumption) | refine below_put ?_ (by assumption) (by first | (simp; done) | (simp; omega) | omega) | refine Below.setCell ?_ ?_ _) | (simp; done) | (simp; omega) | omega)
  clear hb1 hp_w2 K_w2
  refine (bussed_any _).mono ?_
  rintro e w3 ⟨rfl, hb3⟩
  have B3 : Below w.heap.size w w3 := below_then B2 hb3
  clear hb3 B2
  go_wp2_with fail
  refine (bussed_any _).mono ?_
  rintro e w4 ⟨rfl, hb4⟩
  go_wp2
  go_ret
  exact ⟨rfl, by repeat' (first | (with_reducible first | exact Below.refl _ _ | assumption | refine below_alloc ?_ _ | refine Below.drew ?_ | refine below_drewN ?_ _ | refine below_then ?_ (by assumption) | refine below_put ?_ (by assumption) (by first | (simp; done) | (simp; omega) | omega) | refine Below.setCell ?_ ?_ _) | (simp; done) | (simp; omega) | omega)⟩
theorem good (V : Nat → Value) (m : Mach) (a n : Int) (ha : U16 a) (hn : U8 n) (w : World) (hm : MV w V m) (hi : m.In) (h : m.Right) :
    Calls Try.prog 6 #[.agg (machC V m), .int .u16 a, .int .u8 n] w fun e w' => e = .returned (.bool true) ∧ Below w.heap.size w w' := by
  obtain ⟨A, hA⟩ : ∃ A, A = 32768 + a % 20480 := ⟨_, rfl⟩
  have h0 : 32768 ≤ A := by omega
  have h1 : A < 53248 := by omega
  obtain ⟨X, hX⟩ : ∃ X, X = poke m (if A < 49152 then 2 else 4) (if A < 49152 then (A % 128).toNat else (A % 256).toNat) n := ⟨_, rfl⟩
  have hw : writeX m false A n = ⟨X, [], 0⟩ := by rw [wb_val h0 h1, hX]
  have hg : readV X false A = n := by unfold readV; rw [if_neg Bool.false_ne_true, hX, wb_get h.fit h0 h1]
  have hr : X.Right := by rw [hX]; exact poke_right h _ _ _
  have WR := Lib.hid (fun (W : World) (k : Below w.heap.size w W) => write_main V m A n (by unfold U16; omega) hn W (hm.below k) hi h)
  rw [hw] at WR
  have RD := Lib.hid (fun (W : World) (U : Nat → Value) (k : MV W U X) (ki : X.In) => read_main U X A (by unfold U16; omega) W k ki hr)
  rw [hg, readX_no X false h1] at RD
  have SA := Lib.hid (fun (W : World) (U1 U2 : Nat → Value) (k1 : MV W U1 X) (k2 : MV W U2 X) => same_any U1 U2 X W k1 k2)
  have eA : IntKind.u16.wrap (32768 + a.tmod 20480) = A := by rw [Int.tmod_eq_emod_of_nonneg ha.1, wrap16]; omega
  have ON := Lib.hid (machC_one m (fun i hi => hm.one i hi))
  have ONZ := zeroM_one
  clear hm hi h hX hw hg hr hA h0 h1
  go_enter Try.func6, Try.ntmps6
  go_wp2_with (first | ((with_reducible show wpList _ _ _ _ _ _); refine wpList_loadW rfl 41 (.tmp 3) rfl (w.heap.size) rfl 41 (machC V m) (show Blk _ (w.heap.size) (machC V m) 41 from (by repeat' (first | (with_reducible first | exact Hid.out (by assumption) | exact Blk.new _ _ _ | (refine Blk.new_at _ _ _ _ ?_; simp; done) | refine Blk.alloc ?_ _ | refine Blk.drewN ?_ _ | refine Blk.drew ?_ | apply Blk.set | refine Blk.put ?_ (by assumption) (by first | (simp; done) | (simp; omega) | omega) | refine Blk.below ?_ (by assumption)) | (refine Blk.setAt ?_ (by first | (simp; done) | (simp; omega))) | rfl))) _ Try.underlying41 rfl (by kernel_rfl) ?_))
  refine (WR.out _ (by repeat' (first | (with_reducible first | exact Below.refl _ _ | assumption | refine below_alloc ?_ _ | refine Below.drew ?_ | refine below_drewN ?_ _ | refine below_then ?_ (by assumption) | refine below_put ?_ (by assumption) (by first | (simp; done) | (simp; omega) | omega) | refine Below.setCell ?_ ?_ _) | (simp; done) | (simp; omega) | omega))).mono ?_
  rintro e w1 ⟨U, rfl, T1⟩
  have hb1 := T1.below
  have s1 : w.heap.size + 1 ≤ w1.heap.size := by have := hb1.size; simpa using this
  have B1 : Below w.heap.size w w1 := by repeat' (first | (with_reducible first | exact Below.refl _ _ | assumption | refine below_alloc ?_ _ | refine Below.drew ?_ | refine below_drewN ?_ _ | refine below_then ?_ (by assumption) | refine below_put ?_ (by assumption) (by first | (simp; done) | (simp; omega) | omega) | refine Below.setCell ?_ ?_ _) | (simp; done) | (simp; omega) | omega)
  have ON1 := told_one T1
  have TT1 := Lib.hid T1
  clear hb1 T1 WR
  go_wp2_with (first | ((with_reducible show wpList _ _ _ _ _ _); refine wpList_storeW rfl 41 (.tmp 7) (.tmp 20) rfl (w1.heap.size) (machC U X) rfl rfl 41 _ (show Blk _ (w1.heap.size) Try.zeroCells41 41 from (by repeat' (first | (with_reducible first | exact Hid.out (by assumption) | exact Blk.new _ _ _ | (refine Blk.new_at _ _ _ _ ?_; simp; done) | refine Blk.alloc ?_ _ | refine Blk.drewN ?_ _ | refine Blk.drew ?_ | apply Blk.set | refine Blk.put ?_ (by assumption) (by first | (simp; done) | (simp; omega) | omega) | refine Blk.below ?_ (by assumption)) | (refine Blk.setAt ?_ (by first | (simp; done) | (simp; omega))) | rfl))) (by kernel_rfl) rfl (by first | (with_reducible assumption) | simp [Value.oneCell']) ?_; intro w2 hp_w2 K_w2))
  have sz2 : w1.heap.size + 1 ≤ w2.heap.size := by have := hp_w2.size; simp at this; omega
  have b12 : Below w1.heap.size w1 w2 := by repeat' (first | (with_reducible first | exact Below.refl _ _ | assumption | refine below_alloc ?_ _ | refine Below.drew ?_ | refine below_drewN ?_ _ | refine below_then ?_ (by assumption) | refine below_put ?_ (by assumption) (by first | (simp; done) | (simp; omega) | omega) | refine Below.setCell ?_ ?_ _) | (simp; done) | (simp; omega) | omega)
  have B2 : Below w.heap.size w w2 := B1.trans (b12.mono (by omega))
  have KK2 := Lib.hid K_w2.out
  have MV2 := Lib.hid (TT1.out.mv.below b12)
  have IN := Lib.hid TT1.out.inn
  clear K_w2 hp_w2 b12 TT1 B1
  refine (bussed_any _).mono ?_
  rintro e w3 ⟨rfl, hb3⟩
  have B3 : Below w.heap.size w w3 := below_then B2 hb3
  have KK3 := Lib.hid (KK2.out.below hb3)
  have MV3 := Lib.hid (MV2.out.below hb3)
  have s3 := hb3.size
  clear hb3 B2 KK2 MV2
  go_wp2_with (first | ((with_reducible show wpList _ _ _ _ _ _); refine wpList_loadW rfl 41 (.tmp 7) rfl (w1.heap.size) rfl 41 (machC U X) (show Blk _ (w1.heap.size) (machC U X) 41 from (by repeat' (first | (with_reducible first | exact Hid.out (by assumption) | exact Blk.new _ _ _ | (refine Blk.new_at _ _ _ _ ?_; simp; done) | refine Blk.alloc ?_ _ | refine Blk.drewN ?_ _ | refine Blk.drew ?_ | apply Blk.set | refine Blk.put ?_ (by assumption) (by first | (simp; done) | (simp; omega) | omega) | refine Blk.below ?_ (by assumption)) | (refine Blk.setAt ?_ (by first | (simp; done) | (simp; omega))) | rfl))) _ Try.underlying41 rfl (by kernel_rfl) ?_))
  refine (RD.out _ U MV3.out IN.out).mono ?_
  rintro e w4 ⟨U2, rfl, T4⟩
  have hb4 := T4.below
  have s4 := hb4.size
  have B4 : Below w.heap.size w w4 := below_then B3 hb4
  have KK4 := Lib.hid (KK3.out.below hb4)
  have MV4 := Lib.hid (MV3.out.below hb4)
  have ON4 := told_one T4
  have MW4 := Lib.hid T4.mv
  clear hb4 T4 KK3 MV3 B3 RD
  go_wp2_with (first | ((with_reducible show wpList _ _ _ _ _ _); refine wpList_storeW rfl 41 (.tmp 11) (.tmp 35) rfl (w4.heap.size) (machC U2 X) rfl rfl 41 _ (show Blk _ (w4.heap.size) Try.zeroCells41 41 from (by repeat' (first | (with_reducible first | exact Hid.out (by assumption) | exact Blk.new _ _ _ | (refine Blk.new_at _ _ _ _ ?_; simp; done) | refine Blk.alloc ?_ _ | refine Blk.drewN ?_ _ | refine Blk.drew ?_ | apply Blk.set | refine Blk.put ?_ (by assumption) (by first | (simp; done) | (simp; omega) | omega) | refine Blk.below ?_ (by assumption)) | (refine Blk.setAt ?_ (by first | (simp; done) | (simp; omega))) | rfl))) (by kernel_rfl) rfl (by first | (with_reducible assumption) | simp [Value.oneCell']) ?_; intro w5 hp_w5 K_w5) | ((with_reducible show wpList _ _ _ _ _ _); refine wpList_loadGA (by rfl) 41 (.tmp 7) rfl (w1.heap.size) (0) 75 rfl 41 (machC U X) (machC U X) (show Blk _ (w1.heap.size) (machC U X) 41 from (by repeat' (first | (with_reducible first | exact Hid.out (by assumption) | exact Blk.new _ _ _ | (refine Blk.new_at _ _ _ _ ?_; simp; done) | refine Blk.alloc ?_ _ | refine Blk.drewN ?_ _ | refine Blk.drew ?_ | apply Blk.set | refine Blk.put ?_ (by assumption) (by first | (simp; done) | (simp; omega) | omega) | refine Blk.below ?_ (by assumption)) | (refine Blk.setAt ?_ (by first | (simp; done) | (simp; omega))) | rfl))) _ Try.underlying41 rfl (by kernel_rfl) rfl rfl ?_) | ((with_reducible show wpList _ _ _ _ _ _); refine wpList_loadGA (by rfl) 41 (.tmp 11) rfl (w4.heap.size) (0) 75 rfl 41 (machC U2 X) (machC U2 X) (show Blk _ (w4.heap.size) (machC U2 X) 41 from (by repeat' (first | (with_reducible first | exact Hid.out (by assumption) | exact Blk.new _ _ _ | (refine Blk.new_at _ _ _ _ ?_; simp; done) | refine Blk.alloc ?_ _ | refine Blk.drewN ?_ _ | refine Blk.drew ?_ | apply Blk.set | refine Blk.put ?_ (by assumption) (by first | (simp; done) | (simp; omega) | omega) | refine Blk.below ?_ (by assumption)) | (refine Blk.setAt ?_ (by first | (simp; done) | (simp; omega))) | rfl))) _ Try.underlying41 rfl (by kernel_rfl) rfl rfl ?_))
  have b45 : Below w4.heap.size w4 w5 := by repeat' (first | (with_reducible first | exact Below.refl _ _ | assumption | refine below_alloc ?_ _ | refine Below.drew ?_ | refine below_drewN ?_ _ | refine below_then ?_ (by assumption) | refine below_put ?_ (by assumption) (by first | (simp; done) | (simp; omega) | omega) | refine Below.setCell ?_ ?_ _) | (simp; done) | (simp; omega) | omega)
  refine (SA.out _ _ _ (MV4.out.below b45) (MW4.out.below b45)).mono ?_
  rintro e w6 ⟨rfl, hb6⟩
  go_wp2_with (first | ((with_reducible show wpList _ _ _ _ _ _); refine wpList_storeW rfl 41 (.tmp 11) (.tmp 35) rfl (w4.heap.size) (machC U2 X) rfl rfl 41 _ (show Blk _ (w4.heap.size) Try.zeroCells41 41 from (by repeat' (first | (with_reducible first | exact Hid.out (by assumption) | exact Blk.new _ _ _ | (refine Blk.new_at _ _ _ _ ?_; simp; done) | refine Blk.alloc ?_ _ | refine Blk.drewN ?_ _ | refine Blk.drew ?_ | apply Blk.set | refine Blk.put ?_ (by assumption) (by first | (simp; done) | (simp; omega) | omega) | refine Blk.below ?_ (by assumption)) | (refine Blk.setAt ?_ (by first | (simp; done) | (simp; omega))) | rfl))) (by kernel_rfl) rfl (by first | (with_reducible assumption) | simp [Value.oneCell']) ?_; intro w5 hp_w5 K_w5) | ((with_reducible show wpList _ _ _ _ _ _); refine wpList_loadGA (by rfl) 41 (.tmp 7) rfl (w1.heap.size) (0) 75 rfl 41 (machC U X) (machC U X) (show Blk _ (w1.heap.size) (machC U X) 41 from (by repeat' (first | (with_reducible first | exact Hid.out (by assumption) | exact Blk.new _ _ _ | (refine Blk.new_at _ _ _ _ ?_; simp; done) | refine Blk.alloc ?_ _ | refine Blk.drewN ?_ _ | refine Blk.drew ?_ | apply Blk.set | refine Blk.put ?_ (by assumption) (by first | (simp; done) | (simp; omega) | omega) | refine Blk.below ?_ (by assumption)) | (refine Blk.setAt ?_ (by first | (simp; done) | (simp; omega))) | rfl))) _ Try.underlying41 rfl (by kernel_rfl) rfl rfl ?_) | ((with_reducible show wpList _ _ _ _ _ _); refine wpList_loadGA (by rfl) 41 (.tmp 11) rfl (w4.heap.size) (0) 75 rfl 41 (machC U2 X) (machC U2 X) (show Blk _ (w4.heap.size) (machC U2 X) 41 from (by repeat' (first | (with_reducible first | exact Hid.out (by assumption) | exact Blk.new _ _ _ | (refine Blk.new_at _ _ _ _ ?_; simp; done) | refine Blk.alloc ?_ _ | refine Blk.drewN ?_ _ | refine Blk.drew ?_ | apply Blk.set | refine Blk.put ?_ (by assumption) (by first | (simp; done) | (simp; omega) | omega) | refine Blk.below ?_ (by assumption)) | (refine Blk.setAt ?_ (by first | (simp; done) | (simp; omega))) | rfl))) _ Try.underlying41 rfl (by kernel_rfl) rfl rfl ?_) | go_in)
  go_ret
  exact ⟨rfl, by repeat' (first | (with_reducible first | exact Below.refl _ _ | assumption | refine below_alloc ?_ _ | refine Below.drew ?_ | refine below_drewN ?_ _ | refine below_then ?_ (by assumption) | refine below_put ?_ (by assumption) (by first | (simp; done) | (simp; omega) | omega) | refine Below.setCell ?_ ?_ _) | (simp; done) | (simp; omega) | omega)⟩
theorem walk (V : Nat → Value) (m : Mach) (a n : Int) (w : World) (hm : MV w V m) (hi : m.In) (ha : U16 a) (hn : U8 n) :
    Calls Try.prog 6 #[.agg (machC V m), .int .u16 a, .int .u8 n] w fun e w' => e = .returned (.bool true) ∧ Below w.heap.size w w' := by
  by_cases h : m.Right
  · exact good V m a n ha hn w hm hi h
  · exact bad V m a n w hm h
end Go.Proofs.Ytimccpmdgfneoaa.busBack
