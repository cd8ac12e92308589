/- BusReads: any place of any machine is read, and written, by either processor, as the document says: the law answers true. Conditions: none. -/
import Derived.Test.YtimccpmdgfneoaaGxTwo
import Derived.Test.YtimccpmdgfneoaaRefChk
namespace Go.Proofs.Ytimccpmdgfneoaa.busReads
open Go.RowKit Go.Mq
set_option linter.unusedVariables false
set_option linter.unusedSimpArgs false
set_option maxHeartbeats 4000000
set_option maxRecDepth 100000
theorem fresh_mv {w w' : World} {U : Nat → Value} {m : Mach} (h : Fresh w w' U m) (hi : ∀ i, Bytes8 (m.mem i)) : MV w' U m := fun i hx => own_slice (h.own i hx) (byte_wf8 (hi i))
theorem bad (V : Nat → Value) (m : Mach) (aux : Bool) (a n : Int) (w : World) (hm : MV w V m) (hi : m.In) (ha : U16 a) (hn : U8 n) (h : ¬ m.Right) (hl : ∀ i, i < 5 → (m.mem i).length ≤ 140737488355327) : Calls Try.prog 4 #[.agg (machC V m), .bool aux, .int .u16 a, .int .u8 n] w fun e w' => e = .returned (.bool true) ∧ Below w.heap.size w w' := by
  have OW := Lib.hid (fun (W : World) (k : Below w.heap.size w W) => ownm_any V m W (hm.below k) hl)
  have RB := Lib.hid (fun (W : World) (U : Nat → Value) (k : MV W U m) => read_bad U m aux a W k h)
  have WB := Lib.hid (fun (W : World) (U : Nat → Value) (k : MV W U m) => write_bad U m aux a n W k h)
  have RC := Lib.hid (fun (W : World) (k : Below w.heap.size w W) => refcheck_any V m W (hm.below k))
  have SA := Lib.hid (fun (W : World) (U1 U2 : Nat → Value) (k1 : MV W U1 m) (k2 : MV W U2 m) => same_any U1 U2 m W k1 k2)
  have hc : chk m ≠ 0 := fun e => h ((chk_zero m).1 e)
  obtain ⟨c, ec⟩ : ∃ c, c = chk m := ⟨_, rfl⟩
  rw [← ec] at RB WB RC hc
  have hcb : (c != 0) = true := by rw [bne_iff_ne]; exact hc
  have ON := Lib.hid (machC_one m (fun i hi => hm.one i hi))
  have ONZ := zeroM_one
  have BY := Lib.hid hi.mem
  have HM := Lib.hid hm
  clear hm h ec hc hi hl
  go_enter Try.func4, Try.ntmps4
  go_wp2_with (first | ((with_reducible show wpList _ _ _ _ _ _); refine wpList_loadW rfl 41 (.tmp 4) rfl (w.heap.size) rfl 41 (machC V m) (show Blk _ (w.heap.size) (machC V m) 41 from (by repeat' (with_reducible first | exact Hid.out (by assumption) | exact Blk.new _ _ _ | (refine Blk.new_at _ _ _ _ ?_; simp; done) | refine Blk.alloc ?_ _ | refine Blk.drewN ?_ _ | refine Blk.drew ?_ | refine Blk.put ?_ (by assumption) (by first | (simp <;> omega) | omega) | refine Blk.below ?_ (by assumption)))) _ Try.underlying41 rfl (by kernel_rfl) ?_))
  refine (OW.out _ (by repeat' (first | (with_reducible first | exact Below.refl _ _ | assumption | refine below_alloc ?_ _ | refine Below.drew ?_ | refine below_drewN ?_ _ | refine below_then ?_ (by assumption) | refine below_put ?_ (by assumption) (by first | (simp; done) | (simp; omega) | omega) | refine Below.setCell ?_ ?_ _) | (simp; done) | (simp; omega) | omega))).mono ?_
  rintro e w1 ⟨U, rfl, FR⟩
  have MV1 := Lib.hid (fresh_mv FR BY.out)
  have hb1 := FR.below
  have ON1 := machC_one (V := U) m (fun i hi => MV1.out.one i hi)
  have s1 : w.heap.size + 1 ≤ w1.heap.size := by have := hb1.size; simpa using this
  have KM1 := Lib.hid ((Blk.new w (machC V m) 41).below hb1)
  have B1 : Below w.heap.size w w1 := by repeat' (first | (with_reducible first | exact Below.refl _ _ | assumption | refine below_alloc ?_ _ | refine Below.drew ?_ | refine below_drewN ?_ _ | refine below_then ?_ (by assumption) | refine below_put ?_ (by assumption) (by first | (simp; done) | (simp; omega) | omega) | refine Below.setCell ?_ ?_ _) | (simp; done) | (simp; omega) | omega)
  clear hb1 FR OW
  go_wp2_with (first | ((with_reducible show wpList _ _ _ _ _ _); refine wpList_storeW rfl 41 (.tmp 9) (.tmp 23) rfl (w1.heap.size) (machC U m) rfl rfl 41 _ (show Blk _ (w1.heap.size) Try.zeroCells41 41 from (by repeat' (with_reducible first | exact Hid.out (by assumption) | exact Blk.new _ _ _ | (refine Blk.new_at _ _ _ _ ?_; simp; done) | refine Blk.alloc ?_ _ | refine Blk.drewN ?_ _ | refine Blk.drew ?_ | refine Blk.put ?_ (by assumption) (by first | (simp <;> omega) | omega) | refine Blk.below ?_ (by assumption)))) (by kernel_rfl) rfl (by first | (with_reducible assumption) | simp [Value.oneCell']) ?_; intro w2 hp_w2 K_w2) | ((with_reducible show wpList _ _ _ _ _ _); refine wpList_loadW rfl 41 (.tmp 9) rfl (w1.heap.size) rfl 41 (machC U m) (show Blk _ (w1.heap.size) (machC U m) 41 from (by repeat' (with_reducible first | exact Hid.out (by assumption) | exact Blk.new _ _ _ | (refine Blk.new_at _ _ _ _ ?_; simp; done) | refine Blk.alloc ?_ _ | refine Blk.drewN ?_ _ | refine Blk.drew ?_ | refine Blk.put ?_ (by assumption) (by first | (simp <;> omega) | omega) | refine Blk.below ?_ (by assumption)))) _ Try.underlying41 rfl (by kernel_rfl) ?_))
  have sz2 : w1.heap.size + 1 ≤ w2.heap.size := by have := hp_w2.size; simp at this; omega
  have b12 : Below w1.heap.size w1 w2 := by repeat' (first | (with_reducible first | exact Below.refl _ _ | assumption | refine below_alloc ?_ _ | refine Below.drew ?_ | refine below_drewN ?_ _ | refine below_then ?_ (by assumption) | refine below_put ?_ (by assumption) (by first | (simp; done) | (simp; omega) | omega) | refine Below.setCell ?_ ?_ _) | (simp; done) | (simp; omega) | omega)
  have B2 : Below w.heap.size w w2 := B1.trans (b12.mono (by omega))
  have KM2 := Lib.hid (KM1.out.below b12)
  have MV2 := Lib.hid (MV1.out.below b12)
  have KO2 := Lib.hid K_w2.out
  clear KM1 K_w2 hp_w2 b12 B1 MV1
  refine (RB.out _ U MV2.out).mono ?_
  rintro e w3 ⟨rfl, hb3⟩
  have B3 := below_then B2 hb3
  have s3 := hb3.size
  have KM3 := Lib.hid (KM2.out.below hb3)
  have MV3 := Lib.hid (MV2.out.below hb3)
  have KO3 := Lib.hid (KO2.out.below hb3)
  clear hb3 KM2 MV2 KO2 B2
  go_wp2_with (first | ((with_reducible show wpList _ _ _ _ _ _); refine wpList_storeW rfl 41 (.tmp 11) (.tmp 30) rfl (w3.heap.size) Try.zeroCells41 rfl rfl 41 _ (show Blk _ (w3.heap.size) Try.zeroCells41 41 from (by repeat' (with_reducible first | exact Hid.out (by assumption) | exact Blk.new _ _ _ | (refine Blk.new_at _ _ _ _ ?_; simp; done) | refine Blk.alloc ?_ _ | refine Blk.drewN ?_ _ | refine Blk.drew ?_ | refine Blk.put ?_ (by assumption) (by first | (simp <;> omega) | omega) | refine Blk.below ?_ (by assumption)))) (by kernel_rfl) rfl (by first | (with_reducible assumption) | simp [Value.oneCell']) ?_; intro w4 hp_w4 K_w4) | ((with_reducible show wpList _ _ _ _ _ _); refine wpList_loadW rfl 41 (.tmp 9) rfl (w1.heap.size) rfl 41 (machC U m) (show Blk _ (w1.heap.size) (machC U m) 41 from (by repeat' (with_reducible first | exact Hid.out (by assumption) | exact Blk.new _ _ _ | (refine Blk.new_at _ _ _ _ ?_; simp; done) | refine Blk.alloc ?_ _ | refine Blk.drewN ?_ _ | refine Blk.drew ?_ | refine Blk.put ?_ (by assumption) (by first | (simp <;> omega) | omega) | refine Blk.below ?_ (by assumption)))) _ Try.underlying41 rfl (by kernel_rfl) ?_))
  have sz4 : w3.heap.size + 1 ≤ w4.heap.size := by have := hp_w4.size; simp at this; omega
  have b34 : Below w3.heap.size w3 w4 := by repeat' (first | (with_reducible first | exact Below.refl _ _ | assumption | refine below_alloc ?_ _ | refine Below.drew ?_ | refine below_drewN ?_ _ | refine below_then ?_ (by assumption) | refine below_put ?_ (by assumption) (by first | (simp; done) | (simp; omega) | omega) | refine Below.setCell ?_ ?_ _) | (simp; done) | (simp; omega) | omega)
  have B4 : Below w.heap.size w w4 := B3.trans (b34.mono (by omega))
  have KM4 := Lib.hid (KM3.out.below b34)
  have MV4 := Lib.hid (MV3.out.below b34)
  have KO4 := Lib.hid (KO3.out.below b34)
  have KX4 := Lib.hid K_w4.out
  clear KM3 K_w4 hp_w4 b34 B3 MV3 KO3
  refine (WB.out _ U MV4.out).mono ?_
  rintro e w5 ⟨rfl, hb5⟩
  have B5 := below_then B4 hb5
  have s5 := hb5.size
  have KM5 := Lib.hid (KM4.out.below hb5)
  have MV5 := Lib.hid (MV4.out.below hb5)
  have KO5 := Lib.hid (KO4.out.below hb5)
  have KX5 := Lib.hid (KX4.out.below hb5)
  clear hb5 KM4 MV4 KO4 KX4 B4
  go_wp2_with (first | ((with_reducible show wpList _ _ _ _ _ _); refine wpList_storeW rfl 41 (.tmp 13) (.tmp 38) rfl (w5.heap.size) Try.zeroCells41 rfl rfl 41 _ (show Blk _ (w5.heap.size) Try.zeroCells41 41 from (by repeat' (with_reducible first | exact Hid.out (by assumption) | exact Blk.new _ _ _ | (refine Blk.new_at _ _ _ _ ?_; simp; done) | refine Blk.alloc ?_ _ | refine Blk.drewN ?_ _ | refine Blk.drew ?_ | refine Blk.put ?_ (by assumption) (by first | (simp <;> omega) | omega) | refine Blk.below ?_ (by assumption)))) (by kernel_rfl) rfl (by first | (with_reducible assumption) | simp [Value.oneCell']) ?_; intro w6 hp_w6 K_w6))
  have sz6 : w5.heap.size + 1 ≤ w6.heap.size := by have := hp_w6.size; simp at this; omega
  have b56 : Below w5.heap.size w5 w6 := by repeat' (first | (with_reducible first | exact Below.refl _ _ | assumption | refine below_alloc ?_ _ | refine Below.drew ?_ | refine below_drewN ?_ _ | refine below_then ?_ (by assumption) | refine below_put ?_ (by assumption) (by first | (simp; done) | (simp; omega) | omega) | refine Below.setCell ?_ ?_ _) | (simp; done) | (simp; omega) | omega)
  have B6 : Below w.heap.size w w6 := B5.trans (b56.mono (by omega))
  have KM6 := Lib.hid (KM5.out.below b56)
  have MV6 := Lib.hid (MV5.out.below b56)
  have KO6 := Lib.hid (KO5.out.below b56)
  have KX6 := Lib.hid (KX5.out.below b56)
  have KY6 := Lib.hid K_w6.out
  clear KM5 K_w6 hp_w6 b56 B5 MV5 KO5 KX5
  refine (bussed_any _).mono ?_
  rintro e w7 ⟨rfl, hb7⟩
  have B7 := below_then B6 hb7
  have s7 := hb7.size
  have KM7 := Lib.hid (KM6.out.below hb7)
  have MV7 := Lib.hid (MV6.out.below hb7)
  have KO7 := Lib.hid (KO6.out.below hb7)
  have KX7 := Lib.hid (KX6.out.below hb7)
  have KY7 := Lib.hid (KY6.out.below hb7)
  clear hb7 KM6 MV6 KO6 KX6 KY6 B6
  go_wp2_with (first | ((with_reducible show wpList _ _ _ _ _ _); refine wpList_loadGA (by rfl) 41 (.tmp 9) rfl (w1.heap.size) (0) 75 rfl 41 (machC U m) (machC U m) (show Blk _ (w1.heap.size) (machC U m) 41 from (by repeat' (with_reducible first | exact Hid.out (by assumption) | exact Blk.new _ _ _ | (refine Blk.new_at _ _ _ _ ?_; simp; done) | refine Blk.alloc ?_ _ | refine Blk.drewN ?_ _ | refine Blk.drew ?_ | refine Blk.put ?_ (by assumption) (by first | (simp <;> omega) | omega) | refine Blk.below ?_ (by assumption)))) _ Try.underlying41 rfl (by kernel_rfl) rfl rfl ?_) | ((with_reducible show wpList _ _ _ _ _ _); refine wpList_loadGA (by rfl) 41 (.tmp 4) rfl (w.heap.size) (0) 75 rfl 41 (machC V m) (machC V m) (show Blk _ (w.heap.size) (machC V m) 41 from (by repeat' (with_reducible first | exact Hid.out (by assumption) | exact Blk.new _ _ _ | (refine Blk.new_at _ _ _ _ ?_; simp; done) | refine Blk.alloc ?_ _ | refine Blk.drewN ?_ _ | refine Blk.drew ?_ | refine Blk.put ?_ (by assumption) (by first | (simp <;> omega) | omega) | refine Blk.below ?_ (by assumption)))) _ Try.underlying41 rfl (by kernel_rfl) rfl rfl ?_) | ((with_reducible show wpList _ _ _ _ _ _); refine wpList_loadW rfl 41 (.tmp 4) rfl (w.heap.size) rfl 41 (machC V m) (show Blk _ (w.heap.size) (machC V m) 41 from (by repeat' (with_reducible first | exact Hid.out (by assumption) | exact Blk.new _ _ _ | (refine Blk.new_at _ _ _ _ ?_; simp; done) | refine Blk.alloc ?_ _ | refine Blk.drewN ?_ _ | refine Blk.drew ?_ | refine Blk.put ?_ (by assumption) (by first | (simp <;> omega) | omega) | refine Blk.below ?_ (by assumption)))) _ Try.underlying41 rfl (by kernel_rfl) ?_))
  refine (SA.out _ U V MV7.out (HM.out.below B7)).mono ?_
  rintro e w8 ⟨rfl, hb8⟩
  have B8 := below_then B7 hb8
  have KM8 := Lib.hid (KM7.out.below hb8)
  have KX8 := Lib.hid (KX7.out.below hb8)
  have KY8 := Lib.hid (KY7.out.below hb8)
  clear hb8 KM7 MV7 KO7 KX7 KY7 B7
  go_wp2_with (first | ((with_reducible show wpList _ _ _ _ _ _); refine wpList_loadGA (by rfl) 41 (.tmp 9) rfl (w1.heap.size) (0) 75 rfl 41 (machC U m) (machC U m) (show Blk _ (w1.heap.size) (machC U m) 41 from (by repeat' (with_reducible first | exact Hid.out (by assumption) | exact Blk.new _ _ _ | (refine Blk.new_at _ _ _ _ ?_; simp; done) | refine Blk.alloc ?_ _ | refine Blk.drewN ?_ _ | refine Blk.drew ?_ | refine Blk.put ?_ (by assumption) (by first | (simp <;> omega) | omega) | refine Blk.below ?_ (by assumption)))) _ Try.underlying41 rfl (by kernel_rfl) rfl rfl ?_) | ((with_reducible show wpList _ _ _ _ _ _); refine wpList_loadGA (by rfl) 41 (.tmp 4) rfl (w.heap.size) (0) 75 rfl 41 (machC V m) (machC V m) (show Blk _ (w.heap.size) (machC V m) 41 from (by repeat' (with_reducible first | exact Hid.out (by assumption) | exact Blk.new _ _ _ | (refine Blk.new_at _ _ _ _ ?_; simp; done) | refine Blk.alloc ?_ _ | refine Blk.drewN ?_ _ | refine Blk.drew ?_ | refine Blk.put ?_ (by assumption) (by first | (simp <;> omega) | omega) | refine Blk.below ?_ (by assumption)))) _ Try.underlying41 rfl (by kernel_rfl) rfl rfl ?_) | ((with_reducible show wpList _ _ _ _ _ _); refine wpList_loadW rfl 41 (.tmp 4) rfl (w.heap.size) rfl 41 (machC V m) (show Blk _ (w.heap.size) (machC V m) 41 from (by repeat' (with_reducible first | exact Hid.out (by assumption) | exact Blk.new _ _ _ | (refine Blk.new_at _ _ _ _ ?_; simp; done) | refine Blk.alloc ?_ _ | refine Blk.drewN ?_ _ | refine Blk.drew ?_ | refine Blk.put ?_ (by assumption) (by first | (simp <;> omega) | omega) | refine Blk.below ?_ (by assumption)))) _ Try.underlying41 rfl (by kernel_rfl) ?_))
  refine (RC.out _ B8).mono ?_
  rintro e w9 ⟨rfl, hb9⟩
  have B9 := below_then B8 hb9
  have KX9 := Lib.hid (KX8.out.below hb9)
  have KY9 := Lib.hid (KY8.out.below hb9)
  clear hb9 KM8 KX8 KY8 B8
  go_wp2_with (first | ((with_reducible show wpList _ _ _ _ _ _); refine wpList_loadGA (by rfl) 41 (.tmp 11) rfl (w3.heap.size) (0) 75 rfl 41 Try.zeroCells41 Try.zeroCells41 (show Blk _ (w3.heap.size) Try.zeroCells41 41 from (by repeat' (with_reducible first | exact Hid.out (by assumption) | exact Blk.new _ _ _ | (refine Blk.new_at _ _ _ _ ?_; simp; done) | refine Blk.alloc ?_ _ | refine Blk.drewN ?_ _ | refine Blk.drew ?_ | refine Blk.put ?_ (by assumption) (by first | (simp <;> omega) | omega) | refine Blk.below ?_ (by assumption)))) _ Try.underlying41 rfl (by kernel_rfl) rfl rfl ?_) | ((with_reducible show wpList _ _ _ _ _ _); refine wpList_loadGA (by rfl) 41 (.tmp 13) rfl (w5.heap.size) (0) 75 rfl 41 Try.zeroCells41 Try.zeroCells41 (show Blk _ (w5.heap.size) Try.zeroCells41 41 from (by repeat' (with_reducible first | exact Hid.out (by assumption) | exact Blk.new _ _ _ | (refine Blk.new_at _ _ _ _ ?_; simp; done) | refine Blk.alloc ?_ _ | refine Blk.drewN ?_ _ | refine Blk.drew ?_ | refine Blk.put ?_ (by assumption) (by first | (simp <;> omega) | omega) | refine Blk.below ?_ (by assumption)))) _ Try.underlying41 rfl (by kernel_rfl) rfl rfl ?_))
  refine (nomach_any _).mono ?_
  rintro e w10 ⟨rfl, hb10⟩
  have B10 := below_then B9 hb10
  have KY10 := Lib.hid (KY9.out.below hb10)
  clear hb10 KY9 KX9 B9
  go_wp2_with (first | ((with_reducible show wpList _ _ _ _ _ _); refine wpList_loadGA (by rfl) 41 (.tmp 11) rfl (w3.heap.size) (0) 75 rfl 41 Try.zeroCells41 Try.zeroCells41 (show Blk _ (w3.heap.size) Try.zeroCells41 41 from (by repeat' (with_reducible first | exact Hid.out (by assumption) | exact Blk.new _ _ _ | (refine Blk.new_at _ _ _ _ ?_; simp; done) | refine Blk.alloc ?_ _ | refine Blk.drewN ?_ _ | refine Blk.drew ?_ | refine Blk.put ?_ (by assumption) (by first | (simp <;> omega) | omega) | refine Blk.below ?_ (by assumption)))) _ Try.underlying41 rfl (by kernel_rfl) rfl rfl ?_) | ((with_reducible show wpList _ _ _ _ _ _); refine wpList_loadGA (by rfl) 41 (.tmp 13) rfl (w5.heap.size) (0) 75 rfl 41 Try.zeroCells41 Try.zeroCells41 (show Blk _ (w5.heap.size) Try.zeroCells41 41 from (by repeat' (with_reducible first | exact Hid.out (by assumption) | exact Blk.new _ _ _ | (refine Blk.new_at _ _ _ _ ?_; simp; done) | refine Blk.alloc ?_ _ | refine Blk.drewN ?_ _ | refine Blk.drew ?_ | refine Blk.put ?_ (by assumption) (by first | (simp <;> omega) | omega) | refine Blk.below ?_ (by assumption)))) _ Try.underlying41 rfl (by kernel_rfl) rfl rfl ?_))
  refine (nomach_any _).mono ?_
  rintro e w11 ⟨rfl, hb11⟩
  have B11 := below_then B10 hb11
  go_wp2_with (first | ((with_reducible show wpList _ _ _ _ _ _); refine wpList_loadGA (by rfl) 41 (.tmp 11) rfl (w3.heap.size) (0) 75 rfl 41 Try.zeroCells41 Try.zeroCells41 (show Blk _ (w3.heap.size) Try.zeroCells41 41 from (by repeat' (with_reducible first | exact Hid.out (by assumption) | exact Blk.new _ _ _ | (refine Blk.new_at _ _ _ _ ?_; simp; done) | refine Blk.alloc ?_ _ | refine Blk.drewN ?_ _ | refine Blk.drew ?_ | refine Blk.put ?_ (by assumption) (by first | (simp <;> omega) | omega) | refine Blk.below ?_ (by assumption)))) _ Try.underlying41 rfl (by kernel_rfl) rfl rfl ?_) | ((with_reducible show wpList _ _ _ _ _ _); refine wpList_loadGA (by rfl) 41 (.tmp 13) rfl (w5.heap.size) (0) 75 rfl 41 Try.zeroCells41 Try.zeroCells41 (show Blk _ (w5.heap.size) Try.zeroCells41 41 from (by repeat' (with_reducible first | exact Hid.out (by assumption) | exact Blk.new _ _ _ | (refine Blk.new_at _ _ _ _ ?_; simp; done) | refine Blk.alloc ?_ _ | refine Blk.drewN ?_ _ | refine Blk.drew ?_ | refine Blk.put ?_ (by assumption) (by first | (simp <;> omega) | omega) | refine Blk.below ?_ (by assumption)))) _ Try.underlying41 rfl (by kernel_rfl) rfl rfl ?_) | go_in)
  go_ret
  exact ⟨rfl, B11⟩
theorem boxG_new (U : Nat → Value) (m : Mach) : Array.foldl (fun cs (x : Value × Nat) => cs.setIfInBounds x.snd x.fst) Try.zeroCells59 (machC U m).zipIdx 0 75 = boxC U ⟨m, [], 0⟩ (.slice none 0 0) := by kernel_rfl
theorem read_one (aux : Bool) (V : Nat → Value) (m : Mach) (a : Int) (ha : U16 a) (w : World) (hm : MV w V m) (hi : m.In) (h : m.Right) :
    Calls Try.prog 16 #[.agg (machC V m), .bool aux, .int .u16 a] w fun e w' => ∃ U, e = .returned (.tuple #[.int .u8 (readV m aux a), .agg (machC U (readX m aux a)), .int .i64 0]) ∧ ToldM w w' U (readX m aux a) := by
  cases aux
  · exact read_main V m a ha w hm hi h
  · exact read_aux V m a ha w hm hi h
theorem write_one (aux : Bool) (V : Nat → Value) (m : Mach) (a b : Int) (ha : U16 a) (hb : U8 b) (w : World) (hm : MV w V m) (hi : m.In) (h : m.Right) :
    Calls Try.prog 17 #[.agg (machC V m), .bool aux, .int .u16 a, .int .u8 b] w fun e w' => ∃ U, e = .returned (.tuple #[.agg (machC U (writeX m aux a b).m), .int .i64 (writeX m aux a b).dl, .int .i64 0]) ∧ ToldM w w' U (writeX m aux a b).m := by
  cases aux
  · exact write_main V m a b ha hb w hm hi h
  · exact write_aux V m a b ha hb w hm hi h
def gsX (m : Mach) (aux : Bool) (a : Int) : Bx := if aux then auxGS ⟨m, [], 0⟩ a else mainGS ⟨m, [], 0⟩ a
theorem gs_f (m : Mach) (a : Int) : gsX m false a = mainGS ⟨m, [], 0⟩ a := by unfold gsX; rw [if_neg Bool.false_ne_true]
theorem gs_t (m : Mach) (a : Int) : gsX m true a = auxGS ⟨m, [], 0⟩ a := by unfold gsX; rw [if_pos rfl]
theorem rv_f (m : Mach) (a : Int) : readV m false a = mainG m a := by unfold readV; rw [if_neg Bool.false_ne_true]
theorem rv_t (m : Mach) (a : Int) : readV m true a = auxG m a := by unfold readV; rw [if_pos rfl]
theorem wx_f (m : Mach) (a n : Int) : writeX m false a n = mainP ⟨m, [], 0⟩ a n := by unfold writeX; rw [if_neg Bool.false_ne_true]
theorem wx_t (m : Mach) (a n : Int) : writeX m true a n = auxP ⟨m, [], 0⟩ a n := by unfold writeX; rw [if_pos rfl]
theorem good (V : Nat → Value) (m : Mach) (aux : Bool) (a n : Int) (w : World) (hm : MV w V m) (hi : m.In) (ha : U16 a) (hn : U8 n) (h : m.Right) :
    Calls Try.prog 4 #[.agg (machC V m), .bool aux, .int .u16 a, .int .u8 n] w fun e w' => e = .returned (.bool true) ∧ Below w.heap.size w w' := by
  have hl : ∀ i, i < 5 → (m.mem i).length ≤ 140737488355327 := fun i hx => by have := h.lens i hx; omega
  have OW := Lib.hid (fun (W : World) (k : Below w.heap.size w W) => ownm_any V m W (hm.below k) hl)
  have RD := Lib.hid (fun (W : World) (U : Nat → Value) (k : MV W U m) => read_one aux U m a ha W k hi h)
  have WR := Lib.hid (fun (W : World) (U : Nat → Value) (k : MV W U m) => write_one aux U m a n ha hn W k hi h)
  have RC := Lib.hid (fun (W : World) (k : Below w.heap.size w W) => refcheck_any V m W (hm.below k))
  rw [(chk_zero m).2 h] at RC
  have SA := Lib.hid (fun (M : Mach) (W : World) (U1 U2 : Nat → Value) (k1 : MV W U1 M) (k2 : MV W U2 M) => same_any U1 U2 M W k1 k2)
  obtain ⟨b, eb⟩ : ∃ b, b = readV m aux a := ⟨_, rfl⟩
  obtain ⟨XB, eX⟩ : ∃ X : Bx, X = gsX m aux a := ⟨_, rfl⟩
  obtain ⟨Y, eY⟩ : ∃ Y : Bx, Y = writeX m aux a n := ⟨_, rfl⟩
  have qX : readX m aux a = XB.m := by
    rw [eX]
    unfold readX gsX
    cases aux
    · rw [if_neg Bool.false_ne_true, if_neg Bool.false_ne_true]
    · rw [if_pos rfl, if_pos rfl]
  rw [← eb, qX] at RD
  rw [← eY] at WR
  have EB := Lib.hid eb
  have EX := Lib.hid eX
  have EY := Lib.hid eY
  have HA := Lib.hid (And.intro ha hn)
  have ON := Lib.hid (machC_one m (fun i hi => hm.one i hi))
  have ONZ := zeroM_one
  have BY := Lib.hid hi.mem
  have HM := Lib.hid hm
  have HF := Lib.hid (And.intro h.fit hi)
  have BN := Lib.hid boxG_new
  clear hm h hi hl eb eX eY qX ha hn
  go_enter Try.func4, Try.ntmps4
  go_wp2_with (first | ((with_reducible show wpList _ _ _ _ _ _); refine wpList_loadW rfl 41 (.tmp 4) rfl (w.heap.size) rfl 41 (machC V m) (show Blk _ (w.heap.size) (machC V m) 41 from (by repeat' (with_reducible first | exact Hid.out (by assumption) | exact Blk.new _ _ _ | (refine Blk.new_at _ _ _ _ ?_; simp; done) | refine Blk.alloc ?_ _ | refine Blk.drewN ?_ _ | refine Blk.drew ?_ | refine Blk.put ?_ (by assumption) (by first | (simp <;> omega) | omega) | refine Blk.below ?_ (by assumption)))) _ Try.underlying41 rfl (by kernel_rfl) ?_))
  refine (OW.out _ (by repeat' (first | (with_reducible first | exact Below.refl _ _ | assumption | refine below_alloc ?_ _ | refine Below.drew ?_ | refine below_drewN ?_ _ | refine below_then ?_ (by assumption) | refine below_put ?_ (by assumption) (by first | (simp; done) | (simp; omega) | omega) | refine Below.setCell ?_ ?_ _) | (simp; done) | (simp; omega) | omega))).mono ?_
  rintro e w1 ⟨U, rfl, FR⟩
  have MV1 := Lib.hid (fresh_mv FR BY.out)
  have hb1 := FR.below
  have ON1 := machC_one (V := U) m (fun i hi => MV1.out.one i hi)
  have s1 : w.heap.size + 1 ≤ w1.heap.size := by have := hb1.size; simpa using this
  have KM1 := Lib.hid ((Blk.new w (machC V m) 41).below hb1)
  have B1 : Below w.heap.size w w1 := by repeat' (first | (with_reducible first | exact Below.refl _ _ | assumption | refine below_alloc ?_ _ | refine Below.drew ?_ | refine below_drewN ?_ _ | refine below_then ?_ (by assumption) | refine below_put ?_ (by assumption) (by first | (simp; done) | (simp; omega) | omega) | refine Below.setCell ?_ ?_ _) | (simp; done) | (simp; omega) | omega)
  clear hb1 FR
  go_wp2_with (first | ((with_reducible show wpList _ _ _ _ _ _); refine wpList_storeW rfl 41 (.tmp 9) (.tmp 23) rfl (w1.heap.size) (machC U m) rfl rfl 41 _ (show Blk _ (w1.heap.size) Try.zeroCells41 41 from (by repeat' (with_reducible first | exact Hid.out (by assumption) | exact Blk.new _ _ _ | (refine Blk.new_at _ _ _ _ ?_; simp; done) | refine Blk.alloc ?_ _ | refine Blk.drewN ?_ _ | refine Blk.drew ?_ | refine Blk.put ?_ (by assumption) (by first | (simp <;> omega) | omega) | refine Blk.below ?_ (by assumption)))) (by kernel_rfl) rfl (by first | (with_reducible assumption) | simp [Value.oneCell']) ?_; intro w2 hp_w2 K_w2) | ((with_reducible show wpList _ _ _ _ _ _); refine wpList_loadW rfl 41 (.tmp 9) rfl (w1.heap.size) rfl 41 (machC U m) (show Blk _ (w1.heap.size) (machC U m) 41 from (by repeat' (with_reducible first | exact Hid.out (by assumption) | exact Blk.new _ _ _ | (refine Blk.new_at _ _ _ _ ?_; simp; done) | refine Blk.alloc ?_ _ | refine Blk.drewN ?_ _ | refine Blk.drew ?_ | refine Blk.put ?_ (by assumption) (by first | (simp <;> omega) | omega) | refine Blk.below ?_ (by assumption)))) _ Try.underlying41 rfl (by kernel_rfl) ?_))
  have sz2 : w1.heap.size + 1 ≤ w2.heap.size := by have := hp_w2.size; simp at this; omega
  have b12 : Below w1.heap.size w1 w2 := by repeat' (first | (with_reducible first | exact Below.refl _ _ | assumption | refine below_alloc ?_ _ | refine Below.drew ?_ | refine below_drewN ?_ _ | refine below_then ?_ (by assumption) | refine below_put ?_ (by assumption) (by first | (simp; done) | (simp; omega) | omega) | refine Below.setCell ?_ ?_ _) | (simp; done) | (simp; omega) | omega)
  have B2 : Below w.heap.size w w2 := B1.trans (b12.mono (by omega))
  have KM2 := Lib.hid (KM1.out.below b12)
  have MV2 := Lib.hid (MV1.out.below b12)
  have KO2 := Lib.hid K_w2.out
  clear KM1 K_w2 hp_w2 b12 B1 MV1
  refine (RD.out _ U MV2.out).mono ?_
  rintro e w3 ⟨Ux, rfl, TX⟩
  have hb3 := TX.below
  have ONX := told_one TX
  have MX3 := Lib.hid TX.mv
  have IX := Lib.hid TX.inn
  clear TX
  have B3 := below_then B2 hb3
  have s3 := hb3.size
  have KM3 := Lib.hid (KM2.out.below hb3)
  have MV3 := Lib.hid (MV2.out.below hb3)
  have KO3 := Lib.hid (KO2.out.below hb3)
  clear hb3 KM2 MV2 KO2 B2
  go_wp2_with (first | ((with_reducible show wpList _ _ _ _ _ _); refine wpList_storeW rfl 41 (.tmp 11) (.tmp 30) rfl (w3.heap.size) (machC Ux XB.m) rfl rfl 41 _ (show Blk _ (w3.heap.size) Try.zeroCells41 41 from (by repeat' (with_reducible first | exact Hid.out (by assumption) | exact Blk.new _ _ _ | (refine Blk.new_at _ _ _ _ ?_; simp; done) | refine Blk.alloc ?_ _ | refine Blk.drewN ?_ _ | refine Blk.drew ?_ | refine Blk.put ?_ (by assumption) (by first | (simp <;> omega) | omega) | refine Blk.below ?_ (by assumption)))) (by kernel_rfl) rfl (by first | (with_reducible assumption) | simp [Value.oneCell']) ?_; intro w4 hp_w4 K_w4) | ((with_reducible show wpList _ _ _ _ _ _); refine wpList_loadW rfl 41 (.tmp 9) rfl (w1.heap.size) rfl 41 (machC U m) (show Blk _ (w1.heap.size) (machC U m) 41 from (by repeat' (with_reducible first | exact Hid.out (by assumption) | exact Blk.new _ _ _ | (refine Blk.new_at _ _ _ _ ?_; simp; done) | refine Blk.alloc ?_ _ | refine Blk.drewN ?_ _ | refine Blk.drew ?_ | refine Blk.put ?_ (by assumption) (by first | (simp <;> omega) | omega) | refine Blk.below ?_ (by assumption)))) _ Try.underlying41 rfl (by kernel_rfl) ?_))
  have sz4 : w3.heap.size + 1 ≤ w4.heap.size := by have := hp_w4.size; simp at this; omega
  have b34 : Below w3.heap.size w3 w4 := by repeat' (first | (with_reducible first | exact Below.refl _ _ | assumption | refine below_alloc ?_ _ | refine Below.drew ?_ | refine below_drewN ?_ _ | refine below_then ?_ (by assumption) | refine below_put ?_ (by assumption) (by first | (simp; done) | (simp; omega) | omega) | refine Below.setCell ?_ ?_ _) | (simp; done) | (simp; omega) | omega)
  have B4 : Below w.heap.size w w4 := B3.trans (b34.mono (by omega))
  have KM4 := Lib.hid (KM3.out.below b34)
  have MV4 := Lib.hid (MV3.out.below b34)
  have KO4 := Lib.hid (KO3.out.below b34)
  have KX4 := Lib.hid K_w4.out
  have MX4 := Lib.hid (MX3.out.below b34)
  clear KM3 K_w4 hp_w4 b34 B3 MV3 KO3
  refine (WR.out _ U MV4.out).mono ?_
  rintro e w5 ⟨Uy, rfl, TY⟩
  have hb5 := TY.below
  have ONY := told_one TY
  have MY5 := Lib.hid TY.mv
  have IY := Lib.hid TY.inn
  clear TY
  have B5 := below_then B4 hb5
  have s5 := hb5.size
  have KM5 := Lib.hid (KM4.out.below hb5)
  have MV5 := Lib.hid (MV4.out.below hb5)
  have KO5 := Lib.hid (KO4.out.below hb5)
  have KX5 := Lib.hid (KX4.out.below hb5)
  have MX5 := Lib.hid (MX4.out.below hb5)
  clear hb5 KM4 MV4 KO4 KX4 B4
  go_wp2_with (first | ((with_reducible show wpList _ _ _ _ _ _); refine wpList_storeW rfl 41 (.tmp 13) (.tmp 38) rfl (w5.heap.size) (machC Uy Y.m) rfl rfl 41 _ (show Blk _ (w5.heap.size) Try.zeroCells41 41 from (by repeat' (with_reducible first | exact Hid.out (by assumption) | exact Blk.new _ _ _ | (refine Blk.new_at _ _ _ _ ?_; simp; done) | refine Blk.alloc ?_ _ | refine Blk.drewN ?_ _ | refine Blk.drew ?_ | refine Blk.put ?_ (by assumption) (by first | (simp <;> omega) | omega) | refine Blk.below ?_ (by assumption)))) (by kernel_rfl) rfl (by first | (with_reducible assumption) | simp [Value.oneCell']) ?_; intro w6 hp_w6 K_w6))
  have sz6 : w5.heap.size + 1 ≤ w6.heap.size := by have := hp_w6.size; simp at this; omega
  have b56 : Below w5.heap.size w5 w6 := by repeat' (first | (with_reducible first | exact Below.refl _ _ | assumption | refine below_alloc ?_ _ | refine Below.drew ?_ | refine below_drewN ?_ _ | refine below_then ?_ (by assumption) | refine below_put ?_ (by assumption) (by first | (simp; done) | (simp; omega) | omega) | refine Below.setCell ?_ ?_ _) | (simp; done) | (simp; omega) | omega)
  have B6 : Below w.heap.size w w6 := B5.trans (b56.mono (by omega))
  have KM6 := Lib.hid (KM5.out.below b56)
  have MV6 := Lib.hid (MV5.out.below b56)
  have KO6 := Lib.hid (KO5.out.below b56)
  have KX6 := Lib.hid (KX5.out.below b56)
  have KY6 := Lib.hid K_w6.out
  have MX6 := Lib.hid (MX5.out.below b56)
  have MY6 := Lib.hid (MY5.out.below b56)
  clear KM5 K_w6 hp_w6 b56 B5 MV5 KO5 KX5
  refine (bussed_any _).mono ?_
  rintro e w7 ⟨rfl, hb7⟩
  have B7 := below_then B6 hb7
  have s7 := hb7.size
  have KM7 := Lib.hid (KM6.out.below hb7)
  have MV7 := Lib.hid (MV6.out.below hb7)
  have KO7 := Lib.hid (KO6.out.below hb7)
  have KX7 := Lib.hid (KX6.out.below hb7)
  have KY7 := Lib.hid (KY6.out.below hb7)
  have MX7 := Lib.hid (MX6.out.below hb7)
  have MY7 := Lib.hid (MY6.out.below hb7)
  clear hb7 KM6 MV6 KO6 KX6 KY6 B6 MX6 MY6
  go_wp2_with (first | ((with_reducible show wpList _ _ _ _ _ _); refine wpList_loadGA (by rfl) 41 (.tmp 9) rfl (w1.heap.size) (0) 75 rfl 41 (machC U m) (machC U m) (show Blk _ (w1.heap.size) (machC U m) 41 from (by repeat' (with_reducible first | exact Hid.out (by assumption) | exact Blk.new _ _ _ | (refine Blk.new_at _ _ _ _ ?_; simp; done) | refine Blk.alloc ?_ _ | refine Blk.drewN ?_ _ | refine Blk.drew ?_ | refine Blk.put ?_ (by assumption) (by first | (simp <;> omega) | omega) | refine Blk.below ?_ (by assumption)))) _ Try.underlying41 rfl (by kernel_rfl) rfl rfl ?_) | ((with_reducible show wpList _ _ _ _ _ _); refine wpList_loadGA (by rfl) 41 (.tmp 4) rfl (w.heap.size) (0) 75 rfl 41 (machC V m) (machC V m) (show Blk _ (w.heap.size) (machC V m) 41 from (by repeat' (with_reducible first | exact Hid.out (by assumption) | exact Blk.new _ _ _ | (refine Blk.new_at _ _ _ _ ?_; simp; done) | refine Blk.alloc ?_ _ | refine Blk.drewN ?_ _ | refine Blk.drew ?_ | refine Blk.put ?_ (by assumption) (by first | (simp <;> omega) | omega) | refine Blk.below ?_ (by assumption)))) _ Try.underlying41 rfl (by kernel_rfl) rfl rfl ?_) | ((with_reducible show wpList _ _ _ _ _ _); refine wpList_loadW rfl 41 (.tmp 4) rfl (w.heap.size) rfl 41 (machC V m) (show Blk _ (w.heap.size) (machC V m) 41 from (by repeat' (with_reducible first | exact Hid.out (by assumption) | exact Blk.new _ _ _ | (refine Blk.new_at _ _ _ _ ?_; simp; done) | refine Blk.alloc ?_ _ | refine Blk.drewN ?_ _ | refine Blk.drew ?_ | refine Blk.put ?_ (by assumption) (by first | (simp <;> omega) | omega) | refine Blk.below ?_ (by assumption)))) _ Try.underlying41 rfl (by kernel_rfl) ?_))
  refine (SA.out m _ U V MV7.out (HM.out.below B7)).mono ?_
  rintro e w8 ⟨rfl, hb8⟩
  have B8 := below_then B7 hb8
  have s8 := hb8.size
  have KM8 := Lib.hid (KM7.out.below hb8)
  have KX8 := Lib.hid (KX7.out.below hb8)
  have KY8 := Lib.hid (KY7.out.below hb8)
  have MX8 := Lib.hid (MX7.out.below hb8)
  have MY8 := Lib.hid (MY7.out.below hb8)
  clear hb8 KM7 MV7 KO7 KX7 KY7 B7 MX7 MY7
  go_wp2_with (first | ((with_reducible show wpList _ _ _ _ _ _); refine wpList_loadGA (by rfl) 41 (.tmp 9) rfl (w1.heap.size) (0) 75 rfl 41 (machC U m) (machC U m) (show Blk _ (w1.heap.size) (machC U m) 41 from (by repeat' (with_reducible first | exact Hid.out (by assumption) | exact Blk.new _ _ _ | (refine Blk.new_at _ _ _ _ ?_; simp; done) | refine Blk.alloc ?_ _ | refine Blk.drewN ?_ _ | refine Blk.drew ?_ | refine Blk.put ?_ (by assumption) (by first | (simp <;> omega) | omega) | refine Blk.below ?_ (by assumption)))) _ Try.underlying41 rfl (by kernel_rfl) rfl rfl ?_) | ((with_reducible show wpList _ _ _ _ _ _); refine wpList_loadGA (by rfl) 41 (.tmp 4) rfl (w.heap.size) (0) 75 rfl 41 (machC V m) (machC V m) (show Blk _ (w.heap.size) (machC V m) 41 from (by repeat' (with_reducible first | exact Hid.out (by assumption) | exact Blk.new _ _ _ | (refine Blk.new_at _ _ _ _ ?_; simp; done) | refine Blk.alloc ?_ _ | refine Blk.drewN ?_ _ | refine Blk.drew ?_ | refine Blk.put ?_ (by assumption) (by first | (simp <;> omega) | omega) | refine Blk.below ?_ (by assumption)))) _ Try.underlying41 rfl (by kernel_rfl) rfl rfl ?_) | ((with_reducible show wpList _ _ _ _ _ _); refine wpList_loadW rfl 41 (.tmp 4) rfl (w.heap.size) rfl 41 (machC V m) (show Blk _ (w.heap.size) (machC V m) 41 from (by repeat' (with_reducible first | exact Hid.out (by assumption) | exact Blk.new _ _ _ | (refine Blk.new_at _ _ _ _ ?_; simp; done) | refine Blk.alloc ?_ _ | refine Blk.drewN ?_ _ | refine Blk.drew ?_ | refine Blk.put ?_ (by assumption) (by first | (simp <;> omega) | omega) | refine Blk.below ?_ (by assumption)))) _ Try.underlying41 rfl (by kernel_rfl) ?_))
  refine (RC.out _ B8).mono ?_
  rintro e wA ⟨rfl, hb9⟩
  have s9 := hb9.size
  have BA := Lib.hid (below_then B8 hb9)
  have KMA := Lib.hid (KM8.out.below hb9)
  have KXA := Lib.hid (KX8.out.below hb9)
  have KYA := Lib.hid (KY8.out.below hb9)
  have MXA := Lib.hid (MX8.out.below hb9)
  have MYA := Lib.hid (MY8.out.below hb9)
  clear hb9 KM8 KX8 KY8 B8 MX8 MY8 RC RD WR
  go_wp2_with fail
  have dA : wA.drew.heap.size = wA.heap.size := rfl
  have CP := Lib.hid (fun (W : World) (k : Below wA.heap.size wA W) => OW.out W (BA.out.trans (k.mono BA.out.size)))
  clear OW
  apply cut_two (fun g1 g2 U1 U2 W => Hid (Two 59 wA W m g1 g2 U1 U2))
  · intro hk
    refine wp_region_held_drew (S := fun W => Blk W w.heap.size (machC V m) 41) (by kernel_rfl) (KMA.out.drew) (fun hS => ?_)
    refine wpAnyH_take (i := 0) rfl (by kernel_rfl) (by kernel_rfl) (by kernel_rfl) (fun _ _ _ h => h) (yields_loadA (by rfl) 41 (.tmp 4) rfl (w.heap.size) 0 75 rfl 41 (machC V m) (machC V m) (fun W hSw => hSw) _ Try.underlying41 rfl (by kernel_rfl) rfl rfl) hS ?_
    try simp only [List.getElem_toArray, List.getElem_cons_succ, List.getElem_cons_zero, Act.put, List.setIfInBounds_toArray, List.set_cons_zero, List.set_cons_succ]
    refine wpAnyH_take (i := 4) rfl (by kernel_rfl) (by kernel_rfl) (by kernel_rfl) (fun _ _ _ h => h) (yields_loadA (by rfl) 41 (.tmp 4) rfl (w.heap.size) 0 75 rfl 41 (machC V m) (machC V m) (fun W hSw => hSw) _ Try.underlying41 rfl (by kernel_rfl) rfl rfl) hS ?_
    try simp only [List.getElem_toArray, List.getElem_cons_succ, List.getElem_cons_zero, Act.put, List.setIfInBounds_toArray, List.set_cons_zero, List.set_cons_succ]
    refine wpAnyH_ready (rs := [1]) (by kernel_rfl) (by simp) (AllReadyH.cons rfl (fun K hK => ?_) AllReadyH.nil)
    go_simp
    refine (CP.out _ ((Below.refl _ _).drew)).mono ?_
    rintro e y1 ⟨U1, rfl, F1⟩
    try go_wp2_with fail
    refine hK.out _ _ (hS.below F1.below) (fun hS => ?_)
    clear hK K
    try simp only [List.getElem_toArray, List.getElem_cons_succ, List.getElem_cons_zero, Act.put, List.setIfInBounds_toArray, List.set_cons_zero, List.set_cons_succ]
    refine wpAnyH_take (i := 2) (v := ?v2_p1) rfl (by kernel_rfl) (by kernel_rfl) (by kernel_rfl) (fun _ _ _ h => h) (Or.inl ⟨by rfl, ?y2_p1⟩) hS ?_
    case y2_p1 => (intro w hSw; go_simp; try with_reducible rfl)
    try simp only [List.getElem_toArray, List.getElem_cons_succ, List.getElem_cons_zero, Act.put, List.setIfInBounds_toArray, List.set_cons_zero, List.set_cons_succ]
    rw [BN.out]
    have BD : Below wA.heap.size wA y1 := (Below.refl _ _).drew.trans F1.below
    have FF1 := Lib.hid F1
    clear F1
    refine wpAnyH_ready (rs := [3, 5]) (by kernel_rfl) (by simp) (AllReadyH.cons rfl (fun K hK => ?_) (AllReadyH.cons rfl (fun K hK => ?_) AllReadyH.nil))
    · go_simp
      obtain ⟨g1, e1⟩ : ∃ g, g = y1.heap.size := ⟨_, rfl⟩
      refine hK.out _ _ (hS.alloc _) (fun hS => ?_)
      clear hK K
      try simp only [List.getElem_toArray, List.getElem_cons_succ, List.getElem_cons_zero, Act.put, List.setIfInBounds_toArray, List.set_cons_zero, List.set_cons_succ]
      try rw [← e1]
      replace e1 := Lib.hid e1
      refine wpAnyH_ready (rs := [5]) (by kernel_rfl) (by simp) (AllReadyH.cons rfl (fun K hK => ?_) AllReadyH.nil)
      go_simp
      refine (CP.out _ (BD.alloc (by have := BD.size; omega) _)).mono ?_
      rintro e y2 ⟨U2, rfl, F2⟩
      try go_wp2_with fail
      refine hK.out _ _ (hS.below F2.below) (fun hS => ?_)
      clear hK K
      try simp only [List.getElem_toArray, List.getElem_cons_succ, List.getElem_cons_zero, Act.put, List.setIfInBounds_toArray, List.set_cons_zero, List.set_cons_succ]
      refine wpAnyH_take (i := 6) (v := ?v6_p2) rfl (by kernel_rfl) (by kernel_rfl) (by kernel_rfl) (fun _ _ _ h => h) (Or.inl ⟨by rfl, ?y6_p2⟩) hS ?_
      case y6_p2 => (intro w hSw; go_simp; try with_reducible rfl)
      try simp only [List.getElem_toArray, List.getElem_cons_succ, List.getElem_cons_zero, Act.put, List.setIfInBounds_toArray, List.set_cons_zero, List.set_cons_succ]
      rw [BN.out]
      refine wpAnyH_take (i := 8) (v := ?v8_p3) rfl (by kernel_rfl) (by kernel_rfl) (by kernel_rfl) (fun _ _ _ h => h) (Or.inl ⟨by rfl, ?y8_p3⟩) hS ?_
      case y8_p3 => (intro w hSw; go_simp; try with_reducible rfl)
      try simp only [List.getElem_toArray, List.getElem_cons_succ, List.getElem_cons_zero, Act.put, List.setIfInBounds_toArray, List.set_cons_zero, List.set_cons_succ]
      refine wpAnyH_ready (rs := [7]) (by kernel_rfl) (by simp) (AllReadyH.cons rfl (fun K hK => ?_) AllReadyH.nil)
      go_simp
      obtain ⟨g2, e2⟩ : ∃ g, g = y2.heap.size := ⟨_, rfl⟩
      refine hK.out _ _ (hS.alloc _) (fun hS => ?_)
      clear hK K
      try simp only [List.getElem_toArray, List.getElem_cons_succ, List.getElem_cons_zero, Act.put, List.setIfInBounds_toArray, List.set_cons_zero, List.set_cons_succ]
      try rw [← e2]
      replace e2 := Lib.hid e2
      refine wpAnyH_take (i := 9) (v := ?v9_p4) rfl (by kernel_rfl) (by kernel_rfl) (by kernel_rfl) (fun _ _ _ h => h) (Or.inl ⟨by rfl, ?y9_p4⟩) hS ?_
      case y9_p4 => (intro w hSw; go_simp; try with_reducible rfl)
      try simp only [List.getElem_toArray, List.getElem_cons_succ, List.getElem_cons_zero, Act.put, List.setIfInBounds_toArray, List.set_cons_zero, List.set_cons_succ]
      refine wpAnyH_done (by kernel_rfl) ?_ _
      have q1 := e1.out
      have q2 := e2.out
      refine pmark9 (R := fun X => Hid (Two 59 wA X m g1 g2 U1 U2)) (F := fun X => Exit.then _ _ Exit.normal _ X) (Lib.hid (two_of y1.heap.size (y1.heap.size + 1) y2.heap.size (((BD.alloc (by have := BD.size; omega) _).trans (F2.below.mono (by have := BD.size; simp; omega))).alloc (by have := BD.size; have := F2.below.size; simp at this; omega) _) (((Blk.new_at _ _ _ _ e1.out).below F2.below).alloc _) (Blk.new_at _ _ _ _ e2.out) (fun i hi => own_base (World.ownsRow.alloc (own_below (World.ownsRow.alloc (FF1.out.own i hi) _) F2.below) _) (Nat.zero_le _)) (fun i hi => own_base (World.ownsRow.alloc (F2.own i hi) _) (Nat.zero_le _)) FF1.out.ap F2.ap (fun i g hi hg => (FF1.out.own i hi).lt g hg) (fun i g hi hg => by have := (F2.own i hi).lt g hg; simp at this; exact this) (by have := BD.size; omega) (by omega) (by have := F2.below.size; simpa using this) (by omega) (by omega) (by have := F2.below.size; simp at this; omega))) ?_
      exact hk g1 g2 U1 U2
    · go_simp
      refine (CP.out _ BD).mono ?_
      rintro e y2 ⟨U2, rfl, F2⟩
      try go_wp2_with fail
      refine hK.out _ _ (hS.below F2.below) (fun hS => ?_)
      clear hK K
      try simp only [List.getElem_toArray, List.getElem_cons_succ, List.getElem_cons_zero, Act.put, List.setIfInBounds_toArray, List.set_cons_zero, List.set_cons_succ]
      refine wpAnyH_take (i := 6) (v := ?v6_p5) rfl (by kernel_rfl) (by kernel_rfl) (by kernel_rfl) (fun _ _ _ h => h) (Or.inl ⟨by rfl, ?y6_p5⟩) hS ?_
      case y6_p5 => (intro w hSw; go_simp; try with_reducible rfl)
      try simp only [List.getElem_toArray, List.getElem_cons_succ, List.getElem_cons_zero, Act.put, List.setIfInBounds_toArray, List.set_cons_zero, List.set_cons_succ]
      rw [BN.out]
      have sz2 := F2.below.size
      have szA := BD.size
      refine wpAnyH_ready (rs := [3, 7]) (by kernel_rfl) (by simp) (AllReadyH.cons rfl (fun K hK => ?_) (AllReadyH.cons rfl (fun K hK => ?_) AllReadyH.nil))
      · go_simp
        obtain ⟨g1, e1⟩ : ∃ g, g = y2.heap.size := ⟨_, rfl⟩
        refine hK.out _ _ (hS.alloc _) (fun hS => ?_)
        clear hK K
        try simp only [List.getElem_toArray, List.getElem_cons_succ, List.getElem_cons_zero, Act.put, List.setIfInBounds_toArray, List.set_cons_zero, List.set_cons_succ]
        try rw [← e1]
        replace e1 := Lib.hid e1
        refine wpAnyH_take (i := 8) (v := ?v8_p6) rfl (by kernel_rfl) (by kernel_rfl) (by kernel_rfl) (fun _ _ _ h => h) (Or.inl ⟨by rfl, ?y8_p6⟩) hS ?_
        case y8_p6 => (intro w hSw; go_simp; try with_reducible rfl)
        try simp only [List.getElem_toArray, List.getElem_cons_succ, List.getElem_cons_zero, Act.put, List.setIfInBounds_toArray, List.set_cons_zero, List.set_cons_succ]
        refine wpAnyH_ready (rs := [7]) (by kernel_rfl) (by simp) (AllReadyH.cons rfl (fun K hK => ?_) AllReadyH.nil)
        go_simp
        obtain ⟨g2, e2⟩ : ∃ g, g = y2.heap.size + 1 := ⟨_, rfl⟩
        refine hK.out _ _ (hS.alloc _) (fun hS => ?_)
        clear hK K
        try simp only [List.getElem_toArray, List.getElem_cons_succ, List.getElem_cons_zero, Act.put, List.setIfInBounds_toArray, List.set_cons_zero, List.set_cons_succ]
        try rw [← e2]
        replace e2 := Lib.hid e2
        refine wpAnyH_take (i := 9) (v := ?v9_p7) rfl (by kernel_rfl) (by kernel_rfl) (by kernel_rfl) (fun _ _ _ h => h) (Or.inl ⟨by rfl, ?y9_p7⟩) hS ?_
        case y9_p7 => (intro w hSw; go_simp; try with_reducible rfl)
        try simp only [List.getElem_toArray, List.getElem_cons_succ, List.getElem_cons_zero, Act.put, List.setIfInBounds_toArray, List.set_cons_zero, List.set_cons_succ]
        refine wpAnyH_done (by kernel_rfl) ?_ _
        have q1 := e1.out
        have q2 := e2.out
        refine pmark9 (R := fun X => Hid (Two 59 wA X m g1 g2 U1 U2)) (F := fun X => Exit.then _ _ Exit.normal _ X) (Lib.hid (two_of y1.heap.size y1.heap.size y2.heap.size (((BD.trans (F2.below.mono szA)).alloc (by omega) _).alloc (by simp; omega) _) ((Blk.new_at _ _ _ _ e1.out).alloc _) (Blk.new_at _ _ _ _ (by simp; omega)) (fun i hi => own_base (World.ownsRow.alloc (World.ownsRow.alloc (own_below (FF1.out.own i hi) F2.below) _) _) (Nat.zero_le _)) (fun i hi => own_base (World.ownsRow.alloc (World.ownsRow.alloc (F2.own i hi) _) _) (Nat.zero_le _)) FF1.out.ap F2.ap (fun i g hi hg => (FF1.out.own i hi).lt g hg) (fun i g hi hg => (F2.own i hi).lt g hg) szA (Nat.le_refl _) sz2 (by omega) (by omega) (by omega))) ?_
        exact hk g1 g2 U1 U2
      · go_simp
        obtain ⟨g2, e2⟩ : ∃ g, g = y2.heap.size := ⟨_, rfl⟩
        refine hK.out _ _ (hS.alloc _) (fun hS => ?_)
        clear hK K
        try simp only [List.getElem_toArray, List.getElem_cons_succ, List.getElem_cons_zero, Act.put, List.setIfInBounds_toArray, List.set_cons_zero, List.set_cons_succ]
        try rw [← e2]
        replace e2 := Lib.hid e2
        refine wpAnyH_ready (rs := [3]) (by kernel_rfl) (by simp) (AllReadyH.cons rfl (fun K hK => ?_) AllReadyH.nil)
        go_simp
        obtain ⟨g1, e1⟩ : ∃ g, g = y2.heap.size + 1 := ⟨_, rfl⟩
        refine hK.out _ _ (hS.alloc _) (fun hS => ?_)
        clear hK K
        try simp only [List.getElem_toArray, List.getElem_cons_succ, List.getElem_cons_zero, Act.put, List.setIfInBounds_toArray, List.set_cons_zero, List.set_cons_succ]
        try rw [← e1]
        replace e1 := Lib.hid e1
        refine wpAnyH_take (i := 8) (v := ?v8_p8) rfl (by kernel_rfl) (by kernel_rfl) (by kernel_rfl) (fun _ _ _ h => h) (Or.inl ⟨by rfl, ?y8_p8⟩) hS ?_
        case y8_p8 => (intro w hSw; go_simp; try with_reducible rfl)
        try simp only [List.getElem_toArray, List.getElem_cons_succ, List.getElem_cons_zero, Act.put, List.setIfInBounds_toArray, List.set_cons_zero, List.set_cons_succ]
        refine wpAnyH_take (i := 9) (v := ?v9_p9) rfl (by kernel_rfl) (by kernel_rfl) (by kernel_rfl) (fun _ _ _ h => h) (Or.inl ⟨by rfl, ?y9_p9⟩) hS ?_
        case y9_p9 => (intro w hSw; go_simp; try with_reducible rfl)
        try simp only [List.getElem_toArray, List.getElem_cons_succ, List.getElem_cons_zero, Act.put, List.setIfInBounds_toArray, List.set_cons_zero, List.set_cons_succ]
        refine wpAnyH_done (by kernel_rfl) ?_ _
        have q1 := e1.out
        have q2 := e2.out
        refine pmark9 (R := fun X => Hid (Two 59 wA X m g1 g2 U1 U2)) (F := fun X => Exit.then _ _ Exit.normal _ X) (Lib.hid (two_of y1.heap.size y1.heap.size y2.heap.size (((BD.trans (F2.below.mono szA)).alloc (by omega) _).alloc (by simp; omega) _) (Blk.new_at _ _ _ _ (by simp; omega)) ((Blk.new_at _ _ _ _ e2.out).alloc _) (fun i hi => own_base (World.ownsRow.alloc (World.ownsRow.alloc (own_below (FF1.out.own i hi) F2.below) _) _) (Nat.zero_le _)) (fun i hi => own_base (World.ownsRow.alloc (World.ownsRow.alloc (F2.own i hi) _) _) (Nat.zero_le _)) FF1.out.ap F2.ap (fun i g hi hg => (FF1.out.own i hi).lt g hg) (fun i g hi hg => (F2.own i hi).lt g hg) szA (Nat.le_refl _) sz2 (by omega) (by omega) (by omega))) ?_
        exact hk g1 g2 U1 U2
  · intro g1 g2 U1 U2 W9 TW
    have BW := Lib.hid TW.out.below
    have sW := BW.out.size
    have L1 := Lib.hid TW.out.l1
    have L2 := Lib.hid TW.out.l2
    have lg1 := L1.out.hi
    have lg2 := L2.out.hi
    clear CP BN KMA
    go_wp2_with fail
    refine (mkgmain_any g1 _).mono ?_
    rintro e x1 ⟨rfl, hx1, hz1, C1⟩
    have CC1 := Lib.hid C1
    have BX1 := Lib.hid hx1
    have HZ1 := Lib.hid hz1
    clear hx1 C1 hz1
    go_wp2_with fail
    refine (mkgmain_any g2 _).mono ?_
    rintro e x2 ⟨rfl, hx2, hz2, C2⟩
    have CC2 := Lib.hid C2
    have B02 := Lib.hid (below_then BX1.out hx2)
    have CD1 := Lib.hid (CC1.out.lower hx2)
    have HZ2 := Lib.hid hz2
    clear hx2 C2 CC1 BX1 hz2
    have z1 := Nat.le_of_eq HZ1.out.symm
    have z2 := Nat.le_of_eq HZ2.out.symm
    have z3 := Nat.le_of_eq HZ1.out
    have z4 := Nat.le_of_eq HZ2.out
    cases aux
    · have GG := Lib.hid (fun (w0 : World) (V : Nat → Value) (bb gc mc B H : Nat) (L : LiesX V bb B H) (W : World) (r : RelX 59 w0 V bb H W ⟨m, [], 0⟩) => @gget_any w0 V bb gc mc B H L W ⟨m, [], 0⟩ a HA.out.1 r)
      have GP := Lib.hid (fun (w0 : World) (V : Nat → Value) (bb gc mc hc lc B H : Nat) (L : LiesX V bb B H) (W : World) (r : RelX 59 w0 V bb H W ⟨m, [], 0⟩) => @gmput_any w0 V bb gc mc hc lc B H L W ⟨m, [], 0⟩ a n HA.out.1 HA.out.2 r)
      rw [← gs_f m a, ← EX.out] at GG
      rw [show mainG (⟨m, [], 0⟩ : Bx).m a = b from (rv_f m a).symm.trans EB.out.symm] at GG
      rw [← wx_f m a n, ← EY.out] at GP
      clear EB EX EY HA
      go_wp2_with (first | ((with_reducible show wpList _ _ _ _ _ _); refine wpList_storeW rfl 63 (.tmp 19) (.tmp 86) rfl (x2.heap.size) (#[.func (.func 31) #[] #[.pointer (some ⟨W9.heap.size, 0, none⟩), .pointer (some ⟨W9.heap.size + 2, 0, none⟩)], .func (.func 38) #[] #[.pointer (some ⟨W9.heap.size + 2, 0, none⟩), .pointer (some ⟨W9.heap.size + 3, 0, none⟩), .pointer (some ⟨W9.heap.size + 4, 0, none⟩), .pointer (some ⟨W9.heap.size, 0, none⟩)]]) rfl rfl 63 _ (show Blk _ (x2.heap.size) #[.nilFunc, .nilFunc] 63 from (by repeat' (with_reducible first | exact Hid.out (by assumption) | exact Blk.new _ _ _ | (refine Blk.new_at _ _ _ _ ?_; simp; done) | refine Blk.alloc ?_ _ | refine Blk.drewN ?_ _ | refine Blk.drew ?_ | refine Blk.put ?_ (by assumption) (by first | (simp <;> omega) | omega) | refine Blk.below ?_ (by assumption)))) (by kernel_rfl) rfl (by first | (with_reducible assumption) | simp [Value.oneCell']) ?_; intro x3 hp_x3 K_x3) | (((with_reducible show wpList _ _ _ _ _ _); refine wpList_storeW rfl 63 (.tmp 20) (.tmp 88) rfl (x2.heap.size + 1) (#[.func (.func 31) #[] #[.pointer (some ⟨x1.heap.size, 0, none⟩), .pointer (some ⟨x1.heap.size + 2, 0, none⟩)], .func (.func 38) #[] #[.pointer (some ⟨x1.heap.size + 2, 0, none⟩), .pointer (some ⟨x1.heap.size + 3, 0, none⟩), .pointer (some ⟨x1.heap.size + 4, 0, none⟩), .pointer (some ⟨x1.heap.size, 0, none⟩)]]) rfl rfl 63 _ (show Blk _ (x2.heap.size + 1) #[.nilFunc, .nilFunc] 63 from (by repeat' (with_reducible first | exact Hid.out (by assumption) | exact Blk.new _ _ _ | (refine Blk.new_at _ _ _ _ ?_; simp; done) | refine Blk.alloc ?_ _ | refine Blk.drewN ?_ _ | refine Blk.drew ?_ | refine Blk.put ?_ (by assumption) (by first | (simp <;> omega) | omega) | refine Blk.below ?_ (by assumption)))) (by kernel_rfl) rfl (by first | (with_reducible assumption) | simp [Value.oneCell']) ?_; intro x4 hp_x4 K_x4); have T1 := Lib.hid (show Blk x4 x2.heap.size (#[.func (.func 31) #[] #[.pointer (some ⟨W9.heap.size, 0, none⟩), .pointer (some ⟨W9.heap.size + 2, 0, none⟩)], .func (.func 38) #[] #[.pointer (some ⟨W9.heap.size + 2, 0, none⟩), .pointer (some ⟨W9.heap.size + 3, 0, none⟩), .pointer (some ⟨W9.heap.size + 4, 0, none⟩), .pointer (some ⟨W9.heap.size, 0, none⟩)]]) 63 from K_x3.out.put hp_x4 (by omega)); have cT1 := T1.out.cell 0; have lT1 := T1.out.lt))
      have b24 : Below x2.heap.size x2 x4 := by repeat' (first | (with_reducible first | exact Below.refl _ _ | assumption | refine below_alloc ?_ _ | refine Below.drew ?_ | refine below_drewN ?_ _ | refine below_then ?_ (by assumption) | refine below_put ?_ (by assumption) (by first | (simp; done) | (simp; omega) | omega) | refine Below.setCell ?_ ?_ _) | (simp; done) | (simp; omega) | omega)
      have q4 : x2.heap.size + 2 ≤ x4.heap.size := by have a := hp_x3.size; have b := hp_x4.size; simp at a; omega
      have B4 := Lib.hid (B02.out.trans (b24.mono (by omega)))
      have E1 := Lib.hid (CD1.out.lower b24)
      have E2 := Lib.hid (CC2.out.lower b24)
      have T2 := Lib.hid K_x4.out
      clear b24 B02 CD1 CC2 hp_x3 hp_x4 K_x3 K_x4
      refine (GG.out wA U1 g1 W9.heap.size (W9.heap.size + 2) x4.heap.size wA.heap.size (L1.out.up (by omega)) x4 (two_rel1 TW.out B4.out HF.out.1 HF.out.2) (Nat.le_refl _) E1.out.g E1.out.m (by omega) (by omega)).mono ?_
      rintro e y5 ⟨rfl, hr5, hk5⟩
      have sy5 := hk5.size
      obtain ⟨wv1, hb1, -⟩ := hr5.box
      have G1 := Lib.hid hb1
      have M1 := Lib.hid hr5.mems
      have I1 := Lib.hid hr5.inn
      have R2 := Lib.hid (relX_kp (T := 59) (by decide) (TW.out.b2.below B4.out) rfl (fun i hi => own_below (TW.out.o2 i hi) B4.out) HF.out.1 HF.out.2 hr5.old hk5 (fun k h2 h1 => TW.out.ap k h1 h2))
      have D2 := Lib.hid (E2.out.kpx hk5 (L1.out.far (by omega)) (L1.out.far (by omega)) (L1.out.far (by omega)) (L1.out.far (by omega)))
      have T5 := Lib.hid (T2.out.kp hk5 (Nat.zero_le _) (L1.out.far (by omega)) (by decide))
      have cT5 := T5.out.cell 1
      have lT5 := T5.out.lt
      clear hr5 hk5 hb1 cT1 lT1 T1 T2 GG
      go_wp2_with (first | ((with_reducible show wpList _ _ _ _ _ _); refine wpList_storeW rfl 63 (.tmp 19) (.tmp 86) rfl (x2.heap.size) (#[.func (.func 31) #[] #[.pointer (some ⟨W9.heap.size, 0, none⟩), .pointer (some ⟨W9.heap.size + 2, 0, none⟩)], .func (.func 38) #[] #[.pointer (some ⟨W9.heap.size + 2, 0, none⟩), .pointer (some ⟨W9.heap.size + 3, 0, none⟩), .pointer (some ⟨W9.heap.size + 4, 0, none⟩), .pointer (some ⟨W9.heap.size, 0, none⟩)]]) rfl rfl 63 _ (show Blk _ (x2.heap.size) #[.nilFunc, .nilFunc] 63 from (by repeat' (with_reducible first | exact Hid.out (by assumption) | exact Blk.new _ _ _ | (refine Blk.new_at _ _ _ _ ?_; simp; done) | refine Blk.alloc ?_ _ | refine Blk.drewN ?_ _ | refine Blk.drew ?_ | refine Blk.put ?_ (by assumption) (by first | (simp <;> omega) | omega) | refine Blk.below ?_ (by assumption)))) (by kernel_rfl) rfl (by first | (with_reducible assumption) | simp [Value.oneCell']) ?_; intro x3 hp_x3 K_x3) | (((with_reducible show wpList _ _ _ _ _ _); refine wpList_storeW rfl 63 (.tmp 20) (.tmp 88) rfl (x2.heap.size + 1) (#[.func (.func 31) #[] #[.pointer (some ⟨x1.heap.size, 0, none⟩), .pointer (some ⟨x1.heap.size + 2, 0, none⟩)], .func (.func 38) #[] #[.pointer (some ⟨x1.heap.size + 2, 0, none⟩), .pointer (some ⟨x1.heap.size + 3, 0, none⟩), .pointer (some ⟨x1.heap.size + 4, 0, none⟩), .pointer (some ⟨x1.heap.size, 0, none⟩)]]) rfl rfl 63 _ (show Blk _ (x2.heap.size + 1) #[.nilFunc, .nilFunc] 63 from (by repeat' (with_reducible first | exact Hid.out (by assumption) | exact Blk.new _ _ _ | (refine Blk.new_at _ _ _ _ ?_; simp; done) | refine Blk.alloc ?_ _ | refine Blk.drewN ?_ _ | refine Blk.drew ?_ | refine Blk.put ?_ (by assumption) (by first | (simp <;> omega) | omega) | refine Blk.below ?_ (by assumption)))) (by kernel_rfl) rfl (by first | (with_reducible assumption) | simp [Value.oneCell']) ?_; intro x4 hp_x4 K_x4); have T1 := Lib.hid (show Blk x4 x2.heap.size (#[.func (.func 31) #[] #[.pointer (some ⟨W9.heap.size, 0, none⟩), .pointer (some ⟨W9.heap.size + 2, 0, none⟩)], .func (.func 38) #[] #[.pointer (some ⟨W9.heap.size + 2, 0, none⟩), .pointer (some ⟨W9.heap.size + 3, 0, none⟩), .pointer (some ⟨W9.heap.size + 4, 0, none⟩), .pointer (some ⟨W9.heap.size, 0, none⟩)]]) 63 from K_x3.out.put hp_x4 (by omega)); have cT1 := T1.out.cell 0; have lT1 := T1.out.lt))
      refine (GP.out wA U2 g2 x1.heap.size (x1.heap.size + 2) (x1.heap.size + 3) (x1.heap.size + 4) y5.heap.size wA.heap.size (L2.out.up (by omega)) y5 R2.out (Nat.le_refl _) D2.out ⟨L2.out.far (by omega), L2.out.far (by omega), L2.out.far (by omega), L2.out.far (by omega), by omega, by omega, by omega, by omega⟩).mono ?_
      rintro e y6 ⟨rfl, hr6, hk6⟩
      obtain ⟨wv2, hb2, -⟩ := hr6.box
      have G2 := Lib.hid hb2
      have H1 := Lib.hid (G1.out.kp hk6 (Nat.zero_le _) (TW.out.ap g1 (Or.inl rfl)) (by decide))
      have MV1 := Lib.hid (mems_mv (mems_kp M1.out hk6 TW.out.ap) I1.out.mem)
      have MV2 := Lib.hid (mems_mv hr6.mems hr6.inn.mem)
      have O6 := Lib.hid hr6.old
      have KX := Lib.hid (KXA.out.below O6.out)
      have KY := Lib.hid (KYA.out.below O6.out)
      have MX := Lib.hid (MXA.out.below O6.out)
      have MY := Lib.hid (MYA.out.below O6.out)
      have BF := Lib.hid (BA.out.trans (O6.out.mono BA.out.size))
      have x76 := bx76 U2 Y wv2
      clear hr6 hk6 hb2 G1 M1 R2 T5 cT5 lT5 KXA KYA MXA MYA GP
      go_wp2_with (first | ((with_reducible show wpList _ _ _ _ _ _); refine wpList_storeW rfl 63 (.tmp 19) (.tmp 86) rfl (x2.heap.size) (#[.func (.func 31) #[] #[.pointer (some ⟨W9.heap.size, 0, none⟩), .pointer (some ⟨W9.heap.size + 2, 0, none⟩)], .func (.func 38) #[] #[.pointer (some ⟨W9.heap.size + 2, 0, none⟩), .pointer (some ⟨W9.heap.size + 3, 0, none⟩), .pointer (some ⟨W9.heap.size + 4, 0, none⟩), .pointer (some ⟨W9.heap.size, 0, none⟩)]]) rfl rfl 63 _ (show Blk _ (x2.heap.size) #[.nilFunc, .nilFunc] 63 from (by repeat' (with_reducible first | exact Hid.out (by assumption) | exact Blk.new _ _ _ | (refine Blk.new_at _ _ _ _ ?_; simp; done) | refine Blk.alloc ?_ _ | refine Blk.drewN ?_ _ | refine Blk.drew ?_ | refine Blk.put ?_ (by assumption) (by first | (simp <;> omega) | omega) | refine Blk.below ?_ (by assumption)))) (by kernel_rfl) rfl (by first | (with_reducible assumption) | simp [Value.oneCell']) ?_; intro x3 hp_x3 K_x3) | (((with_reducible show wpList _ _ _ _ _ _); refine wpList_storeW rfl 63 (.tmp 20) (.tmp 88) rfl (x2.heap.size + 1) (#[.func (.func 31) #[] #[.pointer (some ⟨x1.heap.size, 0, none⟩), .pointer (some ⟨x1.heap.size + 2, 0, none⟩)], .func (.func 38) #[] #[.pointer (some ⟨x1.heap.size + 2, 0, none⟩), .pointer (some ⟨x1.heap.size + 3, 0, none⟩), .pointer (some ⟨x1.heap.size + 4, 0, none⟩), .pointer (some ⟨x1.heap.size, 0, none⟩)]]) rfl rfl 63 _ (show Blk _ (x2.heap.size + 1) #[.nilFunc, .nilFunc] 63 from (by repeat' (with_reducible first | exact Hid.out (by assumption) | exact Blk.new _ _ _ | (refine Blk.new_at _ _ _ _ ?_; simp; done) | refine Blk.alloc ?_ _ | refine Blk.drewN ?_ _ | refine Blk.drew ?_ | refine Blk.put ?_ (by assumption) (by first | (simp <;> omega) | omega) | refine Blk.below ?_ (by assumption)))) (by kernel_rfl) rfl (by first | (with_reducible assumption) | simp [Value.oneCell']) ?_; intro x4 hp_x4 K_x4); have T1 := Lib.hid (show Blk x4 x2.heap.size (#[.func (.func 31) #[] #[.pointer (some ⟨W9.heap.size, 0, none⟩), .pointer (some ⟨W9.heap.size + 2, 0, none⟩)], .func (.func 38) #[] #[.pointer (some ⟨W9.heap.size + 2, 0, none⟩), .pointer (some ⟨W9.heap.size + 3, 0, none⟩), .pointer (some ⟨W9.heap.size + 4, 0, none⟩), .pointer (some ⟨W9.heap.size, 0, none⟩)]]) 63 from K_x3.out.put hp_x4 (by omega)); have cT1 := T1.out.cell 0; have lT1 := T1.out.lt))
      refine wp_region_held_drew (S := fun W => Blk W (w3.heap.size) ((machC Ux XB.m)) 41 ∧ Blk W (w5.heap.size) ((machC Uy Y.m)) 41 ∧ Blk W (g1) ((boxC U1 XB wv1)) 59 ∧ Blk W (g2) ((boxC U2 Y wv2)) 59) (by kernel_rfl) ⟨Blk.drew (show Blk _ (w3.heap.size) ((machC Ux XB.m)) 41 from (by repeat' (with_reducible first | exact Hid.out (by assumption) | exact Blk.new _ _ _ | (refine Blk.new_at _ _ _ _ ?_; simp; done) | refine Blk.alloc ?_ _ | refine Blk.drewN ?_ _ | refine Blk.drew ?_ | refine Blk.put ?_ (by assumption) (by first | (simp <;> omega) | omega) | refine Blk.below ?_ (by assumption)))), Blk.drew (show Blk _ (w5.heap.size) ((machC Uy Y.m)) 41 from (by repeat' (with_reducible first | exact Hid.out (by assumption) | exact Blk.new _ _ _ | (refine Blk.new_at _ _ _ _ ?_; simp; done) | refine Blk.alloc ?_ _ | refine Blk.drewN ?_ _ | refine Blk.drew ?_ | refine Blk.put ?_ (by assumption) (by first | (simp <;> omega) | omega) | refine Blk.below ?_ (by assumption)))), Blk.drew (show Blk _ (g1) ((boxC U1 XB wv1)) 59 from (by repeat' (with_reducible first | exact Hid.out (by assumption) | exact Blk.new _ _ _ | (refine Blk.new_at _ _ _ _ ?_; simp; done) | refine Blk.alloc ?_ _ | refine Blk.drewN ?_ _ | refine Blk.drew ?_ | refine Blk.put ?_ (by assumption) (by first | (simp <;> omega) | omega) | refine Blk.below ?_ (by assumption)))), Blk.drew (show Blk _ (g2) ((boxC U2 Y wv2)) 59 from (by repeat' (with_reducible first | exact Hid.out (by assumption) | exact Blk.new _ _ _ | (refine Blk.new_at _ _ _ _ ?_; simp; done) | refine Blk.alloc ?_ _ | refine Blk.drewN ?_ _ | refine Blk.drew ?_ | refine Blk.put ?_ (by assumption) (by first | (simp <;> omega) | omega) | refine Blk.below ?_ (by assumption))))⟩ (fun hS => ?_)
      refine wpAnyH_take (i := 0) (v := ?v0_1) rfl (by kernel_rfl) (by kernel_rfl) (by kernel_rfl) (fun _ _ _ h => h) (Or.inl ⟨by rfl, ?y0_1⟩) hS ?_
      case y0_1 => (intro w hSw; go_simp; try with_reducible rfl)
      refine wpAnyH_take (i := 1) (v := ?v1_1) rfl (by kernel_rfl) (by kernel_rfl) (by kernel_rfl) (fun _ _ _ h => h) (Or.inl ⟨by rfl, ?y1_1⟩) hS ?_
      case y1_1 => (intro w hSw; go_simp; try with_reducible rfl)
      refine wpAnyH_take (i := 2) (v := ?v2_1) rfl (by kernel_rfl) (by kernel_rfl) (by kernel_rfl) (fun _ _ _ h => h) (Or.inl ⟨by rfl, ?y2_1⟩) hS ?_
      case y2_1 => (intro w hSw; go_simp; try with_reducible rfl)
      refine wpAnyH_take (i := 3) (v := ?v3_1) rfl (by kernel_rfl) (by kernel_rfl) (by kernel_rfl) (fun _ _ _ h => h) (Or.inl ⟨by rfl, ?y3_1⟩) hS ?_
      case y3_1 => (intro w hSw; go_simp; try with_reducible rfl)
      try simp only [List.getElem_toArray, List.getElem_cons_succ, List.getElem_cons_zero, Act.put, List.setIfInBounds_toArray, List.set_cons_zero, List.set_cons_succ]
      refine wpAnyH_take (i := 4) (v := ?v4_1) rfl (by kernel_rfl) (by kernel_rfl) (by kernel_rfl) (fun _ _ _ h => h) (Or.inl ⟨by rfl, ?y4_1⟩) hS ?_
      case y4_1 => (intro w hSw; go_simp; try with_reducible rfl)
      refine wpAnyH_take (i := 5) (v := ?v5_1) rfl (by kernel_rfl) (by kernel_rfl) (by kernel_rfl) (fun _ _ _ h => h) (Or.inl ⟨by rfl, ?y5_1⟩) hS ?_
      case y5_1 => (intro w hSw; go_simp; try with_reducible rfl)
      refine wpAnyH_take (i := 6) (v := ?v6_1) rfl (by kernel_rfl) (by kernel_rfl) (by kernel_rfl) (fun _ _ _ h => h) (Or.inl ⟨by rfl, ?y6_1⟩) hS ?_
      case y6_1 => (intro w hSw; go_simp; try with_reducible rfl)
      refine wpAnyH_take (i := 7) (v := ?v7_1) rfl (by kernel_rfl) (by kernel_rfl) (by kernel_rfl) (fun _ _ _ h => h) (Or.inl ⟨by rfl, ?y7_1⟩) hS ?_
      case y7_1 => (intro w hSw; go_simp; try with_reducible rfl)
      try simp only [List.getElem_toArray, List.getElem_cons_succ, List.getElem_cons_zero, Act.put, List.setIfInBounds_toArray, List.set_cons_zero, List.set_cons_succ]
      refine wpAnyH_take (i := 8) (v := ?v8_1) rfl (by kernel_rfl) (by kernel_rfl) (by kernel_rfl) (fun _ _ _ h => h) (Or.inl ⟨by rfl, ?y8_1⟩) hS ?_
      case y8_1 => (intro w hSw; go_simp; try with_reducible rfl)
      refine wpAnyH_take (i := 9) (v := ?v9_1) rfl (by kernel_rfl) (by kernel_rfl) (by kernel_rfl) (fun _ _ _ h => h) (Or.inl ⟨by rfl, ?y9_1⟩) hS ?_
      case y9_1 => (intro w hSw; go_simp; try with_reducible rfl)
      refine wpAnyH_take (i := 10) (v := ?v10_1) rfl (by kernel_rfl) (by kernel_rfl) (by kernel_rfl) (fun _ _ _ h => h) (Or.inl ⟨by rfl, ?y10_1⟩) hS ?_
      case y10_1 => (intro w hSw; go_simp; try with_reducible rfl)
      refine wpAnyH_take (i := 11) (v := ?v11_1) rfl (by kernel_rfl) (by kernel_rfl) (by kernel_rfl) (fun _ _ _ h => h) (Or.inl ⟨by rfl, ?y11_1⟩) hS ?_
      case y11_1 => (intro w hSw; go_simp; try with_reducible rfl)
      try simp only [List.getElem_toArray, List.getElem_cons_succ, List.getElem_cons_zero, Act.put, List.setIfInBounds_toArray, List.set_cons_zero, List.set_cons_succ]
      refine wpAnyH_take (i := 12) rfl (by kernel_rfl) (by kernel_rfl) (by kernel_rfl) (fun _ _ _ h => h) (yields_loadA (by rfl) 41 (.tmp 11) rfl (w3.heap.size) 0 75 rfl 41 (machC Ux XB.m) (machC Ux XB.m) (fun W hSw => hSw.1) _ Try.underlying41 rfl (by kernel_rfl) rfl rfl) hS ?_
      try simp only [List.getElem_toArray, List.getElem_cons_succ, List.getElem_cons_zero, Act.put, List.setIfInBounds_toArray, List.set_cons_zero, List.set_cons_succ]
      refine wpAnyH_take (i := 13) (v := ?v13_1) rfl (by kernel_rfl) (by kernel_rfl) (by kernel_rfl) (fun _ _ _ h => h) (Or.inl ⟨by rfl, ?y13_1⟩) hS ?_
      case y13_1 => (intro w hSw; go_simp; try with_reducible rfl)
      refine wpAnyH_take (i := 14) (v := ?v14_1) rfl (by kernel_rfl) (by kernel_rfl) (by kernel_rfl) (fun _ _ _ h => h) (Or.inl ⟨by rfl, ?y14_1⟩) hS ?_
      case y14_1 => (intro w hSw; go_simp; try with_reducible rfl)
      refine wpAnyH_take (i := 15) (v := ?v15_1) rfl (by kernel_rfl) (by kernel_rfl) (by kernel_rfl) (fun _ _ _ h => h) (Or.inl ⟨by rfl, ?y15_1⟩) hS ?_
      case y15_1 => (intro w hSw; go_simp; try with_reducible rfl)
      try simp only [List.getElem_toArray, List.getElem_cons_succ, List.getElem_cons_zero, Act.put, List.setIfInBounds_toArray, List.set_cons_zero, List.set_cons_succ]
      refine wpAnyH_take (i := 16) rfl (by kernel_rfl) (by kernel_rfl) (by kernel_rfl) (fun _ _ _ h => h) (yields_loadA (by rfl) 41 (.tmp 118) rfl (g1) 0 75 rfl 59 (boxC U1 XB wv1) (machC U1 XB.m) (fun W hSw => hSw.2.2.1) _ Try.underlying41 rfl (by kernel_rfl) rfl rfl) hS ?_
      try simp only [List.getElem_toArray, List.getElem_cons_succ, List.getElem_cons_zero, Act.put, List.setIfInBounds_toArray, List.set_cons_zero, List.set_cons_succ]
      refine wpAnyH_ready (rs := [17]) (by kernel_rfl) (by simp) (AllReadyH.cons rfl (fun K hK => ?_) AllReadyH.nil)
      go_simp
      refine (SA.out _ _ _ _ (MX.out.below (show Below y6.heap.size y6 y6.drew from (Below.refl _ _).drew)) (MV1.out.below (show Below y6.heap.size y6 y6.drew from (Below.refl _ _).drew))).mono ?_
      rintro e u1 ⟨rfl, hu1⟩
      try go_wp2_with fail
      refine hK.out _ _ ⟨hS.1.below hu1, hS.2.1.below hu1, hS.2.2.1.below hu1, hS.2.2.2.below hu1⟩ (fun hS => ?_)
      clear hK K
      try simp only [List.getElem_toArray, List.getElem_cons_succ, List.getElem_cons_zero, Act.put, List.setIfInBounds_toArray, List.set_cons_zero, List.set_cons_succ]
      refine wpAnyH_take (i := 18) (v := ?v18_1) rfl (by kernel_rfl) (by kernel_rfl) (by kernel_rfl) (fun _ _ _ h => h) (Or.inl ⟨by rfl, ?y18_1⟩) hS ?_
      case y18_1 => (intro w hSw; go_simp; try with_reducible rfl)
      refine wpAnyH_take (i := 19) (v := ?v19_1) rfl (by kernel_rfl) (by kernel_rfl) (by kernel_rfl) (fun _ _ _ h => h) (Or.inl ⟨by rfl, ?y19_1⟩) hS ?_
      case y19_1 => (intro w hSw; go_simp; try with_reducible rfl)
      try simp only [List.getElem_toArray, List.getElem_cons_succ, List.getElem_cons_zero, Act.put, List.setIfInBounds_toArray, List.set_cons_zero, List.set_cons_succ]
      refine wpAnyH_take (i := 20) (v := ?v20_1) rfl (by kernel_rfl) (by kernel_rfl) (by kernel_rfl) (fun _ _ _ h => h) (Or.inl ⟨by rfl, ?y20_1⟩) hS ?_
      case y20_1 => (intro w hSw; go_simp; try with_reducible rfl)
      refine wpAnyH_take (i := 21) (v := ?v21_1) rfl (by kernel_rfl) (by kernel_rfl) (by kernel_rfl) (fun _ _ _ h => h) (Or.inl ⟨by rfl, ?y21_1⟩) hS ?_
      case y21_1 => (intro w hSw; go_simp; try with_reducible rfl)
      refine wpAnyH_take (i := 22) (v := ?v22_1) rfl (by kernel_rfl) (by kernel_rfl) (by kernel_rfl) (fun _ _ _ h => h) (Or.inl ⟨by rfl, ?y22_1⟩) hS ?_
      case y22_1 => (intro w hSw; go_simp; try with_reducible rfl)
      refine wpAnyH_take (i := 23) (v := ?v23_1) rfl (by kernel_rfl) (by kernel_rfl) (by kernel_rfl) (fun _ _ _ h => h) (Or.inl ⟨by rfl, ?y23_1⟩) hS ?_
      case y23_1 => (intro w hSw; go_simp; try with_reducible rfl)
      try simp only [List.getElem_toArray, List.getElem_cons_succ, List.getElem_cons_zero, Act.put, List.setIfInBounds_toArray, List.set_cons_zero, List.set_cons_succ]
      refine wpAnyH_take (i := 24) (v := ?v24_1) rfl (by kernel_rfl) (by kernel_rfl) (by kernel_rfl) (fun _ _ _ h => h) (Or.inl ⟨by rfl, ?y24_1⟩) hS ?_
      case y24_1 => (intro w hSw; have c0 := (hSw.1).cell; have c1 := (hSw.2.1).cell; have c2 := (hSw.2.2.1).cell; have c3 := (hSw.2.2.2).cell; go_simp; try with_reducible rfl)
      refine wpAnyH_take (i := 25) (v := ?v25_1) rfl (by kernel_rfl) (by kernel_rfl) (by kernel_rfl) (fun _ _ _ h => h) (Or.inl ⟨by rfl, ?y25_1⟩) hS ?_
      case y25_1 => (intro w hSw; go_simp; try with_reducible rfl)
      refine wpAnyH_take (i := 26) (v := ?v26_1) rfl (by kernel_rfl) (by kernel_rfl) (by kernel_rfl) (fun _ _ _ h => h) (Or.inl ⟨by rfl, ?y26_1⟩) hS ?_
      case y26_1 => (intro w hSw; go_simp; try with_reducible rfl)
      refine wpAnyH_take (i := 27) (v := ?v27_1) rfl (by kernel_rfl) (by kernel_rfl) (by kernel_rfl) (fun _ _ _ h => h) (Or.inl ⟨by rfl, ?y27_1⟩) hS ?_
      case y27_1 => (intro w hSw; go_simp; try with_reducible rfl)
      try simp only [List.getElem_toArray, List.getElem_cons_succ, List.getElem_cons_zero, Act.put, List.setIfInBounds_toArray, List.set_cons_zero, List.set_cons_succ]
      refine wpAnyH_take (i := 28) rfl (by kernel_rfl) (by kernel_rfl) (by kernel_rfl) (fun _ _ _ h => h) (yields_loadA (by rfl) 41 (.tmp 13) rfl (w5.heap.size) 0 75 rfl 41 (machC Uy Y.m) (machC Uy Y.m) (fun W hSw => hSw.2.1) _ Try.underlying41 rfl (by kernel_rfl) rfl rfl) hS ?_
      try simp only [List.getElem_toArray, List.getElem_cons_succ, List.getElem_cons_zero, Act.put, List.setIfInBounds_toArray, List.set_cons_zero, List.set_cons_succ]
      refine wpAnyH_take (i := 29) (v := ?v29_1) rfl (by kernel_rfl) (by kernel_rfl) (by kernel_rfl) (fun _ _ _ h => h) (Or.inl ⟨by rfl, ?y29_1⟩) hS ?_
      case y29_1 => (intro w hSw; go_simp; try with_reducible rfl)
      refine wpAnyH_take (i := 30) (v := ?v30_1) rfl (by kernel_rfl) (by kernel_rfl) (by kernel_rfl) (fun _ _ _ h => h) (Or.inl ⟨by rfl, ?y30_1⟩) hS ?_
      case y30_1 => (intro w hSw; go_simp; try with_reducible rfl)
      refine wpAnyH_take (i := 31) (v := ?v31_1) rfl (by kernel_rfl) (by kernel_rfl) (by kernel_rfl) (fun _ _ _ h => h) (Or.inl ⟨by rfl, ?y31_1⟩) hS ?_
      case y31_1 => (intro w hSw; go_simp; try with_reducible rfl)
      try simp only [List.getElem_toArray, List.getElem_cons_succ, List.getElem_cons_zero, Act.put, List.setIfInBounds_toArray, List.set_cons_zero, List.set_cons_succ]
      refine wpAnyH_take (i := 32) rfl (by kernel_rfl) (by kernel_rfl) (by kernel_rfl) (fun _ _ _ h => h) (yields_loadA (by rfl) 41 (.tmp 134) rfl (g2) 0 75 rfl 59 (boxC U2 Y wv2) (machC U2 Y.m) (fun W hSw => hSw.2.2.2) _ Try.underlying41 rfl (by kernel_rfl) rfl rfl) hS ?_
      try simp only [List.getElem_toArray, List.getElem_cons_succ, List.getElem_cons_zero, Act.put, List.setIfInBounds_toArray, List.set_cons_zero, List.set_cons_succ]
      refine wpAnyH_ready (rs := [33]) (by kernel_rfl) (by simp) (AllReadyH.cons rfl (fun K hK => ?_) AllReadyH.nil)
      go_simp
      refine (SA.out _ _ _ _ ((MY.out.below (show Below y6.heap.size y6 y6.drew from (Below.refl _ _).drew)).below hu1) ((MV2.out.below (show Below y6.heap.size y6 y6.drew from (Below.refl _ _).drew)).below hu1)).mono ?_
      rintro e u2 ⟨rfl, hu2⟩
      try go_wp2_with fail
      refine hK.out _ _ ⟨hS.1.below hu2, hS.2.1.below hu2, hS.2.2.1.below hu2, hS.2.2.2.below hu2⟩ (fun hS => ?_)
      clear hK K
      try simp only [List.getElem_toArray, List.getElem_cons_succ, List.getElem_cons_zero, Act.put, List.setIfInBounds_toArray, List.set_cons_zero, List.set_cons_succ]
      refine wpAnyH_take (i := 34) (v := ?v34_1) rfl (by kernel_rfl) (by kernel_rfl) (by kernel_rfl) (fun _ _ _ h => h) (Or.inl ⟨by rfl, ?y34_1⟩) hS ?_
      case y34_1 => (intro w hSw; go_simp; try with_reducible rfl)
      refine wpAnyH_take (i := 35) (v := ?v35_1) rfl (by kernel_rfl) (by kernel_rfl) (by kernel_rfl) (fun _ _ _ h => h) (Or.inl ⟨by rfl, ?y35_1⟩) hS ?_
      case y35_1 => (intro w hSw; go_simp; try with_reducible rfl)
      try simp only [List.getElem_toArray, List.getElem_cons_succ, List.getElem_cons_zero, Act.put, List.setIfInBounds_toArray, List.set_cons_zero, List.set_cons_succ]
      refine wpAnyH_done (by kernel_rfl) ?_ _
      go_wp2_with (first | ((with_reducible show wpList _ _ _ _ _ _); refine wpList_storeW rfl 63 (.tmp 19) (.tmp 86) rfl (x2.heap.size) (#[.func (.func 31) #[] #[.pointer (some ⟨W9.heap.size, 0, none⟩), .pointer (some ⟨W9.heap.size + 2, 0, none⟩)], .func (.func 38) #[] #[.pointer (some ⟨W9.heap.size + 2, 0, none⟩), .pointer (some ⟨W9.heap.size + 3, 0, none⟩), .pointer (some ⟨W9.heap.size + 4, 0, none⟩), .pointer (some ⟨W9.heap.size, 0, none⟩)]]) rfl rfl 63 _ (show Blk _ (x2.heap.size) #[.nilFunc, .nilFunc] 63 from (by repeat' (with_reducible first | exact Hid.out (by assumption) | exact Blk.new _ _ _ | (refine Blk.new_at _ _ _ _ ?_; simp; done) | refine Blk.alloc ?_ _ | refine Blk.drewN ?_ _ | refine Blk.drew ?_ | refine Blk.put ?_ (by assumption) (by first | (simp <;> omega) | omega) | refine Blk.below ?_ (by assumption)))) (by kernel_rfl) rfl (by first | (with_reducible assumption) | simp [Value.oneCell']) ?_; intro x3 hp_x3 K_x3) | (((with_reducible show wpList _ _ _ _ _ _); refine wpList_storeW rfl 63 (.tmp 20) (.tmp 88) rfl (x2.heap.size + 1) (#[.func (.func 31) #[] #[.pointer (some ⟨x1.heap.size, 0, none⟩), .pointer (some ⟨x1.heap.size + 2, 0, none⟩)], .func (.func 38) #[] #[.pointer (some ⟨x1.heap.size + 2, 0, none⟩), .pointer (some ⟨x1.heap.size + 3, 0, none⟩), .pointer (some ⟨x1.heap.size + 4, 0, none⟩), .pointer (some ⟨x1.heap.size, 0, none⟩)]]) rfl rfl 63 _ (show Blk _ (x2.heap.size + 1) #[.nilFunc, .nilFunc] 63 from (by repeat' (with_reducible first | exact Hid.out (by assumption) | exact Blk.new _ _ _ | (refine Blk.new_at _ _ _ _ ?_; simp; done) | refine Blk.alloc ?_ _ | refine Blk.drewN ?_ _ | refine Blk.drew ?_ | refine Blk.put ?_ (by assumption) (by first | (simp <;> omega) | omega) | refine Blk.below ?_ (by assumption)))) (by kernel_rfl) rfl (by first | (with_reducible assumption) | simp [Value.oneCell']) ?_; intro x4 hp_x4 K_x4); have T1 := Lib.hid (show Blk x4 x2.heap.size (#[.func (.func 31) #[] #[.pointer (some ⟨W9.heap.size, 0, none⟩), .pointer (some ⟨W9.heap.size + 2, 0, none⟩)], .func (.func 38) #[] #[.pointer (some ⟨W9.heap.size + 2, 0, none⟩), .pointer (some ⟨W9.heap.size + 3, 0, none⟩), .pointer (some ⟨W9.heap.size + 4, 0, none⟩), .pointer (some ⟨W9.heap.size, 0, none⟩)]]) 63 from K_x3.out.put hp_x4 (by omega)); have cT1 := T1.out.cell 0; have lT1 := T1.out.lt) | go_in)
      go_ret
      exact ⟨rfl, below_then (below_then BF.out.drew hu1) hu2⟩
    · have GG := Lib.hid (fun (w0 : World) (V : Nat → Value) (bb gc mc B H : Nat) (L : LiesX V bb B H) (W : World) (r : RelX 59 w0 V bb H W ⟨m, [], 0⟩) => @gaget_any w0 V bb mc B H L W ⟨m, [], 0⟩ a HA.out.1 r)
      have GP := Lib.hid (fun (w0 : World) (V : Nat → Value) (bb gc mc hc lc B H : Nat) (L : LiesX V bb B H) (W : World) (r : RelX 59 w0 V bb H W ⟨m, [], 0⟩) => @gaput_any w0 V bb gc mc B H L W ⟨m, [], 0⟩ a n HA.out.1 HA.out.2 (by simp) r)
      rw [← gs_t m a, ← EX.out] at GG
      rw [show auxG (⟨m, [], 0⟩ : Bx).m a = b from (rv_t m a).symm.trans EB.out.symm] at GG
      rw [← wx_t m a n, ← EY.out] at GP
      clear EB EX EY HA
      go_wp2_with (first | ((with_reducible show wpList _ _ _ _ _ _); refine wpList_storeW rfl 63 (.tmp 19) (.tmp 86) rfl (x2.heap.size) (#[.func (.func 31) #[] #[.pointer (some ⟨W9.heap.size, 0, none⟩), .pointer (some ⟨W9.heap.size + 2, 0, none⟩)], .func (.func 38) #[] #[.pointer (some ⟨W9.heap.size + 2, 0, none⟩), .pointer (some ⟨W9.heap.size + 3, 0, none⟩), .pointer (some ⟨W9.heap.size + 4, 0, none⟩), .pointer (some ⟨W9.heap.size, 0, none⟩)]]) rfl rfl 63 _ (show Blk _ (x2.heap.size) #[.nilFunc, .nilFunc] 63 from (by repeat' (with_reducible first | exact Hid.out (by assumption) | exact Blk.new _ _ _ | (refine Blk.new_at _ _ _ _ ?_; simp; done) | refine Blk.alloc ?_ _ | refine Blk.drewN ?_ _ | refine Blk.drew ?_ | refine Blk.put ?_ (by assumption) (by first | (simp <;> omega) | omega) | refine Blk.below ?_ (by assumption)))) (by kernel_rfl) rfl (by first | (with_reducible assumption) | simp [Value.oneCell']) ?_; intro x3 hp_x3 K_x3) | (((with_reducible show wpList _ _ _ _ _ _); refine wpList_storeW rfl 63 (.tmp 20) (.tmp 88) rfl (x2.heap.size + 1) (#[.func (.func 31) #[] #[.pointer (some ⟨x1.heap.size, 0, none⟩), .pointer (some ⟨x1.heap.size + 2, 0, none⟩)], .func (.func 38) #[] #[.pointer (some ⟨x1.heap.size + 2, 0, none⟩), .pointer (some ⟨x1.heap.size + 3, 0, none⟩), .pointer (some ⟨x1.heap.size + 4, 0, none⟩), .pointer (some ⟨x1.heap.size, 0, none⟩)]]) rfl rfl 63 _ (show Blk _ (x2.heap.size + 1) #[.nilFunc, .nilFunc] 63 from (by repeat' (with_reducible first | exact Hid.out (by assumption) | exact Blk.new _ _ _ | (refine Blk.new_at _ _ _ _ ?_; simp; done) | refine Blk.alloc ?_ _ | refine Blk.drewN ?_ _ | refine Blk.drew ?_ | refine Blk.put ?_ (by assumption) (by first | (simp <;> omega) | omega) | refine Blk.below ?_ (by assumption)))) (by kernel_rfl) rfl (by first | (with_reducible assumption) | simp [Value.oneCell']) ?_; intro x4 hp_x4 K_x4); have T1 := Lib.hid (show Blk x4 x2.heap.size (#[.func (.func 31) #[] #[.pointer (some ⟨W9.heap.size, 0, none⟩), .pointer (some ⟨W9.heap.size + 2, 0, none⟩)], .func (.func 38) #[] #[.pointer (some ⟨W9.heap.size + 2, 0, none⟩), .pointer (some ⟨W9.heap.size + 3, 0, none⟩), .pointer (some ⟨W9.heap.size + 4, 0, none⟩), .pointer (some ⟨W9.heap.size, 0, none⟩)]]) 63 from K_x3.out.put hp_x4 (by omega)); have cT1 := T1.out.cell 0; have lT1 := T1.out.lt))
      have b24 : Below x2.heap.size x2 x4 := by repeat' (first | (with_reducible first | exact Below.refl _ _ | assumption | refine below_alloc ?_ _ | refine Below.drew ?_ | refine below_drewN ?_ _ | refine below_then ?_ (by assumption) | refine below_put ?_ (by assumption) (by first | (simp; done) | (simp; omega) | omega) | refine Below.setCell ?_ ?_ _) | (simp; done) | (simp; omega) | omega)
      have q4 : x2.heap.size + 2 ≤ x4.heap.size := by have a := hp_x3.size; have b := hp_x4.size; simp at a; omega
      have B4 := Lib.hid (B02.out.trans (b24.mono (by omega)))
      have E1 := Lib.hid (CD1.out.lower b24)
      have E2 := Lib.hid (CC2.out.lower b24)
      have T2 := Lib.hid K_x4.out
      clear b24 B02 CD1 CC2 hp_x3 hp_x4 K_x3 K_x4
      clear cT1
      refine (mkgaux_any g1 _).mono ?_
      rintro e x5 ⟨rfl, hb5, hz5, A1, A2⟩
      have AA1 := Lib.hid A1
      have AA2 := Lib.hid A2
      have HZ5 := Lib.hid hz5
      have B5 := Lib.hid (below_then B4.out hb5)
      have TT1 := Lib.hid (T1.out.below hb5)
      have TT2 := Lib.hid (T2.out.below hb5)
      clear A1 A2 hz5 T1 T2 hb5 lT1
      go_wp2_with (first | ((with_reducible show wpList _ _ _ _ _ _); refine wpList_storeW rfl 63 (.tmp 19) (.tmp 86) rfl (x2.heap.size) (#[.func (.func 31) #[] #[.pointer (some ⟨W9.heap.size, 0, none⟩), .pointer (some ⟨W9.heap.size + 2, 0, none⟩)], .func (.func 38) #[] #[.pointer (some ⟨W9.heap.size + 2, 0, none⟩), .pointer (some ⟨W9.heap.size + 3, 0, none⟩), .pointer (some ⟨W9.heap.size + 4, 0, none⟩), .pointer (some ⟨W9.heap.size, 0, none⟩)]]) rfl rfl 63 _ (show Blk _ (x2.heap.size) #[.nilFunc, .nilFunc] 63 from (by repeat' (with_reducible first | exact Hid.out (by assumption) | exact Blk.new _ _ _ | (refine Blk.new_at _ _ _ _ ?_; simp; done) | refine Blk.alloc ?_ _ | refine Blk.drewN ?_ _ | refine Blk.drew ?_ | refine Blk.put ?_ (by assumption) (by first | (simp <;> omega) | omega) | refine Blk.below ?_ (by assumption)))) (by kernel_rfl) rfl (by first | (with_reducible assumption) | simp [Value.oneCell']) ?_; intro x3 hp_x3 K_x3) | (((with_reducible show wpList _ _ _ _ _ _); refine wpList_storeW rfl 63 (.tmp 20) (.tmp 88) rfl (x2.heap.size + 1) (#[.func (.func 31) #[] #[.pointer (some ⟨x1.heap.size, 0, none⟩), .pointer (some ⟨x1.heap.size + 2, 0, none⟩)], .func (.func 38) #[] #[.pointer (some ⟨x1.heap.size + 2, 0, none⟩), .pointer (some ⟨x1.heap.size + 3, 0, none⟩), .pointer (some ⟨x1.heap.size + 4, 0, none⟩), .pointer (some ⟨x1.heap.size, 0, none⟩)]]) rfl rfl 63 _ (show Blk _ (x2.heap.size + 1) #[.nilFunc, .nilFunc] 63 from (by repeat' (with_reducible first | exact Hid.out (by assumption) | exact Blk.new _ _ _ | (refine Blk.new_at _ _ _ _ ?_; simp; done) | refine Blk.alloc ?_ _ | refine Blk.drewN ?_ _ | refine Blk.drew ?_ | refine Blk.put ?_ (by assumption) (by first | (simp <;> omega) | omega) | refine Blk.below ?_ (by assumption)))) (by kernel_rfl) rfl (by first | (with_reducible assumption) | simp [Value.oneCell']) ?_; intro x4 hp_x4 K_x4); have T1 := Lib.hid (show Blk x4 x2.heap.size (#[.func (.func 31) #[] #[.pointer (some ⟨W9.heap.size, 0, none⟩), .pointer (some ⟨W9.heap.size + 2, 0, none⟩)], .func (.func 38) #[] #[.pointer (some ⟨W9.heap.size + 2, 0, none⟩), .pointer (some ⟨W9.heap.size + 3, 0, none⟩), .pointer (some ⟨W9.heap.size + 4, 0, none⟩), .pointer (some ⟨W9.heap.size, 0, none⟩)]]) 63 from K_x3.out.put hp_x4 (by omega)); have cT1 := T1.out.cell 0; have lT1 := T1.out.lt))
      refine (mkgaux_any g2 _).mono ?_
      rintro e x6 ⟨rfl, hb6, hz6, A3, A4⟩
      have AB1 := Lib.hid (AA1.out.below hb6)
      have AB2 := Lib.hid (AA2.out.below hb6)
      have AB3 := Lib.hid A3
      have AB4 := Lib.hid A4
      have HZ6 := Lib.hid hz6
      have B6 := Lib.hid (below_then B5.out hb6)
      have TU1 := Lib.hid (TT1.out.below hb6)
      have TU2 := Lib.hid (TT2.out.below hb6)
      clear A3 A4 hz6 TT1 TT2 hb6 AA1 AA2
      have z5 := Nat.le_of_eq HZ5.out.symm
      have z6 := Nat.le_of_eq HZ6.out.symm
      have z7 := Nat.le_of_eq HZ5.out
      have z8 := Nat.le_of_eq HZ6.out
      go_wp2_with (first | ((with_reducible show wpList _ _ _ _ _ _); refine wpList_storeW rfl 63 (.tmp 19) (.tmp 91) rfl (x2.heap.size) (#[.func (.func 40) #[] #[.pointer (some ⟨x4.heap.size + 2, 0, none⟩)], .func (.func 42) #[] #[.pointer (some ⟨x4.heap.size + 2, 0, none⟩), .pointer (some ⟨x4.heap.size, 0, none⟩)]]) rfl rfl 63 _ (show Blk _ (x2.heap.size) (#[.func (.func 31) #[] #[.pointer (some ⟨W9.heap.size, 0, none⟩), .pointer (some ⟨W9.heap.size + 2, 0, none⟩)], .func (.func 38) #[] #[.pointer (some ⟨W9.heap.size + 2, 0, none⟩), .pointer (some ⟨W9.heap.size + 3, 0, none⟩), .pointer (some ⟨W9.heap.size + 4, 0, none⟩), .pointer (some ⟨W9.heap.size, 0, none⟩)]]) 63 from (by repeat' (with_reducible first | exact Hid.out (by assumption) | exact Blk.new _ _ _ | (refine Blk.new_at _ _ _ _ ?_; simp; done) | refine Blk.alloc ?_ _ | refine Blk.drewN ?_ _ | refine Blk.drew ?_ | refine Blk.put ?_ (by assumption) (by first | (simp <;> omega) | omega) | refine Blk.below ?_ (by assumption)))) (by kernel_rfl) rfl (by first | (with_reducible assumption) | simp [Value.oneCell']) ?_; intro x7 hp_x7 K_x7) | (((with_reducible show wpList _ _ _ _ _ _); refine wpList_storeW rfl 63 (.tmp 20) (.tmp 93) rfl (x2.heap.size + 1) (#[.func (.func 40) #[] #[.pointer (some ⟨x5.heap.size + 2, 0, none⟩)], .func (.func 42) #[] #[.pointer (some ⟨x5.heap.size + 2, 0, none⟩), .pointer (some ⟨x5.heap.size, 0, none⟩)]]) rfl rfl 63 _ (show Blk _ (x2.heap.size + 1) (#[.func (.func 31) #[] #[.pointer (some ⟨x1.heap.size, 0, none⟩), .pointer (some ⟨x1.heap.size + 2, 0, none⟩)], .func (.func 38) #[] #[.pointer (some ⟨x1.heap.size + 2, 0, none⟩), .pointer (some ⟨x1.heap.size + 3, 0, none⟩), .pointer (some ⟨x1.heap.size + 4, 0, none⟩), .pointer (some ⟨x1.heap.size, 0, none⟩)]]) 63 from (by repeat' (with_reducible first | exact Hid.out (by assumption) | exact Blk.new _ _ _ | (refine Blk.new_at _ _ _ _ ?_; simp; done) | refine Blk.alloc ?_ _ | refine Blk.drewN ?_ _ | refine Blk.drew ?_ | refine Blk.put ?_ (by assumption) (by first | (simp <;> omega) | omega) | refine Blk.below ?_ (by assumption)))) (by kernel_rfl) rfl (by first | (with_reducible assumption) | simp [Value.oneCell']) ?_; intro x8 hp_x8 K_x8); have T1 := Lib.hid (show Blk x8 x2.heap.size (#[.func (.func 40) #[] #[.pointer (some ⟨x4.heap.size + 2, 0, none⟩)], .func (.func 42) #[] #[.pointer (some ⟨x4.heap.size + 2, 0, none⟩), .pointer (some ⟨x4.heap.size, 0, none⟩)]]) 63 from K_x7.out.put hp_x8 (by omega)); have cT1 := T1.out.cell 0; have lT1 := T1.out.lt))
      have b68 : Below W9.heap.size x6 x8 := (Put.below hp_x7).mono (by omega) |>.trans ((Put.below hp_x8).mono (by omega))
      have q8 : x8.heap.size = x6.heap.size := by rw [hp_x8.size, hp_x7.size]
      have B8 := Lib.hid (B6.out.trans b68)
      have E1 := Lib.hid ((AB1.out.put hp_x7 (by omega)).put hp_x8 (by omega))
      have E2 := Lib.hid ((AB2.out.put hp_x7 (by omega)).put hp_x8 (by omega))
      have E3 := Lib.hid ((AB3.out.put hp_x7 (by omega)).put hp_x8 (by omega))
      have E4 := Lib.hid ((AB4.out.put hp_x7 (by omega)).put hp_x8 (by omega))
      have T2 := Lib.hid K_x8.out
      have Q8 := Lib.hid q8
      have y8 := Nat.le_of_eq q8.symm
      clear q8 b68 B6 AB1 AB2 AB3 AB4 hp_x7 hp_x8 K_x7 K_x8 TU1 TU2
      refine (GG.out wA U1 g1 x4.heap.size (x4.heap.size + 2) x8.heap.size wA.heap.size (L1.out.up (by omega)) x8 (two_rel1 TW.out B8.out HF.out.1 HF.out.2) (Nat.le_refl _) E2.out (by omega)).mono ?_
      rintro e y5 ⟨rfl, hr5, hk5⟩
      have sy5 := hk5.size
      obtain ⟨wv1, hb1, -⟩ := hr5.box
      have G1 := Lib.hid hb1
      have M1 := Lib.hid hr5.mems
      have I1 := Lib.hid hr5.inn
      have R2 := Lib.hid (relX_kp (T := 59) (by decide) (TW.out.b2.below B8.out) rfl (fun i hi => own_below (TW.out.o2 i hi) B8.out) HF.out.1 HF.out.2 hr5.old hk5 (fun k h2 h1 => TW.out.ap k h1 h2))
      have D3 := Lib.hid (E3.out.kp hk5 (Nat.zero_le _) (L1.out.far (by omega)) (by decide))
      have D4 := Lib.hid (E4.out.kp hk5 (Nat.zero_le _) (L1.out.far (by omega)) (by decide))
      have T5 := Lib.hid (T2.out.kp hk5 (Nat.zero_le _) (L1.out.far (by omega)) (by decide))
      have cT5 := T5.out.cell 1
      have lT5 := T5.out.lt
      clear hr5 hk5 hb1 cT1 lT1 T1 T2 GG
      go_wp2_with (first | ((with_reducible show wpList _ _ _ _ _ _); refine wpList_storeW rfl 63 (.tmp 19) (.tmp 91) rfl (x2.heap.size) (#[.func (.func 40) #[] #[.pointer (some ⟨x4.heap.size + 2, 0, none⟩)], .func (.func 42) #[] #[.pointer (some ⟨x4.heap.size + 2, 0, none⟩), .pointer (some ⟨x4.heap.size, 0, none⟩)]]) rfl rfl 63 _ (show Blk _ (x2.heap.size) (#[.func (.func 31) #[] #[.pointer (some ⟨W9.heap.size, 0, none⟩), .pointer (some ⟨W9.heap.size + 2, 0, none⟩)], .func (.func 38) #[] #[.pointer (some ⟨W9.heap.size + 2, 0, none⟩), .pointer (some ⟨W9.heap.size + 3, 0, none⟩), .pointer (some ⟨W9.heap.size + 4, 0, none⟩), .pointer (some ⟨W9.heap.size, 0, none⟩)]]) 63 from (by repeat' (with_reducible first | exact Hid.out (by assumption) | exact Blk.new _ _ _ | (refine Blk.new_at _ _ _ _ ?_; simp; done) | refine Blk.alloc ?_ _ | refine Blk.drewN ?_ _ | refine Blk.drew ?_ | refine Blk.put ?_ (by assumption) (by first | (simp <;> omega) | omega) | refine Blk.below ?_ (by assumption)))) (by kernel_rfl) rfl (by first | (with_reducible assumption) | simp [Value.oneCell']) ?_; intro x7 hp_x7 K_x7) | (((with_reducible show wpList _ _ _ _ _ _); refine wpList_storeW rfl 63 (.tmp 20) (.tmp 93) rfl (x2.heap.size + 1) (#[.func (.func 40) #[] #[.pointer (some ⟨x5.heap.size + 2, 0, none⟩)], .func (.func 42) #[] #[.pointer (some ⟨x5.heap.size + 2, 0, none⟩), .pointer (some ⟨x5.heap.size, 0, none⟩)]]) rfl rfl 63 _ (show Blk _ (x2.heap.size + 1) (#[.func (.func 31) #[] #[.pointer (some ⟨x1.heap.size, 0, none⟩), .pointer (some ⟨x1.heap.size + 2, 0, none⟩)], .func (.func 38) #[] #[.pointer (some ⟨x1.heap.size + 2, 0, none⟩), .pointer (some ⟨x1.heap.size + 3, 0, none⟩), .pointer (some ⟨x1.heap.size + 4, 0, none⟩), .pointer (some ⟨x1.heap.size, 0, none⟩)]]) 63 from (by repeat' (with_reducible first | exact Hid.out (by assumption) | exact Blk.new _ _ _ | (refine Blk.new_at _ _ _ _ ?_; simp; done) | refine Blk.alloc ?_ _ | refine Blk.drewN ?_ _ | refine Blk.drew ?_ | refine Blk.put ?_ (by assumption) (by first | (simp <;> omega) | omega) | refine Blk.below ?_ (by assumption)))) (by kernel_rfl) rfl (by first | (with_reducible assumption) | simp [Value.oneCell']) ?_; intro x8 hp_x8 K_x8); have T1 := Lib.hid (show Blk x8 x2.heap.size (#[.func (.func 40) #[] #[.pointer (some ⟨x4.heap.size + 2, 0, none⟩)], .func (.func 42) #[] #[.pointer (some ⟨x4.heap.size + 2, 0, none⟩), .pointer (some ⟨x4.heap.size, 0, none⟩)]]) 63 from K_x7.out.put hp_x8 (by omega)); have cT1 := T1.out.cell 0; have lT1 := T1.out.lt))
      refine (GP.out wA U2 g2 x5.heap.size (x5.heap.size + 2) 0 0 y5.heap.size wA.heap.size (L2.out.up (by omega)) y5 R2.out (Nat.le_refl _) D3.out D4.out (by omega) (by omega)).mono ?_
      rintro e y6 ⟨rfl, hr6, hk6⟩
      obtain ⟨wv2, hb2, -⟩ := hr6.box
      have G2 := Lib.hid hb2
      have H1 := Lib.hid (G1.out.kp hk6 (Nat.zero_le _) (TW.out.ap g1 (Or.inl rfl)) (by decide))
      have MV1 := Lib.hid (mems_mv (mems_kp M1.out hk6 TW.out.ap) I1.out.mem)
      have MV2 := Lib.hid (mems_mv hr6.mems hr6.inn.mem)
      have O6 := Lib.hid hr6.old
      have KX := Lib.hid (KXA.out.below O6.out)
      have KY := Lib.hid (KYA.out.below O6.out)
      have MX := Lib.hid (MXA.out.below O6.out)
      have MY := Lib.hid (MYA.out.below O6.out)
      have BF := Lib.hid (BA.out.trans (O6.out.mono BA.out.size))
      have x76 := bx76 U2 Y wv2
      clear hr6 hk6 hb2 G1 M1 R2 T5 cT5 lT5 KXA KYA MXA MYA GP
      go_wp2_with (first | ((with_reducible show wpList _ _ _ _ _ _); refine wpList_storeW rfl 63 (.tmp 19) (.tmp 91) rfl (x2.heap.size) (#[.func (.func 40) #[] #[.pointer (some ⟨x4.heap.size + 2, 0, none⟩)], .func (.func 42) #[] #[.pointer (some ⟨x4.heap.size + 2, 0, none⟩), .pointer (some ⟨x4.heap.size, 0, none⟩)]]) rfl rfl 63 _ (show Blk _ (x2.heap.size) (#[.func (.func 31) #[] #[.pointer (some ⟨W9.heap.size, 0, none⟩), .pointer (some ⟨W9.heap.size + 2, 0, none⟩)], .func (.func 38) #[] #[.pointer (some ⟨W9.heap.size + 2, 0, none⟩), .pointer (some ⟨W9.heap.size + 3, 0, none⟩), .pointer (some ⟨W9.heap.size + 4, 0, none⟩), .pointer (some ⟨W9.heap.size, 0, none⟩)]]) 63 from (by repeat' (with_reducible first | exact Hid.out (by assumption) | exact Blk.new _ _ _ | (refine Blk.new_at _ _ _ _ ?_; simp; done) | refine Blk.alloc ?_ _ | refine Blk.drewN ?_ _ | refine Blk.drew ?_ | refine Blk.put ?_ (by assumption) (by first | (simp <;> omega) | omega) | refine Blk.below ?_ (by assumption)))) (by kernel_rfl) rfl (by first | (with_reducible assumption) | simp [Value.oneCell']) ?_; intro x7 hp_x7 K_x7) | (((with_reducible show wpList _ _ _ _ _ _); refine wpList_storeW rfl 63 (.tmp 20) (.tmp 93) rfl (x2.heap.size + 1) (#[.func (.func 40) #[] #[.pointer (some ⟨x5.heap.size + 2, 0, none⟩)], .func (.func 42) #[] #[.pointer (some ⟨x5.heap.size + 2, 0, none⟩), .pointer (some ⟨x5.heap.size, 0, none⟩)]]) rfl rfl 63 _ (show Blk _ (x2.heap.size + 1) (#[.func (.func 31) #[] #[.pointer (some ⟨x1.heap.size, 0, none⟩), .pointer (some ⟨x1.heap.size + 2, 0, none⟩)], .func (.func 38) #[] #[.pointer (some ⟨x1.heap.size + 2, 0, none⟩), .pointer (some ⟨x1.heap.size + 3, 0, none⟩), .pointer (some ⟨x1.heap.size + 4, 0, none⟩), .pointer (some ⟨x1.heap.size, 0, none⟩)]]) 63 from (by repeat' (with_reducible first | exact Hid.out (by assumption) | exact Blk.new _ _ _ | (refine Blk.new_at _ _ _ _ ?_; simp; done) | refine Blk.alloc ?_ _ | refine Blk.drewN ?_ _ | refine Blk.drew ?_ | refine Blk.put ?_ (by assumption) (by first | (simp <;> omega) | omega) | refine Blk.below ?_ (by assumption)))) (by kernel_rfl) rfl (by first | (with_reducible assumption) | simp [Value.oneCell']) ?_; intro x8 hp_x8 K_x8); have T1 := Lib.hid (show Blk x8 x2.heap.size (#[.func (.func 40) #[] #[.pointer (some ⟨x4.heap.size + 2, 0, none⟩)], .func (.func 42) #[] #[.pointer (some ⟨x4.heap.size + 2, 0, none⟩), .pointer (some ⟨x4.heap.size, 0, none⟩)]]) 63 from K_x7.out.put hp_x8 (by omega)); have cT1 := T1.out.cell 0; have lT1 := T1.out.lt))
      refine wp_region_held_drew (S := fun W => Blk W (w3.heap.size) ((machC Ux XB.m)) 41 ∧ Blk W (w5.heap.size) ((machC Uy Y.m)) 41 ∧ Blk W (g1) ((boxC U1 XB wv1)) 59 ∧ Blk W (g2) ((boxC U2 Y wv2)) 59) (by kernel_rfl) ⟨Blk.drew (show Blk _ (w3.heap.size) ((machC Ux XB.m)) 41 from (by repeat' (with_reducible first | exact Hid.out (by assumption) | exact Blk.new _ _ _ | (refine Blk.new_at _ _ _ _ ?_; simp; done) | refine Blk.alloc ?_ _ | refine Blk.drewN ?_ _ | refine Blk.drew ?_ | refine Blk.put ?_ (by assumption) (by first | (simp <;> omega) | omega) | refine Blk.below ?_ (by assumption)))), Blk.drew (show Blk _ (w5.heap.size) ((machC Uy Y.m)) 41 from (by repeat' (with_reducible first | exact Hid.out (by assumption) | exact Blk.new _ _ _ | (refine Blk.new_at _ _ _ _ ?_; simp; done) | refine Blk.alloc ?_ _ | refine Blk.drewN ?_ _ | refine Blk.drew ?_ | refine Blk.put ?_ (by assumption) (by first | (simp <;> omega) | omega) | refine Blk.below ?_ (by assumption)))), Blk.drew (show Blk _ (g1) ((boxC U1 XB wv1)) 59 from (by repeat' (with_reducible first | exact Hid.out (by assumption) | exact Blk.new _ _ _ | (refine Blk.new_at _ _ _ _ ?_; simp; done) | refine Blk.alloc ?_ _ | refine Blk.drewN ?_ _ | refine Blk.drew ?_ | refine Blk.put ?_ (by assumption) (by first | (simp <;> omega) | omega) | refine Blk.below ?_ (by assumption)))), Blk.drew (show Blk _ (g2) ((boxC U2 Y wv2)) 59 from (by repeat' (with_reducible first | exact Hid.out (by assumption) | exact Blk.new _ _ _ | (refine Blk.new_at _ _ _ _ ?_; simp; done) | refine Blk.alloc ?_ _ | refine Blk.drewN ?_ _ | refine Blk.drew ?_ | refine Blk.put ?_ (by assumption) (by first | (simp <;> omega) | omega) | refine Blk.below ?_ (by assumption))))⟩ (fun hS => ?_)
      refine wpAnyH_take (i := 0) (v := ?v0_2) rfl (by kernel_rfl) (by kernel_rfl) (by kernel_rfl) (fun _ _ _ h => h) (Or.inl ⟨by rfl, ?y0_2⟩) hS ?_
      case y0_2 => (intro w hSw; go_simp; try with_reducible rfl)
      refine wpAnyH_take (i := 1) (v := ?v1_2) rfl (by kernel_rfl) (by kernel_rfl) (by kernel_rfl) (fun _ _ _ h => h) (Or.inl ⟨by rfl, ?y1_2⟩) hS ?_
      case y1_2 => (intro w hSw; go_simp; try with_reducible rfl)
      refine wpAnyH_take (i := 2) (v := ?v2_2) rfl (by kernel_rfl) (by kernel_rfl) (by kernel_rfl) (fun _ _ _ h => h) (Or.inl ⟨by rfl, ?y2_2⟩) hS ?_
      case y2_2 => (intro w hSw; go_simp; try with_reducible rfl)
      refine wpAnyH_take (i := 3) (v := ?v3_2) rfl (by kernel_rfl) (by kernel_rfl) (by kernel_rfl) (fun _ _ _ h => h) (Or.inl ⟨by rfl, ?y3_2⟩) hS ?_
      case y3_2 => (intro w hSw; go_simp; try with_reducible rfl)
      try simp only [List.getElem_toArray, List.getElem_cons_succ, List.getElem_cons_zero, Act.put, List.setIfInBounds_toArray, List.set_cons_zero, List.set_cons_succ]
      refine wpAnyH_take (i := 4) (v := ?v4_2) rfl (by kernel_rfl) (by kernel_rfl) (by kernel_rfl) (fun _ _ _ h => h) (Or.inl ⟨by rfl, ?y4_2⟩) hS ?_
      case y4_2 => (intro w hSw; go_simp; try with_reducible rfl)
      refine wpAnyH_take (i := 5) (v := ?v5_2) rfl (by kernel_rfl) (by kernel_rfl) (by kernel_rfl) (fun _ _ _ h => h) (Or.inl ⟨by rfl, ?y5_2⟩) hS ?_
      case y5_2 => (intro w hSw; go_simp; try with_reducible rfl)
      refine wpAnyH_take (i := 6) (v := ?v6_2) rfl (by kernel_rfl) (by kernel_rfl) (by kernel_rfl) (fun _ _ _ h => h) (Or.inl ⟨by rfl, ?y6_2⟩) hS ?_
      case y6_2 => (intro w hSw; go_simp; try with_reducible rfl)
      refine wpAnyH_take (i := 7) (v := ?v7_2) rfl (by kernel_rfl) (by kernel_rfl) (by kernel_rfl) (fun _ _ _ h => h) (Or.inl ⟨by rfl, ?y7_2⟩) hS ?_
      case y7_2 => (intro w hSw; go_simp; try with_reducible rfl)
      try simp only [List.getElem_toArray, List.getElem_cons_succ, List.getElem_cons_zero, Act.put, List.setIfInBounds_toArray, List.set_cons_zero, List.set_cons_succ]
      refine wpAnyH_take (i := 8) (v := ?v8_2) rfl (by kernel_rfl) (by kernel_rfl) (by kernel_rfl) (fun _ _ _ h => h) (Or.inl ⟨by rfl, ?y8_2⟩) hS ?_
      case y8_2 => (intro w hSw; go_simp; try with_reducible rfl)
      refine wpAnyH_take (i := 9) (v := ?v9_2) rfl (by kernel_rfl) (by kernel_rfl) (by kernel_rfl) (fun _ _ _ h => h) (Or.inl ⟨by rfl, ?y9_2⟩) hS ?_
      case y9_2 => (intro w hSw; go_simp; try with_reducible rfl)
      refine wpAnyH_take (i := 10) (v := ?v10_2) rfl (by kernel_rfl) (by kernel_rfl) (by kernel_rfl) (fun _ _ _ h => h) (Or.inl ⟨by rfl, ?y10_2⟩) hS ?_
      case y10_2 => (intro w hSw; go_simp; try with_reducible rfl)
      refine wpAnyH_take (i := 11) (v := ?v11_2) rfl (by kernel_rfl) (by kernel_rfl) (by kernel_rfl) (fun _ _ _ h => h) (Or.inl ⟨by rfl, ?y11_2⟩) hS ?_
      case y11_2 => (intro w hSw; go_simp; try with_reducible rfl)
      try simp only [List.getElem_toArray, List.getElem_cons_succ, List.getElem_cons_zero, Act.put, List.setIfInBounds_toArray, List.set_cons_zero, List.set_cons_succ]
      refine wpAnyH_take (i := 12) rfl (by kernel_rfl) (by kernel_rfl) (by kernel_rfl) (fun _ _ _ h => h) (yields_loadA (by rfl) 41 (.tmp 11) rfl (w3.heap.size) 0 75 rfl 41 (machC Ux XB.m) (machC Ux XB.m) (fun W hSw => hSw.1) _ Try.underlying41 rfl (by kernel_rfl) rfl rfl) hS ?_
      try simp only [List.getElem_toArray, List.getElem_cons_succ, List.getElem_cons_zero, Act.put, List.setIfInBounds_toArray, List.set_cons_zero, List.set_cons_succ]
      refine wpAnyH_take (i := 13) (v := ?v13_2) rfl (by kernel_rfl) (by kernel_rfl) (by kernel_rfl) (fun _ _ _ h => h) (Or.inl ⟨by rfl, ?y13_2⟩) hS ?_
      case y13_2 => (intro w hSw; go_simp; try with_reducible rfl)
      refine wpAnyH_take (i := 14) (v := ?v14_2) rfl (by kernel_rfl) (by kernel_rfl) (by kernel_rfl) (fun _ _ _ h => h) (Or.inl ⟨by rfl, ?y14_2⟩) hS ?_
      case y14_2 => (intro w hSw; go_simp; try with_reducible rfl)
      refine wpAnyH_take (i := 15) (v := ?v15_2) rfl (by kernel_rfl) (by kernel_rfl) (by kernel_rfl) (fun _ _ _ h => h) (Or.inl ⟨by rfl, ?y15_2⟩) hS ?_
      case y15_2 => (intro w hSw; go_simp; try with_reducible rfl)
      try simp only [List.getElem_toArray, List.getElem_cons_succ, List.getElem_cons_zero, Act.put, List.setIfInBounds_toArray, List.set_cons_zero, List.set_cons_succ]
      refine wpAnyH_take (i := 16) rfl (by kernel_rfl) (by kernel_rfl) (by kernel_rfl) (fun _ _ _ h => h) (yields_loadA (by rfl) 41 (.tmp 118) rfl (g1) 0 75 rfl 59 (boxC U1 XB wv1) (machC U1 XB.m) (fun W hSw => hSw.2.2.1) _ Try.underlying41 rfl (by kernel_rfl) rfl rfl) hS ?_
      try simp only [List.getElem_toArray, List.getElem_cons_succ, List.getElem_cons_zero, Act.put, List.setIfInBounds_toArray, List.set_cons_zero, List.set_cons_succ]
      refine wpAnyH_ready (rs := [17]) (by kernel_rfl) (by simp) (AllReadyH.cons rfl (fun K hK => ?_) AllReadyH.nil)
      go_simp
      refine (SA.out _ _ _ _ (MX.out.below (show Below y6.heap.size y6 y6.drew from (Below.refl _ _).drew)) (MV1.out.below (show Below y6.heap.size y6 y6.drew from (Below.refl _ _).drew))).mono ?_
      rintro e u1 ⟨rfl, hu1⟩
      try go_wp2_with fail
      refine hK.out _ _ ⟨hS.1.below hu1, hS.2.1.below hu1, hS.2.2.1.below hu1, hS.2.2.2.below hu1⟩ (fun hS => ?_)
      clear hK K
      try simp only [List.getElem_toArray, List.getElem_cons_succ, List.getElem_cons_zero, Act.put, List.setIfInBounds_toArray, List.set_cons_zero, List.set_cons_succ]
      refine wpAnyH_take (i := 18) (v := ?v18_2) rfl (by kernel_rfl) (by kernel_rfl) (by kernel_rfl) (fun _ _ _ h => h) (Or.inl ⟨by rfl, ?y18_2⟩) hS ?_
      case y18_2 => (intro w hSw; go_simp; try with_reducible rfl)
      refine wpAnyH_take (i := 19) (v := ?v19_2) rfl (by kernel_rfl) (by kernel_rfl) (by kernel_rfl) (fun _ _ _ h => h) (Or.inl ⟨by rfl, ?y19_2⟩) hS ?_
      case y19_2 => (intro w hSw; go_simp; try with_reducible rfl)
      try simp only [List.getElem_toArray, List.getElem_cons_succ, List.getElem_cons_zero, Act.put, List.setIfInBounds_toArray, List.set_cons_zero, List.set_cons_succ]
      refine wpAnyH_take (i := 20) (v := ?v20_2) rfl (by kernel_rfl) (by kernel_rfl) (by kernel_rfl) (fun _ _ _ h => h) (Or.inl ⟨by rfl, ?y20_2⟩) hS ?_
      case y20_2 => (intro w hSw; go_simp; try with_reducible rfl)
      refine wpAnyH_take (i := 21) (v := ?v21_2) rfl (by kernel_rfl) (by kernel_rfl) (by kernel_rfl) (fun _ _ _ h => h) (Or.inl ⟨by rfl, ?y21_2⟩) hS ?_
      case y21_2 => (intro w hSw; go_simp; try with_reducible rfl)
      refine wpAnyH_take (i := 22) (v := ?v22_2) rfl (by kernel_rfl) (by kernel_rfl) (by kernel_rfl) (fun _ _ _ h => h) (Or.inl ⟨by rfl, ?y22_2⟩) hS ?_
      case y22_2 => (intro w hSw; go_simp; try with_reducible rfl)
      refine wpAnyH_take (i := 23) (v := ?v23_2) rfl (by kernel_rfl) (by kernel_rfl) (by kernel_rfl) (fun _ _ _ h => h) (Or.inl ⟨by rfl, ?y23_2⟩) hS ?_
      case y23_2 => (intro w hSw; go_simp; try with_reducible rfl)
      try simp only [List.getElem_toArray, List.getElem_cons_succ, List.getElem_cons_zero, Act.put, List.setIfInBounds_toArray, List.set_cons_zero, List.set_cons_succ]
      refine wpAnyH_take (i := 24) (v := ?v24_2) rfl (by kernel_rfl) (by kernel_rfl) (by kernel_rfl) (fun _ _ _ h => h) (Or.inl ⟨by rfl, ?y24_2⟩) hS ?_
      case y24_2 => (intro w hSw; have c0 := (hSw.1).cell; have c1 := (hSw.2.1).cell; have c2 := (hSw.2.2.1).cell; have c3 := (hSw.2.2.2).cell; go_simp; try with_reducible rfl)
      refine wpAnyH_take (i := 25) (v := ?v25_2) rfl (by kernel_rfl) (by kernel_rfl) (by kernel_rfl) (fun _ _ _ h => h) (Or.inl ⟨by rfl, ?y25_2⟩) hS ?_
      case y25_2 => (intro w hSw; go_simp; try with_reducible rfl)
      refine wpAnyH_take (i := 26) (v := ?v26_2) rfl (by kernel_rfl) (by kernel_rfl) (by kernel_rfl) (fun _ _ _ h => h) (Or.inl ⟨by rfl, ?y26_2⟩) hS ?_
      case y26_2 => (intro w hSw; go_simp; try with_reducible rfl)
      refine wpAnyH_take (i := 27) (v := ?v27_2) rfl (by kernel_rfl) (by kernel_rfl) (by kernel_rfl) (fun _ _ _ h => h) (Or.inl ⟨by rfl, ?y27_2⟩) hS ?_
      case y27_2 => (intro w hSw; go_simp; try with_reducible rfl)
      try simp only [List.getElem_toArray, List.getElem_cons_succ, List.getElem_cons_zero, Act.put, List.setIfInBounds_toArray, List.set_cons_zero, List.set_cons_succ]
      refine wpAnyH_take (i := 28) rfl (by kernel_rfl) (by kernel_rfl) (by kernel_rfl) (fun _ _ _ h => h) (yields_loadA (by rfl) 41 (.tmp 13) rfl (w5.heap.size) 0 75 rfl 41 (machC Uy Y.m) (machC Uy Y.m) (fun W hSw => hSw.2.1) _ Try.underlying41 rfl (by kernel_rfl) rfl rfl) hS ?_
      try simp only [List.getElem_toArray, List.getElem_cons_succ, List.getElem_cons_zero, Act.put, List.setIfInBounds_toArray, List.set_cons_zero, List.set_cons_succ]
      refine wpAnyH_take (i := 29) (v := ?v29_2) rfl (by kernel_rfl) (by kernel_rfl) (by kernel_rfl) (fun _ _ _ h => h) (Or.inl ⟨by rfl, ?y29_2⟩) hS ?_
      case y29_2 => (intro w hSw; go_simp; try with_reducible rfl)
      refine wpAnyH_take (i := 30) (v := ?v30_2) rfl (by kernel_rfl) (by kernel_rfl) (by kernel_rfl) (fun _ _ _ h => h) (Or.inl ⟨by rfl, ?y30_2⟩) hS ?_
      case y30_2 => (intro w hSw; go_simp; try with_reducible rfl)
      refine wpAnyH_take (i := 31) (v := ?v31_2) rfl (by kernel_rfl) (by kernel_rfl) (by kernel_rfl) (fun _ _ _ h => h) (Or.inl ⟨by rfl, ?y31_2⟩) hS ?_
      case y31_2 => (intro w hSw; go_simp; try with_reducible rfl)
      try simp only [List.getElem_toArray, List.getElem_cons_succ, List.getElem_cons_zero, Act.put, List.setIfInBounds_toArray, List.set_cons_zero, List.set_cons_succ]
      refine wpAnyH_take (i := 32) rfl (by kernel_rfl) (by kernel_rfl) (by kernel_rfl) (fun _ _ _ h => h) (yields_loadA (by rfl) 41 (.tmp 134) rfl (g2) 0 75 rfl 59 (boxC U2 Y wv2) (machC U2 Y.m) (fun W hSw => hSw.2.2.2) _ Try.underlying41 rfl (by kernel_rfl) rfl rfl) hS ?_
      try simp only [List.getElem_toArray, List.getElem_cons_succ, List.getElem_cons_zero, Act.put, List.setIfInBounds_toArray, List.set_cons_zero, List.set_cons_succ]
      refine wpAnyH_ready (rs := [33]) (by kernel_rfl) (by simp) (AllReadyH.cons rfl (fun K hK => ?_) AllReadyH.nil)
      go_simp
      refine (SA.out _ _ _ _ ((MY.out.below (show Below y6.heap.size y6 y6.drew from (Below.refl _ _).drew)).below hu1) ((MV2.out.below (show Below y6.heap.size y6 y6.drew from (Below.refl _ _).drew)).below hu1)).mono ?_
      rintro e u2 ⟨rfl, hu2⟩
      try go_wp2_with fail
      refine hK.out _ _ ⟨hS.1.below hu2, hS.2.1.below hu2, hS.2.2.1.below hu2, hS.2.2.2.below hu2⟩ (fun hS => ?_)
      clear hK K
      try simp only [List.getElem_toArray, List.getElem_cons_succ, List.getElem_cons_zero, Act.put, List.setIfInBounds_toArray, List.set_cons_zero, List.set_cons_succ]
      refine wpAnyH_take (i := 34) (v := ?v34_2) rfl (by kernel_rfl) (by kernel_rfl) (by kernel_rfl) (fun _ _ _ h => h) (Or.inl ⟨by rfl, ?y34_2⟩) hS ?_
      case y34_2 => (intro w hSw; go_simp; try with_reducible rfl)
      refine wpAnyH_take (i := 35) (v := ?v35_2) rfl (by kernel_rfl) (by kernel_rfl) (by kernel_rfl) (fun _ _ _ h => h) (Or.inl ⟨by rfl, ?y35_2⟩) hS ?_
      case y35_2 => (intro w hSw; go_simp; try with_reducible rfl)
      try simp only [List.getElem_toArray, List.getElem_cons_succ, List.getElem_cons_zero, Act.put, List.setIfInBounds_toArray, List.set_cons_zero, List.set_cons_succ]
      refine wpAnyH_done (by kernel_rfl) ?_ _
      go_wp2_with (first | ((with_reducible show wpList _ _ _ _ _ _); refine wpList_storeW rfl 63 (.tmp 19) (.tmp 91) rfl (x2.heap.size) (#[.func (.func 40) #[] #[.pointer (some ⟨x4.heap.size + 2, 0, none⟩)], .func (.func 42) #[] #[.pointer (some ⟨x4.heap.size + 2, 0, none⟩), .pointer (some ⟨x4.heap.size, 0, none⟩)]]) rfl rfl 63 _ (show Blk _ (x2.heap.size) (#[.func (.func 31) #[] #[.pointer (some ⟨W9.heap.size, 0, none⟩), .pointer (some ⟨W9.heap.size + 2, 0, none⟩)], .func (.func 38) #[] #[.pointer (some ⟨W9.heap.size + 2, 0, none⟩), .pointer (some ⟨W9.heap.size + 3, 0, none⟩), .pointer (some ⟨W9.heap.size + 4, 0, none⟩), .pointer (some ⟨W9.heap.size, 0, none⟩)]]) 63 from (by repeat' (with_reducible first | exact Hid.out (by assumption) | exact Blk.new _ _ _ | (refine Blk.new_at _ _ _ _ ?_; simp; done) | refine Blk.alloc ?_ _ | refine Blk.drewN ?_ _ | refine Blk.drew ?_ | refine Blk.put ?_ (by assumption) (by first | (simp <;> omega) | omega) | refine Blk.below ?_ (by assumption)))) (by kernel_rfl) rfl (by first | (with_reducible assumption) | simp [Value.oneCell']) ?_; intro x7 hp_x7 K_x7) | (((with_reducible show wpList _ _ _ _ _ _); refine wpList_storeW rfl 63 (.tmp 20) (.tmp 93) rfl (x2.heap.size + 1) (#[.func (.func 40) #[] #[.pointer (some ⟨x5.heap.size + 2, 0, none⟩)], .func (.func 42) #[] #[.pointer (some ⟨x5.heap.size + 2, 0, none⟩), .pointer (some ⟨x5.heap.size, 0, none⟩)]]) rfl rfl 63 _ (show Blk _ (x2.heap.size + 1) (#[.func (.func 31) #[] #[.pointer (some ⟨x1.heap.size, 0, none⟩), .pointer (some ⟨x1.heap.size + 2, 0, none⟩)], .func (.func 38) #[] #[.pointer (some ⟨x1.heap.size + 2, 0, none⟩), .pointer (some ⟨x1.heap.size + 3, 0, none⟩), .pointer (some ⟨x1.heap.size + 4, 0, none⟩), .pointer (some ⟨x1.heap.size, 0, none⟩)]]) 63 from (by repeat' (with_reducible first | exact Hid.out (by assumption) | exact Blk.new _ _ _ | (refine Blk.new_at _ _ _ _ ?_; simp; done) | refine Blk.alloc ?_ _ | refine Blk.drewN ?_ _ | refine Blk.drew ?_ | refine Blk.put ?_ (by assumption) (by first | (simp <;> omega) | omega) | refine Blk.below ?_ (by assumption)))) (by kernel_rfl) rfl (by first | (with_reducible assumption) | simp [Value.oneCell']) ?_; intro x8 hp_x8 K_x8); have T1 := Lib.hid (show Blk x8 x2.heap.size (#[.func (.func 40) #[] #[.pointer (some ⟨x4.heap.size + 2, 0, none⟩)], .func (.func 42) #[] #[.pointer (some ⟨x4.heap.size + 2, 0, none⟩), .pointer (some ⟨x4.heap.size, 0, none⟩)]]) 63 from K_x7.out.put hp_x8 (by omega)); have cT1 := T1.out.cell 0; have lT1 := T1.out.lt) | go_in)
      go_ret
      exact ⟨rfl, below_then (below_then BF.out.drew hu1) hu2⟩
theorem walk (V : Nat → Value) (m : Mach) (aux : Bool) (a n : Int) (w : World) (hl : ∀ i, i < 5 → (m.mem i).length ≤ 140737488355327) (hm : MV w V m) (hi : m.In) (ha : U16 a) (hn : U8 n) : Calls Try.prog 4 #[.agg (machC V m), .bool aux, .int .u16 a, .int .u8 n] w fun e w' => e = .returned (.bool true) ∧ Below w.heap.size w w' := by
  by_cases h : m.Right
  · exact good V m aux a n w hm hi ha hn h
  · exact bad V m aux a n w hm hi ha hn h hl
end Go.Proofs.Ytimccpmdgfneoaa.busReads
