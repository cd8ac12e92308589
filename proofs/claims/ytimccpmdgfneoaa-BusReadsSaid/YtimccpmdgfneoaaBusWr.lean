/- bus.Write. Conditions: the machine's memories are slices of bytes, its fields what their types hold. -/
import Derived.Test.YtimccpmdgfneoaaBusRW
namespace Go.Proofs.Ytimccpmdgfneoaa
open Go.RowKit Go.Mq
set_option linter.unusedVariables false
set_option linter.unusedSimpArgs false
set_option maxHeartbeats 2000000
set_option maxRecDepth 100000
theorem write_bad (V : Nat → Value) (m : Mach) (aux : Bool) (a b : Int) (w : World) (hm : MV w V m) (h : ¬ m.Right) :
    Calls Try.prog 17 #[.agg (machC V m), .bool aux, .int .u16 a, .int .u8 b] w fun e w' => e = .returned (.tuple #[.agg Try.zeroCells41, .int .i64 0, .int .i64 (chk m)]) ∧ Below w.heap.size w w' := by
  have CK := Lib.hid (fun W (k : Below w.heap.size w W) => check_any V m W (hm.below k))
  have hc : chk m ≠ 0 := fun e => h ((chk_zero m).1 e)
  have ON := Lib.hid (machC_one m (fun i hi => hm.one i hi))
  obtain ⟨c, ec⟩ : ∃ c, c = chk m := ⟨_, rfl⟩
  rw [← ec] at CK hc ⊢
  have hcb : (c != 0) = true := by rw [bne_iff_ne]; exact hc
  clear hm h ec hc
  have ONZ := zeroM_one
  go_enter Try.func17, Try.ntmps17
  go_wp2_with (first | ((with_reducible show wpList _ _ _ _ _ _); refine wpList_loadW rfl 41 (.tmp 4) rfl (w.heap.size) rfl 41 (machC V m) (show Blk _ (w.heap.size) (machC V m) 41 from (by repeat' (first | (with_reducible first | exact Hid.out (by assumption) | exact Blk.new _ _ _ | (refine Blk.new_at _ _ _ _ ?_; simp; done) | refine Blk.alloc ?_ _ | refine Blk.drewN ?_ _ | refine Blk.drew ?_ | apply Blk.set | refine Blk.put ?_ (by assumption) (by first | (simp; done) | (simp; omega) | omega) | refine Blk.below ?_ (by assumption)) | (refine Blk.setAt ?_ (by first | (simp; done) | (simp; omega))) | rfl))) _ Try.underlying41 rfl (by kernel_rfl) ?_))
  refine (CK.out _ (by repeat' (first | (with_reducible first | exact Below.refl _ _ | assumption | refine below_alloc ?_ _ | refine Below.drew ?_ | refine below_drewN ?_ _ | refine below_then ?_ (by assumption) | refine below_put ?_ (by assumption) (by first | (simp; done) | (simp; omega) | omega) | refine Below.setCell ?_ ?_ _) | (simp; done) | (simp; omega) | omega))).mono ?_
  rintro e w1 ⟨rfl, hb1⟩
  go_wp2_with (first | ((with_reducible show wpList _ _ _ _ _ _); refine wpList_storeW rfl 41 (.tmp 8) (.tmp 18) rfl (w.heap.size + 1) Try.zeroCells41 rfl rfl 41 _ (show Blk _ (w.heap.size + 1) Try.zeroCells41 41 from (by repeat' (first | (with_reducible first | exact Hid.out (by assumption) | exact Blk.new _ _ _ | (refine Blk.new_at _ _ _ _ ?_; simp; done) | refine Blk.alloc ?_ _ | refine Blk.drewN ?_ _ | refine Blk.drew ?_ | apply Blk.set | refine Blk.put ?_ (by assumption) (by first | (simp; done) | (simp; omega) | omega) | refine Blk.below ?_ (by assumption)) | (refine Blk.setAt ?_ (by first | (simp; done) | (simp; omega))) | rfl))) (by kernel_rfl) rfl (by first | (with_reducible assumption) | simp [Value.oneCell']) ?_; intro w2 hp_w2 K_w2))
  exact bodyPost_ret (results_ctt Try.results17 _ _ (w.heap.size + 1) 41 _ _ rfl K_w2.out Try.underlying41 rfl (by kernel_rfl)) rfl ⟨rfl, by repeat' (first | (with_reducible first | exact Below.refl _ _ | assumption | refine below_alloc ?_ _ | refine Below.drew ?_ | refine below_drewN ?_ _ | refine below_then ?_ (by assumption) | refine below_put ?_ (by assumption) (by first | (simp; done) | (simp; omega) | omega) | refine Below.setCell ?_ ?_ _) | (simp; done) | (simp; omega) | omega)⟩
theorem write_main (V : Nat → Value) (m : Mach) (a b : Int) (ha : U16 a) (hb : U8 b) (w : World) (hm : MV w V m) (hi : m.In) (h : m.Right) :
    Calls Try.prog 17 #[.agg (machC V m), .bool false, .int .u16 a, .int .u8 b] w fun e w' => ∃ U, e = .returned (.tuple #[.agg (machC U (writeX m false a b).m), .int .i64 (writeX m false a b).dl, .int .i64 0]) ∧ ToldM w w' U (writeX m false a b).m := by
  obtain ⟨X, hX⟩ : ∃ X, X = mainP ⟨m, [], 0⟩ a b := ⟨_, rfl⟩
  have eX : writeX m false a b = X := by unfold writeX; rw [if_neg Bool.false_ne_true, hX]
  rw [eX]
  have GT := Lib.hid (fun (w0 : World) (V : Nat → Value) (bb B H : Nat) (L : LiesX V bb B H) (w : World) (h : RelX 70 w0 V bb H w ⟨m, [], 0⟩) (hB : B ≤ w.heap.size) => @mainPut_any w0 V bb B H L w ⟨m, [], 0⟩ a b ha hb h hB)
  rw [← hX] at GT
  clear hX eX
  have CK := Lib.hid (fun W (k : Below w.heap.size w W) => check_any V m W (hm.below k))
  rw [(chk_zero m).2 h] at CK
  have CP := Lib.hid (fun W (k : Below w.heap.size w W) => copy_any V m W (hm.below k) h.lens)
  have ON := Lib.hid (machC_one m (fun i hi => hm.one i hi))
  have HF := Lib.hid (And.intro h.fit hi)
  have BN := Lib.hid box_new
  clear hm h hi
  go_enter Try.func17, Try.ntmps17
  go_wp2_with (first | ((with_reducible show wpList _ _ _ _ _ _); refine wpList_loadW rfl 41 (.tmp 4) rfl (w.heap.size) rfl 41 (machC V m) (show Blk _ (w.heap.size) (machC V m) 41 from (by repeat' (first | (with_reducible first | exact Hid.out (by assumption) | exact Blk.new _ _ _ | (refine Blk.new_at _ _ _ _ ?_; simp; done) | refine Blk.alloc ?_ _ | refine Blk.drewN ?_ _ | refine Blk.drew ?_ | apply Blk.set | refine Blk.put ?_ (by assumption) (by first | (simp; done) | (simp; omega) | omega) | refine Blk.below ?_ (by assumption)) | (refine Blk.setAt ?_ (by first | (simp; done) | (simp; omega))) | rfl))) _ Try.underlying41 rfl (by kernel_rfl) ?_))
  refine (CK.out _ (by repeat' (first | (with_reducible first | exact Below.refl _ _ | assumption | refine below_alloc ?_ _ | refine Below.drew ?_ | refine below_drewN ?_ _ | refine below_then ?_ (by assumption) | refine below_put ?_ (by assumption) (by first | (simp; done) | (simp; omega) | omega) | refine Below.setCell ?_ ?_ _) | (simp; done) | (simp; omega) | omega))).mono ?_
  rintro e w1 ⟨rfl, hb1⟩
  have s1 := hb1.size
  have K1 := Lib.hid (show Blk w1 w.heap.size (machC V m) 41 from (by repeat' (first | (with_reducible first | exact Hid.out (by assumption) | exact Blk.new _ _ _ | (refine Blk.new_at _ _ _ _ ?_; simp; done) | refine Blk.alloc ?_ _ | refine Blk.drewN ?_ _ | refine Blk.drew ?_ | apply Blk.set | refine Blk.put ?_ (by assumption) (by first | (simp; done) | (simp; omega) | omega) | refine Blk.below ?_ (by assumption)) | (refine Blk.setAt ?_ (by first | (simp; done) | (simp; omega))) | rfl)))
  have Z1 := Lib.hid (show Blk w1 (w.heap.size + 1) Try.zeroCells41 41 from (by repeat' (first | (with_reducible first | exact Hid.out (by assumption) | exact Blk.new _ _ _ | (refine Blk.new_at _ _ _ _ ?_; simp; done) | refine Blk.alloc ?_ _ | refine Blk.drewN ?_ _ | refine Blk.drew ?_ | apply Blk.set | refine Blk.put ?_ (by assumption) (by first | (simp; done) | (simp; omega) | omega) | refine Blk.below ?_ (by assumption)) | (refine Blk.setAt ?_ (by first | (simp; done) | (simp; omega))) | rfl)))
  have B1 : Below w.heap.size w w1 := by repeat' (first | (with_reducible first | exact Below.refl _ _ | assumption | refine below_alloc ?_ _ | refine Below.drew ?_ | refine below_drewN ?_ _ | refine below_then ?_ (by assumption) | refine below_put ?_ (by assumption) (by first | (simp; done) | (simp; omega) | omega) | refine Below.setCell ?_ ?_ _) | (simp; done) | (simp; omega) | omega)
  clear hb1
  go_wp2_with (first | ((with_reducible show wpList _ _ _ _ _ _); refine wpList_loadW rfl 41 (.tmp 4) rfl (w.heap.size) rfl 41 (machC V m) (show Blk _ (w.heap.size) (machC V m) 41 from (by repeat' (first | (with_reducible first | exact Hid.out (by assumption) | exact Blk.new _ _ _ | (refine Blk.new_at _ _ _ _ ?_; simp; done) | refine Blk.alloc ?_ _ | refine Blk.drewN ?_ _ | refine Blk.drew ?_ | apply Blk.set | refine Blk.put ?_ (by assumption) (by first | (simp; done) | (simp; omega) | omega) | refine Blk.below ?_ (by assumption)) | (refine Blk.setAt ?_ (by first | (simp; done) | (simp; omega))) | rfl))) _ Try.underlying41 rfl (by kernel_rfl) ?_))
  refine (CP.out _ B1).mono ?_
  rintro e w2 ⟨U, rfl, FR⟩
  have q1 : w.heap.size + 2 ≤ w1.heap.size := by simpa using s1
  have s2 := FR.below.size
  have Z2 := Lib.hid (Z1.out.below FR.below)
  have B2 : Below w.heap.size w w2 := below_then B1 FR.below
  have FH := Lib.hid FR
  clear K1 FR s1 CK CP
  go_wp2_with fail
  rw [BN.out]
  refine (mkmain_any w2.heap.size _).mono ?_
  rintro e w3 ⟨rfl, hb3⟩
  have s3 := hb3.size
  have q3 : w2.heap.size + 1 ≤ w3.heap.size := by simpa using s3
  have Z3 := Lib.hid ((Z2.out.alloc _).below hb3)
  have NX := Lib.hid (relX_new FH.out HF.out.1 HF.out.2 (W' := w3) (bb := w2.heap.size) (T := 70) rfl (((Below.refl _ _).alloc (Nat.le_refl _) _).trans (hb3.mono (by simp))) ((Blk.new w2 _ _).below hb3))
  have B3 : Below w.heap.size w w3 := B2.trans (((Below.refl w2.heap.size w2).alloc (Nat.le_refl _) _).trans (hb3.mono (by simp)) |>.mono (by omega))
  clear hb3 B2 BN FH s3
  go_wp2_with (first | (((with_reducible show wpList _ _ _ _ _ _); refine wpList_storeW rfl 72 (.tmp 13) (.tmp 25) rfl (w3.heap.size) #[.func (.func 45) #[.pointer (some ⟨w2.heap.size, 0, none⟩)] #[], .func (.func 46) #[.pointer (some ⟨w2.heap.size, 0, none⟩)] #[]] rfl rfl 72 _ (show Blk _ (w3.heap.size) #[.nilFunc, .nilFunc] 72 from (by repeat' (first | (with_reducible first | exact Hid.out (by assumption) | exact Blk.new _ _ _ | (refine Blk.new_at _ _ _ _ ?_; simp; done) | refine Blk.alloc ?_ _ | refine Blk.drewN ?_ _ | refine Blk.drew ?_ | apply Blk.set | refine Blk.put ?_ (by assumption) (by first | (simp; done) | (simp; omega) | omega) | refine Blk.below ?_ (by assumption)) | (refine Blk.setAt ?_ (by first | (simp; done) | (simp; omega))) | rfl))) (by kernel_rfl) rfl (by first | (with_reducible assumption) | simp [Value.oneCell']) ?_; intro w4 hp_w4 K_w4); obtain ⟨l4, c4, f4⟩ := K_w4.out.use))
  have q4 : w3.heap.size + 1 ≤ w4.heap.size := by have := hp_w4.size; simp at this; omega
  refine (GT.out _ _ _ _ _ NX.out.2 _ (NX.out.1.stable NX.out.2 (St.of (n := w3.heap.size) (by repeat' (first | (with_reducible first | exact Below.refl _ _ | assumption | refine below_alloc ?_ _ | refine Below.drew ?_ | refine below_drewN ?_ _ | refine below_then ?_ (by assumption) | refine below_put ?_ (by assumption) (by first | (simp; done) | (simp; omega) | omega) | refine Below.setCell ?_ ?_ _) | (simp; done) | (simp; omega) | omega)) (by omega) (Nat.le_refl _))) (by omega)).mono ?_
  rintro e w6 ⟨rfl, hr6, hk6⟩
  have s6 := hk6.size
  have Z6 := Lib.hid (Z1.out.below hr6.old)
  have R6 := Lib.hid hr6
  obtain ⟨-, ⟨wv, hbx, -⟩, -, -, -⟩ := hr6
  have KB6 := Lib.hid hbx
  have ONU := machC_one (V := U) X.m (fun i hi => by obtain ⟨a', c', h'⟩ := own_shape (R6.out.mems i hi); rw [h']; rfl)
  have zs : (Try.zeroCells41).size = 75 := by kernel_rfl
  have LX := Lib.hid NX.out.2
  clear hbx hk6 Z3 NX B3
  go_wp2_with fail
  have c76 : w6.drew.cell? ⟨w2.heap.size, 76, none⟩ = some (.int .i64 X.dl) := (KB6.out.drew.cell 76).trans (bx76 ..)
  refine wp_region_F (fun k W => (k = 3 → Blk W (w2.heap.size) (boxC U X wv) 70) ∧ (k = 7 → W.cell? ⟨w2.heap.size, 76, none⟩ = some (.int .i64 X.dl))) [0, 1, 2, 3, 4, 5, 6, 7, 9, 10] (by kernel_rfl) ?_
  refine wpAnyF_take (i := 0) (v := ?v0_1) rfl (by kernel_rfl) (by kernel_rfl) (by kernel_rfl) (by kernel_rfl) (fun _ _ _ h => h) (Or.inl ⟨by rfl, ?y0_1⟩) ⟨(fun h => absurd h (by decide)), (fun h => absurd h (by decide))⟩ ?_
  case y0_1 => (intro w hF; clear hF; go_simp; try with_reducible rfl)
  try simp only [List.getElem_toArray, List.getElem_cons_succ, List.getElem_cons_zero, Act.put, List.setIfInBounds_toArray, List.set_cons_zero, List.set_cons_succ]
  refine wpAnyF_take (i := 1) (v := ?v1_1) rfl (by kernel_rfl) (by kernel_rfl) (by kernel_rfl) (by kernel_rfl) (fun _ _ _ h => h) (Or.inl ⟨by rfl, ?y1_1⟩) ⟨(fun h => absurd h (by decide)), (fun h => absurd h (by decide))⟩ ?_
  case y1_1 => (intro w hF; clear hF; go_simp; try with_reducible rfl)
  try simp only [List.getElem_toArray, List.getElem_cons_succ, List.getElem_cons_zero, Act.put, List.setIfInBounds_toArray, List.set_cons_zero, List.set_cons_succ]
  refine wpAnyF_take (i := 2) (v := ?v2_1) rfl (by kernel_rfl) (by kernel_rfl) (by kernel_rfl) (by kernel_rfl) (fun _ _ _ h => h) (Or.inl ⟨by rfl, ?y2_1⟩) ⟨(fun h => absurd h (by decide)), (fun h => absurd h (by decide))⟩ ?_
  case y2_1 => (intro w hF; clear hF; go_simp; try with_reducible rfl)
  try simp only [List.getElem_toArray, List.getElem_cons_succ, List.getElem_cons_zero, Act.put, List.setIfInBounds_toArray, List.set_cons_zero, List.set_cons_succ]
  refine wpAnyF_take (i := 3) rfl (by kernel_rfl) (by kernel_rfl) (by kernel_rfl) (by kernel_rfl) (fun _ _ _ h => h) (yields_loadA (by rfl) 41 (.tmp 36) rfl (w2.heap.size) 0 75 rfl 70 (boxC U X wv) (machC U X.m) (fun W hF => hF.1 rfl) _ Try.underlying41 rfl (by kernel_rfl) rfl rfl) ⟨(fun _ => KB6.out.drew), (fun h => absurd h (by decide))⟩ ?_
  try simp only [List.getElem_toArray, List.getElem_cons_succ, List.getElem_cons_zero, Act.put, List.setIfInBounds_toArray, List.set_cons_zero, List.set_cons_succ]
  refine wpAnyF_take (i := 4) (v := ?v4_1) rfl (by kernel_rfl) (by kernel_rfl) (by kernel_rfl) (by kernel_rfl) (fun _ _ _ h => h) (Or.inl ⟨by rfl, ?y4_1⟩) ⟨(fun h => absurd h (by decide)), (fun h => absurd h (by decide))⟩ ?_
  case y4_1 => (intro w hF; clear hF; go_simp; try with_reducible rfl)
  try simp only [List.getElem_toArray, List.getElem_cons_succ, List.getElem_cons_zero, Act.put, List.setIfInBounds_toArray, List.set_cons_zero, List.set_cons_succ]
  refine wpAnyF_take (i := 5) (v := ?v5_1) rfl (by kernel_rfl) (by kernel_rfl) (by kernel_rfl) (by kernel_rfl) (fun _ _ _ h => h) (Or.inl ⟨by rfl, ?y5_1⟩) ⟨(fun h => absurd h (by decide)), (fun h => absurd h (by decide))⟩ ?_
  case y5_1 => (intro w hF; clear hF; go_simp; try with_reducible rfl)
  try simp only [List.getElem_toArray, List.getElem_cons_succ, List.getElem_cons_zero, Act.put, List.setIfInBounds_toArray, List.set_cons_zero, List.set_cons_succ]
  refine wpAnyF_take (i := 6) (v := ?v6_1) rfl (by kernel_rfl) (by kernel_rfl) (by kernel_rfl) (by kernel_rfl) (fun _ _ _ h => h) (Or.inl ⟨by rfl, ?y6_1⟩) ⟨(fun h => absurd h (by decide)), (fun h => absurd h (by decide))⟩ ?_
  case y6_1 => (intro w hF; clear hF; go_simp; try with_reducible rfl)
  try simp only [List.getElem_toArray, List.getElem_cons_succ, List.getElem_cons_zero, Act.put, List.setIfInBounds_toArray, List.set_cons_zero, List.set_cons_succ]
  refine wpAnyF_take (i := 7) (v := ?v7_1) rfl (by kernel_rfl) (by kernel_rfl) (by kernel_rfl) (by kernel_rfl) (fun _ _ _ h => h) (Or.inl ⟨by rfl, ?y7_1⟩) ⟨(fun h => absurd h (by decide)), (fun _ => c76)⟩ ?_
  case y7_1 => (intro w hF; have hF2 := hF.2 rfl; clear hF; go_simp; try with_reducible rfl)
  try simp only [List.getElem_toArray, List.getElem_cons_succ, List.getElem_cons_zero, Act.put, List.setIfInBounds_toArray, List.set_cons_zero, List.set_cons_succ]
  refine wpAnyF_ready (rs := [8]) (by kernel_rfl) (by simp) (AllReadyF.cons rfl (fun K hK => ?_) AllReadyF.nil)
  rw [if_pos (by rfl)]
  refine wp_storeW 41 (.tmp 8) (.tmp 37) rfl (w.heap.size + 1) (machC U X.m) rfl rfl 41 Try.zeroCells41 Z6.out.drew (by kernel_rfl) zs ONU ?_
  intro w7 hp_w7 K_w7
  have KP7 : Blk w7 w2.heap.size (boxC U X wv) 70 := KB6.out.drew.put hp_w7 (by omega)
  refine hK.out _ _ (Sat.all (by kernel_rfl) (fun k => ⟨fun _ => KP7, fun _ => (KP7.cell 76).trans (bx76 ..)⟩)) ?_
  clear KP7
  clear hK K
  refine wpAnyF_take (i := 9) (v := ?v9_2) rfl (by kernel_rfl) (by kernel_rfl) (by kernel_rfl) (by kernel_rfl) (fun _ _ _ h => h) (Or.inl ⟨by rfl, ?y9_2⟩) ⟨(fun h => absurd h (by decide)), (fun h => absurd h (by decide))⟩ ?_
  case y9_2 => (intro w hF; clear hF; go_simp; try with_reducible rfl)
  try simp only [List.getElem_toArray, List.getElem_cons_succ, List.getElem_cons_zero, Act.put, List.setIfInBounds_toArray, List.set_cons_zero, List.set_cons_succ]
  refine wpAnyF_take (i := 10) (v := ?v10_2) rfl (by kernel_rfl) (by kernel_rfl) (by kernel_rfl) (by kernel_rfl) (fun _ _ _ h => h) (Or.inl ⟨by rfl, ?y10_2⟩) ⟨(fun h => absurd h (by decide)), (fun h => absurd h (by decide))⟩ ?_
  case y10_2 => (intro w hF; clear hF; go_simp; try with_reducible rfl)
  try simp only [List.getElem_toArray, List.getElem_cons_succ, List.getElem_cons_zero, Act.put, List.setIfInBounds_toArray, List.set_cons_zero, List.set_cons_succ]
  refine wpAnyF_done (by kernel_rfl) ?_ _
  go_wp2
  have B7 : Below w.heap.size w w7 := B1.trans ((R6.out.old.drew.mono (Nat.le_trans (Nat.le_of_lt (by omega)) (Nat.le_refl _))).trans ((hp_w7.below).mono (by omega)))
  refine bodyPost_ret (results_ctt Try.results17 _ _ (w.heap.size + 1) 41 _ _ rfl K_w7.out Try.underlying41 rfl (by kernel_rfl)) rfl ⟨U, rfl, B7, (RelX.mv_put (w := w6.drew) ⟨R6.out.old.drew, by obtain ⟨wv', h1, h2⟩ := R6.out.box; exact ⟨wv', h1.drew, h2⟩, R6.out.mems, R6.out.fit, R6.out.inn⟩ LX.out (by omega) hp_w7), R6.out.inn, R6.out.fit, fun i g hi hg => by have := (LX.out.own i g hi hg).1; omega⟩
theorem write_aux (V : Nat → Value) (m : Mach) (a b : Int) (ha : U16 a) (hb : U8 b) (w : World) (hm : MV w V m) (hi : m.In) (h : m.Right) :
    Calls Try.prog 17 #[.agg (machC V m), .bool true, .int .u16 a, .int .u8 b] w fun e w' => ∃ U, e = .returned (.tuple #[.agg (machC U (writeX m true a b).m), .int .i64 (writeX m true a b).dl, .int .i64 0]) ∧ ToldM w w' U (writeX m true a b).m := by
  obtain ⟨X, hX⟩ : ∃ X, X = auxP ⟨m, [], 0⟩ a b := ⟨_, rfl⟩
  have eX : writeX m true a b = X := by unfold writeX; rw [if_pos rfl, hX]
  rw [eX]
  have GT := Lib.hid (fun (w0 : World) (V : Nat → Value) (bb B H : Nat) (L : LiesX V bb B H) (w : World) (h : RelX 70 w0 V bb H w ⟨m, [], 0⟩) (hB : B ≤ w.heap.size) => @auxPut_any w0 V bb B H L w ⟨m, [], 0⟩ a b ha hb (by simp) h hB)
  rw [← hX] at GT
  clear hX eX
  have CK := Lib.hid (fun W (k : Below w.heap.size w W) => check_any V m W (hm.below k))
  rw [(chk_zero m).2 h] at CK
  have CP := Lib.hid (fun W (k : Below w.heap.size w W) => copy_any V m W (hm.below k) h.lens)
  have ON := Lib.hid (machC_one m (fun i hi => hm.one i hi))
  have HF := Lib.hid (And.intro h.fit hi)
  have BN := Lib.hid box_new
  clear hm h hi
  go_enter Try.func17, Try.ntmps17
  go_wp2_with (first | ((with_reducible show wpList _ _ _ _ _ _); refine wpList_loadW rfl 41 (.tmp 4) rfl (w.heap.size) rfl 41 (machC V m) (show Blk _ (w.heap.size) (machC V m) 41 from (by repeat' (first | (with_reducible first | exact Hid.out (by assumption) | exact Blk.new _ _ _ | (refine Blk.new_at _ _ _ _ ?_; simp; done) | refine Blk.alloc ?_ _ | refine Blk.drewN ?_ _ | refine Blk.drew ?_ | apply Blk.set | refine Blk.put ?_ (by assumption) (by first | (simp; done) | (simp; omega) | omega) | refine Blk.below ?_ (by assumption)) | (refine Blk.setAt ?_ (by first | (simp; done) | (simp; omega))) | rfl))) _ Try.underlying41 rfl (by kernel_rfl) ?_))
  refine (CK.out _ (by repeat' (first | (with_reducible first | exact Below.refl _ _ | assumption | refine below_alloc ?_ _ | refine Below.drew ?_ | refine below_drewN ?_ _ | refine below_then ?_ (by assumption) | refine below_put ?_ (by assumption) (by first | (simp; done) | (simp; omega) | omega) | refine Below.setCell ?_ ?_ _) | (simp; done) | (simp; omega) | omega))).mono ?_
  rintro e w1 ⟨rfl, hb1⟩
  have s1 := hb1.size
  have K1 := Lib.hid (show Blk w1 w.heap.size (machC V m) 41 from (by repeat' (first | (with_reducible first | exact Hid.out (by assumption) | exact Blk.new _ _ _ | (refine Blk.new_at _ _ _ _ ?_; simp; done) | refine Blk.alloc ?_ _ | refine Blk.drewN ?_ _ | refine Blk.drew ?_ | apply Blk.set | refine Blk.put ?_ (by assumption) (by first | (simp; done) | (simp; omega) | omega) | refine Blk.below ?_ (by assumption)) | (refine Blk.setAt ?_ (by first | (simp; done) | (simp; omega))) | rfl)))
  have Z1 := Lib.hid (show Blk w1 (w.heap.size + 1) Try.zeroCells41 41 from (by repeat' (first | (with_reducible first | exact Hid.out (by assumption) | exact Blk.new _ _ _ | (refine Blk.new_at _ _ _ _ ?_; simp; done) | refine Blk.alloc ?_ _ | refine Blk.drewN ?_ _ | refine Blk.drew ?_ | apply Blk.set | refine Blk.put ?_ (by assumption) (by first | (simp; done) | (simp; omega) | omega) | refine Blk.below ?_ (by assumption)) | (refine Blk.setAt ?_ (by first | (simp; done) | (simp; omega))) | rfl)))
  have B1 : Below w.heap.size w w1 := by repeat' (first | (with_reducible first | exact Below.refl _ _ | assumption | refine below_alloc ?_ _ | refine Below.drew ?_ | refine below_drewN ?_ _ | refine below_then ?_ (by assumption) | refine below_put ?_ (by assumption) (by first | (simp; done) | (simp; omega) | omega) | refine Below.setCell ?_ ?_ _) | (simp; done) | (simp; omega) | omega)
  clear hb1
  go_wp2_with (first | ((with_reducible show wpList _ _ _ _ _ _); refine wpList_loadW rfl 41 (.tmp 4) rfl (w.heap.size) rfl 41 (machC V m) (show Blk _ (w.heap.size) (machC V m) 41 from (by repeat' (first | (with_reducible first | exact Hid.out (by assumption) | exact Blk.new _ _ _ | (refine Blk.new_at _ _ _ _ ?_; simp; done) | refine Blk.alloc ?_ _ | refine Blk.drewN ?_ _ | refine Blk.drew ?_ | apply Blk.set | refine Blk.put ?_ (by assumption) (by first | (simp; done) | (simp; omega) | omega) | refine Blk.below ?_ (by assumption)) | (refine Blk.setAt ?_ (by first | (simp; done) | (simp; omega))) | rfl))) _ Try.underlying41 rfl (by kernel_rfl) ?_))
  refine (CP.out _ B1).mono ?_
  rintro e w2 ⟨U, rfl, FR⟩
  have q1 : w.heap.size + 2 ≤ w1.heap.size := by simpa using s1
  have s2 := FR.below.size
  have Z2 := Lib.hid (Z1.out.below FR.below)
  have B2 : Below w.heap.size w w2 := below_then B1 FR.below
  have FH := Lib.hid FR
  clear K1 FR s1 CK CP
  go_wp2_with fail
  rw [BN.out]
  refine (mkmain_any w2.heap.size _).mono ?_
  rintro e w3 ⟨rfl, hb3⟩
  have s3 := hb3.size
  have q3 : w2.heap.size + 1 ≤ w3.heap.size := by simpa using s3
  have Z3 := Lib.hid ((Z2.out.alloc _).below hb3)
  have NX := Lib.hid (relX_new FH.out HF.out.1 HF.out.2 (W' := w3) (bb := w2.heap.size) (T := 70) rfl (((Below.refl _ _).alloc (Nat.le_refl _) _).trans (hb3.mono (by simp))) ((Blk.new w2 _ _).below hb3))
  have B3 : Below w.heap.size w w3 := B2.trans (((Below.refl w2.heap.size w2).alloc (Nat.le_refl _) _).trans (hb3.mono (by simp)) |>.mono (by omega))
  clear hb3 B2 BN FH s3
  go_wp2_with (first | (((with_reducible show wpList _ _ _ _ _ _); refine wpList_storeW rfl 72 (.tmp 13) (.tmp 25) rfl (w3.heap.size) #[.func (.func 45) #[.pointer (some ⟨w2.heap.size, 0, none⟩)] #[], .func (.func 46) #[.pointer (some ⟨w2.heap.size, 0, none⟩)] #[]] rfl rfl 72 _ (show Blk _ (w3.heap.size) #[.nilFunc, .nilFunc] 72 from (by repeat' (first | (with_reducible first | exact Hid.out (by assumption) | exact Blk.new _ _ _ | (refine Blk.new_at _ _ _ _ ?_; simp; done) | refine Blk.alloc ?_ _ | refine Blk.drewN ?_ _ | refine Blk.drew ?_ | apply Blk.set | refine Blk.put ?_ (by assumption) (by first | (simp; done) | (simp; omega) | omega) | refine Blk.below ?_ (by assumption)) | (refine Blk.setAt ?_ (by first | (simp; done) | (simp; omega))) | rfl))) (by kernel_rfl) rfl (by first | (with_reducible assumption) | simp [Value.oneCell']) ?_; intro wa hp_wa K_wa); have la := K_wa.out.lt))
  have qa : w3.heap.size + 1 ≤ wa.heap.size := by have := hp_wa.size; simp at this; omega
  refine (mkaux_any w2.heap.size _).mono ?_
  rintro e wb ⟨rfl, hbb⟩
  have sb := hbb.size
  go_wp2_with (first | (((with_reducible show wpList _ _ _ _ _ _); refine wpList_storeW rfl 72 (.tmp 13) (.tmp 28) rfl (w3.heap.size) #[.func (.func 48) #[.pointer (some ⟨w2.heap.size, 0, none⟩)] #[], .func (.func 49) #[.pointer (some ⟨w2.heap.size, 0, none⟩)] #[]] rfl rfl 72 _ (show Blk _ (w3.heap.size) #[.func (.func 45) #[.pointer (some ⟨w2.heap.size, 0, none⟩)] #[], .func (.func 46) #[.pointer (some ⟨w2.heap.size, 0, none⟩)] #[]] 72 from (by repeat' (first | (with_reducible first | exact Hid.out (by assumption) | exact Blk.new _ _ _ | (refine Blk.new_at _ _ _ _ ?_; simp; done) | refine Blk.alloc ?_ _ | refine Blk.drewN ?_ _ | refine Blk.drew ?_ | apply Blk.set | refine Blk.put ?_ (by assumption) (by first | (simp; done) | (simp; omega) | omega) | refine Blk.below ?_ (by assumption)) | (refine Blk.setAt ?_ (by first | (simp; done) | (simp; omega))) | rfl))) (by kernel_rfl) rfl (by first | (with_reducible assumption) | simp [Value.oneCell']) ?_; intro w4 hp_w4 K_w4); obtain ⟨l4, c4, f4⟩ := K_w4.out.use))
  have q4 : w3.heap.size + 1 ≤ w4.heap.size := by have := hp_w4.size; omega
  refine (GT.out _ _ _ _ _ NX.out.2 _ (NX.out.1.stable NX.out.2 (St.of (n := w3.heap.size) (by repeat' (first | (with_reducible first | exact Below.refl _ _ | assumption | refine below_alloc ?_ _ | refine Below.drew ?_ | refine below_drewN ?_ _ | refine below_then ?_ (by assumption) | refine below_put ?_ (by assumption) (by first | (simp; done) | (simp; omega) | omega) | refine Below.setCell ?_ ?_ _) | (simp; done) | (simp; omega) | omega)) (by omega) (Nat.le_refl _))) (by omega)).mono ?_
  rintro e w6 ⟨rfl, hr6, hk6⟩
  have s6 := hk6.size
  have Z6 := Lib.hid (Z1.out.below hr6.old)
  have R6 := Lib.hid hr6
  obtain ⟨-, ⟨wv, hbx, -⟩, -, -, -⟩ := hr6
  have KB6 := Lib.hid hbx
  have ONU := machC_one (V := U) X.m (fun i hi => by obtain ⟨a', c', h'⟩ := own_shape (R6.out.mems i hi); rw [h']; rfl)
  have zs : (Try.zeroCells41).size = 75 := by kernel_rfl
  have LX := Lib.hid NX.out.2
  clear hbx hk6 Z3 NX B3
  go_wp2_with fail
  have c76 : w6.drew.cell? ⟨w2.heap.size, 76, none⟩ = some (.int .i64 X.dl) := (KB6.out.drew.cell 76).trans (bx76 ..)
  refine wp_region_F (fun k W => (k = 3 → Blk W (w2.heap.size) (boxC U X wv) 70) ∧ (k = 7 → W.cell? ⟨w2.heap.size, 76, none⟩ = some (.int .i64 X.dl))) [0, 1, 2, 3, 4, 5, 6, 7, 9, 10] (by kernel_rfl) ?_
  refine wpAnyF_take (i := 0) (v := ?v0_3) rfl (by kernel_rfl) (by kernel_rfl) (by kernel_rfl) (by kernel_rfl) (fun _ _ _ h => h) (Or.inl ⟨by rfl, ?y0_3⟩) ⟨(fun h => absurd h (by decide)), (fun h => absurd h (by decide))⟩ ?_
  case y0_3 => (intro w hF; clear hF; go_simp; try with_reducible rfl)
  try simp only [List.getElem_toArray, List.getElem_cons_succ, List.getElem_cons_zero, Act.put, List.setIfInBounds_toArray, List.set_cons_zero, List.set_cons_succ]
  refine wpAnyF_take (i := 1) (v := ?v1_3) rfl (by kernel_rfl) (by kernel_rfl) (by kernel_rfl) (by kernel_rfl) (fun _ _ _ h => h) (Or.inl ⟨by rfl, ?y1_3⟩) ⟨(fun h => absurd h (by decide)), (fun h => absurd h (by decide))⟩ ?_
  case y1_3 => (intro w hF; clear hF; go_simp; try with_reducible rfl)
  try simp only [List.getElem_toArray, List.getElem_cons_succ, List.getElem_cons_zero, Act.put, List.setIfInBounds_toArray, List.set_cons_zero, List.set_cons_succ]
  refine wpAnyF_take (i := 2) (v := ?v2_3) rfl (by kernel_rfl) (by kernel_rfl) (by kernel_rfl) (by kernel_rfl) (fun _ _ _ h => h) (Or.inl ⟨by rfl, ?y2_3⟩) ⟨(fun h => absurd h (by decide)), (fun h => absurd h (by decide))⟩ ?_
  case y2_3 => (intro w hF; clear hF; go_simp; try with_reducible rfl)
  try simp only [List.getElem_toArray, List.getElem_cons_succ, List.getElem_cons_zero, Act.put, List.setIfInBounds_toArray, List.set_cons_zero, List.set_cons_succ]
  refine wpAnyF_take (i := 3) rfl (by kernel_rfl) (by kernel_rfl) (by kernel_rfl) (by kernel_rfl) (fun _ _ _ h => h) (yields_loadA (by rfl) 41 (.tmp 36) rfl (w2.heap.size) 0 75 rfl 70 (boxC U X wv) (machC U X.m) (fun W hF => hF.1 rfl) _ Try.underlying41 rfl (by kernel_rfl) rfl rfl) ⟨(fun _ => KB6.out.drew), (fun h => absurd h (by decide))⟩ ?_
  try simp only [List.getElem_toArray, List.getElem_cons_succ, List.getElem_cons_zero, Act.put, List.setIfInBounds_toArray, List.set_cons_zero, List.set_cons_succ]
  refine wpAnyF_take (i := 4) (v := ?v4_3) rfl (by kernel_rfl) (by kernel_rfl) (by kernel_rfl) (by kernel_rfl) (fun _ _ _ h => h) (Or.inl ⟨by rfl, ?y4_3⟩) ⟨(fun h => absurd h (by decide)), (fun h => absurd h (by decide))⟩ ?_
  case y4_3 => (intro w hF; clear hF; go_simp; try with_reducible rfl)
  try simp only [List.getElem_toArray, List.getElem_cons_succ, List.getElem_cons_zero, Act.put, List.setIfInBounds_toArray, List.set_cons_zero, List.set_cons_succ]
  refine wpAnyF_take (i := 5) (v := ?v5_3) rfl (by kernel_rfl) (by kernel_rfl) (by kernel_rfl) (by kernel_rfl) (fun _ _ _ h => h) (Or.inl ⟨by rfl, ?y5_3⟩) ⟨(fun h => absurd h (by decide)), (fun h => absurd h (by decide))⟩ ?_
  case y5_3 => (intro w hF; clear hF; go_simp; try with_reducible rfl)
  try simp only [List.getElem_toArray, List.getElem_cons_succ, List.getElem_cons_zero, Act.put, List.setIfInBounds_toArray, List.set_cons_zero, List.set_cons_succ]
  refine wpAnyF_take (i := 6) (v := ?v6_3) rfl (by kernel_rfl) (by kernel_rfl) (by kernel_rfl) (by kernel_rfl) (fun _ _ _ h => h) (Or.inl ⟨by rfl, ?y6_3⟩) ⟨(fun h => absurd h (by decide)), (fun h => absurd h (by decide))⟩ ?_
  case y6_3 => (intro w hF; clear hF; go_simp; try with_reducible rfl)
  try simp only [List.getElem_toArray, List.getElem_cons_succ, List.getElem_cons_zero, Act.put, List.setIfInBounds_toArray, List.set_cons_zero, List.set_cons_succ]
  refine wpAnyF_take (i := 7) (v := ?v7_3) rfl (by kernel_rfl) (by kernel_rfl) (by kernel_rfl) (by kernel_rfl) (fun _ _ _ h => h) (Or.inl ⟨by rfl, ?y7_3⟩) ⟨(fun h => absurd h (by decide)), (fun _ => c76)⟩ ?_
  case y7_3 => (intro w hF; have hF2 := hF.2 rfl; clear hF; go_simp; try with_reducible rfl)
  try simp only [List.getElem_toArray, List.getElem_cons_succ, List.getElem_cons_zero, Act.put, List.setIfInBounds_toArray, List.set_cons_zero, List.set_cons_succ]
  refine wpAnyF_ready (rs := [8]) (by kernel_rfl) (by simp) (AllReadyF.cons rfl (fun K hK => ?_) AllReadyF.nil)
  rw [if_pos (by rfl)]
  refine wp_storeW 41 (.tmp 8) (.tmp 37) rfl (w.heap.size + 1) (machC U X.m) rfl rfl 41 Try.zeroCells41 Z6.out.drew (by kernel_rfl) zs ONU ?_
  intro w7 hp_w7 K_w7
  have KP7 : Blk w7 w2.heap.size (boxC U X wv) 70 := KB6.out.drew.put hp_w7 (by omega)
  refine hK.out _ _ (Sat.all (by kernel_rfl) (fun k => ⟨fun _ => KP7, fun _ => (KP7.cell 76).trans (bx76 ..)⟩)) ?_
  clear KP7
  clear hK K
  refine wpAnyF_take (i := 9) (v := ?v9_4) rfl (by kernel_rfl) (by kernel_rfl) (by kernel_rfl) (by kernel_rfl) (fun _ _ _ h => h) (Or.inl ⟨by rfl, ?y9_4⟩) ⟨(fun h => absurd h (by decide)), (fun h => absurd h (by decide))⟩ ?_
  case y9_4 => (intro w hF; clear hF; go_simp; try with_reducible rfl)
  try simp only [List.getElem_toArray, List.getElem_cons_succ, List.getElem_cons_zero, Act.put, List.setIfInBounds_toArray, List.set_cons_zero, List.set_cons_succ]
  refine wpAnyF_take (i := 10) (v := ?v10_4) rfl (by kernel_rfl) (by kernel_rfl) (by kernel_rfl) (by kernel_rfl) (fun _ _ _ h => h) (Or.inl ⟨by rfl, ?y10_4⟩) ⟨(fun h => absurd h (by decide)), (fun h => absurd h (by decide))⟩ ?_
  case y10_4 => (intro w hF; clear hF; go_simp; try with_reducible rfl)
  try simp only [List.getElem_toArray, List.getElem_cons_succ, List.getElem_cons_zero, Act.put, List.setIfInBounds_toArray, List.set_cons_zero, List.set_cons_succ]
  refine wpAnyF_done (by kernel_rfl) ?_ _
  go_wp2
  have B7 : Below w.heap.size w w7 := B1.trans ((R6.out.old.drew.mono (Nat.le_trans (Nat.le_of_lt (by omega)) (Nat.le_refl _))).trans ((hp_w7.below).mono (by omega)))
  refine bodyPost_ret (results_ctt Try.results17 _ _ (w.heap.size + 1) 41 _ _ rfl K_w7.out Try.underlying41 rfl (by kernel_rfl)) rfl ⟨U, rfl, B7, (RelX.mv_put (w := w6.drew) ⟨R6.out.old.drew, by obtain ⟨wv', h1, h2⟩ := R6.out.box; exact ⟨wv', h1.drew, h2⟩, R6.out.mems, R6.out.fit, R6.out.inn⟩ LX.out (by omega) hp_w7), R6.out.inn, R6.out.fit, fun i g hi hg => by have := (LX.out.own i g hi hg).1; omega⟩
end Go.Proofs.Ytimccpmdgfneoaa
