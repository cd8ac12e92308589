/- CpuOn: for every space, number of steps and ring the law answers true. Conditions: none. -/
import Derived.Test.YteihggfcafoogaaCpuOnM
import Derived.Test.YteihggfcafoogaaCpuStB
import Derived.Test.YteihggfcafoogaaCpuRnB
import Derived.Test.YteihggfcafoogaaCpuKeep
import Derived.Test.YteihggfcafoogaaCpuEq
import Derived.Test.YteihggfcafoogaaCpuSame
set_option linter.unusedVariables false
set_option linter.unusedSimpArgs false
namespace Go.Proofs.Yteihggfcafoogaa.cpuOn
open Go.RowKit Go.Mq
set_option maxHeartbeats 2000000
set_option maxRecDepth 100000
theorem i64_one {w : World} {b : Nat} {t : TypeId} (x : Int) (hx : I64 x) (h : Blk w b #[.int .i64 x] t) : SliceAt w .i64 (.slice (some ⟨b, 0, none⟩) 1 1) [x] := by
  refine ⟨some ⟨b, 0, none⟩, 1, rfl, Nat.le_refl _, by unfold maxLen; omega, fun y hy => ?_, fun _ => ⟨b, 0, rfl, h.lt, fun i hi => ?_⟩⟩
  · obtain rfl : y = x := by simpa using hy
    unfold I64 at hx
    simp only [Lit.wf, Bool.and_eq_true, decide_eq_true_eq]
    exact ⟨Int.le_trans (by decide) hx.1, Int.le_trans hx.2 (by decide)⟩
  · rw [h.cell]
    obtain rfl : i = 0 := by simpa using hi
    rfl
theorem on_on (v1 v2 : Value) (m : Spc) (n : Nat) (hn : n < 500) (w : World) (h1 : SliceAt w .u8 v1 m.rom) (h2 : SliceAt w .u8 v2 m.ram) (hl1 : m.rom.length ≤ 1024) (hl2 : m.ram.length ≤ 256) :
    Calls Try.prog 3 #[.agg #[v1, v2], .int .i64 n, .bool true] w fun e w' => e = .returned (.bool true) ∧ Below w.heap.size w w' := by
  have H1 := Lib.hid h1
  have H2 := Lib.hid h2
  have o1 := slice_one h1
  have o2 := slice_one h2
  have ONV : (#[v1, v2] : Array Value).all Value.oneCell' = true := by simp [o1, o2]
  have A := Lib.hid (fun W (k : Below w.heap.size w W) => run_any v1 v2 (.slice none 0 0) m [] n (by omega) W (H1.out.below k) (H2.out.below k) (nil_i64 W) (by simp) hl1 hl2)
  have RB := Lib.hid (fun W (k : Below w.heap.size w W) rg (h3 : SliceAt W .i64 rg [(n : Int)]) => run_any v1 v2 rg m [(n : Int)] (n + 1) (by omega) W (H1.out.below k) (H2.out.below k) h3 (by simp) hl1 hl2)
  have e1 := runS_on busS m n true
  simp only [Bool.false_eq_true, if_true, if_false] at e1
  rw [e1, show ((n + 1 : Nat) : Int) = (n : Int) + 1 by omega] at RB
  have hin := runS_in tells_busS [] m n
  have hsm := same_runS m [] n
  obtain ⟨nb1, nb2⟩ := runS_n tells_busS [] m n
  have hz : n = 0 → (runS busS [] m n).n = 0 := fun h => by subst h; rfl
  generalize runS busS [] m n = s at *
  obtain ⟨c, m', q⟩ := s
  simp only [rnStep] at *
  have kb := dN_b tells_busS m' c true
  have l1 : m'.rom.length ≤ 1024 := by rw [hsm.1]; exact hl1
  have l2 : m'.ram.length ≤ 256 := by rw [hsm.2]; exact hl2
  have ST := Lib.hid (fun W u1 u2 (k1 : SliceAt W .u8 u1 m'.rom) (k2 : SliceAt W .u8 u2 m'.ram) => step_any c hin u1 u2 m' true W k1 k2 l1 l2)
  generalize dN busS m' c true = dn at *
  generalize dC busS m' c true = D at *
  generalize dM busS m' c true = M at *
  have HZ := Lib.hid hz
  clear h1 h2 hz hsm hin l1 l2 hl1 hl2 e1
  have n0 : (0 : Int) ≤ n := by omega
  have n5 : (n : Int) < 500 := by omega
  have hmm := @run_makeMap Try.prog
  have put2 := fun w0 => put_two w0 w0.heap.size rfl
  have get2 := fun w0 => get_two w0 w0.heap.size rfl
  go_enter Try.func3, Try.ntmps3
  go_wp2_with (first | ((with_reducible show wpList _ _ _ _ _ _); refine wpList_loadW rfl 24 (.tmp 3) rfl (w.heap.size) rfl 24 #[v1, v2] (show Blk _ (w.heap.size) #[v1, v2] 24 from (by repeat' (first | (with_reducible first | exact Hid.out (by assumption) | exact Blk.new _ _ _ | (refine Blk.new_at _ _ _ _ ?_; simp; done) | refine Blk.alloc ?_ _ | refine Blk.drewN ?_ _ | refine Blk.drew ?_ | apply Blk.set | refine Blk.put ?_ (by assumption) (by first | (simp; done) | (simp; omega) | omega) | refine Blk.below ?_ (by assumption)) | (refine Blk.setAt ?_ (by first | (simp; done) | (simp; omega))) | rfl))) _ Try.underlying24 rfl (by kernel_rfl) ?_))
  refine (A.out _ (by repeat' (first | (with_reducible first | exact Below.refl _ _ | assumption | refine below_alloc ?_ _ | refine Below.drew ?_ | refine below_drewN ?_ _ | refine below_then ?_ (by assumption) | refine below_put ?_ (by assumption) (by first | (simp; done) | (simp; omega) | omega) | refine Below.setCell ?_ ?_ _) | (simp; done) | (simp; omega) | omega))).mono ?_
  rintro e w1 ⟨r1, m1, rfl, q1, q2, hb1⟩
  have hs1 : w.heap.size + 1 ≤ w1.heap.size := by have := hb1.size; simpa using this
  have K1 := Lib.hid (show Blk w1 w.heap.size #[v1, v2] 24 from (by repeat' (first | (with_reducible first | exact Hid.out (by assumption) | exact Blk.new _ _ _ | (refine Blk.new_at _ _ _ _ ?_; simp; done) | refine Blk.alloc ?_ _ | refine Blk.drewN ?_ _ | refine Blk.drew ?_ | apply Blk.set | refine Blk.put ?_ (by assumption) (by first | (simp; done) | (simp; omega) | omega) | refine Blk.below ?_ (by assumption)) | (refine Blk.setAt ?_ (by first | (simp; done) | (simp; omega))) | rfl)))
  have B1 : Below w.heap.size w w1 := by repeat' (first | (with_reducible first | exact Below.refl _ _ | assumption | refine below_alloc ?_ _ | refine Below.drew ?_ | refine below_drewN ?_ _ | refine below_then ?_ (by assumption) | refine below_put ?_ (by assumption) (by first | (simp; done) | (simp; omega) | omega) | refine Below.setCell ?_ ?_ _) | (simp; done) | (simp; omega) | omega)
  have or1 := slice_one q1
  have om1 := slice_one q2
  have ONE := cpuC_one c
  have ONR : (#[r1, m1] : Array Value).all Value.oneCell' = true := by simp [or1, om1]
  have Q1 := Lib.hid q1
  have Q2 := Lib.hid q2
  clear q1 q2 hb1 A
  go_wp2_with (first | ((with_reducible show wpList _ _ _ _ _ _); refine wpList_storeW rfl 28 (.tmp 7) (.tmp 29) rfl (w1.heap.size) (cpuC c) rfl rfl 28 _ (show Blk _ (w1.heap.size) #[.int .u16 0, .int .u16 0, .int .u16 0, .int .u16 0, .int .u16 0, .int .u16 0, .int .u16 0, .int .u16 0, .int .u16 0, .bool false, .bool false, .bool false, .bool false, .bool false, .bool false] 28 from (by repeat' (first | (with_reducible first | exact Hid.out (by assumption) | exact Blk.new _ _ _ | (refine Blk.new_at _ _ _ _ ?_; simp; done) | refine Blk.alloc ?_ _ | refine Blk.drewN ?_ _ | refine Blk.drew ?_ | apply Blk.set | refine Blk.put ?_ (by assumption) (by first | (simp; done) | (simp; omega) | omega) | refine Blk.below ?_ (by assumption)) | (refine Blk.setAt ?_ (by first | (simp; done) | (simp; omega))) | rfl))) (by kernel_rfl) rfl (by first | (with_reducible assumption) | simp [Value.oneCell']) ?_; intro w2 hp_w2 K_w2) | (((with_reducible show wpList _ _ _ _ _ _); refine wpList_storeW rfl 24 (.tmp 8) (.tmp 30) rfl (w1.heap.size + 1) #[r1, m1] rfl rfl 24 _ (show Blk _ (w1.heap.size + 1) #[.slice none 0 0, .slice none 0 0] 24 from (by repeat' (first | (with_reducible first | exact Hid.out (by assumption) | exact Blk.new _ _ _ | (refine Blk.new_at _ _ _ _ ?_; simp; done) | refine Blk.alloc ?_ _ | refine Blk.drewN ?_ _ | refine Blk.drew ?_ | apply Blk.set | refine Blk.put ?_ (by assumption) (by first | (simp; done) | (simp; omega) | omega) | refine Blk.below ?_ (by assumption)) | (refine Blk.setAt ?_ (by first | (simp; done) | (simp; omega))) | rfl))) (by kernel_rfl) rfl (by first | (with_reducible assumption) | simp [Value.oneCell']) ?_; intro w3 hp_w3 K_w3); have G0 := Lib.hid (show Blk w3 w.heap.size #[v1, v2] 24 from (by repeat' (first | (with_reducible first | exact Hid.out (by assumption) | exact Blk.new _ _ _ | (refine Blk.new_at _ _ _ _ ?_; simp; done) | refine Blk.alloc ?_ _ | refine Blk.drewN ?_ _ | refine Blk.drew ?_ | apply Blk.set | refine Blk.put ?_ (by assumption) (by first | (simp; done) | (simp; omega) | omega) | refine Blk.below ?_ (by assumption)) | (refine Blk.setAt ?_ (by first | (simp; done) | (simp; omega))) | rfl))); have hsz3 : w1.heap.size + 2 ≤ w3.heap.size := (by have a := hp_w2.size; have b := hp_w3.size; simp at a b; omega); have l3 : w.heap.size < w3.heap.size := by omega) | ((with_reducible show wpList _ _ _ _ _ _); refine wpList_loadW rfl 24 (.tmp 3) rfl (w.heap.size) rfl 24 #[v1, v2] (show Blk _ (w.heap.size) #[v1, v2] 24 from (by repeat' (first | (with_reducible first | exact Hid.out (by assumption) | exact Blk.new _ _ _ | (refine Blk.new_at _ _ _ _ ?_; simp; done) | refine Blk.alloc ?_ _ | refine Blk.drewN ?_ _ | refine Blk.drew ?_ | apply Blk.set | refine Blk.put ?_ (by assumption) (by first | (simp; done) | (simp; omega) | omega) | refine Blk.below ?_ (by assumption)) | (refine Blk.setAt ?_ (by first | (simp; done) | (simp; omega))) | rfl))) _ Try.underlying24 rfl (by kernel_rfl) ?_))
  refine (RB.out ((w3.alloc (.map #[{ key := .bool true, val := .slice (some ⟨w3.heap.size + 1, 0, none⟩) 1 1, born := 0 }] 1)).alloc (.cells #[.int .i64 n] 3)) (by repeat' (first | (with_reducible first | exact Below.refl _ _ | assumption | refine below_alloc ?_ _ | refine Below.drew ?_ | refine below_drewN ?_ _ | refine below_then ?_ (by assumption) | refine below_put ?_ (by assumption) (by first | (simp; done) | (simp; omega) | omega) | refine Below.setCell ?_ ?_ _) | (simp; done) | (simp; omega) | omega)) (.slice (some ⟨w3.heap.size + 1, 0, none⟩) 1 1) (by exact i64_one _ (by unfold I64; omega) (by repeat' (first | (with_reducible first | exact Hid.out (by assumption) | exact Blk.new _ _ _ | (refine Blk.new_at _ _ _ _ ?_; simp; done) | refine Blk.alloc ?_ _ | refine Blk.drewN ?_ _ | refine Blk.drew ?_ | apply Blk.set | refine Blk.put ?_ (by assumption) (by first | (simp; done) | (simp; omega) | omega) | refine Blk.below ?_ (by assumption)) | (refine Blk.setAt ?_ (by first | (simp; done) | (simp; omega))) | rfl)))).mono ?_
  rintro e w4 ⟨r2, m2, rfl, q1, q2, hb4⟩
  have hs4 : w3.heap.size + 2 ≤ w4.heap.size := by have := hb4.size; simpa using this
  have B34 : Below w3.heap.size w3 w4 := by repeat' (first | (with_reducible first | exact Below.refl _ _ | assumption | refine below_alloc ?_ _ | refine Below.drew ?_ | refine below_drewN ?_ _ | refine below_then ?_ (by assumption) | refine below_put ?_ (by assumption) (by first | (simp; done) | (simp; omega) | omega) | refine Below.setCell ?_ ?_ _) | (simp; done) | (simp; omega) | omega)
  have B13 : Below w1.heap.size w1 w3 := by repeat' (first | (with_reducible first | exact Below.refl _ _ | assumption | refine below_alloc ?_ _ | refine Below.drew ?_ | refine below_drewN ?_ _ | refine below_then ?_ (by assumption) | refine below_put ?_ (by assumption) (by first | (simp; done) | (simp; omega) | omega) | refine Below.setCell ?_ ?_ _) | (simp; done) | (simp; omega) | omega)
  have B14 : Below w1.heap.size w1 w4 := B13.trans (B34.mono (by omega))
  have B4 : Below w.heap.size w w4 := B1.trans (B14.mono (by omega))
  have C4 := Lib.hid ((show Blk w3 w1.heap.size (cpuC c) 28 from (by repeat' (first | (with_reducible first | exact Hid.out (by assumption) | exact Blk.new _ _ _ | (refine Blk.new_at _ _ _ _ ?_; simp; done) | refine Blk.alloc ?_ _ | refine Blk.drewN ?_ _ | refine Blk.drew ?_ | apply Blk.set | refine Blk.put ?_ (by assumption) (by first | (simp; done) | (simp; omega) | omega) | refine Blk.below ?_ (by assumption)) | (refine Blk.setAt ?_ (by first | (simp; done) | (simp; omega))) | rfl))).below B34)
  have S4 := Lib.hid ((show Blk w3 (w1.heap.size + 1) #[r1, m1] 24 from (by repeat' (first | (with_reducible first | exact Hid.out (by assumption) | exact Blk.new _ _ _ | (refine Blk.new_at _ _ _ _ ?_; simp; done) | refine Blk.alloc ?_ _ | refine Blk.drewN ?_ _ | refine Blk.drew ?_ | apply Blk.set | refine Blk.put ?_ (by assumption) (by first | (simp; done) | (simp; omega) | omega) | refine Blk.below ?_ (by assumption)) | (refine Blk.setAt ?_ (by first | (simp; done) | (simp; omega))) | rfl))).below B34)
  have or2 := slice_one q1
  have om2 := slice_one q2
  have ONE := cpuC_one D
  have ONR : (#[r2, m2] : Array Value).all Value.oneCell' = true := by simp [or2, om2]
  have P1 := Lib.hid q1
  have P2 := Lib.hid q2
  clear q1 q2 hb4 RB K1 G0 K_w2 K_w3 B13 B34 hp_w2 hp_w3 B1
  go_wp2_with (first | ((with_reducible show wpList _ _ _ _ _ _); refine wpList_storeW rfl 28 (.tmp 11) (.tmp 44) rfl (w4.heap.size) (cpuC D) rfl rfl 28 _ (show Blk _ (w4.heap.size) #[.int .u16 0, .int .u16 0, .int .u16 0, .int .u16 0, .int .u16 0, .int .u16 0, .int .u16 0, .int .u16 0, .int .u16 0, .bool false, .bool false, .bool false, .bool false, .bool false, .bool false] 28 from (by repeat' (first | (with_reducible first | exact Hid.out (by assumption) | exact Blk.new _ _ _ | (refine Blk.new_at _ _ _ _ ?_; simp; done) | refine Blk.alloc ?_ _ | refine Blk.drewN ?_ _ | refine Blk.drew ?_ | apply Blk.set | refine Blk.put ?_ (by assumption) (by first | (simp; done) | (simp; omega) | omega) | refine Blk.below ?_ (by assumption)) | (refine Blk.setAt ?_ (by first | (simp; done) | (simp; omega))) | rfl))) (by kernel_rfl) rfl (by first | (with_reducible assumption) | simp [Value.oneCell']) ?_; intro w5 hp_w5 K_w5) | ((with_reducible show wpList _ _ _ _ _ _); refine wpList_storeW rfl 24 (.tmp 12) (.tmp 45) rfl (w4.heap.size + 1) #[r2, m2] rfl rfl 24 _ (show Blk _ (w4.heap.size + 1) #[.slice none 0 0, .slice none 0 0] 24 from (by repeat' (first | (with_reducible first | exact Hid.out (by assumption) | exact Blk.new _ _ _ | (refine Blk.new_at _ _ _ _ ?_; simp; done) | refine Blk.alloc ?_ _ | refine Blk.drewN ?_ _ | refine Blk.drew ?_ | apply Blk.set | refine Blk.put ?_ (by assumption) (by first | (simp; done) | (simp; omega) | omega) | refine Blk.below ?_ (by assumption)) | (refine Blk.setAt ?_ (by first | (simp; done) | (simp; omega))) | rfl))) (by kernel_rfl) rfl (by first | (with_reducible assumption) | simp [Value.oneCell']) ?_; intro w6 hp_w6 K_w6))
  have hsz6 : w4.heap.size + 2 ≤ w6.heap.size := by have a := hp_w5.size; have b := hp_w6.size; simp at a b; omega
  have B46 : Below w4.heap.size w4 w6 := by repeat' (first | (with_reducible first | exact Below.refl _ _ | assumption | refine below_alloc ?_ _ | refine Below.drew ?_ | refine below_drewN ?_ _ | refine below_then ?_ (by assumption) | refine below_put ?_ (by assumption) (by first | (simp; done) | (simp; omega) | omega) | refine Below.setCell ?_ ?_ _) | (simp; done) | (simp; omega) | omega)
  have C6 := Lib.hid (C4.out.below B46)
  have S6 := Lib.hid (S4.out.below B46)
  have D6 := Lib.hid (show Blk w6 w4.heap.size (cpuC D) 28 from (by repeat' (first | (with_reducible first | exact Hid.out (by assumption) | exact Blk.new _ _ _ | (refine Blk.new_at _ _ _ _ ?_; simp; done) | refine Blk.alloc ?_ _ | refine Blk.drewN ?_ _ | refine Blk.drew ?_ | apply Blk.set | refine Blk.put ?_ (by assumption) (by first | (simp; done) | (simp; omega) | omega) | refine Blk.below ?_ (by assumption)) | (refine Blk.setAt ?_ (by first | (simp; done) | (simp; omega))) | rfl)))
  have T6 := Lib.hid (show Blk w6 (w4.heap.size + 1) #[r2, m2] 24 from (by repeat' (first | (with_reducible first | exact Hid.out (by assumption) | exact Blk.new _ _ _ | (refine Blk.new_at _ _ _ _ ?_; simp; done) | refine Blk.alloc ?_ _ | refine Blk.drewN ?_ _ | refine Blk.drew ?_ | apply Blk.set | refine Blk.put ?_ (by assumption) (by first | (simp; done) | (simp; omega) | omega) | refine Blk.below ?_ (by assumption)) | (refine Blk.setAt ?_ (by first | (simp; done) | (simp; omega))) | rfl)))
  have B6 : Below w.heap.size w w6 := B4.trans (B46.mono (by omega))
  have B16 : Below w1.heap.size w1 w6 := B14.trans (B46.mono (by omega))
  clear C4 S4 K_w5 K_w6 hp_w5 hp_w6 B4 B14
  refine (stepped_any w6).mono ?_
  rintro e w7 ⟨rfl, hb7⟩
  have hs7 := hb7.size
  have B7 : Below w.heap.size w w7 := B6.trans (hb7.mono (by omega))
  have B17 : Below w1.heap.size w1 w7 := B16.trans (hb7.mono (by omega))
  have B47 : Below w4.heap.size w4 w7 := B46.trans (hb7.mono (by omega))
  have C7 := Lib.hid (C6.out.below hb7)
  have S7 := Lib.hid (S6.out.below hb7)
  have D7 := Lib.hid (D6.out.below hb7)
  have T7 := Lib.hid (T6.out.below hb7)
  clear C6 S6 D6 T6 B6 B16 B46 hb7
  go_wp2_with (first | ((with_reducible show wpList _ _ _ _ _ _); refine wpList_loadW rfl 28 (.tmp 7) rfl (w1.heap.size) rfl 28 (cpuC c) (show Blk _ (w1.heap.size) (cpuC c) 28 from (by repeat' (first | (with_reducible first | exact Hid.out (by assumption) | exact Blk.new _ _ _ | (refine Blk.new_at _ _ _ _ ?_; simp; done) | refine Blk.alloc ?_ _ | refine Blk.drewN ?_ _ | refine Blk.drew ?_ | apply Blk.set | refine Blk.put ?_ (by assumption) (by first | (simp; done) | (simp; omega) | omega) | refine Blk.below ?_ (by assumption)) | (refine Blk.setAt ?_ (by first | (simp; done) | (simp; omega))) | rfl))) _ Try.underlying28 rfl (by kernel_rfl) ?_) | ((with_reducible show wpList _ _ _ _ _ _); refine wpList_loadW rfl 24 (.tmp 8) rfl (w1.heap.size + 1) rfl 24 #[r1, m1] (show Blk _ (w1.heap.size + 1) #[r1, m1] 24 from (by repeat' (first | (with_reducible first | exact Hid.out (by assumption) | exact Blk.new _ _ _ | (refine Blk.new_at _ _ _ _ ?_; simp; done) | refine Blk.alloc ?_ _ | refine Blk.drewN ?_ _ | refine Blk.drew ?_ | apply Blk.set | refine Blk.put ?_ (by assumption) (by first | (simp; done) | (simp; omega) | omega) | refine Blk.below ?_ (by assumption)) | (refine Blk.setAt ?_ (by first | (simp; done) | (simp; omega))) | rfl))) _ Try.underlying24 rfl (by kernel_rfl) ?_))
  refine (ST.out _ _ _ (Q1.out.below (by repeat' (first | (with_reducible first | exact Below.refl _ _ | assumption | refine below_alloc ?_ _ | refine Below.drew ?_ | refine below_drewN ?_ _ | refine below_then ?_ (by assumption) | refine below_put ?_ (by assumption) (by first | (simp; done) | (simp; omega) | omega) | refine Below.setCell ?_ ?_ _) | (simp; done) | (simp; omega) | omega))) (Q2.out.below (by repeat' (first | (with_reducible first | exact Below.refl _ _ | assumption | refine below_alloc ?_ _ | refine Below.drew ?_ | refine below_drewN ?_ _ | refine below_then ?_ (by assumption) | refine below_put ?_ (by assumption) (by first | (simp; done) | (simp; omega) | omega) | refine Below.setCell ?_ ?_ _) | (simp; done) | (simp; omega) | omega)))).mono ?_
  rintro e w8 ⟨r3, m3, rfl, q1, q2, hb8⟩
  have hs8 := hb8.size
  have D8 := Lib.hid (D7.out.below hb8)
  have T8 := Lib.hid (T7.out.below hb8)
  have B8 : Below w.heap.size w w8 := B7.trans (hb8.mono (by omega))
  have B48 : Below w4.heap.size w4 w8 := B47.trans (hb8.mono (by omega))
  have or3 := slice_one q1
  have om3 := slice_one q2
  have ONR : (#[r3, m3] : Array Value).all Value.oneCell' = true := by simp [or3, om3]
  have R1 := Lib.hid q1
  have R2 := Lib.hid q2
  clear q1 q2 hb8 ST C7 S7 D7 T7 Q1 Q2 B7 B47 B17
  have CS := cpu_self D
  go_wp2_with (first | ((with_reducible show wpList _ _ _ _ _ _); refine wpList_storeW rfl 28 (.tmp 15) (.tmp 69) rfl (w8.heap.size) (cpuC D) rfl rfl 28 _ (show Blk _ (w8.heap.size) #[.int .u16 0, .int .u16 0, .int .u16 0, .int .u16 0, .int .u16 0, .int .u16 0, .int .u16 0, .int .u16 0, .int .u16 0, .bool false, .bool false, .bool false, .bool false, .bool false, .bool false] 28 from (by repeat' (first | (with_reducible first | exact Hid.out (by assumption) | exact Blk.new _ _ _ | (refine Blk.new_at _ _ _ _ ?_; simp; done) | refine Blk.alloc ?_ _ | refine Blk.drewN ?_ _ | refine Blk.drew ?_ | apply Blk.set | refine Blk.put ?_ (by assumption) (by first | (simp; done) | (simp; omega) | omega) | refine Blk.below ?_ (by assumption)) | (refine Blk.setAt ?_ (by first | (simp; done) | (simp; omega))) | rfl))) (by kernel_rfl) rfl (by first | (with_reducible assumption) | simp [Value.oneCell']) ?_; intro w9 hp_w9 K_w9) | (((with_reducible show wpList _ _ _ _ _ _); refine wpList_storeW rfl 24 (.tmp 16) (.tmp 70) rfl (w8.heap.size + 1) #[r3, m3] rfl rfl 24 _ (show Blk _ (w8.heap.size + 1) #[.slice none 0 0, .slice none 0 0] 24 from (by repeat' (first | (with_reducible first | exact Hid.out (by assumption) | exact Blk.new _ _ _ | (refine Blk.new_at _ _ _ _ ?_; simp; done) | refine Blk.alloc ?_ _ | refine Blk.drewN ?_ _ | refine Blk.drew ?_ | apply Blk.set | refine Blk.put ?_ (by assumption) (by first | (simp; done) | (simp; omega) | omega) | refine Blk.below ?_ (by assumption)) | (refine Blk.setAt ?_ (by first | (simp; done) | (simp; omega))) | rfl))) (by kernel_rfl) rfl (by first | (with_reducible assumption) | simp [Value.oneCell']) ?_; intro wA hp_wA K_wA); have D9 := Lib.hid (show Blk wA w4.heap.size (cpuC D) 28 from (by repeat' (first | (with_reducible first | exact Hid.out (by assumption) | exact Blk.new _ _ _ | (refine Blk.new_at _ _ _ _ ?_; simp; done) | refine Blk.alloc ?_ _ | refine Blk.drewN ?_ _ | refine Blk.drew ?_ | apply Blk.set | refine Blk.put ?_ (by assumption) (by first | (simp; done) | (simp; omega) | omega) | refine Blk.below ?_ (by assumption)) | (refine Blk.setAt ?_ (by first | (simp; done) | (simp; omega))) | rfl))); have T9 := Lib.hid (show Blk wA (w4.heap.size + 1) #[r2, m2] 24 from (by repeat' (first | (with_reducible first | exact Hid.out (by assumption) | exact Blk.new _ _ _ | (refine Blk.new_at _ _ _ _ ?_; simp; done) | refine Blk.alloc ?_ _ | refine Blk.drewN ?_ _ | refine Blk.drew ?_ | apply Blk.set | refine Blk.put ?_ (by assumption) (by first | (simp; done) | (simp; omega) | omega) | refine Blk.below ?_ (by assumption)) | (refine Blk.setAt ?_ (by first | (simp; done) | (simp; omega))) | rfl)))) | ((with_reducible show wpList _ _ _ _ _ _); refine wpList_loadG (by rfl) 28 (.tmp 15) rfl (w8.heap.size) rfl 28 (cpuC D) (show Blk _ (w8.heap.size) (cpuC D) 28 from (by repeat' (first | (with_reducible first | exact Hid.out (by assumption) | exact Blk.new _ _ _ | (refine Blk.new_at _ _ _ _ ?_; simp; done) | refine Blk.alloc ?_ _ | refine Blk.drewN ?_ _ | refine Blk.drew ?_ | apply Blk.set | refine Blk.put ?_ (by assumption) (by first | (simp; done) | (simp; omega) | omega) | refine Blk.below ?_ (by assumption)) | (refine Blk.setAt ?_ (by first | (simp; done) | (simp; omega))) | rfl))) _ Try.underlying28 rfl (by kernel_rfl) ?_) | ((with_reducible show wpList _ _ _ _ _ _); refine wpList_loadG (by rfl) 28 (.tmp 11) rfl (w4.heap.size) rfl 28 (cpuC D) (show Blk _ (w4.heap.size) (cpuC D) 28 from (by repeat' (first | (with_reducible first | exact Hid.out (by assumption) | exact Blk.new _ _ _ | (refine Blk.new_at _ _ _ _ ?_; simp; done) | refine Blk.alloc ?_ _ | refine Blk.drewN ?_ _ | refine Blk.drew ?_ | apply Blk.set | refine Blk.put ?_ (by assumption) (by first | (simp; done) | (simp; omega) | omega) | refine Blk.below ?_ (by assumption)) | (refine Blk.setAt ?_ (by first | (simp; done) | (simp; omega))) | rfl))) _ Try.underlying28 rfl (by kernel_rfl) ?_) | ((with_reducible show wpList _ _ _ _ _ _); refine wpList_loadG (by rfl) 24 (.tmp 16) rfl (w8.heap.size + 1) rfl 24 #[r3, m3] (show Blk _ (w8.heap.size + 1) #[r3, m3] 24 from (by repeat' (first | (with_reducible first | exact Hid.out (by assumption) | exact Blk.new _ _ _ | (refine Blk.new_at _ _ _ _ ?_; simp; done) | refine Blk.alloc ?_ _ | refine Blk.drewN ?_ _ | refine Blk.drew ?_ | apply Blk.set | refine Blk.put ?_ (by assumption) (by first | (simp; done) | (simp; omega) | omega) | refine Blk.below ?_ (by assumption)) | (refine Blk.setAt ?_ (by first | (simp; done) | (simp; omega))) | rfl))) _ Try.underlying24 rfl (by kernel_rfl) ?_) | ((with_reducible show wpList _ _ _ _ _ _); refine wpList_loadG (by rfl) 24 (.tmp 12) rfl (w4.heap.size + 1) rfl 24 #[r2, m2] (show Blk _ (w4.heap.size + 1) #[r2, m2] 24 from (by repeat' (first | (with_reducible first | exact Hid.out (by assumption) | exact Blk.new _ _ _ | (refine Blk.new_at _ _ _ _ ?_; simp; done) | refine Blk.alloc ?_ _ | refine Blk.drewN ?_ _ | refine Blk.drew ?_ | apply Blk.set | refine Blk.put ?_ (by assumption) (by first | (simp; done) | (simp; omega) | omega) | refine Blk.below ?_ (by assumption)) | (refine Blk.setAt ?_ (by first | (simp; done) | (simp; omega))) | rfl))) _ Try.underlying24 rfl (by kernel_rfl) ?_))
  have B8A : Below w8.heap.size w8 wA := by repeat' (first | (with_reducible first | exact Below.refl _ _ | assumption | refine below_alloc ?_ _ | refine Below.drew ?_ | refine below_drewN ?_ _ | refine below_then ?_ (by assumption) | refine below_put ?_ (by assumption) (by first | (simp; done) | (simp; omega) | omega) | refine Below.setCell ?_ ?_ _) | (simp; done) | (simp; omega) | omega)
  have B4A : Below w4.heap.size w4 wA := B48.trans (B8A.mono (by omega))
  have BA : Below w.heap.size w wA := B8.trans (B8A.mono (by omega))
  refine (same_any r3 m3 r2 m2 M.rom M.ram M.rom M.ram wA (R1.out.below B8A) (R2.out.below B8A) (P1.out.below B4A) (P2.out.below B4A)).mono ?_
  rw [show (decide (M.rom = M.rom) && decide (M.ram = M.ram)) = true by simp]
  rintro e wB ⟨rfl, hbB⟩
  have BB : Below w.heap.size w wB := BA.trans (hbB.mono BA.size)
  obtain ⟨kb1, kb2⟩ := kb
  clear hbB BA B8A B4A hp_w9 hp_wA K_w9 K_wA D9 T9
  by_cases hn0 : n = 0
  · have q0 := HZ.out hn0
    subst hn0 q0
    go_wp2
    go_ret
    exact ⟨rfl, BB⟩
  · have hn1 : (0 : Int) < n := by omega
    go_wp2
    go_ret
    exact ⟨rfl, BB⟩
theorem on_off (v1 v2 : Value) (m : Spc) (n : Nat) (hn : n < 500) (w : World) (h1 : SliceAt w .u8 v1 m.rom) (h2 : SliceAt w .u8 v2 m.ram) (hl1 : m.rom.length ≤ 1024) (hl2 : m.ram.length ≤ 256) :
    Calls Try.prog 3 #[.agg #[v1, v2], .int .i64 n, .bool false] w fun e w' => e = .returned (.bool true) ∧ Below w.heap.size w w' := by
  have H1 := Lib.hid h1
  have H2 := Lib.hid h2
  have o1 := slice_one h1
  have o2 := slice_one h2
  have ONV : (#[v1, v2] : Array Value).all Value.oneCell' = true := by simp [o1, o2]
  have A := Lib.hid (fun W (k : Below w.heap.size w W) => run_any v1 v2 (.slice none 0 0) m [] n (by omega) W (H1.out.below k) (H2.out.below k) (nil_i64 W) (by simp) hl1 hl2)
  have RB := Lib.hid (fun W (k : Below w.heap.size w W) rg (h3 : SliceAt W .i64 rg []) => run_any v1 v2 rg m [] (n + 1) (by omega) W (H1.out.below k) (H2.out.below k) h3 (by simp) hl1 hl2)
  have e1 := runS_on busS m n false
  simp only [Bool.false_eq_true, if_true, if_false] at e1
  rw [e1, show ((n + 1 : Nat) : Int) = (n : Int) + 1 by omega] at RB
  have hin := runS_in tells_busS [] m n
  have hsm := same_runS m [] n
  obtain ⟨nb1, nb2⟩ := runS_n tells_busS [] m n
  have hz : n = 0 → (runS busS [] m n).n = 0 := fun h => by subst h; rfl
  generalize runS busS [] m n = s at *
  obtain ⟨c, m', q⟩ := s
  simp only [rnStep] at *
  have kb := dN_b tells_busS m' c false
  have l1 : m'.rom.length ≤ 1024 := by rw [hsm.1]; exact hl1
  have l2 : m'.ram.length ≤ 256 := by rw [hsm.2]; exact hl2
  have ST := Lib.hid (fun W u1 u2 (k1 : SliceAt W .u8 u1 m'.rom) (k2 : SliceAt W .u8 u2 m'.ram) => step_any c hin u1 u2 m' false W k1 k2 l1 l2)
  generalize dN busS m' c false = dn at *
  generalize dC busS m' c false = D at *
  generalize dM busS m' c false = M at *
  have HZ := Lib.hid hz
  clear h1 h2 hz hsm hin l1 l2 hl1 hl2 e1
  have n0 : (0 : Int) ≤ n := by omega
  have n5 : (n : Int) < 500 := by omega
  have hmm := @run_makeMap Try.prog
  have put2 := fun w0 => put_two w0 w0.heap.size rfl
  have get2 := fun w0 => get_two w0 w0.heap.size rfl
  go_enter Try.func3, Try.ntmps3
  go_wp2_with (first | ((with_reducible show wpList _ _ _ _ _ _); refine wpList_loadW rfl 24 (.tmp 3) rfl (w.heap.size) rfl 24 #[v1, v2] (show Blk _ (w.heap.size) #[v1, v2] 24 from (by repeat' (first | (with_reducible first | exact Hid.out (by assumption) | exact Blk.new _ _ _ | (refine Blk.new_at _ _ _ _ ?_; simp; done) | refine Blk.alloc ?_ _ | refine Blk.drewN ?_ _ | refine Blk.drew ?_ | apply Blk.set | refine Blk.put ?_ (by assumption) (by first | (simp; done) | (simp; omega) | omega) | refine Blk.below ?_ (by assumption)) | (refine Blk.setAt ?_ (by first | (simp; done) | (simp; omega))) | rfl))) _ Try.underlying24 rfl (by kernel_rfl) ?_))
  refine (A.out _ (by repeat' (first | (with_reducible first | exact Below.refl _ _ | assumption | refine below_alloc ?_ _ | refine Below.drew ?_ | refine below_drewN ?_ _ | refine below_then ?_ (by assumption) | refine below_put ?_ (by assumption) (by first | (simp; done) | (simp; omega) | omega) | refine Below.setCell ?_ ?_ _) | (simp; done) | (simp; omega) | omega))).mono ?_
  rintro e w1 ⟨r1, m1, rfl, q1, q2, hb1⟩
  have hs1 : w.heap.size + 1 ≤ w1.heap.size := by have := hb1.size; simpa using this
  have K1 := Lib.hid (show Blk w1 w.heap.size #[v1, v2] 24 from (by repeat' (first | (with_reducible first | exact Hid.out (by assumption) | exact Blk.new _ _ _ | (refine Blk.new_at _ _ _ _ ?_; simp; done) | refine Blk.alloc ?_ _ | refine Blk.drewN ?_ _ | refine Blk.drew ?_ | apply Blk.set | refine Blk.put ?_ (by assumption) (by first | (simp; done) | (simp; omega) | omega) | refine Blk.below ?_ (by assumption)) | (refine Blk.setAt ?_ (by first | (simp; done) | (simp; omega))) | rfl)))
  have B1 : Below w.heap.size w w1 := by repeat' (first | (with_reducible first | exact Below.refl _ _ | assumption | refine below_alloc ?_ _ | refine Below.drew ?_ | refine below_drewN ?_ _ | refine below_then ?_ (by assumption) | refine below_put ?_ (by assumption) (by first | (simp; done) | (simp; omega) | omega) | refine Below.setCell ?_ ?_ _) | (simp; done) | (simp; omega) | omega)
  have or1 := slice_one q1
  have om1 := slice_one q2
  have ONE := cpuC_one c
  have ONR : (#[r1, m1] : Array Value).all Value.oneCell' = true := by simp [or1, om1]
  have Q1 := Lib.hid q1
  have Q2 := Lib.hid q2
  clear q1 q2 hb1 A
  go_wp2_with (first | ((with_reducible show wpList _ _ _ _ _ _); refine wpList_storeW rfl 28 (.tmp 7) (.tmp 29) rfl (w1.heap.size) (cpuC c) rfl rfl 28 _ (show Blk _ (w1.heap.size) #[.int .u16 0, .int .u16 0, .int .u16 0, .int .u16 0, .int .u16 0, .int .u16 0, .int .u16 0, .int .u16 0, .int .u16 0, .bool false, .bool false, .bool false, .bool false, .bool false, .bool false] 28 from (by repeat' (first | (with_reducible first | exact Hid.out (by assumption) | exact Blk.new _ _ _ | (refine Blk.new_at _ _ _ _ ?_; simp; done) | refine Blk.alloc ?_ _ | refine Blk.drewN ?_ _ | refine Blk.drew ?_ | apply Blk.set | refine Blk.put ?_ (by assumption) (by first | (simp; done) | (simp; omega) | omega) | refine Blk.below ?_ (by assumption)) | (refine Blk.setAt ?_ (by first | (simp; done) | (simp; omega))) | rfl))) (by kernel_rfl) rfl (by first | (with_reducible assumption) | simp [Value.oneCell']) ?_; intro w2 hp_w2 K_w2) | (((with_reducible show wpList _ _ _ _ _ _); refine wpList_storeW rfl 24 (.tmp 8) (.tmp 30) rfl (w1.heap.size + 1) #[r1, m1] rfl rfl 24 _ (show Blk _ (w1.heap.size + 1) #[.slice none 0 0, .slice none 0 0] 24 from (by repeat' (first | (with_reducible first | exact Hid.out (by assumption) | exact Blk.new _ _ _ | (refine Blk.new_at _ _ _ _ ?_; simp; done) | refine Blk.alloc ?_ _ | refine Blk.drewN ?_ _ | refine Blk.drew ?_ | apply Blk.set | refine Blk.put ?_ (by assumption) (by first | (simp; done) | (simp; omega) | omega) | refine Blk.below ?_ (by assumption)) | (refine Blk.setAt ?_ (by first | (simp; done) | (simp; omega))) | rfl))) (by kernel_rfl) rfl (by first | (with_reducible assumption) | simp [Value.oneCell']) ?_; intro w3 hp_w3 K_w3); have G0 := Lib.hid (show Blk w3 w.heap.size #[v1, v2] 24 from (by repeat' (first | (with_reducible first | exact Hid.out (by assumption) | exact Blk.new _ _ _ | (refine Blk.new_at _ _ _ _ ?_; simp; done) | refine Blk.alloc ?_ _ | refine Blk.drewN ?_ _ | refine Blk.drew ?_ | apply Blk.set | refine Blk.put ?_ (by assumption) (by first | (simp; done) | (simp; omega) | omega) | refine Blk.below ?_ (by assumption)) | (refine Blk.setAt ?_ (by first | (simp; done) | (simp; omega))) | rfl))); have hsz3 : w1.heap.size + 2 ≤ w3.heap.size := (by have a := hp_w2.size; have b := hp_w3.size; simp at a b; omega); have l3 : w.heap.size < w3.heap.size := by omega) | ((with_reducible show wpList _ _ _ _ _ _); refine wpList_loadW rfl 24 (.tmp 3) rfl (w.heap.size) rfl 24 #[v1, v2] (show Blk _ (w.heap.size) #[v1, v2] 24 from (by repeat' (first | (with_reducible first | exact Hid.out (by assumption) | exact Blk.new _ _ _ | (refine Blk.new_at _ _ _ _ ?_; simp; done) | refine Blk.alloc ?_ _ | refine Blk.drewN ?_ _ | refine Blk.drew ?_ | apply Blk.set | refine Blk.put ?_ (by assumption) (by first | (simp; done) | (simp; omega) | omega) | refine Blk.below ?_ (by assumption)) | (refine Blk.setAt ?_ (by first | (simp; done) | (simp; omega))) | rfl))) _ Try.underlying24 rfl (by kernel_rfl) ?_))
  refine (RB.out ((w3.alloc (.map #[{ key := .bool true, val := .slice (some ⟨w3.heap.size + 1, 0, none⟩) 1 1, born := 0 }] 1)).alloc (.cells #[.int .i64 n] 3)) (by repeat' (first | (with_reducible first | exact Below.refl _ _ | assumption | refine below_alloc ?_ _ | refine Below.drew ?_ | refine below_drewN ?_ _ | refine below_then ?_ (by assumption) | refine below_put ?_ (by assumption) (by first | (simp; done) | (simp; omega) | omega) | refine Below.setCell ?_ ?_ _) | (simp; done) | (simp; omega) | omega)) (.slice none 0 0) (nil_i64 _)).mono ?_
  rintro e w4 ⟨r2, m2, rfl, q1, q2, hb4⟩
  have hs4 : w3.heap.size + 2 ≤ w4.heap.size := by have := hb4.size; simpa using this
  have B34 : Below w3.heap.size w3 w4 := by repeat' (first | (with_reducible first | exact Below.refl _ _ | assumption | refine below_alloc ?_ _ | refine Below.drew ?_ | refine below_drewN ?_ _ | refine below_then ?_ (by assumption) | refine below_put ?_ (by assumption) (by first | (simp; done) | (simp; omega) | omega) | refine Below.setCell ?_ ?_ _) | (simp; done) | (simp; omega) | omega)
  have B13 : Below w1.heap.size w1 w3 := by repeat' (first | (with_reducible first | exact Below.refl _ _ | assumption | refine below_alloc ?_ _ | refine Below.drew ?_ | refine below_drewN ?_ _ | refine below_then ?_ (by assumption) | refine below_put ?_ (by assumption) (by first | (simp; done) | (simp; omega) | omega) | refine Below.setCell ?_ ?_ _) | (simp; done) | (simp; omega) | omega)
  have B14 : Below w1.heap.size w1 w4 := B13.trans (B34.mono (by omega))
  have B4 : Below w.heap.size w w4 := B1.trans (B14.mono (by omega))
  have C4 := Lib.hid ((show Blk w3 w1.heap.size (cpuC c) 28 from (by repeat' (first | (with_reducible first | exact Hid.out (by assumption) | exact Blk.new _ _ _ | (refine Blk.new_at _ _ _ _ ?_; simp; done) | refine Blk.alloc ?_ _ | refine Blk.drewN ?_ _ | refine Blk.drew ?_ | apply Blk.set | refine Blk.put ?_ (by assumption) (by first | (simp; done) | (simp; omega) | omega) | refine Blk.below ?_ (by assumption)) | (refine Blk.setAt ?_ (by first | (simp; done) | (simp; omega))) | rfl))).below B34)
  have S4 := Lib.hid ((show Blk w3 (w1.heap.size + 1) #[r1, m1] 24 from (by repeat' (first | (with_reducible first | exact Hid.out (by assumption) | exact Blk.new _ _ _ | (refine Blk.new_at _ _ _ _ ?_; simp; done) | refine Blk.alloc ?_ _ | refine Blk.drewN ?_ _ | refine Blk.drew ?_ | apply Blk.set | refine Blk.put ?_ (by assumption) (by first | (simp; done) | (simp; omega) | omega) | refine Blk.below ?_ (by assumption)) | (refine Blk.setAt ?_ (by first | (simp; done) | (simp; omega))) | rfl))).below B34)
  have or2 := slice_one q1
  have om2 := slice_one q2
  have ONE := cpuC_one D
  have ONR : (#[r2, m2] : Array Value).all Value.oneCell' = true := by simp [or2, om2]
  have P1 := Lib.hid q1
  have P2 := Lib.hid q2
  clear q1 q2 hb4 RB K1 G0 K_w2 K_w3 B13 B34 hp_w2 hp_w3 B1
  go_wp2_with (first | ((with_reducible show wpList _ _ _ _ _ _); refine wpList_storeW rfl 28 (.tmp 11) (.tmp 44) rfl (w4.heap.size) (cpuC D) rfl rfl 28 _ (show Blk _ (w4.heap.size) #[.int .u16 0, .int .u16 0, .int .u16 0, .int .u16 0, .int .u16 0, .int .u16 0, .int .u16 0, .int .u16 0, .int .u16 0, .bool false, .bool false, .bool false, .bool false, .bool false, .bool false] 28 from (by repeat' (first | (with_reducible first | exact Hid.out (by assumption) | exact Blk.new _ _ _ | (refine Blk.new_at _ _ _ _ ?_; simp; done) | refine Blk.alloc ?_ _ | refine Blk.drewN ?_ _ | refine Blk.drew ?_ | apply Blk.set | refine Blk.put ?_ (by assumption) (by first | (simp; done) | (simp; omega) | omega) | refine Blk.below ?_ (by assumption)) | (refine Blk.setAt ?_ (by first | (simp; done) | (simp; omega))) | rfl))) (by kernel_rfl) rfl (by first | (with_reducible assumption) | simp [Value.oneCell']) ?_; intro w5 hp_w5 K_w5) | ((with_reducible show wpList _ _ _ _ _ _); refine wpList_storeW rfl 24 (.tmp 12) (.tmp 45) rfl (w4.heap.size + 1) #[r2, m2] rfl rfl 24 _ (show Blk _ (w4.heap.size + 1) #[.slice none 0 0, .slice none 0 0] 24 from (by repeat' (first | (with_reducible first | exact Hid.out (by assumption) | exact Blk.new _ _ _ | (refine Blk.new_at _ _ _ _ ?_; simp; done) | refine Blk.alloc ?_ _ | refine Blk.drewN ?_ _ | refine Blk.drew ?_ | apply Blk.set | refine Blk.put ?_ (by assumption) (by first | (simp; done) | (simp; omega) | omega) | refine Blk.below ?_ (by assumption)) | (refine Blk.setAt ?_ (by first | (simp; done) | (simp; omega))) | rfl))) (by kernel_rfl) rfl (by first | (with_reducible assumption) | simp [Value.oneCell']) ?_; intro w6 hp_w6 K_w6))
  have hsz6 : w4.heap.size + 2 ≤ w6.heap.size := by have a := hp_w5.size; have b := hp_w6.size; simp at a b; omega
  have B46 : Below w4.heap.size w4 w6 := by repeat' (first | (with_reducible first | exact Below.refl _ _ | assumption | refine below_alloc ?_ _ | refine Below.drew ?_ | refine below_drewN ?_ _ | refine below_then ?_ (by assumption) | refine below_put ?_ (by assumption) (by first | (simp; done) | (simp; omega) | omega) | refine Below.setCell ?_ ?_ _) | (simp; done) | (simp; omega) | omega)
  have C6 := Lib.hid (C4.out.below B46)
  have S6 := Lib.hid (S4.out.below B46)
  have D6 := Lib.hid (show Blk w6 w4.heap.size (cpuC D) 28 from (by repeat' (first | (with_reducible first | exact Hid.out (by assumption) | exact Blk.new _ _ _ | (refine Blk.new_at _ _ _ _ ?_; simp; done) | refine Blk.alloc ?_ _ | refine Blk.drewN ?_ _ | refine Blk.drew ?_ | apply Blk.set | refine Blk.put ?_ (by assumption) (by first | (simp; done) | (simp; omega) | omega) | refine Blk.below ?_ (by assumption)) | (refine Blk.setAt ?_ (by first | (simp; done) | (simp; omega))) | rfl)))
  have T6 := Lib.hid (show Blk w6 (w4.heap.size + 1) #[r2, m2] 24 from (by repeat' (first | (with_reducible first | exact Hid.out (by assumption) | exact Blk.new _ _ _ | (refine Blk.new_at _ _ _ _ ?_; simp; done) | refine Blk.alloc ?_ _ | refine Blk.drewN ?_ _ | refine Blk.drew ?_ | apply Blk.set | refine Blk.put ?_ (by assumption) (by first | (simp; done) | (simp; omega) | omega) | refine Blk.below ?_ (by assumption)) | (refine Blk.setAt ?_ (by first | (simp; done) | (simp; omega))) | rfl)))
  have B6 : Below w.heap.size w w6 := B4.trans (B46.mono (by omega))
  have B16 : Below w1.heap.size w1 w6 := B14.trans (B46.mono (by omega))
  clear C4 S4 K_w5 K_w6 hp_w5 hp_w6 B4 B14
  refine (stepped_any w6).mono ?_
  rintro e w7 ⟨rfl, hb7⟩
  have hs7 := hb7.size
  have B7 : Below w.heap.size w w7 := B6.trans (hb7.mono (by omega))
  have B17 : Below w1.heap.size w1 w7 := B16.trans (hb7.mono (by omega))
  have B47 : Below w4.heap.size w4 w7 := B46.trans (hb7.mono (by omega))
  have C7 := Lib.hid (C6.out.below hb7)
  have S7 := Lib.hid (S6.out.below hb7)
  have D7 := Lib.hid (D6.out.below hb7)
  have T7 := Lib.hid (T6.out.below hb7)
  clear C6 S6 D6 T6 B6 B16 B46 hb7
  go_wp2_with (first | ((with_reducible show wpList _ _ _ _ _ _); refine wpList_loadW rfl 28 (.tmp 7) rfl (w1.heap.size) rfl 28 (cpuC c) (show Blk _ (w1.heap.size) (cpuC c) 28 from (by repeat' (first | (with_reducible first | exact Hid.out (by assumption) | exact Blk.new _ _ _ | (refine Blk.new_at _ _ _ _ ?_; simp; done) | refine Blk.alloc ?_ _ | refine Blk.drewN ?_ _ | refine Blk.drew ?_ | apply Blk.set | refine Blk.put ?_ (by assumption) (by first | (simp; done) | (simp; omega) | omega) | refine Blk.below ?_ (by assumption)) | (refine Blk.setAt ?_ (by first | (simp; done) | (simp; omega))) | rfl))) _ Try.underlying28 rfl (by kernel_rfl) ?_) | ((with_reducible show wpList _ _ _ _ _ _); refine wpList_loadW rfl 24 (.tmp 8) rfl (w1.heap.size + 1) rfl 24 #[r1, m1] (show Blk _ (w1.heap.size + 1) #[r1, m1] 24 from (by repeat' (first | (with_reducible first | exact Hid.out (by assumption) | exact Blk.new _ _ _ | (refine Blk.new_at _ _ _ _ ?_; simp; done) | refine Blk.alloc ?_ _ | refine Blk.drewN ?_ _ | refine Blk.drew ?_ | apply Blk.set | refine Blk.put ?_ (by assumption) (by first | (simp; done) | (simp; omega) | omega) | refine Blk.below ?_ (by assumption)) | (refine Blk.setAt ?_ (by first | (simp; done) | (simp; omega))) | rfl))) _ Try.underlying24 rfl (by kernel_rfl) ?_))
  refine (ST.out _ _ _ (Q1.out.below (by repeat' (first | (with_reducible first | exact Below.refl _ _ | assumption | refine below_alloc ?_ _ | refine Below.drew ?_ | refine below_drewN ?_ _ | refine below_then ?_ (by assumption) | refine below_put ?_ (by assumption) (by first | (simp; done) | (simp; omega) | omega) | refine Below.setCell ?_ ?_ _) | (simp; done) | (simp; omega) | omega))) (Q2.out.below (by repeat' (first | (with_reducible first | exact Below.refl _ _ | assumption | refine below_alloc ?_ _ | refine Below.drew ?_ | refine below_drewN ?_ _ | refine below_then ?_ (by assumption) | refine below_put ?_ (by assumption) (by first | (simp; done) | (simp; omega) | omega) | refine Below.setCell ?_ ?_ _) | (simp; done) | (simp; omega) | omega)))).mono ?_
  rintro e w8 ⟨r3, m3, rfl, q1, q2, hb8⟩
  have hs8 := hb8.size
  have D8 := Lib.hid (D7.out.below hb8)
  have T8 := Lib.hid (T7.out.below hb8)
  have B8 : Below w.heap.size w w8 := B7.trans (hb8.mono (by omega))
  have B48 : Below w4.heap.size w4 w8 := B47.trans (hb8.mono (by omega))
  have or3 := slice_one q1
  have om3 := slice_one q2
  have ONR : (#[r3, m3] : Array Value).all Value.oneCell' = true := by simp [or3, om3]
  have R1 := Lib.hid q1
  have R2 := Lib.hid q2
  clear q1 q2 hb8 ST C7 S7 D7 T7 Q1 Q2 B7 B47 B17
  have CS := cpu_self D
  go_wp2_with (first | ((with_reducible show wpList _ _ _ _ _ _); refine wpList_storeW rfl 28 (.tmp 15) (.tmp 69) rfl (w8.heap.size) (cpuC D) rfl rfl 28 _ (show Blk _ (w8.heap.size) #[.int .u16 0, .int .u16 0, .int .u16 0, .int .u16 0, .int .u16 0, .int .u16 0, .int .u16 0, .int .u16 0, .int .u16 0, .bool false, .bool false, .bool false, .bool false, .bool false, .bool false] 28 from (by repeat' (first | (with_reducible first | exact Hid.out (by assumption) | exact Blk.new _ _ _ | (refine Blk.new_at _ _ _ _ ?_; simp; done) | refine Blk.alloc ?_ _ | refine Blk.drewN ?_ _ | refine Blk.drew ?_ | apply Blk.set | refine Blk.put ?_ (by assumption) (by first | (simp; done) | (simp; omega) | omega) | refine Blk.below ?_ (by assumption)) | (refine Blk.setAt ?_ (by first | (simp; done) | (simp; omega))) | rfl))) (by kernel_rfl) rfl (by first | (with_reducible assumption) | simp [Value.oneCell']) ?_; intro w9 hp_w9 K_w9) | (((with_reducible show wpList _ _ _ _ _ _); refine wpList_storeW rfl 24 (.tmp 16) (.tmp 70) rfl (w8.heap.size + 1) #[r3, m3] rfl rfl 24 _ (show Blk _ (w8.heap.size + 1) #[.slice none 0 0, .slice none 0 0] 24 from (by repeat' (first | (with_reducible first | exact Hid.out (by assumption) | exact Blk.new _ _ _ | (refine Blk.new_at _ _ _ _ ?_; simp; done) | refine Blk.alloc ?_ _ | refine Blk.drewN ?_ _ | refine Blk.drew ?_ | apply Blk.set | refine Blk.put ?_ (by assumption) (by first | (simp; done) | (simp; omega) | omega) | refine Blk.below ?_ (by assumption)) | (refine Blk.setAt ?_ (by first | (simp; done) | (simp; omega))) | rfl))) (by kernel_rfl) rfl (by first | (with_reducible assumption) | simp [Value.oneCell']) ?_; intro wA hp_wA K_wA); have D9 := Lib.hid (show Blk wA w4.heap.size (cpuC D) 28 from (by repeat' (first | (with_reducible first | exact Hid.out (by assumption) | exact Blk.new _ _ _ | (refine Blk.new_at _ _ _ _ ?_; simp; done) | refine Blk.alloc ?_ _ | refine Blk.drewN ?_ _ | refine Blk.drew ?_ | apply Blk.set | refine Blk.put ?_ (by assumption) (by first | (simp; done) | (simp; omega) | omega) | refine Blk.below ?_ (by assumption)) | (refine Blk.setAt ?_ (by first | (simp; done) | (simp; omega))) | rfl))); have T9 := Lib.hid (show Blk wA (w4.heap.size + 1) #[r2, m2] 24 from (by repeat' (first | (with_reducible first | exact Hid.out (by assumption) | exact Blk.new _ _ _ | (refine Blk.new_at _ _ _ _ ?_; simp; done) | refine Blk.alloc ?_ _ | refine Blk.drewN ?_ _ | refine Blk.drew ?_ | apply Blk.set | refine Blk.put ?_ (by assumption) (by first | (simp; done) | (simp; omega) | omega) | refine Blk.below ?_ (by assumption)) | (refine Blk.setAt ?_ (by first | (simp; done) | (simp; omega))) | rfl)))) | ((with_reducible show wpList _ _ _ _ _ _); refine wpList_loadG (by rfl) 28 (.tmp 15) rfl (w8.heap.size) rfl 28 (cpuC D) (show Blk _ (w8.heap.size) (cpuC D) 28 from (by repeat' (first | (with_reducible first | exact Hid.out (by assumption) | exact Blk.new _ _ _ | (refine Blk.new_at _ _ _ _ ?_; simp; done) | refine Blk.alloc ?_ _ | refine Blk.drewN ?_ _ | refine Blk.drew ?_ | apply Blk.set | refine Blk.put ?_ (by assumption) (by first | (simp; done) | (simp; omega) | omega) | refine Blk.below ?_ (by assumption)) | (refine Blk.setAt ?_ (by first | (simp; done) | (simp; omega))) | rfl))) _ Try.underlying28 rfl (by kernel_rfl) ?_) | ((with_reducible show wpList _ _ _ _ _ _); refine wpList_loadG (by rfl) 28 (.tmp 11) rfl (w4.heap.size) rfl 28 (cpuC D) (show Blk _ (w4.heap.size) (cpuC D) 28 from (by repeat' (first | (with_reducible first | exact Hid.out (by assumption) | exact Blk.new _ _ _ | (refine Blk.new_at _ _ _ _ ?_; simp; done) | refine Blk.alloc ?_ _ | refine Blk.drewN ?_ _ | refine Blk.drew ?_ | apply Blk.set | refine Blk.put ?_ (by assumption) (by first | (simp; done) | (simp; omega) | omega) | refine Blk.below ?_ (by assumption)) | (refine Blk.setAt ?_ (by first | (simp; done) | (simp; omega))) | rfl))) _ Try.underlying28 rfl (by kernel_rfl) ?_) | ((with_reducible show wpList _ _ _ _ _ _); refine wpList_loadG (by rfl) 24 (.tmp 16) rfl (w8.heap.size + 1) rfl 24 #[r3, m3] (show Blk _ (w8.heap.size + 1) #[r3, m3] 24 from (by repeat' (first | (with_reducible first | exact Hid.out (by assumption) | exact Blk.new _ _ _ | (refine Blk.new_at _ _ _ _ ?_; simp; done) | refine Blk.alloc ?_ _ | refine Blk.drewN ?_ _ | refine Blk.drew ?_ | apply Blk.set | refine Blk.put ?_ (by assumption) (by first | (simp; done) | (simp; omega) | omega) | refine Blk.below ?_ (by assumption)) | (refine Blk.setAt ?_ (by first | (simp; done) | (simp; omega))) | rfl))) _ Try.underlying24 rfl (by kernel_rfl) ?_) | ((with_reducible show wpList _ _ _ _ _ _); refine wpList_loadG (by rfl) 24 (.tmp 12) rfl (w4.heap.size + 1) rfl 24 #[r2, m2] (show Blk _ (w4.heap.size + 1) #[r2, m2] 24 from (by repeat' (first | (with_reducible first | exact Hid.out (by assumption) | exact Blk.new _ _ _ | (refine Blk.new_at _ _ _ _ ?_; simp; done) | refine Blk.alloc ?_ _ | refine Blk.drewN ?_ _ | refine Blk.drew ?_ | apply Blk.set | refine Blk.put ?_ (by assumption) (by first | (simp; done) | (simp; omega) | omega) | refine Blk.below ?_ (by assumption)) | (refine Blk.setAt ?_ (by first | (simp; done) | (simp; omega))) | rfl))) _ Try.underlying24 rfl (by kernel_rfl) ?_))
  have B8A : Below w8.heap.size w8 wA := by repeat' (first | (with_reducible first | exact Below.refl _ _ | assumption | refine below_alloc ?_ _ | refine Below.drew ?_ | refine below_drewN ?_ _ | refine below_then ?_ (by assumption) | refine below_put ?_ (by assumption) (by first | (simp; done) | (simp; omega) | omega) | refine Below.setCell ?_ ?_ _) | (simp; done) | (simp; omega) | omega)
  have B4A : Below w4.heap.size w4 wA := B48.trans (B8A.mono (by omega))
  have BA : Below w.heap.size w wA := B8.trans (B8A.mono (by omega))
  refine (same_any r3 m3 r2 m2 M.rom M.ram M.rom M.ram wA (R1.out.below B8A) (R2.out.below B8A) (P1.out.below B4A) (P2.out.below B4A)).mono ?_
  rw [show (decide (M.rom = M.rom) && decide (M.ram = M.ram)) = true by simp]
  rintro e wB ⟨rfl, hbB⟩
  have BB : Below w.heap.size w wB := BA.trans (hbB.mono BA.size)
  obtain ⟨kb1, kb2⟩ := kb
  clear hbB BA B8A B4A hp_w9 hp_wA K_w9 K_wA D9 T9
  by_cases hn0 : n = 0
  · have q0 := HZ.out hn0
    subst hn0 q0
    go_wp2
    go_ret
    exact ⟨rfl, BB⟩
  · have hn1 : (0 : Int) < n := by omega
    go_wp2
    go_ret
    exact ⟨rfl, BB⟩
theorem on_out (v1 v2 : Value) (n : Int) (more : Bool) (w : World) (o1 : v1.oneCell' = true) (o2 : v2.oneCell' = true) (hn : n < 0 ∨ 500 ≤ n) :
    Calls Try.prog 3 #[.agg #[v1, v2], .int .i64 n, .bool more] w fun e w' => e = .returned (.bool true) ∧ Below w.heap.size w w' := by
  by_cases h : n < 0
  · clear hn
    go_enter Try.func3, Try.ntmps3
    go_wp2
    go_ret
    exact ⟨rfl, by repeat' (first | (with_reducible first | exact Below.refl _ _ | assumption | refine below_alloc ?_ _ | refine Below.drew ?_ | refine below_drewN ?_ _ | refine below_then ?_ (by assumption) | refine below_put ?_ (by assumption) (by first | (simp; done) | (simp; omega) | omega) | refine Below.setCell ?_ ?_ _) | (simp; done) | (simp; omega) | omega)⟩
  · have h' : 500 ≤ n := by omega
    clear hn
    go_enter Try.func3, Try.ntmps3
    go_wp2
    go_ret
    exact ⟨rfl, by repeat' (first | (with_reducible first | exact Below.refl _ _ | assumption | refine below_alloc ?_ _ | refine Below.drew ?_ | refine below_drewN ?_ _ | refine below_then ?_ (by assumption) | refine below_put ?_ (by assumption) (by first | (simp; done) | (simp; omega) | omega) | refine Below.setCell ?_ ?_ _) | (simp; done) | (simp; omega) | omega)⟩
theorem on_bad_true (v1 v2 : Value) (m : Spc) (n : Int) (n0 : 0 ≤ n) (n5 : n < 500) (w : World) (h1 : SliceAt w .u8 v1 m.rom) (h2 : SliceAt w .u8 v2 m.ram) (hl : 1024 < m.rom.length ∨ 256 < m.ram.length) :
    Calls Try.prog 3 #[.agg #[v1, v2], .int .i64 n, .bool true] w fun e w' => e = .returned (.bool true) ∧ Below w.heap.size w w' := by
  have H1 := Lib.hid h1
  have H2 := Lib.hid h2
  have o1 := slice_one h1
  have o2 := slice_one h2
  have ONV : (#[v1, v2] : Array Value).all Value.oneCell' = true := by simp [o1, o2]
  have A := Lib.hid (fun W (k : Below w.heap.size w W) rg n => run_bad v1 v2 rg m n W (H1.out.below k) (H2.out.below k) hl)
  have hmm := @run_makeMap Try.prog
  have put2 := fun w0 => put_two w0 w0.heap.size rfl
  have get2 := fun w0 => get_two w0 w0.heap.size rfl
  clear h1 h2 hl
  go_enter Try.func3, Try.ntmps3
  go_wp2_with (first | ((with_reducible show wpList _ _ _ _ _ _); refine wpList_loadW rfl 24 (.tmp 3) rfl (w.heap.size) rfl 24 #[v1, v2] (show Blk _ (w.heap.size) #[v1, v2] 24 from (by repeat' (first | (with_reducible first | exact Hid.out (by assumption) | exact Blk.new _ _ _ | (refine Blk.new_at _ _ _ _ ?_; simp; done) | refine Blk.alloc ?_ _ | refine Blk.drewN ?_ _ | refine Blk.drew ?_ | apply Blk.set | refine Blk.put ?_ (by assumption) (by first | (simp; done) | (simp; omega) | omega) | refine Blk.below ?_ (by assumption)) | (refine Blk.setAt ?_ (by first | (simp; done) | (simp; omega))) | rfl))) _ Try.underlying24 rfl (by kernel_rfl) ?_))
  refine (A.out _ (by repeat' (first | (with_reducible first | exact Below.refl _ _ | assumption | refine below_alloc ?_ _ | refine Below.drew ?_ | refine below_drewN ?_ _ | refine below_then ?_ (by assumption) | refine below_put ?_ (by assumption) (by first | (simp; done) | (simp; omega) | omega) | refine Below.setCell ?_ ?_ _) | (simp; done) | (simp; omega) | omega)) _ _).mono ?_
  rintro e w1 ⟨rfl, hb1⟩
  have hs1 : w.heap.size + 1 ≤ w1.heap.size := by have := hb1.size; simpa using this
  have K1 := Lib.hid (show Blk w1 w.heap.size #[v1, v2] 24 from (by repeat' (first | (with_reducible first | exact Hid.out (by assumption) | exact Blk.new _ _ _ | (refine Blk.new_at _ _ _ _ ?_; simp; done) | refine Blk.alloc ?_ _ | refine Blk.drewN ?_ _ | refine Blk.drew ?_ | apply Blk.set | refine Blk.put ?_ (by assumption) (by first | (simp; done) | (simp; omega) | omega) | refine Blk.below ?_ (by assumption)) | (refine Blk.setAt ?_ (by first | (simp; done) | (simp; omega))) | rfl)))
  have B1 : Below w.heap.size w w1 := by repeat' (first | (with_reducible first | exact Below.refl _ _ | assumption | refine below_alloc ?_ _ | refine Below.drew ?_ | refine below_drewN ?_ _ | refine below_then ?_ (by assumption) | refine below_put ?_ (by assumption) (by first | (simp; done) | (simp; omega) | omega) | refine Below.setCell ?_ ?_ _) | (simp; done) | (simp; omega) | omega)
  clear hb1
  go_wp2_with (first | ((with_reducible show wpList _ _ _ _ _ _); refine wpList_storeW rfl 28 (.tmp 7) (.tmp 29) rfl (w1.heap.size) #[.int .u16 0, .int .u16 0, .int .u16 0, .int .u16 0, .int .u16 0, .int .u16 0, .int .u16 0, .int .u16 0, .int .u16 0, .bool false, .bool false, .bool false, .bool false, .bool false, .bool false] rfl rfl 28 _ (show Blk _ (w1.heap.size) #[.int .u16 0, .int .u16 0, .int .u16 0, .int .u16 0, .int .u16 0, .int .u16 0, .int .u16 0, .int .u16 0, .int .u16 0, .bool false, .bool false, .bool false, .bool false, .bool false, .bool false] 28 from (by repeat' (first | (with_reducible first | exact Hid.out (by assumption) | exact Blk.new _ _ _ | (refine Blk.new_at _ _ _ _ ?_; simp; done) | refine Blk.alloc ?_ _ | refine Blk.drewN ?_ _ | refine Blk.drew ?_ | apply Blk.set | refine Blk.put ?_ (by assumption) (by first | (simp; done) | (simp; omega) | omega) | refine Blk.below ?_ (by assumption)) | (refine Blk.setAt ?_ (by first | (simp; done) | (simp; omega))) | rfl))) (by kernel_rfl) rfl (by first | (with_reducible assumption) | simp [Value.oneCell']) ?_; intro w2 hp_w2 K_w2) | (((with_reducible show wpList _ _ _ _ _ _); refine wpList_storeW rfl 24 (.tmp 8) (.tmp 30) rfl (w1.heap.size + 1) #[.slice none 0 0, .slice none 0 0] rfl rfl 24 _ (show Blk _ (w1.heap.size + 1) #[.slice none 0 0, .slice none 0 0] 24 from (by repeat' (first | (with_reducible first | exact Hid.out (by assumption) | exact Blk.new _ _ _ | (refine Blk.new_at _ _ _ _ ?_; simp; done) | refine Blk.alloc ?_ _ | refine Blk.drewN ?_ _ | refine Blk.drew ?_ | apply Blk.set | refine Blk.put ?_ (by assumption) (by first | (simp; done) | (simp; omega) | omega) | refine Blk.below ?_ (by assumption)) | (refine Blk.setAt ?_ (by first | (simp; done) | (simp; omega))) | rfl))) (by kernel_rfl) rfl (by first | (with_reducible assumption) | simp [Value.oneCell']) ?_; intro w3 hp_w3 K_w3); have G0 := Lib.hid (show Blk w3 w.heap.size #[v1, v2] 24 from (by repeat' (first | (with_reducible first | exact Hid.out (by assumption) | exact Blk.new _ _ _ | (refine Blk.new_at _ _ _ _ ?_; simp; done) | refine Blk.alloc ?_ _ | refine Blk.drewN ?_ _ | refine Blk.drew ?_ | apply Blk.set | refine Blk.put ?_ (by assumption) (by first | (simp; done) | (simp; omega) | omega) | refine Blk.below ?_ (by assumption)) | (refine Blk.setAt ?_ (by first | (simp; done) | (simp; omega))) | rfl))); have hsz3 : w1.heap.size + 2 ≤ w3.heap.size := (by have a := hp_w2.size; have b := hp_w3.size; simp at a b; omega); have l3 : w.heap.size < w3.heap.size := by omega) | ((with_reducible show wpList _ _ _ _ _ _); refine wpList_loadW rfl 24 (.tmp 3) rfl (w.heap.size) rfl 24 #[v1, v2] (show Blk _ (w.heap.size) #[v1, v2] 24 from (by repeat' (first | (with_reducible first | exact Hid.out (by assumption) | exact Blk.new _ _ _ | (refine Blk.new_at _ _ _ _ ?_; simp; done) | refine Blk.alloc ?_ _ | refine Blk.drewN ?_ _ | refine Blk.drew ?_ | apply Blk.set | refine Blk.put ?_ (by assumption) (by first | (simp; done) | (simp; omega) | omega) | refine Blk.below ?_ (by assumption)) | (refine Blk.setAt ?_ (by first | (simp; done) | (simp; omega))) | rfl))) _ Try.underlying24 rfl (by kernel_rfl) ?_))
  have B3 : Below w.heap.size w w3 := B1.trans ((show Below w1.heap.size w1 w3 from by repeat' (first | (with_reducible first | exact Below.refl _ _ | assumption | refine below_alloc ?_ _ | refine Below.drew ?_ | refine below_drewN ?_ _ | refine below_then ?_ (by assumption) | refine below_put ?_ (by assumption) (by first | (simp; done) | (simp; omega) | omega) | refine Below.setCell ?_ ?_ _) | (simp; done) | (simp; omega) | omega)).mono B1.size)
  refine (A.out ((w3.alloc (.map #[{ key := .bool true, val := .slice (some ⟨w3.heap.size + 1, 0, none⟩) 1 1, born := 0 }] 1)).alloc (.cells #[.int .i64 n] 3)) (by exact ((B3.trans ((Below.refl w.heap.size w3).alloc (by omega) _)).alloc (by simp; omega) _)) _ _).mono ?_
  rintro e w4 ⟨rfl, hb4⟩
  have hs4 : w3.heap.size + 2 ≤ w4.heap.size := by have := hb4.size; simpa using this
  have B34 : Below w3.heap.size w3 w4 := by repeat' (first | (with_reducible first | exact Below.refl _ _ | assumption | refine below_alloc ?_ _ | refine Below.drew ?_ | refine below_drewN ?_ _ | refine below_then ?_ (by assumption) | refine below_put ?_ (by assumption) (by first | (simp; done) | (simp; omega) | omega) | refine Below.setCell ?_ ?_ _) | (simp; done) | (simp; omega) | omega)
  have B4 : Below w.heap.size w w4 := B3.trans (B34.mono (by omega))
  clear hb4 A K1 G0 K_w2 K_w3 B34 hp_w2 hp_w3 B1 B3
  go_wp2_with (first | ((with_reducible show wpList _ _ _ _ _ _); refine wpList_storeW rfl 28 (.tmp 11) (.tmp 44) rfl (w4.heap.size) #[.int .u16 0, .int .u16 0, .int .u16 0, .int .u16 0, .int .u16 0, .int .u16 0, .int .u16 0, .int .u16 0, .int .u16 0, .bool false, .bool false, .bool false, .bool false, .bool false, .bool false] rfl rfl 28 _ (show Blk _ (w4.heap.size) #[.int .u16 0, .int .u16 0, .int .u16 0, .int .u16 0, .int .u16 0, .int .u16 0, .int .u16 0, .int .u16 0, .int .u16 0, .bool false, .bool false, .bool false, .bool false, .bool false, .bool false] 28 from (by repeat' (first | (with_reducible first | exact Hid.out (by assumption) | exact Blk.new _ _ _ | (refine Blk.new_at _ _ _ _ ?_; simp; done) | refine Blk.alloc ?_ _ | refine Blk.drewN ?_ _ | refine Blk.drew ?_ | apply Blk.set | refine Blk.put ?_ (by assumption) (by first | (simp; done) | (simp; omega) | omega) | refine Blk.below ?_ (by assumption)) | (refine Blk.setAt ?_ (by first | (simp; done) | (simp; omega))) | rfl))) (by kernel_rfl) rfl (by first | (with_reducible assumption) | simp [Value.oneCell']) ?_; intro w5 hp_w5 K_w5) | ((with_reducible show wpList _ _ _ _ _ _); refine wpList_storeW rfl 24 (.tmp 12) (.tmp 45) rfl (w4.heap.size + 1) #[.slice none 0 0, .slice none 0 0] rfl rfl 24 _ (show Blk _ (w4.heap.size + 1) #[.slice none 0 0, .slice none 0 0] 24 from (by repeat' (first | (with_reducible first | exact Hid.out (by assumption) | exact Blk.new _ _ _ | (refine Blk.new_at _ _ _ _ ?_; simp; done) | refine Blk.alloc ?_ _ | refine Blk.drewN ?_ _ | refine Blk.drew ?_ | apply Blk.set | refine Blk.put ?_ (by assumption) (by first | (simp; done) | (simp; omega) | omega) | refine Blk.below ?_ (by assumption)) | (refine Blk.setAt ?_ (by first | (simp; done) | (simp; omega))) | rfl))) (by kernel_rfl) rfl (by first | (with_reducible assumption) | simp [Value.oneCell']) ?_; intro w6 hp_w6 K_w6))
  have B6 : Below w.heap.size w w6 := B4.trans ((show Below w4.heap.size w4 w6 from by repeat' (first | (with_reducible first | exact Below.refl _ _ | assumption | refine below_alloc ?_ _ | refine Below.drew ?_ | refine below_drewN ?_ _ | refine below_then ?_ (by assumption) | refine below_put ?_ (by assumption) (by first | (simp; done) | (simp; omega) | omega) | refine Below.setCell ?_ ?_ _) | (simp; done) | (simp; omega) | omega)).mono B4.size)
  refine (stepped_any w6).mono ?_
  rintro e w7 ⟨rfl, hb7⟩
  have B7 : Below w.heap.size w w7 := B6.trans (hb7.mono B6.size)
  go_wp2_with fail
  refine (stepped_any w7).mono ?_
  rintro e w8 ⟨rfl, hb8⟩
  have B8 : Below w.heap.size w w8 := B7.trans (hb8.mono B7.size)
  go_wp2
  go_ret
  exact ⟨rfl, B8⟩
theorem on_bad_false (v1 v2 : Value) (m : Spc) (n : Int) (n0 : 0 ≤ n) (n5 : n < 500) (w : World) (h1 : SliceAt w .u8 v1 m.rom) (h2 : SliceAt w .u8 v2 m.ram) (hl : 1024 < m.rom.length ∨ 256 < m.ram.length) :
    Calls Try.prog 3 #[.agg #[v1, v2], .int .i64 n, .bool false] w fun e w' => e = .returned (.bool true) ∧ Below w.heap.size w w' := by
  have H1 := Lib.hid h1
  have H2 := Lib.hid h2
  have o1 := slice_one h1
  have o2 := slice_one h2
  have ONV : (#[v1, v2] : Array Value).all Value.oneCell' = true := by simp [o1, o2]
  have A := Lib.hid (fun W (k : Below w.heap.size w W) rg n => run_bad v1 v2 rg m n W (H1.out.below k) (H2.out.below k) hl)
  have hmm := @run_makeMap Try.prog
  have put2 := fun w0 => put_two w0 w0.heap.size rfl
  have get2 := fun w0 => get_two w0 w0.heap.size rfl
  clear h1 h2 hl
  go_enter Try.func3, Try.ntmps3
  go_wp2_with (first | ((with_reducible show wpList _ _ _ _ _ _); refine wpList_loadW rfl 24 (.tmp 3) rfl (w.heap.size) rfl 24 #[v1, v2] (show Blk _ (w.heap.size) #[v1, v2] 24 from (by repeat' (first | (with_reducible first | exact Hid.out (by assumption) | exact Blk.new _ _ _ | (refine Blk.new_at _ _ _ _ ?_; simp; done) | refine Blk.alloc ?_ _ | refine Blk.drewN ?_ _ | refine Blk.drew ?_ | apply Blk.set | refine Blk.put ?_ (by assumption) (by first | (simp; done) | (simp; omega) | omega) | refine Blk.below ?_ (by assumption)) | (refine Blk.setAt ?_ (by first | (simp; done) | (simp; omega))) | rfl))) _ Try.underlying24 rfl (by kernel_rfl) ?_))
  refine (A.out _ (by repeat' (first | (with_reducible first | exact Below.refl _ _ | assumption | refine below_alloc ?_ _ | refine Below.drew ?_ | refine below_drewN ?_ _ | refine below_then ?_ (by assumption) | refine below_put ?_ (by assumption) (by first | (simp; done) | (simp; omega) | omega) | refine Below.setCell ?_ ?_ _) | (simp; done) | (simp; omega) | omega)) _ _).mono ?_
  rintro e w1 ⟨rfl, hb1⟩
  have hs1 : w.heap.size + 1 ≤ w1.heap.size := by have := hb1.size; simpa using this
  have K1 := Lib.hid (show Blk w1 w.heap.size #[v1, v2] 24 from (by repeat' (first | (with_reducible first | exact Hid.out (by assumption) | exact Blk.new _ _ _ | (refine Blk.new_at _ _ _ _ ?_; simp; done) | refine Blk.alloc ?_ _ | refine Blk.drewN ?_ _ | refine Blk.drew ?_ | apply Blk.set | refine Blk.put ?_ (by assumption) (by first | (simp; done) | (simp; omega) | omega) | refine Blk.below ?_ (by assumption)) | (refine Blk.setAt ?_ (by first | (simp; done) | (simp; omega))) | rfl)))
  have B1 : Below w.heap.size w w1 := by repeat' (first | (with_reducible first | exact Below.refl _ _ | assumption | refine below_alloc ?_ _ | refine Below.drew ?_ | refine below_drewN ?_ _ | refine below_then ?_ (by assumption) | refine below_put ?_ (by assumption) (by first | (simp; done) | (simp; omega) | omega) | refine Below.setCell ?_ ?_ _) | (simp; done) | (simp; omega) | omega)
  clear hb1
  go_wp2_with (first | ((with_reducible show wpList _ _ _ _ _ _); refine wpList_storeW rfl 28 (.tmp 7) (.tmp 29) rfl (w1.heap.size) #[.int .u16 0, .int .u16 0, .int .u16 0, .int .u16 0, .int .u16 0, .int .u16 0, .int .u16 0, .int .u16 0, .int .u16 0, .bool false, .bool false, .bool false, .bool false, .bool false, .bool false] rfl rfl 28 _ (show Blk _ (w1.heap.size) #[.int .u16 0, .int .u16 0, .int .u16 0, .int .u16 0, .int .u16 0, .int .u16 0, .int .u16 0, .int .u16 0, .int .u16 0, .bool false, .bool false, .bool false, .bool false, .bool false, .bool false] 28 from (by repeat' (first | (with_reducible first | exact Hid.out (by assumption) | exact Blk.new _ _ _ | (refine Blk.new_at _ _ _ _ ?_; simp; done) | refine Blk.alloc ?_ _ | refine Blk.drewN ?_ _ | refine Blk.drew ?_ | apply Blk.set | refine Blk.put ?_ (by assumption) (by first | (simp; done) | (simp; omega) | omega) | refine Blk.below ?_ (by assumption)) | (refine Blk.setAt ?_ (by first | (simp; done) | (simp; omega))) | rfl))) (by kernel_rfl) rfl (by first | (with_reducible assumption) | simp [Value.oneCell']) ?_; intro w2 hp_w2 K_w2) | (((with_reducible show wpList _ _ _ _ _ _); refine wpList_storeW rfl 24 (.tmp 8) (.tmp 30) rfl (w1.heap.size + 1) #[.slice none 0 0, .slice none 0 0] rfl rfl 24 _ (show Blk _ (w1.heap.size + 1) #[.slice none 0 0, .slice none 0 0] 24 from (by repeat' (first | (with_reducible first | exact Hid.out (by assumption) | exact Blk.new _ _ _ | (refine Blk.new_at _ _ _ _ ?_; simp; done) | refine Blk.alloc ?_ _ | refine Blk.drewN ?_ _ | refine Blk.drew ?_ | apply Blk.set | refine Blk.put ?_ (by assumption) (by first | (simp; done) | (simp; omega) | omega) | refine Blk.below ?_ (by assumption)) | (refine Blk.setAt ?_ (by first | (simp; done) | (simp; omega))) | rfl))) (by kernel_rfl) rfl (by first | (with_reducible assumption) | simp [Value.oneCell']) ?_; intro w3 hp_w3 K_w3); have G0 := Lib.hid (show Blk w3 w.heap.size #[v1, v2] 24 from (by repeat' (first | (with_reducible first | exact Hid.out (by assumption) | exact Blk.new _ _ _ | (refine Blk.new_at _ _ _ _ ?_; simp; done) | refine Blk.alloc ?_ _ | refine Blk.drewN ?_ _ | refine Blk.drew ?_ | apply Blk.set | refine Blk.put ?_ (by assumption) (by first | (simp; done) | (simp; omega) | omega) | refine Blk.below ?_ (by assumption)) | (refine Blk.setAt ?_ (by first | (simp; done) | (simp; omega))) | rfl))); have hsz3 : w1.heap.size + 2 ≤ w3.heap.size := (by have a := hp_w2.size; have b := hp_w3.size; simp at a b; omega); have l3 : w.heap.size < w3.heap.size := by omega) | ((with_reducible show wpList _ _ _ _ _ _); refine wpList_loadW rfl 24 (.tmp 3) rfl (w.heap.size) rfl 24 #[v1, v2] (show Blk _ (w.heap.size) #[v1, v2] 24 from (by repeat' (first | (with_reducible first | exact Hid.out (by assumption) | exact Blk.new _ _ _ | (refine Blk.new_at _ _ _ _ ?_; simp; done) | refine Blk.alloc ?_ _ | refine Blk.drewN ?_ _ | refine Blk.drew ?_ | apply Blk.set | refine Blk.put ?_ (by assumption) (by first | (simp; done) | (simp; omega) | omega) | refine Blk.below ?_ (by assumption)) | (refine Blk.setAt ?_ (by first | (simp; done) | (simp; omega))) | rfl))) _ Try.underlying24 rfl (by kernel_rfl) ?_))
  have B3 : Below w.heap.size w w3 := B1.trans ((show Below w1.heap.size w1 w3 from by repeat' (first | (with_reducible first | exact Below.refl _ _ | assumption | refine below_alloc ?_ _ | refine Below.drew ?_ | refine below_drewN ?_ _ | refine below_then ?_ (by assumption) | refine below_put ?_ (by assumption) (by first | (simp; done) | (simp; omega) | omega) | refine Below.setCell ?_ ?_ _) | (simp; done) | (simp; omega) | omega)).mono B1.size)
  refine (A.out ((w3.alloc (.map #[{ key := .bool true, val := .slice (some ⟨w3.heap.size + 1, 0, none⟩) 1 1, born := 0 }] 1)).alloc (.cells #[.int .i64 n] 3)) (by exact ((B3.trans ((Below.refl w.heap.size w3).alloc (by omega) _)).alloc (by simp; omega) _)) _ _).mono ?_
  rintro e w4 ⟨rfl, hb4⟩
  have hs4 : w3.heap.size + 2 ≤ w4.heap.size := by have := hb4.size; simpa using this
  have B34 : Below w3.heap.size w3 w4 := by repeat' (first | (with_reducible first | exact Below.refl _ _ | assumption | refine below_alloc ?_ _ | refine Below.drew ?_ | refine below_drewN ?_ _ | refine below_then ?_ (by assumption) | refine below_put ?_ (by assumption) (by first | (simp; done) | (simp; omega) | omega) | refine Below.setCell ?_ ?_ _) | (simp; done) | (simp; omega) | omega)
  have B4 : Below w.heap.size w w4 := B3.trans (B34.mono (by omega))
  clear hb4 A K1 G0 K_w2 K_w3 B34 hp_w2 hp_w3 B1 B3
  go_wp2_with (first | ((with_reducible show wpList _ _ _ _ _ _); refine wpList_storeW rfl 28 (.tmp 11) (.tmp 44) rfl (w4.heap.size) #[.int .u16 0, .int .u16 0, .int .u16 0, .int .u16 0, .int .u16 0, .int .u16 0, .int .u16 0, .int .u16 0, .int .u16 0, .bool false, .bool false, .bool false, .bool false, .bool false, .bool false] rfl rfl 28 _ (show Blk _ (w4.heap.size) #[.int .u16 0, .int .u16 0, .int .u16 0, .int .u16 0, .int .u16 0, .int .u16 0, .int .u16 0, .int .u16 0, .int .u16 0, .bool false, .bool false, .bool false, .bool false, .bool false, .bool false] 28 from (by repeat' (first | (with_reducible first | exact Hid.out (by assumption) | exact Blk.new _ _ _ | (refine Blk.new_at _ _ _ _ ?_; simp; done) | refine Blk.alloc ?_ _ | refine Blk.drewN ?_ _ | refine Blk.drew ?_ | apply Blk.set | refine Blk.put ?_ (by assumption) (by first | (simp; done) | (simp; omega) | omega) | refine Blk.below ?_ (by assumption)) | (refine Blk.setAt ?_ (by first | (simp; done) | (simp; omega))) | rfl))) (by kernel_rfl) rfl (by first | (with_reducible assumption) | simp [Value.oneCell']) ?_; intro w5 hp_w5 K_w5) | ((with_reducible show wpList _ _ _ _ _ _); refine wpList_storeW rfl 24 (.tmp 12) (.tmp 45) rfl (w4.heap.size + 1) #[.slice none 0 0, .slice none 0 0] rfl rfl 24 _ (show Blk _ (w4.heap.size + 1) #[.slice none 0 0, .slice none 0 0] 24 from (by repeat' (first | (with_reducible first | exact Hid.out (by assumption) | exact Blk.new _ _ _ | (refine Blk.new_at _ _ _ _ ?_; simp; done) | refine Blk.alloc ?_ _ | refine Blk.drewN ?_ _ | refine Blk.drew ?_ | apply Blk.set | refine Blk.put ?_ (by assumption) (by first | (simp; done) | (simp; omega) | omega) | refine Blk.below ?_ (by assumption)) | (refine Blk.setAt ?_ (by first | (simp; done) | (simp; omega))) | rfl))) (by kernel_rfl) rfl (by first | (with_reducible assumption) | simp [Value.oneCell']) ?_; intro w6 hp_w6 K_w6))
  have B6 : Below w.heap.size w w6 := B4.trans ((show Below w4.heap.size w4 w6 from by repeat' (first | (with_reducible first | exact Below.refl _ _ | assumption | refine below_alloc ?_ _ | refine Below.drew ?_ | refine below_drewN ?_ _ | refine below_then ?_ (by assumption) | refine below_put ?_ (by assumption) (by first | (simp; done) | (simp; omega) | omega) | refine Below.setCell ?_ ?_ _) | (simp; done) | (simp; omega) | omega)).mono B4.size)
  refine (stepped_any w6).mono ?_
  rintro e w7 ⟨rfl, hb7⟩
  have B7 : Below w.heap.size w w7 := B6.trans (hb7.mono B6.size)
  go_wp2_with fail
  refine (stepped_any w7).mono ?_
  rintro e w8 ⟨rfl, hb8⟩
  have B8 : Below w.heap.size w w8 := B7.trans (hb8.mono B7.size)
  go_wp2
  go_ret
  exact ⟨rfl, B8⟩
theorem walk (v1 : Value) (xs1 : List Int) (v2 : Value) (xs2 : List Int) (n : Int) (more : Bool) (w : World) (h1 : SliceAt w .u8 v1 xs1) (h2 : SliceAt w .u8 v2 xs2) (hn : I64 n) :
    Calls Try.prog 3 #[.agg #[v1, v2], .int .i64 n, .bool more] w fun e w' => e = .returned (.bool true) ∧ Below w.heap.size w w' := by
  by_cases ho : n < 0 ∨ 500 ≤ n
  · exact on_out v1 v2 n more w (slice_one h1) (slice_one h2) ho
  by_cases hl : 1024 < xs1.length ∨ 256 < xs2.length
  · cases more
    · exact on_bad_false v1 v2 ⟨xs1, xs2⟩ n (by omega) (by omega) w h1 h2 hl
    · exact on_bad_true v1 v2 ⟨xs1, xs2⟩ n (by omega) (by omega) w h1 h2 hl
  obtain ⟨k, rfl⟩ := Int.eq_ofNat_of_zero_le (show 0 ≤ n by omega)
  cases more
  · exact on_off v1 v2 ⟨xs1, xs2⟩ k (by omega) w h1 h2 (show xs1.length ≤ 1024 by omega) (show xs2.length ≤ 256 by omega)
  · exact on_on v1 v2 ⟨xs1, xs2⟩ k (by omega) w h1 h2 (show xs1.length ≤ 1024 by omega) (show xs2.length ≤ 256 by omega)
end Go.Proofs.Yteihggfcafoogaa.cpuOn
