/- marqueelaw.stepped: a closed fact of cpu.Run and cpu.Step; it answers true. Conditions: none. -/
import Derived.Test.YteihggfcafoogaaCpuStp
import Derived.Test.YteihggfcafoogaaCpuRn
import Derived.Test.YteihggfcafoogaaLibEq
namespace Go.Proofs.Yteihggfcafoogaa
open Go.RowKit Go.Mq
set_option linter.unusedVariables false
set_option linter.unusedSimpArgs false
set_option maxHeartbeats 2000000
set_option maxRecDepth 100000
def mS : Spc := ⟨[0, 6, 0, 8, 0, 0, 121, 31, 0, 0], [0, 0, 0, 0, 0, 0, 0, 0]⟩
def cS : Cp := ⟨fun i => if i = 7 then 32776 else 0, 6, false, false, false, false, true, false⟩
theorem lit_run : (runS busS [] mS 1).n = 1 ∧ (runS busS [] mS 1).c.r 1 = 65535 ∧ (runS busS [] mS 1).c.n = true ∧ (runS busS [] mS 1).c.pc = 8 := by decide
theorem lit_step : dN busS mS cS true = 6 ∧ (dC busS mS cS true).pc = 8 ∧ (dC busS mS cS true).may = false ∧ (dM busS mS cS true).ram = [0, 0, 0, 0, 0, 16, 0, 6] := by decide
theorem cS_in : cS.In := ⟨fun i => by unfold cS U16; simp only; split <;> omega, by show U16 6; unfold U16; omega⟩
theorem byte_wf (xs : List Int) (h : Bytes8 xs) : ∀ x ∈ xs, (Lit.int .u8 x).wf = true := fun x hx => by
  have := h x hx
  simp only [Lit.wf, Bool.and_eq_true, decide_eq_true_eq]
  exact ⟨this.1, Int.le_trans this.2 (by decide)⟩
/-- a block that is a slice of bytes -/
theorem blk_slice {w : World} {b : Nat} {t : TypeId} (xs : List Int) (hb : Bytes8 xs) (hl : xs.length ≤ 20000) (h : Blk w b (xs.map (Value.int .u8)).toArray t) : SliceAt w .u8 (.slice (some ⟨b, 0, none⟩) xs.length xs.length) xs := by
  refine ⟨some ⟨b, 0, none⟩, xs.length, rfl, Nat.le_refl _, by unfold maxLen; omega, byte_wf xs hb, fun _ => ⟨b, 0, rfl, h.lt, fun i hi => ?_⟩⟩
  rw [h.cell]
  simp [hi]
theorem infoB8 : (Try.prog.info? 5).map (fun i => (i.zero, i.size, i.bytes)) = some (some (.int .u8 0), 1, 1) := by kernel_rfl
theorem mk8 (w : World) : (Instr.makeSlice 22 (.int .i64 8) (.int .i64 8)).run Try.prog w = .ok (.slice (some ⟨w.heap.size, 0, none⟩) 8 8) (w.alloc (.cells #[.int .u8 0, .int .u8 0, .int .u8 0, .int .u8 0, .int .u8 0, .int .u8 0, .int .u8 0, .int .u8 0] 5)) := by
  obtain ⟨i0, hi, hz0, hz1, hz2⟩ := info_parts infoB8
  have := run_make (P := Try.prog) w 22 5 i0 (.int .u8 0) Try.underlying22 hi hz0 .i64 .i64 8 8 (by omega) (by omega) (by rw [hz2]; omega) (by omega)
  rw [hz1, show madeCells (Value.int .u8 0).cells (Int.toNat 8 * 1) = #[.int .u8 0, .int .u8 0, .int .u8 0, .int .u8 0, .int .u8 0, .int .u8 0, .int .u8 0, .int .u8 0] from by kernel_rfl] at this
  exact this
theorem nil_i64 (w : World) : SliceAt w .i64 (.slice none 0 0) [] := ⟨none, 0, rfl, Nat.le_refl _, by unfold maxLen; omega, fun _ h => by simp at h, fun h => by simp at h⟩
theorem slice_one {w : World} {k : IntKind} {v : Value} {xs : List Int} (h : SliceAt w k v xs) : v.oneCell' = true := by obtain ⟨a, q, rfl, -⟩ := h; rfl
theorem stepped_any (w : World) : Calls Try.prog 7 #[] w fun e w' => e = .returned (.bool true) ∧ Below w.heap.size w w' := by
  have mk := mk8
  have by1 : Bytes8 [0, 6, 0, 8, 0, 0, 121, 31, 0, 0] := by unfold Bytes8; decide
  have by2 : Bytes8 [0, 0, 0, 0, 0, 0, 0, 0] := by unfold Bytes8; decide
  have BY := Lib.hid (And.intro by1 by2)
  clear by1 by2
  go_enter Try.func7, Try.ntmps7
  go_wp2_with fail
  have HR := Lib.hid (fun W (k : SliceAt W .u8 (.slice (some ⟨w.heap.size, 0, none⟩) 10 10) mS.rom ∧ SliceAt W .u8 (.slice (some ⟨w.heap.size + 1, 0, none⟩) 8 8) mS.ram) => run_any (.slice (some ⟨w.heap.size, 0, none⟩) 10 10) (.slice (some ⟨w.heap.size + 1, 0, none⟩) 8 8) (.slice none 0 0) mS [] 1 (by omega) W k.1 k.2 (nil_i64 W) (by simp) (by decide) (by decide))
  obtain ⟨W0, hW0⟩ : ∃ W, W = ((w.alloc (.cells #[.int .u8 0, .int .u8 6, .int .u8 0, .int .u8 8, .int .u8 0, .int .u8 0, .int .u8 121, .int .u8 31, .int .u8 0, .int .u8 0] 5)).alloc (.cells #[.int .u8 0, .int .u8 0, .int .u8 0, .int .u8 0, .int .u8 0, .int .u8 0, .int .u8 0, .int .u8 0] 5)).alloc (.cells #[.slice (some ⟨w.heap.size, 0, none⟩) 10 10, .slice (some ⟨w.heap.size + 1, 0, none⟩) 8 8] 24) := ⟨_, rfl⟩
  have k0 : Blk W0 w.heap.size #[.int .u8 0, .int .u8 6, .int .u8 0, .int .u8 8, .int .u8 0, .int .u8 0, .int .u8 121, .int .u8 31, .int .u8 0, .int .u8 0] 5 := by rw [hW0]; exact (by repeat' (first | (with_reducible first | exact Hid.out (by assumption) | exact Blk.new _ _ _ | (refine Blk.new_at _ _ _ _ ?_; simp; done) | refine Blk.alloc ?_ _ | refine Blk.drewN ?_ _ | refine Blk.drew ?_ | apply Blk.set | refine Blk.put ?_ (by assumption) (by first | (simp; done) | (simp; omega) | omega) | refine Blk.below ?_ (by assumption)) | (refine Blk.setAt ?_ (by first | (simp; done) | (simp; omega))) | rfl))
  have k1 : Blk W0 (w.heap.size + 1) #[.int .u8 0, .int .u8 0, .int .u8 0, .int .u8 0, .int .u8 0, .int .u8 0, .int .u8 0, .int .u8 0] 5 := by rw [hW0]; exact (by repeat' (first | (with_reducible first | exact Hid.out (by assumption) | exact Blk.new _ _ _ | (refine Blk.new_at _ _ _ _ ?_; simp; done) | refine Blk.alloc ?_ _ | refine Blk.drewN ?_ _ | refine Blk.drew ?_ | apply Blk.set | refine Blk.put ?_ (by assumption) (by first | (simp; done) | (simp; omega) | omega) | refine Blk.below ?_ (by assumption)) | (refine Blk.setAt ?_ (by first | (simp; done) | (simp; omega))) | rfl))
  have Ks0 : Hid (Blk W0 (w.heap.size + 1 + 1) #[.slice (some ⟨w.heap.size, 0, none⟩) 10 10, .slice (some ⟨w.heap.size + 1, 0, none⟩) 8 8] 24) := Lib.hid (by rw [hW0]; exact (by repeat' (first | (with_reducible first | exact Hid.out (by assumption) | exact Blk.new _ _ _ | (refine Blk.new_at _ _ _ _ ?_; simp; done) | refine Blk.alloc ?_ _ | refine Blk.drewN ?_ _ | refine Blk.drew ?_ | apply Blk.set | refine Blk.put ?_ (by assumption) (by first | (simp; done) | (simp; omega) | omega) | refine Blk.below ?_ (by assumption)) | (refine Blk.setAt ?_ (by first | (simp; done) | (simp; omega))) | rfl)))
  have B0 : Below w.heap.size w W0 := by rw [hW0]; exact by repeat' (first | (with_reducible first | exact Below.refl _ _ | assumption | refine below_alloc ?_ _ | refine Below.drew ?_ | refine below_drewN ?_ _ | refine below_then ?_ (by assumption) | refine below_put ?_ (by assumption) (by first | (simp; done) | (simp; omega) | omega) | refine Below.setCell ?_ ?_ _) | (simp; done) | (simp; omega) | omega)
  rw [← hW0]
  clear hW0
  have S1 := Lib.hid (blk_slice _ BY.out.1 (by simp) k0)
  have S2 := Lib.hid (blk_slice _ BY.out.2 (by simp) k1)
  clear k0 k1
  have HA := Lib.hid (HR.out W0 ⟨S1.out, S2.out⟩)
  have HX := Lib.hid lit_run
  rw [HX.out.1] at HA
  obtain ⟨C, hC⟩ : ∃ C, C = (runS busS [] mS 1).c := ⟨_, rfl⟩
  rw [← hC] at HA
  have c1 : C.r 1 = 65535 := by rw [hC]; exact HX.out.2.1
  have c2 : C.n = true := by rw [hC]; exact HX.out.2.2.1
  have c3 : C.pc = 8 := by rw [hC]; exact HX.out.2.2.2
  clear hC
  refine HA.out.mono ?_
  rintro e w1 ⟨r1, m1, rfl, q1, q2, hb1⟩
  have or1 := slice_one q1
  have om1 := slice_one q2
  clear q1 q2 HA HR HX BY
  have hs1 := hb1.size
  have S1' := Lib.hid (S1.out.below hb1)
  have S2' := Lib.hid (S2.out.below hb1)
  have Ks1 := Lib.hid (Ks0.out.below hb1)
  have lks := Ks1.out.lt
  have B1 : Below w.heap.size w w1 := B0.trans (hb1.mono B0.size)
  have ONE := cpuC_one C
  have ONR : (#[r1, m1] : Array Value).all Value.oneCell' = true := by simp [or1, om1]
  clear S1 S2 Ks0 hb1 B0
  go_wp2_with (first | ((with_reducible show wpList _ _ _ _ _ _); refine wpList_storeW rfl 28 (.tmp 2) (.tmp 16) rfl (w1.heap.size) (cpuC C) rfl rfl 28 _ (show Blk _ (w1.heap.size) #[.int .u16 0, .int .u16 0, .int .u16 0, .int .u16 0, .int .u16 0, .int .u16 0, .int .u16 0, .int .u16 0, .int .u16 0, .bool false, .bool false, .bool false, .bool false, .bool false, .bool false] 28 from (by repeat' (first | (with_reducible first | exact Hid.out (by assumption) | exact Blk.new _ _ _ | (refine Blk.new_at _ _ _ _ ?_; simp; done) | refine Blk.alloc ?_ _ | refine Blk.drewN ?_ _ | refine Blk.drew ?_ | apply Blk.set | refine Blk.put ?_ (by assumption) (by first | (simp; done) | (simp; omega) | omega) | refine Blk.below ?_ (by assumption)) | (refine Blk.setAt ?_ (by first | (simp; done) | (simp; omega))) | rfl))) (by kernel_rfl) rfl (by first | (with_reducible assumption) | simp [Value.oneCell']) ?_; intro w2 hp_w2 K_w2) | ((with_reducible show wpList _ _ _ _ _ _); refine wpList_storeW rfl 24 (.tmp 3) (.tmp 17) rfl (w1.heap.size + 1) #[r1, m1] rfl rfl 24 _ (show Blk _ (w1.heap.size + 1) #[.slice none 0 0, .slice none 0 0] 24 from (by repeat' (first | (with_reducible first | exact Hid.out (by assumption) | exact Blk.new _ _ _ | (refine Blk.new_at _ _ _ _ ?_; simp; done) | refine Blk.alloc ?_ _ | refine Blk.drewN ?_ _ | refine Blk.drew ?_ | apply Blk.set | refine Blk.put ?_ (by assumption) (by first | (simp; done) | (simp; omega) | omega) | refine Blk.below ?_ (by assumption)) | (refine Blk.setAt ?_ (by first | (simp; done) | (simp; omega))) | rfl))) (by kernel_rfl) rfl (by first | (with_reducible assumption) | simp [Value.oneCell']) ?_; intro w3 hp_w3 K_w3) | ((with_reducible show wpList _ _ _ _ _ _); refine wpList_loadW rfl 24 (.tmp 1) rfl (w.heap.size + 1 + 1) rfl 24 #[.slice (some ⟨w.heap.size, 0, none⟩) 10 10, .slice (some ⟨w.heap.size + 1, 0, none⟩) 8 8] (show Blk _ (w.heap.size + 1 + 1) #[.slice (some ⟨w.heap.size, 0, none⟩) 10 10, .slice (some ⟨w.heap.size + 1, 0, none⟩) 8 8] 24 from (by repeat' (first | (with_reducible first | exact Hid.out (by assumption) | exact Blk.new _ _ _ | (refine Blk.new_at _ _ _ _ ?_; simp; done) | refine Blk.alloc ?_ _ | refine Blk.drewN ?_ _ | refine Blk.drew ?_ | apply Blk.set | refine Blk.put ?_ (by assumption) (by first | (simp; done) | (simp; omega) | omega) | refine Blk.below ?_ (by assumption)) | (refine Blk.setAt ?_ (by first | (simp; done) | (simp; omega))) | rfl))) _ Try.underlying24 rfl (by kernel_rfl) ?_))
  have hsz3 : w3.heap.size = w1.heap.size + 1 + 1 := by have a := hp_w2.size; have b := hp_w3.size; simp at a b; omega
  have hc1 := Lib.hid (show Blk w3 w1.heap.size (cpuC C) 28 from (by repeat' (first | (with_reducible first | exact Hid.out (by assumption) | exact Blk.new _ _ _ | (refine Blk.new_at _ _ _ _ ?_; simp; done) | refine Blk.alloc ?_ _ | refine Blk.drewN ?_ _ | refine Blk.drew ?_ | apply Blk.set | refine Blk.put ?_ (by assumption) (by first | (simp; done) | (simp; omega) | omega) | refine Blk.below ?_ (by assumption)) | (refine Blk.setAt ?_ (by first | (simp; done) | (simp; omega))) | rfl)))
  have hs3 : Below w1.heap.size w1 w3 := by repeat' (first | (with_reducible first | exact Below.refl _ _ | assumption | refine below_alloc ?_ _ | refine Below.drew ?_ | refine below_drewN ?_ _ | refine below_then ?_ (by assumption) | refine below_put ?_ (by assumption) (by first | (simp; done) | (simp; omega) | omega) | refine Below.setCell ?_ ?_ _) | (simp; done) | (simp; omega) | omega)
  have B3 : Below w.heap.size w w3 := by repeat' (first | (with_reducible first | exact Below.refl _ _ | assumption | refine below_alloc ?_ _ | refine Below.drew ?_ | refine below_drewN ?_ _ | refine below_then ?_ (by assumption) | refine below_put ?_ (by assumption) (by first | (simp; done) | (simp; omega) | omega) | refine Below.setCell ?_ ?_ _) | (simp; done) | (simp; omega) | omega)
  have S13 := Lib.hid (S1'.out.below hs3)
  have S23 := Lib.hid (S2'.out.below hs3)
  clear S1' S2' K_w2 K_w3 Ks1
  have HT := Lib.hid (step_any cS cS_in (.slice (some ⟨w.heap.size, 0, none⟩) 10 10) (.slice (some ⟨w.heap.size + 1, 0, none⟩) 8 8) mS true w3 S13.out S23.out (by decide) (by decide))
  have HX := Lib.hid lit_step
  rw [HX.out.1] at HT
  obtain ⟨D, hD⟩ : ∃ D, D = dC busS mS cS true := ⟨_, rfl⟩
  obtain ⟨M, hM⟩ : ∃ M, M = dM busS mS cS true := ⟨_, rfl⟩
  rw [← hD, ← hM] at HT
  have d1 : D.pc = 8 := by rw [hD]; exact HX.out.2.1
  have d2 : D.may = false := by rw [hD]; exact HX.out.2.2.1
  have d3 : M.ram = [0, 0, 0, 0, 0, 16, 0, 6] := by rw [hM]; exact HX.out.2.2.2
  clear hD hM
  refine HT.out.mono ?_
  rintro e w4 ⟨r2, m2, rfl, q1, q2, hb4⟩
  have or2 := slice_one q1
  have om2 := slice_one q2
  rw [d3] at q2
  have Q2 := Lib.hid q2
  have hs4 := hb4.size
  have hc4 := Lib.hid (hc1.out.below hb4)
  have B4 : Below w.heap.size w w4 := B3.trans (hb4.mono B3.size)
  have ONE := cpuC_one D
  have ONR : (#[r2, m2] : Array Value).all Value.oneCell' = true := by simp [or2, om2]
  clear q1 q2 HT HX S13 S23 hb4 B3 hp_w2 hp_w3 hs3 hc1 d3 B1
  go_wp2_with (first | ((with_reducible show wpList _ _ _ _ _ _); refine wpList_storeW rfl 28 (.tmp 6) (.tmp 25) rfl (w4.heap.size) (cpuC D) rfl rfl 28 _ (show Blk _ (w4.heap.size) #[.int .u16 0, .int .u16 0, .int .u16 0, .int .u16 0, .int .u16 0, .int .u16 0, .int .u16 0, .int .u16 0, .int .u16 0, .bool false, .bool false, .bool false, .bool false, .bool false, .bool false] 28 from (by repeat' (first | (with_reducible first | exact Hid.out (by assumption) | exact Blk.new _ _ _ | (refine Blk.new_at _ _ _ _ ?_; simp; done) | refine Blk.alloc ?_ _ | refine Blk.drewN ?_ _ | refine Blk.drew ?_ | apply Blk.set | refine Blk.put ?_ (by assumption) (by first | (simp; done) | (simp; omega) | omega) | refine Blk.below ?_ (by assumption)) | (refine Blk.setAt ?_ (by first | (simp; done) | (simp; omega))) | rfl))) (by kernel_rfl) rfl (by first | (with_reducible assumption) | simp [Value.oneCell']) ?_; intro w5 hp_w5 K_w5) | (((with_reducible show wpList _ _ _ _ _ _); refine wpList_storeW rfl 24 (.tmp 7) (.tmp 26) rfl (w4.heap.size + 1) #[r2, m2] rfl rfl 24 _ (show Blk _ (w4.heap.size + 1) #[.slice none 0 0, .slice none 0 0] 24 from (by repeat' (first | (with_reducible first | exact Hid.out (by assumption) | exact Blk.new _ _ _ | (refine Blk.new_at _ _ _ _ ?_; simp; done) | refine Blk.alloc ?_ _ | refine Blk.drewN ?_ _ | refine Blk.drew ?_ | apply Blk.set | refine Blk.put ?_ (by assumption) (by first | (simp; done) | (simp; omega) | omega) | refine Blk.below ?_ (by assumption)) | (refine Blk.setAt ?_ (by first | (simp; done) | (simp; omega))) | rfl))) (by kernel_rfl) rfl (by first | (with_reducible assumption) | simp [Value.oneCell']) ?_; intro w6 hp_w6 K_w6); have X1 := Lib.hid (show Blk w6 w1.heap.size (cpuC C) 28 from (by repeat' (first | (with_reducible first | exact Hid.out (by assumption) | exact Blk.new _ _ _ | (refine Blk.new_at _ _ _ _ ?_; simp; done) | refine Blk.alloc ?_ _ | refine Blk.drewN ?_ _ | refine Blk.drew ?_ | apply Blk.set | refine Blk.put ?_ (by assumption) (by first | (simp; done) | (simp; omega) | omega) | refine Blk.below ?_ (by assumption)) | (refine Blk.setAt ?_ (by first | (simp; done) | (simp; omega))) | rfl))); have X2 := Lib.hid (show Blk w6 w4.heap.size (cpuC D) 28 from (by repeat' (first | (with_reducible first | exact Hid.out (by assumption) | exact Blk.new _ _ _ | (refine Blk.new_at _ _ _ _ ?_; simp; done) | refine Blk.alloc ?_ _ | refine Blk.drewN ?_ _ | refine Blk.drew ?_ | apply Blk.set | refine Blk.put ?_ (by assumption) (by first | (simp; done) | (simp; omega) | omega) | refine Blk.below ?_ (by assumption)) | (refine Blk.setAt ?_ (by first | (simp; done) | (simp; omega))) | rfl))); have X3 := Lib.hid (show Blk w6 (w4.heap.size + 1) #[r2, m2] 24 from (by repeat' (first | (with_reducible first | exact Hid.out (by assumption) | exact Blk.new _ _ _ | (refine Blk.new_at _ _ _ _ ?_; simp; done) | refine Blk.alloc ?_ _ | refine Blk.drewN ?_ _ | refine Blk.drew ?_ | apply Blk.set | refine Blk.put ?_ (by assumption) (by first | (simp; done) | (simp; omega) | omega) | refine Blk.below ?_ (by assumption)) | (refine Blk.setAt ?_ (by first | (simp; done) | (simp; omega))) | rfl))); have e1 : w6.cell? ⟨w1.heap.size, 1, none⟩ = some (.int .u16 65535) := (by rw [X1.out.cell]; show some (Value.int .u16 (C.r 1)) = _; rw [c1]); have e2 : w6.cell? ⟨w1.heap.size, 10, none⟩ = some (.bool true) := (by rw [X1.out.cell]; show some (Value.bool C.n) = _; rw [c2]); have e3 : w6.cell? ⟨w1.heap.size, 8, none⟩ = some (.int .u16 8) := (by rw [X1.out.cell]; show some (Value.int .u16 C.pc) = _; rw [c3]); have e4 : w6.cell? ⟨w4.heap.size, 8, none⟩ = some (.int .u16 8) := (by rw [X2.out.cell]; show some (Value.int .u16 D.pc) = _; rw [d1]); have e5 : w6.cell? ⟨w4.heap.size, 13, none⟩ = some (.bool false) := (by rw [X2.out.cell]; show some (Value.bool D.may) = _; rw [d2]); have e6 : w6.cell? ⟨w4.heap.size + 1, 1, none⟩ = some m2 := X3.out.cell 1))
  have B46 : Below w4.heap.size w4 (w6.alloc (.cells #[.int .u8 0, .int .u8 0, .int .u8 0, .int .u8 0, .int .u8 0, .int .u8 16, .int .u8 0, .int .u8 6] 5)) := by repeat' (first | (with_reducible first | exact Below.refl _ _ | assumption | refine below_alloc ?_ _ | refine Below.drew ?_ | refine below_drewN ?_ _ | refine below_then ?_ (by assumption) | refine below_put ?_ (by assumption) (by first | (simp; done) | (simp; omega) | omega) | refine Below.setCell ?_ ?_ _) | (simp; done) | (simp; omega) | omega)
  have B6 : Below w.heap.size w (w6.alloc (.cells #[.int .u8 0, .int .u8 0, .int .u8 0, .int .u8 0, .int .u8 0, .int .u8 16, .int .u8 0, .int .u8 6] 5)) := B4.trans (B46.mono B4.size)
  refine (bytesEqual_any m2 _ [0, 0, 0, 0, 0, 16, 0, 6] [0, 0, 0, 0, 0, 16, 0, 6] _ (Q2.out.below B46) (blk_slice [0, 0, 0, 0, 0, 16, 0, 6] (by unfold Bytes8; decide) (by simp) (t := 5) (b := w6.heap.size) (Blk.new _ _ _))).mono ?_
  rintro e w7 ⟨rfl, rfl⟩
  rw [show decide ([(0 : Int), 0, 0, 0, 0, 16, 0, 6] = [0, 0, 0, 0, 0, 16, 0, 6]) = true from by decide]
  go_wp2_with (first | ((with_reducible show wpList _ _ _ _ _ _); refine wpList_storeW rfl 28 (.tmp 6) (.tmp 25) rfl (w4.heap.size) (cpuC D) rfl rfl 28 _ (show Blk _ (w4.heap.size) #[.int .u16 0, .int .u16 0, .int .u16 0, .int .u16 0, .int .u16 0, .int .u16 0, .int .u16 0, .int .u16 0, .int .u16 0, .bool false, .bool false, .bool false, .bool false, .bool false, .bool false] 28 from (by repeat' (first | (with_reducible first | exact Hid.out (by assumption) | exact Blk.new _ _ _ | (refine Blk.new_at _ _ _ _ ?_; simp; done) | refine Blk.alloc ?_ _ | refine Blk.drewN ?_ _ | refine Blk.drew ?_ | apply Blk.set | refine Blk.put ?_ (by assumption) (by first | (simp; done) | (simp; omega) | omega) | refine Blk.below ?_ (by assumption)) | (refine Blk.setAt ?_ (by first | (simp; done) | (simp; omega))) | rfl))) (by kernel_rfl) rfl (by first | (with_reducible assumption) | simp [Value.oneCell']) ?_; intro w5 hp_w5 K_w5) | (((with_reducible show wpList _ _ _ _ _ _); refine wpList_storeW rfl 24 (.tmp 7) (.tmp 26) rfl (w4.heap.size + 1) #[r2, m2] rfl rfl 24 _ (show Blk _ (w4.heap.size + 1) #[.slice none 0 0, .slice none 0 0] 24 from (by repeat' (first | (with_reducible first | exact Hid.out (by assumption) | exact Blk.new _ _ _ | (refine Blk.new_at _ _ _ _ ?_; simp; done) | refine Blk.alloc ?_ _ | refine Blk.drewN ?_ _ | refine Blk.drew ?_ | apply Blk.set | refine Blk.put ?_ (by assumption) (by first | (simp; done) | (simp; omega) | omega) | refine Blk.below ?_ (by assumption)) | (refine Blk.setAt ?_ (by first | (simp; done) | (simp; omega))) | rfl))) (by kernel_rfl) rfl (by first | (with_reducible assumption) | simp [Value.oneCell']) ?_; intro w6 hp_w6 K_w6); have X1 := Lib.hid (show Blk w6 w1.heap.size (cpuC C) 28 from (by repeat' (first | (with_reducible first | exact Hid.out (by assumption) | exact Blk.new _ _ _ | (refine Blk.new_at _ _ _ _ ?_; simp; done) | refine Blk.alloc ?_ _ | refine Blk.drewN ?_ _ | refine Blk.drew ?_ | apply Blk.set | refine Blk.put ?_ (by assumption) (by first | (simp; done) | (simp; omega) | omega) | refine Blk.below ?_ (by assumption)) | (refine Blk.setAt ?_ (by first | (simp; done) | (simp; omega))) | rfl))); have X2 := Lib.hid (show Blk w6 w4.heap.size (cpuC D) 28 from (by repeat' (first | (with_reducible first | exact Hid.out (by assumption) | exact Blk.new _ _ _ | (refine Blk.new_at _ _ _ _ ?_; simp; done) | refine Blk.alloc ?_ _ | refine Blk.drewN ?_ _ | refine Blk.drew ?_ | apply Blk.set | refine Blk.put ?_ (by assumption) (by first | (simp; done) | (simp; omega) | omega) | refine Blk.below ?_ (by assumption)) | (refine Blk.setAt ?_ (by first | (simp; done) | (simp; omega))) | rfl))); have X3 := Lib.hid (show Blk w6 (w4.heap.size + 1) #[r2, m2] 24 from (by repeat' (first | (with_reducible first | exact Hid.out (by assumption) | exact Blk.new _ _ _ | (refine Blk.new_at _ _ _ _ ?_; simp; done) | refine Blk.alloc ?_ _ | refine Blk.drewN ?_ _ | refine Blk.drew ?_ | apply Blk.set | refine Blk.put ?_ (by assumption) (by first | (simp; done) | (simp; omega) | omega) | refine Blk.below ?_ (by assumption)) | (refine Blk.setAt ?_ (by first | (simp; done) | (simp; omega))) | rfl))); have e1 : w6.cell? ⟨w1.heap.size, 1, none⟩ = some (.int .u16 65535) := (by rw [X1.out.cell]; show some (Value.int .u16 (C.r 1)) = _; rw [c1]); have e2 : w6.cell? ⟨w1.heap.size, 10, none⟩ = some (.bool true) := (by rw [X1.out.cell]; show some (Value.bool C.n) = _; rw [c2]); have e3 : w6.cell? ⟨w1.heap.size, 8, none⟩ = some (.int .u16 8) := (by rw [X1.out.cell]; show some (Value.int .u16 C.pc) = _; rw [c3]); have e4 : w6.cell? ⟨w4.heap.size, 8, none⟩ = some (.int .u16 8) := (by rw [X2.out.cell]; show some (Value.int .u16 D.pc) = _; rw [d1]); have e5 : w6.cell? ⟨w4.heap.size, 13, none⟩ = some (.bool false) := (by rw [X2.out.cell]; show some (Value.bool D.may) = _; rw [d2]); have e6 : w6.cell? ⟨w4.heap.size + 1, 1, none⟩ = some m2 := X3.out.cell 1))
  go_ret
  exact ⟨rfl, B6⟩
end Go.Proofs.Yteihggfcafoogaa
