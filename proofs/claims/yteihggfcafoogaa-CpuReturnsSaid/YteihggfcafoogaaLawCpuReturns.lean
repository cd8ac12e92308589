/- CpuReturns: for every processor and space the law answers true. Conditions: none. -/
import Derived.Test.YteihggfcafoogaaCpuRet
import Derived.Test.YteihggfcafoogaaCpuOwn
import Derived.Test.YteihggfcafoogaaCpuOnM
import Derived.Test.YteihggfcafoogaaCpuEq
set_option linter.unusedVariables false
set_option linter.unusedSimpArgs false
namespace Go.Proofs.Yteihggfcafoogaa.cpuReturns
open Go.RowKit Go.Mq
set_option maxHeartbeats 2000000
set_option maxRecDepth 100000
theorem e_size (c : Cp) (hi : c.In) (v1 v2 : Value) (m : Spc) (w : World) (h1 : SliceAt w .u8 v1 m.rom) (h2 : SliceAt w .u8 v2 m.ram) (hl : 1024 < m.rom.length ∨ 256 < m.ram.length) :
    Calls Try.prog 4 #[.agg (cpuC c), .agg #[v1, v2]] w fun e w' => e = .returned (.bool true) ∧ Below w.heap.size w w' := by
  have H1 := Lib.hid h1
  have H2 := Lib.hid h2
  have o1 := slice_one h1
  have o2 := slice_one h2
  have ONV : (#[v1, v2] : Array Value).all Value.oneCell' = true := by simp [o1, o2]
  have CK := Lib.hid (fun W (k : Below w.heap.size w W) => checkS_any v1 v2 m.rom m.ram W (H1.out.below k) (H2.out.below k))
  rw [if_pos hl] at CK
  clear hl
  obtain ⟨a1, k1, rfl, -⟩ := h1
  obtain ⟨a2, k2, rfl, -⟩ := h2
  obtain ⟨s0, s1⟩ : 0 ≤ c.r 7 ∧ c.r 7 ≤ 65535 := hi.1 7
  go_enter Try.func4, Try.ntmps4
  go_wp2_with fail
  refine (stepped_any _).mono ?_
  rintro e w1 ⟨rfl, hb1⟩
  have hs1 : w.heap.size + 2 ≤ w1.heap.size := by have := hb1.size; simpa using this
  have K1 := Lib.hid (show Blk w1 w.heap.size (cpuC c) 28 from (by repeat' (first | (with_reducible first | exact Hid.out (by assumption) | exact Blk.new _ _ _ | (refine Blk.new_at _ _ _ _ ?_; simp; done) | refine Blk.alloc ?_ _ | refine Blk.drewN ?_ _ | refine Blk.drew ?_ | apply Blk.set | refine Blk.put ?_ (by assumption) (by first | (simp; done) | (simp; omega) | omega) | refine Blk.below ?_ (by assumption)) | (refine Blk.setAt ?_ (by first | (simp; done) | (simp; omega))) | rfl)))
  have K2 := Lib.hid (show Blk w1 (w.heap.size + 1) #[.slice a1 m.rom.length k1, .slice a2 m.ram.length k2] 24 from (by repeat' (first | (with_reducible first | exact Hid.out (by assumption) | exact Blk.new _ _ _ | (refine Blk.new_at _ _ _ _ ?_; simp; done) | refine Blk.alloc ?_ _ | refine Blk.drewN ?_ _ | refine Blk.drew ?_ | apply Blk.set | refine Blk.put ?_ (by assumption) (by first | (simp; done) | (simp; omega) | omega) | refine Blk.below ?_ (by assumption)) | (refine Blk.setAt ?_ (by first | (simp; done) | (simp; omega))) | rfl)))
  have B1 : Below w.heap.size w w1 := by repeat' (first | (with_reducible first | exact Below.refl _ _ | assumption | refine below_alloc ?_ _ | refine Below.drew ?_ | refine below_drewN ?_ _ | refine below_then ?_ (by assumption) | refine below_put ?_ (by assumption) (by first | (simp; done) | (simp; omega) | omega) | refine Below.setCell ?_ ?_ _) | (simp; done) | (simp; omega) | omega)
  clear hb1
  go_wp2_with (first | ((with_reducible show wpList _ _ _ _ _ _); refine wpList_loadG (by rfl) 24 (.tmp 3) rfl (w.heap.size + 1) rfl 24 #[.slice a1 m.rom.length k1, .slice a2 m.ram.length k2] (show Blk _ (w.heap.size + 1) #[.slice a1 m.rom.length k1, .slice a2 m.ram.length k2] 24 from (by repeat' (first | (with_reducible first | exact Hid.out (by assumption) | exact Blk.new _ _ _ | (refine Blk.new_at _ _ _ _ ?_; simp; done) | refine Blk.alloc ?_ _ | refine Blk.drewN ?_ _ | refine Blk.drew ?_ | apply Blk.set | refine Blk.put ?_ (by assumption) (by first | (simp; done) | (simp; omega) | omega) | refine Blk.below ?_ (by assumption)) | (refine Blk.setAt ?_ (by first | (simp; done) | (simp; omega))) | rfl))) _ Try.underlying24 rfl (by kernel_rfl) ?_))
  refine (CK.out _ B1).mono ?_
  rintro e w2 ⟨rfl, hb2⟩
  have hs2 : w.heap.size + 2 ≤ w2.heap.size := by have := hb2.size; omega
  have L1 := Lib.hid (K1.out.below hb2)
  have L2 := Lib.hid (K2.out.below hb2)
  have B2 : Below w.heap.size w w2 := B1.trans (hb2.mono (by omega))
  have e20 : w2.cell? ⟨w.heap.size + 1, 0, none⟩ = some (.slice a1 m.rom.length k1) := L2.out.cell 0
  have e21 : w2.cell? ⟨w.heap.size + 1, 1, none⟩ = some (.slice a2 m.ram.length k2) := L2.out.cell 1
  have e17 : w2.cell? ⟨w.heap.size, 7, none⟩ = some (.int .u16 (c.r 7)) := L1.out.cell 7
  have lk1 : w.heap.size < w2.heap.size := by omega
  have lk2 : w.heap.size + 1 < w2.heap.size := by omega
  clear hb2 CK K1 K2 B1
  go_wp2_with fail
  refine (stepped_any _).mono ?_
  rintro e w3 ⟨rfl, hb3⟩
  go_wp2
  go_ret
  exact ⟨rfl, B2.trans (hb3.mono (by omega))⟩
theorem e_ram (c : Cp) (hi : c.In) (v1 v2 : Value) (m : Spc) (w : World) (h1 : SliceAt w .u8 v1 m.rom) (h2 : SliceAt w .u8 v2 m.ram) (hl1 : m.rom.length ≤ 1024) (hl2 : m.ram.length ≤ 256) (hq : m.ram.length < 8) :
    Calls Try.prog 4 #[.agg (cpuC c), .agg #[v1, v2]] w fun e w' => e = .returned (.bool true) ∧ Below w.heap.size w w' := by
  have H1 := Lib.hid h1
  have H2 := Lib.hid h2
  have o1 := slice_one h1
  have o2 := slice_one h2
  have ONV : (#[v1, v2] : Array Value).all Value.oneCell' = true := by simp [o1, o2]
  have CK := Lib.hid (fun W (k : Below w.heap.size w W) => checkS_any v1 v2 m.rom m.ram W (H1.out.below k) (H2.out.below k))
  rw [if_neg (show ¬ (1024 < m.rom.length ∨ 256 < m.ram.length) by omega)] at CK
  have q1 : (m.ram.length : Int) < 8 := by omega
  clear hq
  obtain ⟨a1, k1, rfl, -⟩ := h1
  obtain ⟨a2, k2, rfl, -⟩ := h2
  obtain ⟨s0, s1⟩ : 0 ≤ c.r 7 ∧ c.r 7 ≤ 65535 := hi.1 7
  go_enter Try.func4, Try.ntmps4
  go_wp2_with fail
  refine (stepped_any _).mono ?_
  rintro e w1 ⟨rfl, hb1⟩
  have hs1 : w.heap.size + 2 ≤ w1.heap.size := by have := hb1.size; simpa using this
  have K1 := Lib.hid (show Blk w1 w.heap.size (cpuC c) 28 from (by repeat' (first | (with_reducible first | exact Hid.out (by assumption) | exact Blk.new _ _ _ | (refine Blk.new_at _ _ _ _ ?_; simp; done) | refine Blk.alloc ?_ _ | refine Blk.drewN ?_ _ | refine Blk.drew ?_ | apply Blk.set | refine Blk.put ?_ (by assumption) (by first | (simp; done) | (simp; omega) | omega) | refine Blk.below ?_ (by assumption)) | (refine Blk.setAt ?_ (by first | (simp; done) | (simp; omega))) | rfl)))
  have K2 := Lib.hid (show Blk w1 (w.heap.size + 1) #[.slice a1 m.rom.length k1, .slice a2 m.ram.length k2] 24 from (by repeat' (first | (with_reducible first | exact Hid.out (by assumption) | exact Blk.new _ _ _ | (refine Blk.new_at _ _ _ _ ?_; simp; done) | refine Blk.alloc ?_ _ | refine Blk.drewN ?_ _ | refine Blk.drew ?_ | apply Blk.set | refine Blk.put ?_ (by assumption) (by first | (simp; done) | (simp; omega) | omega) | refine Blk.below ?_ (by assumption)) | (refine Blk.setAt ?_ (by first | (simp; done) | (simp; omega))) | rfl)))
  have B1 : Below w.heap.size w w1 := by repeat' (first | (with_reducible first | exact Below.refl _ _ | assumption | refine below_alloc ?_ _ | refine Below.drew ?_ | refine below_drewN ?_ _ | refine below_then ?_ (by assumption) | refine below_put ?_ (by assumption) (by first | (simp; done) | (simp; omega) | omega) | refine Below.setCell ?_ ?_ _) | (simp; done) | (simp; omega) | omega)
  clear hb1
  go_wp2_with (first | ((with_reducible show wpList _ _ _ _ _ _); refine wpList_loadG (by rfl) 24 (.tmp 3) rfl (w.heap.size + 1) rfl 24 #[.slice a1 m.rom.length k1, .slice a2 m.ram.length k2] (show Blk _ (w.heap.size + 1) #[.slice a1 m.rom.length k1, .slice a2 m.ram.length k2] 24 from (by repeat' (first | (with_reducible first | exact Hid.out (by assumption) | exact Blk.new _ _ _ | (refine Blk.new_at _ _ _ _ ?_; simp; done) | refine Blk.alloc ?_ _ | refine Blk.drewN ?_ _ | refine Blk.drew ?_ | apply Blk.set | refine Blk.put ?_ (by assumption) (by first | (simp; done) | (simp; omega) | omega) | refine Blk.below ?_ (by assumption)) | (refine Blk.setAt ?_ (by first | (simp; done) | (simp; omega))) | rfl))) _ Try.underlying24 rfl (by kernel_rfl) ?_))
  refine (CK.out _ B1).mono ?_
  rintro e w2 ⟨rfl, hb2⟩
  have hs2 : w.heap.size + 2 ≤ w2.heap.size := by have := hb2.size; omega
  have L1 := Lib.hid (K1.out.below hb2)
  have L2 := Lib.hid (K2.out.below hb2)
  have B2 : Below w.heap.size w w2 := B1.trans (hb2.mono (by omega))
  have e20 : w2.cell? ⟨w.heap.size + 1, 0, none⟩ = some (.slice a1 m.rom.length k1) := L2.out.cell 0
  have e21 : w2.cell? ⟨w.heap.size + 1, 1, none⟩ = some (.slice a2 m.ram.length k2) := L2.out.cell 1
  have e17 : w2.cell? ⟨w.heap.size, 7, none⟩ = some (.int .u16 (c.r 7)) := L1.out.cell 7
  have lk1 : w.heap.size < w2.heap.size := by omega
  have lk2 : w.heap.size + 1 < w2.heap.size := by omega
  clear hb2 CK K1 K2 B1
  go_wp2_with fail
  refine (stepped_any _).mono ?_
  rintro e w3 ⟨rfl, hb3⟩
  go_wp2
  go_ret
  exact ⟨rfl, B2.trans (hb3.mono (by omega))⟩
theorem e_odd (c : Cp) (hi : c.In) (v1 v2 : Value) (m : Spc) (w : World) (h1 : SliceAt w .u8 v1 m.rom) (h2 : SliceAt w .u8 v2 m.ram) (hl1 : m.rom.length ≤ 1024) (hl2 : m.ram.length ≤ 256) (hq : 8 ≤ m.ram.length) (hr : m.ram.length % 2 = 1) :
    Calls Try.prog 4 #[.agg (cpuC c), .agg #[v1, v2]] w fun e w' => e = .returned (.bool true) ∧ Below w.heap.size w w' := by
  have H1 := Lib.hid h1
  have H2 := Lib.hid h2
  have o1 := slice_one h1
  have o2 := slice_one h2
  have ONV : (#[v1, v2] : Array Value).all Value.oneCell' = true := by simp [o1, o2]
  have CK := Lib.hid (fun W (k : Below w.heap.size w W) => checkS_any v1 v2 m.rom m.ram W (H1.out.below k) (H2.out.below k))
  rw [if_neg (show ¬ (1024 < m.rom.length ∨ 256 < m.ram.length) by omega)] at CK
  have q1 : 8 ≤ (m.ram.length : Int) := by omega
  have q2 : Int.tmod (m.ram.length : Int) 2 = 1 := by rw [Int.tmod_eq_emod_of_nonneg (by omega)]; omega
  clear hq hr
  obtain ⟨a1, k1, rfl, -⟩ := h1
  obtain ⟨a2, k2, rfl, -⟩ := h2
  obtain ⟨s0, s1⟩ : 0 ≤ c.r 7 ∧ c.r 7 ≤ 65535 := hi.1 7
  go_enter Try.func4, Try.ntmps4
  go_wp2_with fail
  refine (stepped_any _).mono ?_
  rintro e w1 ⟨rfl, hb1⟩
  have hs1 : w.heap.size + 2 ≤ w1.heap.size := by have := hb1.size; simpa using this
  have K1 := Lib.hid (show Blk w1 w.heap.size (cpuC c) 28 from (by repeat' (first | (with_reducible first | exact Hid.out (by assumption) | exact Blk.new _ _ _ | (refine Blk.new_at _ _ _ _ ?_; simp; done) | refine Blk.alloc ?_ _ | refine Blk.drewN ?_ _ | refine Blk.drew ?_ | apply Blk.set | refine Blk.put ?_ (by assumption) (by first | (simp; done) | (simp; omega) | omega) | refine Blk.below ?_ (by assumption)) | (refine Blk.setAt ?_ (by first | (simp; done) | (simp; omega))) | rfl)))
  have K2 := Lib.hid (show Blk w1 (w.heap.size + 1) #[.slice a1 m.rom.length k1, .slice a2 m.ram.length k2] 24 from (by repeat' (first | (with_reducible first | exact Hid.out (by assumption) | exact Blk.new _ _ _ | (refine Blk.new_at _ _ _ _ ?_; simp; done) | refine Blk.alloc ?_ _ | refine Blk.drewN ?_ _ | refine Blk.drew ?_ | apply Blk.set | refine Blk.put ?_ (by assumption) (by first | (simp; done) | (simp; omega) | omega) | refine Blk.below ?_ (by assumption)) | (refine Blk.setAt ?_ (by first | (simp; done) | (simp; omega))) | rfl)))
  have B1 : Below w.heap.size w w1 := by repeat' (first | (with_reducible first | exact Below.refl _ _ | assumption | refine below_alloc ?_ _ | refine Below.drew ?_ | refine below_drewN ?_ _ | refine below_then ?_ (by assumption) | refine below_put ?_ (by assumption) (by first | (simp; done) | (simp; omega) | omega) | refine Below.setCell ?_ ?_ _) | (simp; done) | (simp; omega) | omega)
  clear hb1
  go_wp2_with (first | ((with_reducible show wpList _ _ _ _ _ _); refine wpList_loadG (by rfl) 24 (.tmp 3) rfl (w.heap.size + 1) rfl 24 #[.slice a1 m.rom.length k1, .slice a2 m.ram.length k2] (show Blk _ (w.heap.size + 1) #[.slice a1 m.rom.length k1, .slice a2 m.ram.length k2] 24 from (by repeat' (first | (with_reducible first | exact Hid.out (by assumption) | exact Blk.new _ _ _ | (refine Blk.new_at _ _ _ _ ?_; simp; done) | refine Blk.alloc ?_ _ | refine Blk.drewN ?_ _ | refine Blk.drew ?_ | apply Blk.set | refine Blk.put ?_ (by assumption) (by first | (simp; done) | (simp; omega) | omega) | refine Blk.below ?_ (by assumption)) | (refine Blk.setAt ?_ (by first | (simp; done) | (simp; omega))) | rfl))) _ Try.underlying24 rfl (by kernel_rfl) ?_))
  refine (CK.out _ B1).mono ?_
  rintro e w2 ⟨rfl, hb2⟩
  have hs2 : w.heap.size + 2 ≤ w2.heap.size := by have := hb2.size; omega
  have L1 := Lib.hid (K1.out.below hb2)
  have L2 := Lib.hid (K2.out.below hb2)
  have B2 : Below w.heap.size w w2 := B1.trans (hb2.mono (by omega))
  have e20 : w2.cell? ⟨w.heap.size + 1, 0, none⟩ = some (.slice a1 m.rom.length k1) := L2.out.cell 0
  have e21 : w2.cell? ⟨w.heap.size + 1, 1, none⟩ = some (.slice a2 m.ram.length k2) := L2.out.cell 1
  have e17 : w2.cell? ⟨w.heap.size, 7, none⟩ = some (.int .u16 (c.r 7)) := L1.out.cell 7
  have lk1 : w.heap.size < w2.heap.size := by omega
  have lk2 : w.heap.size + 1 < w2.heap.size := by omega
  clear hb2 CK K1 K2 B1
  go_wp2_with fail
  refine (stepped_any _).mono ?_
  rintro e w3 ⟨rfl, hb3⟩
  go_wp2
  go_ret
  exact ⟨rfl, B2.trans (hb3.mono (by omega))⟩
theorem e_rom (c : Cp) (hi : c.In) (v1 v2 : Value) (m : Spc) (w : World) (h1 : SliceAt w .u8 v1 m.rom) (h2 : SliceAt w .u8 v2 m.ram) (hl1 : m.rom.length ≤ 1024) (hl2 : m.ram.length ≤ 256) (hq : 8 ≤ m.ram.length) (hr : m.ram.length % 2 = 0) (ho : m.rom.length < 12) :
    Calls Try.prog 4 #[.agg (cpuC c), .agg #[v1, v2]] w fun e w' => e = .returned (.bool true) ∧ Below w.heap.size w w' := by
  have H1 := Lib.hid h1
  have H2 := Lib.hid h2
  have o1 := slice_one h1
  have o2 := slice_one h2
  have ONV : (#[v1, v2] : Array Value).all Value.oneCell' = true := by simp [o1, o2]
  have CK := Lib.hid (fun W (k : Below w.heap.size w W) => checkS_any v1 v2 m.rom m.ram W (H1.out.below k) (H2.out.below k))
  rw [if_neg (show ¬ (1024 < m.rom.length ∨ 256 < m.ram.length) by omega)] at CK
  have q1 : 8 ≤ (m.ram.length : Int) := by omega
  have q2 : Int.tmod (m.ram.length : Int) 2 = 0 := by rw [Int.tmod_eq_emod_of_nonneg (by omega)]; omega
  have q3 : (m.rom.length : Int) < 12 := by omega
  clear hq hr ho
  obtain ⟨a1, k1, rfl, -⟩ := h1
  obtain ⟨a2, k2, rfl, -⟩ := h2
  obtain ⟨s0, s1⟩ : 0 ≤ c.r 7 ∧ c.r 7 ≤ 65535 := hi.1 7
  go_enter Try.func4, Try.ntmps4
  go_wp2_with fail
  refine (stepped_any _).mono ?_
  rintro e w1 ⟨rfl, hb1⟩
  have hs1 : w.heap.size + 2 ≤ w1.heap.size := by have := hb1.size; simpa using this
  have K1 := Lib.hid (show Blk w1 w.heap.size (cpuC c) 28 from (by repeat' (first | (with_reducible first | exact Hid.out (by assumption) | exact Blk.new _ _ _ | (refine Blk.new_at _ _ _ _ ?_; simp; done) | refine Blk.alloc ?_ _ | refine Blk.drewN ?_ _ | refine Blk.drew ?_ | apply Blk.set | refine Blk.put ?_ (by assumption) (by first | (simp; done) | (simp; omega) | omega) | refine Blk.below ?_ (by assumption)) | (refine Blk.setAt ?_ (by first | (simp; done) | (simp; omega))) | rfl)))
  have K2 := Lib.hid (show Blk w1 (w.heap.size + 1) #[.slice a1 m.rom.length k1, .slice a2 m.ram.length k2] 24 from (by repeat' (first | (with_reducible first | exact Hid.out (by assumption) | exact Blk.new _ _ _ | (refine Blk.new_at _ _ _ _ ?_; simp; done) | refine Blk.alloc ?_ _ | refine Blk.drewN ?_ _ | refine Blk.drew ?_ | apply Blk.set | refine Blk.put ?_ (by assumption) (by first | (simp; done) | (simp; omega) | omega) | refine Blk.below ?_ (by assumption)) | (refine Blk.setAt ?_ (by first | (simp; done) | (simp; omega))) | rfl)))
  have B1 : Below w.heap.size w w1 := by repeat' (first | (with_reducible first | exact Below.refl _ _ | assumption | refine below_alloc ?_ _ | refine Below.drew ?_ | refine below_drewN ?_ _ | refine below_then ?_ (by assumption) | refine below_put ?_ (by assumption) (by first | (simp; done) | (simp; omega) | omega) | refine Below.setCell ?_ ?_ _) | (simp; done) | (simp; omega) | omega)
  clear hb1
  go_wp2_with (first | ((with_reducible show wpList _ _ _ _ _ _); refine wpList_loadG (by rfl) 24 (.tmp 3) rfl (w.heap.size + 1) rfl 24 #[.slice a1 m.rom.length k1, .slice a2 m.ram.length k2] (show Blk _ (w.heap.size + 1) #[.slice a1 m.rom.length k1, .slice a2 m.ram.length k2] 24 from (by repeat' (first | (with_reducible first | exact Hid.out (by assumption) | exact Blk.new _ _ _ | (refine Blk.new_at _ _ _ _ ?_; simp; done) | refine Blk.alloc ?_ _ | refine Blk.drewN ?_ _ | refine Blk.drew ?_ | apply Blk.set | refine Blk.put ?_ (by assumption) (by first | (simp; done) | (simp; omega) | omega) | refine Blk.below ?_ (by assumption)) | (refine Blk.setAt ?_ (by first | (simp; done) | (simp; omega))) | rfl))) _ Try.underlying24 rfl (by kernel_rfl) ?_))
  refine (CK.out _ B1).mono ?_
  rintro e w2 ⟨rfl, hb2⟩
  have hs2 : w.heap.size + 2 ≤ w2.heap.size := by have := hb2.size; omega
  have L1 := Lib.hid (K1.out.below hb2)
  have L2 := Lib.hid (K2.out.below hb2)
  have B2 : Below w.heap.size w w2 := B1.trans (hb2.mono (by omega))
  have e20 : w2.cell? ⟨w.heap.size + 1, 0, none⟩ = some (.slice a1 m.rom.length k1) := L2.out.cell 0
  have e21 : w2.cell? ⟨w.heap.size + 1, 1, none⟩ = some (.slice a2 m.ram.length k2) := L2.out.cell 1
  have e17 : w2.cell? ⟨w.heap.size, 7, none⟩ = some (.int .u16 (c.r 7)) := L1.out.cell 7
  have lk1 : w.heap.size < w2.heap.size := by omega
  have lk2 : w.heap.size + 1 < w2.heap.size := by omega
  clear hb2 CK K1 K2 B1
  go_wp2_with fail
  refine (stepped_any _).mono ?_
  rintro e w3 ⟨rfl, hb3⟩
  go_wp2
  go_ret
  exact ⟨rfl, B2.trans (hb3.mono (by omega))⟩
theorem e_r7 (c : Cp) (hi : c.In) (v1 v2 : Value) (m : Spc) (w : World) (h1 : SliceAt w .u8 v1 m.rom) (h2 : SliceAt w .u8 v2 m.ram) (hl1 : m.rom.length ≤ 1024) (hl2 : m.ram.length ≤ 256) (hq : 8 ≤ m.ram.length) (hr : m.ram.length % 2 = 0) (ho : 12 ≤ m.rom.length) (hp : c.r 7 % 2 = 1) :
    Calls Try.prog 4 #[.agg (cpuC c), .agg #[v1, v2]] w fun e w' => e = .returned (.bool true) ∧ Below w.heap.size w w' := by
  have H1 := Lib.hid h1
  have H2 := Lib.hid h2
  have o1 := slice_one h1
  have o2 := slice_one h2
  have ONV : (#[v1, v2] : Array Value).all Value.oneCell' = true := by simp [o1, o2]
  have CK := Lib.hid (fun W (k : Below w.heap.size w W) => checkS_any v1 v2 m.rom m.ram W (H1.out.below k) (H2.out.below k))
  rw [if_neg (show ¬ (1024 < m.rom.length ∨ 256 < m.ram.length) by omega)] at CK
  have q1 : 8 ≤ (m.ram.length : Int) := by omega
  have q2 : Int.tmod (m.ram.length : Int) 2 = 0 := by rw [Int.tmod_eq_emod_of_nonneg (by omega)]; omega
  have q3 : 12 ≤ (m.rom.length : Int) := by omega
  clear hq hr ho
  have q4 : Int.tmod (c.r 7) 2 = 1 := by have := hi.1 7; unfold U16 at this; rw [Int.tmod_eq_emod_of_nonneg (by omega)]; exact hp
  clear hp
  obtain ⟨a1, k1, rfl, -⟩ := h1
  obtain ⟨a2, k2, rfl, -⟩ := h2
  obtain ⟨s0, s1⟩ : 0 ≤ c.r 7 ∧ c.r 7 ≤ 65535 := hi.1 7
  go_enter Try.func4, Try.ntmps4
  go_wp2_with fail
  refine (stepped_any _).mono ?_
  rintro e w1 ⟨rfl, hb1⟩
  have hs1 : w.heap.size + 2 ≤ w1.heap.size := by have := hb1.size; simpa using this
  have K1 := Lib.hid (show Blk w1 w.heap.size (cpuC c) 28 from (by repeat' (first | (with_reducible first | exact Hid.out (by assumption) | exact Blk.new _ _ _ | (refine Blk.new_at _ _ _ _ ?_; simp; done) | refine Blk.alloc ?_ _ | refine Blk.drewN ?_ _ | refine Blk.drew ?_ | apply Blk.set | refine Blk.put ?_ (by assumption) (by first | (simp; done) | (simp; omega) | omega) | refine Blk.below ?_ (by assumption)) | (refine Blk.setAt ?_ (by first | (simp; done) | (simp; omega))) | rfl)))
  have K2 := Lib.hid (show Blk w1 (w.heap.size + 1) #[.slice a1 m.rom.length k1, .slice a2 m.ram.length k2] 24 from (by repeat' (first | (with_reducible first | exact Hid.out (by assumption) | exact Blk.new _ _ _ | (refine Blk.new_at _ _ _ _ ?_; simp; done) | refine Blk.alloc ?_ _ | refine Blk.drewN ?_ _ | refine Blk.drew ?_ | apply Blk.set | refine Blk.put ?_ (by assumption) (by first | (simp; done) | (simp; omega) | omega) | refine Blk.below ?_ (by assumption)) | (refine Blk.setAt ?_ (by first | (simp; done) | (simp; omega))) | rfl)))
  have B1 : Below w.heap.size w w1 := by repeat' (first | (with_reducible first | exact Below.refl _ _ | assumption | refine below_alloc ?_ _ | refine Below.drew ?_ | refine below_drewN ?_ _ | refine below_then ?_ (by assumption) | refine below_put ?_ (by assumption) (by first | (simp; done) | (simp; omega) | omega) | refine Below.setCell ?_ ?_ _) | (simp; done) | (simp; omega) | omega)
  clear hb1
  go_wp2_with (first | ((with_reducible show wpList _ _ _ _ _ _); refine wpList_loadG (by rfl) 24 (.tmp 3) rfl (w.heap.size + 1) rfl 24 #[.slice a1 m.rom.length k1, .slice a2 m.ram.length k2] (show Blk _ (w.heap.size + 1) #[.slice a1 m.rom.length k1, .slice a2 m.ram.length k2] 24 from (by repeat' (first | (with_reducible first | exact Hid.out (by assumption) | exact Blk.new _ _ _ | (refine Blk.new_at _ _ _ _ ?_; simp; done) | refine Blk.alloc ?_ _ | refine Blk.drewN ?_ _ | refine Blk.drew ?_ | apply Blk.set | refine Blk.put ?_ (by assumption) (by first | (simp; done) | (simp; omega) | omega) | refine Blk.below ?_ (by assumption)) | (refine Blk.setAt ?_ (by first | (simp; done) | (simp; omega))) | rfl))) _ Try.underlying24 rfl (by kernel_rfl) ?_))
  refine (CK.out _ B1).mono ?_
  rintro e w2 ⟨rfl, hb2⟩
  have hs2 : w.heap.size + 2 ≤ w2.heap.size := by have := hb2.size; omega
  have L1 := Lib.hid (K1.out.below hb2)
  have L2 := Lib.hid (K2.out.below hb2)
  have B2 : Below w.heap.size w w2 := B1.trans (hb2.mono (by omega))
  have e20 : w2.cell? ⟨w.heap.size + 1, 0, none⟩ = some (.slice a1 m.rom.length k1) := L2.out.cell 0
  have e21 : w2.cell? ⟨w.heap.size + 1, 1, none⟩ = some (.slice a2 m.ram.length k2) := L2.out.cell 1
  have e17 : w2.cell? ⟨w.heap.size, 7, none⟩ = some (.int .u16 (c.r 7)) := L1.out.cell 7
  have lk1 : w.heap.size < w2.heap.size := by omega
  have lk2 : w.heap.size + 1 < w2.heap.size := by omega
  clear hb2 CK K1 K2 B1
  go_wp2_with fail
  refine (stepped_any _).mono ?_
  rintro e w3 ⟨rfl, hb3⟩
  go_wp2
  go_ret
  exact ⟨rfl, B2.trans (hb3.mono (by omega))⟩
theorem e_lo (c : Cp) (hi : c.In) (v1 v2 : Value) (m : Spc) (w : World) (h1 : SliceAt w .u8 v1 m.rom) (h2 : SliceAt w .u8 v2 m.ram) (hl1 : m.rom.length ≤ 1024) (hl2 : m.ram.length ≤ 256) (hq : 8 ≤ m.ram.length) (hr : m.ram.length % 2 = 0) (ho : 12 ≤ m.rom.length) (hp : c.r 7 % 2 = 0) (q5 : c.r 7 < 32772) :
    Calls Try.prog 4 #[.agg (cpuC c), .agg #[v1, v2]] w fun e w' => e = .returned (.bool true) ∧ Below w.heap.size w w' := by
  have H1 := Lib.hid h1
  have H2 := Lib.hid h2
  have o1 := slice_one h1
  have o2 := slice_one h2
  have ONV : (#[v1, v2] : Array Value).all Value.oneCell' = true := by simp [o1, o2]
  have CK := Lib.hid (fun W (k : Below w.heap.size w W) => checkS_any v1 v2 m.rom m.ram W (H1.out.below k) (H2.out.below k))
  rw [if_neg (show ¬ (1024 < m.rom.length ∨ 256 < m.ram.length) by omega)] at CK
  have q1 : 8 ≤ (m.ram.length : Int) := by omega
  have q2 : Int.tmod (m.ram.length : Int) 2 = 0 := by rw [Int.tmod_eq_emod_of_nonneg (by omega)]; omega
  have q3 : 12 ≤ (m.rom.length : Int) := by omega
  clear hq hr ho
  have q4 : Int.tmod (c.r 7) 2 = 0 := by have := hi.1 7; unfold U16 at this; rw [Int.tmod_eq_emod_of_nonneg (by omega)]; exact hp
  clear hp
  obtain ⟨a1, k1, rfl, -⟩ := h1
  obtain ⟨a2, k2, rfl, -⟩ := h2
  obtain ⟨s0, s1⟩ : 0 ≤ c.r 7 ∧ c.r 7 ≤ 65535 := hi.1 7
  go_enter Try.func4, Try.ntmps4
  go_wp2_with fail
  refine (stepped_any _).mono ?_
  rintro e w1 ⟨rfl, hb1⟩
  have hs1 : w.heap.size + 2 ≤ w1.heap.size := by have := hb1.size; simpa using this
  have K1 := Lib.hid (show Blk w1 w.heap.size (cpuC c) 28 from (by repeat' (first | (with_reducible first | exact Hid.out (by assumption) | exact Blk.new _ _ _ | (refine Blk.new_at _ _ _ _ ?_; simp; done) | refine Blk.alloc ?_ _ | refine Blk.drewN ?_ _ | refine Blk.drew ?_ | apply Blk.set | refine Blk.put ?_ (by assumption) (by first | (simp; done) | (simp; omega) | omega) | refine Blk.below ?_ (by assumption)) | (refine Blk.setAt ?_ (by first | (simp; done) | (simp; omega))) | rfl)))
  have K2 := Lib.hid (show Blk w1 (w.heap.size + 1) #[.slice a1 m.rom.length k1, .slice a2 m.ram.length k2] 24 from (by repeat' (first | (with_reducible first | exact Hid.out (by assumption) | exact Blk.new _ _ _ | (refine Blk.new_at _ _ _ _ ?_; simp; done) | refine Blk.alloc ?_ _ | refine Blk.drewN ?_ _ | refine Blk.drew ?_ | apply Blk.set | refine Blk.put ?_ (by assumption) (by first | (simp; done) | (simp; omega) | omega) | refine Blk.below ?_ (by assumption)) | (refine Blk.setAt ?_ (by first | (simp; done) | (simp; omega))) | rfl)))
  have B1 : Below w.heap.size w w1 := by repeat' (first | (with_reducible first | exact Below.refl _ _ | assumption | refine below_alloc ?_ _ | refine Below.drew ?_ | refine below_drewN ?_ _ | refine below_then ?_ (by assumption) | refine below_put ?_ (by assumption) (by first | (simp; done) | (simp; omega) | omega) | refine Below.setCell ?_ ?_ _) | (simp; done) | (simp; omega) | omega)
  clear hb1
  go_wp2_with (first | ((with_reducible show wpList _ _ _ _ _ _); refine wpList_loadG (by rfl) 24 (.tmp 3) rfl (w.heap.size + 1) rfl 24 #[.slice a1 m.rom.length k1, .slice a2 m.ram.length k2] (show Blk _ (w.heap.size + 1) #[.slice a1 m.rom.length k1, .slice a2 m.ram.length k2] 24 from (by repeat' (first | (with_reducible first | exact Hid.out (by assumption) | exact Blk.new _ _ _ | (refine Blk.new_at _ _ _ _ ?_; simp; done) | refine Blk.alloc ?_ _ | refine Blk.drewN ?_ _ | refine Blk.drew ?_ | apply Blk.set | refine Blk.put ?_ (by assumption) (by first | (simp; done) | (simp; omega) | omega) | refine Blk.below ?_ (by assumption)) | (refine Blk.setAt ?_ (by first | (simp; done) | (simp; omega))) | rfl))) _ Try.underlying24 rfl (by kernel_rfl) ?_))
  refine (CK.out _ B1).mono ?_
  rintro e w2 ⟨rfl, hb2⟩
  have hs2 : w.heap.size + 2 ≤ w2.heap.size := by have := hb2.size; omega
  have L1 := Lib.hid (K1.out.below hb2)
  have L2 := Lib.hid (K2.out.below hb2)
  have B2 : Below w.heap.size w w2 := B1.trans (hb2.mono (by omega))
  have e20 : w2.cell? ⟨w.heap.size + 1, 0, none⟩ = some (.slice a1 m.rom.length k1) := L2.out.cell 0
  have e21 : w2.cell? ⟨w.heap.size + 1, 1, none⟩ = some (.slice a2 m.ram.length k2) := L2.out.cell 1
  have e17 : w2.cell? ⟨w.heap.size, 7, none⟩ = some (.int .u16 (c.r 7)) := L1.out.cell 7
  have lk1 : w.heap.size < w2.heap.size := by omega
  have lk2 : w.heap.size + 1 < w2.heap.size := by omega
  clear hb2 CK K1 K2 B1
  go_wp2_with fail
  refine (stepped_any _).mono ?_
  rintro e w3 ⟨rfl, hb3⟩
  go_wp2
  go_ret
  exact ⟨rfl, B2.trans (hb3.mono (by omega))⟩
theorem e_hi (c : Cp) (hi : c.In) (v1 v2 : Value) (m : Spc) (w : World) (h1 : SliceAt w .u8 v1 m.rom) (h2 : SliceAt w .u8 v2 m.ram) (hl1 : m.rom.length ≤ 1024) (hl2 : m.ram.length ≤ 256) (hq : 8 ≤ m.ram.length) (hr : m.ram.length % 2 = 0) (ho : 12 ≤ m.rom.length) (hp : c.r 7 % 2 = 0) (q5 : 32772 ≤ c.r 7) (q6 : 49152 < c.r 7) :
    Calls Try.prog 4 #[.agg (cpuC c), .agg #[v1, v2]] w fun e w' => e = .returned (.bool true) ∧ Below w.heap.size w w' := by
  have H1 := Lib.hid h1
  have H2 := Lib.hid h2
  have o1 := slice_one h1
  have o2 := slice_one h2
  have ONV : (#[v1, v2] : Array Value).all Value.oneCell' = true := by simp [o1, o2]
  have CK := Lib.hid (fun W (k : Below w.heap.size w W) => checkS_any v1 v2 m.rom m.ram W (H1.out.below k) (H2.out.below k))
  rw [if_neg (show ¬ (1024 < m.rom.length ∨ 256 < m.ram.length) by omega)] at CK
  have q1 : 8 ≤ (m.ram.length : Int) := by omega
  have q2 : Int.tmod (m.ram.length : Int) 2 = 0 := by rw [Int.tmod_eq_emod_of_nonneg (by omega)]; omega
  have q3 : 12 ≤ (m.rom.length : Int) := by omega
  clear hq hr ho
  have q4 : Int.tmod (c.r 7) 2 = 0 := by have := hi.1 7; unfold U16 at this; rw [Int.tmod_eq_emod_of_nonneg (by omega)]; exact hp
  clear hp
  obtain ⟨a1, k1, rfl, -⟩ := h1
  obtain ⟨a2, k2, rfl, -⟩ := h2
  obtain ⟨s0, s1⟩ : 0 ≤ c.r 7 ∧ c.r 7 ≤ 65535 := hi.1 7
  go_enter Try.func4, Try.ntmps4
  go_wp2_with fail
  refine (stepped_any _).mono ?_
  rintro e w1 ⟨rfl, hb1⟩
  have hs1 : w.heap.size + 2 ≤ w1.heap.size := by have := hb1.size; simpa using this
  have K1 := Lib.hid (show Blk w1 w.heap.size (cpuC c) 28 from (by repeat' (first | (with_reducible first | exact Hid.out (by assumption) | exact Blk.new _ _ _ | (refine Blk.new_at _ _ _ _ ?_; simp; done) | refine Blk.alloc ?_ _ | refine Blk.drewN ?_ _ | refine Blk.drew ?_ | apply Blk.set | refine Blk.put ?_ (by assumption) (by first | (simp; done) | (simp; omega) | omega) | refine Blk.below ?_ (by assumption)) | (refine Blk.setAt ?_ (by first | (simp; done) | (simp; omega))) | rfl)))
  have K2 := Lib.hid (show Blk w1 (w.heap.size + 1) #[.slice a1 m.rom.length k1, .slice a2 m.ram.length k2] 24 from (by repeat' (first | (with_reducible first | exact Hid.out (by assumption) | exact Blk.new _ _ _ | (refine Blk.new_at _ _ _ _ ?_; simp; done) | refine Blk.alloc ?_ _ | refine Blk.drewN ?_ _ | refine Blk.drew ?_ | apply Blk.set | refine Blk.put ?_ (by assumption) (by first | (simp; done) | (simp; omega) | omega) | refine Blk.below ?_ (by assumption)) | (refine Blk.setAt ?_ (by first | (simp; done) | (simp; omega))) | rfl)))
  have B1 : Below w.heap.size w w1 := by repeat' (first | (with_reducible first | exact Below.refl _ _ | assumption | refine below_alloc ?_ _ | refine Below.drew ?_ | refine below_drewN ?_ _ | refine below_then ?_ (by assumption) | refine below_put ?_ (by assumption) (by first | (simp; done) | (simp; omega) | omega) | refine Below.setCell ?_ ?_ _) | (simp; done) | (simp; omega) | omega)
  clear hb1
  go_wp2_with (first | ((with_reducible show wpList _ _ _ _ _ _); refine wpList_loadG (by rfl) 24 (.tmp 3) rfl (w.heap.size + 1) rfl 24 #[.slice a1 m.rom.length k1, .slice a2 m.ram.length k2] (show Blk _ (w.heap.size + 1) #[.slice a1 m.rom.length k1, .slice a2 m.ram.length k2] 24 from (by repeat' (first | (with_reducible first | exact Hid.out (by assumption) | exact Blk.new _ _ _ | (refine Blk.new_at _ _ _ _ ?_; simp; done) | refine Blk.alloc ?_ _ | refine Blk.drewN ?_ _ | refine Blk.drew ?_ | apply Blk.set | refine Blk.put ?_ (by assumption) (by first | (simp; done) | (simp; omega) | omega) | refine Blk.below ?_ (by assumption)) | (refine Blk.setAt ?_ (by first | (simp; done) | (simp; omega))) | rfl))) _ Try.underlying24 rfl (by kernel_rfl) ?_))
  refine (CK.out _ B1).mono ?_
  rintro e w2 ⟨rfl, hb2⟩
  have hs2 : w.heap.size + 2 ≤ w2.heap.size := by have := hb2.size; omega
  have L1 := Lib.hid (K1.out.below hb2)
  have L2 := Lib.hid (K2.out.below hb2)
  have B2 : Below w.heap.size w w2 := B1.trans (hb2.mono (by omega))
  have e20 : w2.cell? ⟨w.heap.size + 1, 0, none⟩ = some (.slice a1 m.rom.length k1) := L2.out.cell 0
  have e21 : w2.cell? ⟨w.heap.size + 1, 1, none⟩ = some (.slice a2 m.ram.length k2) := L2.out.cell 1
  have e17 : w2.cell? ⟨w.heap.size, 7, none⟩ = some (.int .u16 (c.r 7)) := L1.out.cell 7
  have lk1 : w.heap.size < w2.heap.size := by omega
  have lk2 : w.heap.size + 1 < w2.heap.size := by omega
  clear hb2 CK K1 K2 B1
  go_wp2_with fail
  refine (stepped_any _).mono ?_
  rintro e w3 ⟨rfl, hb3⟩
  go_wp2
  go_ret
  exact ⟨rfl, B2.trans (hb3.mono (by omega))⟩
theorem own_some {W : World} {base n : Nat} {e : TypeId} {v : Value} {xs : List Value} (h : W.ownsRow base e 1 v n xs) (hn : 0 < n) : ∃ g cap, v = .slice (some ⟨g, 0, none⟩) n cap ∧ base ≤ g ∧ g < W.heap.size := by
  rcases h.2 with ⟨_, h0⟩ | ⟨g, cap, cur, rfl, hb, hg, _⟩
  · omega
  · exact ⟨g, cap, rfl, hb, (Array.getElem?_eq_some_iff.1 hg).1⟩
theorem own_free {W : World} {base n g cap : Nat} {e : TypeId} {xs : List Value} (h : W.ownsRow base e 1 (.slice (some ⟨g, 0, none⟩) n cap) n xs) (i : Nat) : W.frozen? ⟨g, i, none⟩ = false := by
  rcases h.2 with ⟨hn, _⟩ | ⟨g', cap', cur, hv, hbg, hgg, _⟩
  · cases hn
  · injection hv with e1 e2 e3
    injection e1 with e1
    injection e1 with e1
    subst e1
    exact Blk.free hgg i
theorem own_setI {W : World} {base n g cap : Nat} {e : TypeId} {xs : List Int} (h : W.ownsRow base e 1 (.slice (some ⟨g, 0, none⟩) n cap) n (xs.map (Value.int .u8))) (i : Nat) (v : Int) :
    (W.setCell ⟨g, i, none⟩ (.int .u8 v)).ownsRow base e 1 (.slice (some ⟨g, 0, none⟩) n cap) n ((xs.set i v).map (Value.int .u8)) := by
  have := own_set h i (.int .u8 v)
  rw [List.map_set]
  exact this
theorem apart_ne {g len cap : Nat} {b : Value} (h : Apart (.slice (some ⟨g, 0, none⟩) len cap) b) : ∀ k, b.ownBlock = some k → k ≠ g := by
  intro k hk e
  subst e
  exact h k rfl hk
theorem set_bytes {xs : List Int} (h : Bytes8 xs) (i : Nat) (v : Int) (hv : 0 ≤ v ∧ v ≤ 255) : Bytes8 (xs.set i v) := by
  intro x hx
  rcases List.mem_or_eq_of_mem_set hx with h1 | rfl
  · exact h x h1
  · exact hv
/-- the program with its two words -/
def romR (xs : List Int) : List Int := (((xs.set 2 0).set 3 10).set 10 208).set 11 0
theorem ret_of (xs ys : List Int) (c : Cp) (h0 : 12 ≤ xs.length) (h1 : xs.length ≤ 1024) (h2 : 8 ≤ ys.length) (s0 : 32772 ≤ c.r 7) (s1 : c.r 7 ≤ 49152) : Ret ⟨romR xs, ys⟩ { c with may := true } := by
  refine ⟨by simp [romR]; omega, by simp [romR]; omega, h2, s0, s1, ?_, ?_, ?_, ?_, rfl⟩
  all_goals
    show (romR xs).getD _ 0 = _
    rw [List.getD_eq_getElem?_getD]
    unfold romR
    simp only [List.getElem?_set, List.length_set]
    simp
    rw [if_pos (by omega)]
    rfl
theorem good (c : Cp) (hi : c.In) (v1 v2 : Value) (m : Spc) (w : World) (h1 : SliceAt w .u8 v1 m.rom) (h2 : SliceAt w .u8 v2 m.ram) (hl1 : m.rom.length ≤ 1024) (hl2 : m.ram.length ≤ 256) (hq : 8 ≤ m.ram.length) (hr : m.ram.length % 2 = 0) (ho : 12 ≤ m.rom.length) (hp : c.r 7 % 2 = 0) (q5 : 32772 ≤ c.r 7) (q6 : c.r 7 ≤ 49152) :
    Calls Try.prog 4 #[.agg (cpuC c), .agg #[v1, v2]] w fun e w' => e = .returned (.bool true) ∧ Below w.heap.size w w' := by
  have H1 := Lib.hid h1
  have H2 := Lib.hid h2
  have o1 := slice_one h1
  have o2 := slice_one h2
  have ONV : (#[v1, v2] : Array Value).all Value.oneCell' = true := by simp [o1, o2]
  have CK := Lib.hid (fun W (k : Below w.heap.size w W) => checkS_any v1 v2 m.rom m.ram W (H1.out.below k) (H2.out.below k))
  rw [if_neg (show ¬ (1024 < m.rom.length ∨ 256 < m.ram.length) by omega)] at CK
  have q1 : 8 ≤ (m.ram.length : Int) := by omega
  have q2 : Int.tmod (m.ram.length : Int) 2 = 0 := by rw [Int.tmod_eq_emod_of_nonneg (by omega)]; omega
  have q3 : 12 ≤ (m.rom.length : Int) := by omega
  have RT := Lib.hid (ret_of m.rom m.ram c ho hl1 hq q5 q6)
  have OW := Lib.hid (fun W (k : Below w.heap.size w W) => own_any v1 v2 m.rom m.ram W (H1.out.below k) (H2.out.below k) (by omega) (by omega))
  have by1 : Bytes8 m.rom := fun x hx => by
    obtain ⟨_, _, _, _, _, hw, _⟩ := h1
    exact byte_in (hw x hx)
  have by2 : Bytes8 m.ram := fun x hx => by
    obtain ⟨_, _, _, _, _, hw, _⟩ := h2
    exact byte_in (hw x hx)
  have BY := Lib.hid (And.intro (set_bytes (set_bytes (set_bytes (set_bytes by1 2 0 (by omega)) 3 10 (by omega)) 10 208 (by omega)) 11 0 (by omega)) by2)
  clear by1 by2
  have ho' := Lib.hid ho
  clear hq hr ho
  have q4 : Int.tmod (c.r 7) 2 = 0 := by have := hi.1 7; unfold U16 at this; rw [Int.tmod_eq_emod_of_nonneg (by omega)]; exact hp
  clear hp
  obtain ⟨a1, k1, rfl, -⟩ := h1
  obtain ⟨a2, k2, rfl, -⟩ := h2
  obtain ⟨s0, s1⟩ : 0 ≤ c.r 7 ∧ c.r 7 ≤ 65535 := hi.1 7
  go_enter Try.func4, Try.ntmps4
  go_wp2_with fail
  refine (stepped_any _).mono ?_
  rintro e w1 ⟨rfl, hb1⟩
  have hs1 : w.heap.size + 2 ≤ w1.heap.size := by have := hb1.size; simpa using this
  have K1 := Lib.hid (show Blk w1 w.heap.size (cpuC c) 28 from (by repeat' (first | (with_reducible first | exact Hid.out (by assumption) | exact Blk.new _ _ _ | (refine Blk.new_at _ _ _ _ ?_; simp; done) | refine Blk.alloc ?_ _ | refine Blk.drewN ?_ _ | refine Blk.drew ?_ | apply Blk.set | refine Blk.put ?_ (by assumption) (by first | (simp; done) | (simp; omega) | omega) | refine Blk.below ?_ (by assumption)) | (refine Blk.setAt ?_ (by first | (simp; done) | (simp; omega))) | rfl)))
  have K2 := Lib.hid (show Blk w1 (w.heap.size + 1) #[.slice a1 m.rom.length k1, .slice a2 m.ram.length k2] 24 from (by repeat' (first | (with_reducible first | exact Hid.out (by assumption) | exact Blk.new _ _ _ | (refine Blk.new_at _ _ _ _ ?_; simp; done) | refine Blk.alloc ?_ _ | refine Blk.drewN ?_ _ | refine Blk.drew ?_ | apply Blk.set | refine Blk.put ?_ (by assumption) (by first | (simp; done) | (simp; omega) | omega) | refine Blk.below ?_ (by assumption)) | (refine Blk.setAt ?_ (by first | (simp; done) | (simp; omega))) | rfl)))
  have B1 : Below w.heap.size w w1 := by repeat' (first | (with_reducible first | exact Below.refl _ _ | assumption | refine below_alloc ?_ _ | refine Below.drew ?_ | refine below_drewN ?_ _ | refine below_then ?_ (by assumption) | refine below_put ?_ (by assumption) (by first | (simp; done) | (simp; omega) | omega) | refine Below.setCell ?_ ?_ _) | (simp; done) | (simp; omega) | omega)
  clear hb1
  go_wp2_with (first | ((with_reducible show wpList _ _ _ _ _ _); refine wpList_loadG (by rfl) 24 (.tmp 3) rfl (w.heap.size + 1) rfl 24 #[.slice a1 m.rom.length k1, .slice a2 m.ram.length k2] (show Blk _ (w.heap.size + 1) #[.slice a1 m.rom.length k1, .slice a2 m.ram.length k2] 24 from (by repeat' (first | (with_reducible first | exact Hid.out (by assumption) | exact Blk.new _ _ _ | (refine Blk.new_at _ _ _ _ ?_; simp; done) | refine Blk.alloc ?_ _ | refine Blk.drewN ?_ _ | refine Blk.drew ?_ | apply Blk.set | refine Blk.put ?_ (by assumption) (by first | (simp; done) | (simp; omega) | omega) | refine Blk.below ?_ (by assumption)) | (refine Blk.setAt ?_ (by first | (simp; done) | (simp; omega))) | rfl))) _ Try.underlying24 rfl (by kernel_rfl) ?_))
  refine (CK.out _ B1).mono ?_
  rintro e w2 ⟨rfl, hb2⟩
  have hs2 : w.heap.size + 2 ≤ w2.heap.size := by have := hb2.size; omega
  have L1 := Lib.hid (K1.out.below hb2)
  have L2 := Lib.hid (K2.out.below hb2)
  have B2 : Below w.heap.size w w2 := B1.trans (hb2.mono (by omega))
  have e20 : w2.cell? ⟨w.heap.size + 1, 0, none⟩ = some (.slice a1 m.rom.length k1) := L2.out.cell 0
  have e21 : w2.cell? ⟨w.heap.size + 1, 1, none⟩ = some (.slice a2 m.ram.length k2) := L2.out.cell 1
  have e17 : w2.cell? ⟨w.heap.size, 7, none⟩ = some (.int .u16 (c.r 7)) := L1.out.cell 7
  have lk1 : w.heap.size < w2.heap.size := by omega
  have lk2 : w.heap.size + 1 < w2.heap.size := by omega
  clear hb2 CK K1 K2 B1
  go_wp2_with (first | ((with_reducible show wpList _ _ _ _ _ _); refine wpList_loadW rfl 24 (.tmp 3) rfl (w.heap.size + 1) rfl 24 #[.slice a1 m.rom.length k1, .slice a2 m.ram.length k2] (show Blk _ (w.heap.size + 1) #[.slice a1 m.rom.length k1, .slice a2 m.ram.length k2] 24 from (by repeat' (first | (with_reducible first | exact Hid.out (by assumption) | exact Blk.new _ _ _ | (refine Blk.new_at _ _ _ _ ?_; simp; done) | refine Blk.alloc ?_ _ | refine Blk.drewN ?_ _ | refine Blk.drew ?_ | apply Blk.set | refine Blk.put ?_ (by assumption) (by first | (simp; done) | (simp; omega) | omega) | refine Blk.below ?_ (by assumption)) | (refine Blk.setAt ?_ (by first | (simp; done) | (simp; omega))) | rfl))) _ Try.underlying24 rfl (by kernel_rfl) ?_))
  refine (OW.out _ B2).mono ?_
  rintro e w3 ⟨u1, u2, rfl, oa, ob, dj, hb3⟩
  have l12 := ho'.out
  obtain ⟨g, cap, rfl, gb, gl⟩ := own_some oa (by omega)
  obtain ⟨x2, n2, rfl⟩ := own_shape ob
  have hs3 := hb3.size
  have L13 := Lib.hid (L1.out.below hb3)
  have L23 := Lib.hid (L2.out.below hb3)
  have B3 : Below w.heap.size w w3 := B2.trans (hb3.mono (by omega))
  have OA3 := Lib.hid oa
  have OB3 := Lib.hid ob
  have DJ := Lib.hid dj
  clear oa ob dj hb3 OW L1 L2 e20 e21 e17 lk1 lk2
  go_wp2_with (first | (((with_reducible show wpList _ _ _ _ _ _); refine wpList_storeW rfl 24 (.tmp 3) (.tmp 58) rfl (w.heap.size + 1) #[.slice (some ⟨g, 0, none⟩) m.rom.length cap, .slice x2 m.ram.length n2] rfl rfl 24 _ (show Blk _ (w.heap.size + 1) #[.slice a1 m.rom.length k1, .slice a2 m.ram.length k2] 24 from (by repeat' (first | (with_reducible first | exact Hid.out (by assumption) | exact Blk.new _ _ _ | (refine Blk.new_at _ _ _ _ ?_; simp; done) | refine Blk.alloc ?_ _ | refine Blk.drewN ?_ _ | refine Blk.drew ?_ | apply Blk.set | refine Blk.put ?_ (by assumption) (by first | (simp; done) | (simp; omega) | omega) | refine Blk.below ?_ (by assumption)) | (refine Blk.setAt ?_ (by first | (simp; done) | (simp; omega))) | rfl))) (by kernel_rfl) rfl (by first | (with_reducible assumption) | simp [Value.oneCell']) ?_; intro w4 hp_w4 K_w4)))
  have KC4 := Lib.hid (show Blk w4 w.heap.size (cpuC c) 28 from (by repeat' (first | (with_reducible first | exact Hid.out (by assumption) | exact Blk.new _ _ _ | (refine Blk.new_at _ _ _ _ ?_; simp; done) | refine Blk.alloc ?_ _ | refine Blk.drewN ?_ _ | refine Blk.drew ?_ | apply Blk.set | refine Blk.put ?_ (by assumption) (by first | (simp; done) | (simp; omega) | omega) | refine Blk.below ?_ (by assumption)) | (refine Blk.setAt ?_ (by first | (simp; done) | (simp; omega))) | rfl)))
  have OA4 := Lib.hid (own_put OA3.out hp_w4 (by omega))
  have OB4 := Lib.hid (own_put OB3.out hp_w4 (by omega))
  have B4 : Below w.heap.size w w4 := below_put B3 hp_w4 (by omega)
  rw [← hp_w4.size] at gl
  clear OA3 OB3 B3 L13 L23 hp_w4
  have t2 : (2 : Int) < (m.rom.length : Int) := by omega
  have t3 : (3 : Int) < (m.rom.length : Int) := by omega
  have t10 : (10 : Int) < (m.rom.length : Int) := by omega
  have t11 : (11 : Int) < (m.rom.length : Int) := by omega
  clear q3
  have gb' : w.heap.size + 2 ≤ g := by omega
  refine wp_region_held_drew (S := fun Z => Blk Z (w.heap.size + 1) #[.slice (some ⟨g, 0, none⟩) m.rom.length cap, .slice x2 m.ram.length n2] 24) (by kernel_rfl) (Blk.drew K_w4.out) (fun hS => ?_)
  refine wpAnyH_take (i := 0) (v := ?v0_1) rfl (by kernel_rfl) (by kernel_rfl) (by kernel_rfl) (fun _ _ _ h => h) (Or.inl ⟨by rfl, ?y0_1⟩) hS ?_
  case y0_1 => (intro w hSw; go_simp; try with_reducible rfl)
  try simp only [List.getElem_toArray, List.getElem_cons_succ, List.getElem_cons_zero, Act.put, List.setIfInBounds_toArray, List.set_cons_zero, List.set_cons_succ]
  refine wpAnyH_take (i := 1) (v := ?v1_2) rfl (by kernel_rfl) (by kernel_rfl) (by kernel_rfl) (fun _ _ _ h => h) (Or.inl ⟨by rfl, ?y1_2⟩) hS ?_
  case y1_2 => (intro w hSw; have c0 := hSw.cell 0; go_simp; try with_reducible rfl)
  try simp only [List.getElem_toArray, List.getElem_cons_succ, List.getElem_cons_zero, Act.put, List.setIfInBounds_toArray, List.set_cons_zero, List.set_cons_succ]
  refine wpAnyH_take (i := 2) (v := ?v2_3) rfl (by kernel_rfl) (by kernel_rfl) (by kernel_rfl) (fun _ _ _ h => h) (Or.inl ⟨by rfl, ?y2_3⟩) hS ?_
  case y2_3 => (intro w hSw; go_simp; try with_reducible rfl)
  try simp only [List.getElem_toArray, List.getElem_cons_succ, List.getElem_cons_zero, Act.put, List.setIfInBounds_toArray, List.set_cons_zero, List.set_cons_succ]
  refine wpAnyH_take (i := 3) (v := ?v3_4) rfl (by kernel_rfl) (by kernel_rfl) (by kernel_rfl) (fun _ _ _ h => h) (Or.inl ⟨by rfl, ?y3_4⟩) hS ?_
  case y3_4 => (intro w hSw; have c0 := hSw.cell 0; go_simp; try with_reducible rfl)
  try simp only [List.getElem_toArray, List.getElem_cons_succ, List.getElem_cons_zero, Act.put, List.setIfInBounds_toArray, List.set_cons_zero, List.set_cons_succ]
  refine wpAnyH_take (i := 4) (v := ?v4_5) rfl (by kernel_rfl) (by kernel_rfl) (by kernel_rfl) (fun _ _ _ h => h) (Or.inl ⟨by rfl, ?y4_5⟩) hS ?_
  case y4_5 => (intro w hSw; go_simp; try with_reducible rfl)
  try simp only [List.getElem_toArray, List.getElem_cons_succ, List.getElem_cons_zero, Act.put, List.setIfInBounds_toArray, List.set_cons_zero, List.set_cons_succ]
  refine wpAnyH_ready (rs := [5]) (by kernel_rfl) (by simp) (AllReadyH.cons rfl (fun K hK => ?_) AllReadyH.nil)
  have cx := own_cell OA4.out 2 (by first | omega | (simp; omega))
  have fx := own_free OA4.out 2
  go_simp
  refine hK.out _ _ (Blk.setAt hS (by show w.heap.size + 1 ≠ g; omega)) (fun hS => ?_)
  clear hK K cx fx
  try simp only [List.getElem_toArray, List.getElem_cons_succ, List.getElem_cons_zero, Act.put, List.setIfInBounds_toArray, List.set_cons_zero, List.set_cons_succ]
  have oa1 := own_setI OA4.out 2 0
  have ob1 := own_setAt (p := ⟨g, 2, none⟩) (u := .int .u8 0) OB4.out (apart_ne DJ.out)
  refine pmark1 (R := fun Z => Below w.heap.size w Z ∧ g < Z.heap.size ∧ Hid (Blk Z w.heap.size (cpuC c) 28) ∧ Hid (Blk Z (w.heap.size + 1) #[.slice (some ⟨g, 0, none⟩) m.rom.length cap, .slice x2 m.ram.length n2] 24) ∧ Hid (Z.ownsRow (w2.heap.size + 2) 5 1 (.slice (some ⟨g, 0, none⟩) m.rom.length cap) m.rom.length ((m.rom.set 2 0).map (Value.int .u8))) ∧ Hid (Z.ownsRow (w2.heap.size + 2) 5 1 (.slice x2 m.ram.length n2) m.ram.length (m.ram.map (Value.int .u8)))) (F := fun Z => wpAnyH _ _ _ _ _ _ _ _ Z) ⟨Below.setCell B4.drew (by show w.heap.size ≤ g; omega) _, by simpa using gl, Lib.hid (Blk.setAt (Blk.drew KC4.out) (by show w.heap.size ≠ g; omega)), Lib.hid hS, Lib.hid oa1, Lib.hid ob1⟩ ?_
  clear hS oa1 ob1
  intro Z5 ⟨BZ5, gZ5, KZ5, SZ5, OZ5, PZ5⟩
  have hS := SZ5.out
  refine wpAnyH_take (i := 6) (v := ?v6_6) rfl (by kernel_rfl) (by kernel_rfl) (by kernel_rfl) (fun _ _ _ h => h) (Or.inl ⟨by rfl, ?y6_6⟩) hS ?_
  case y6_6 => (intro w hSw; go_simp; try with_reducible rfl)
  try simp only [List.getElem_toArray, List.getElem_cons_succ, List.getElem_cons_zero, Act.put, List.setIfInBounds_toArray, List.set_cons_zero, List.set_cons_succ]
  refine wpAnyH_ready (rs := [7]) (by kernel_rfl) (by simp) (AllReadyH.cons rfl (fun K hK => ?_) AllReadyH.nil)
  have cx := own_cell OZ5.out 3 (by first | omega | (simp; omega))
  have fx := own_free OZ5.out 3
  go_simp
  refine hK.out _ _ (Blk.setAt hS (by show w.heap.size + 1 ≠ g; omega)) (fun hS => ?_)
  clear hK K cx fx
  try simp only [List.getElem_toArray, List.getElem_cons_succ, List.getElem_cons_zero, Act.put, List.setIfInBounds_toArray, List.set_cons_zero, List.set_cons_succ]
  have oa1 := own_setI OZ5.out 3 10
  have ob1 := own_setAt (p := ⟨g, 3, none⟩) (u := .int .u8 10) PZ5.out (apart_ne DJ.out)
  refine wpAnyH_done (by kernel_rfl) ?_ _
  refine pmark1 (R := fun Z => Below w.heap.size w Z ∧ g < Z.heap.size ∧ Hid (Blk Z w.heap.size (cpuC c) 28) ∧ Hid (Blk Z (w.heap.size + 1) #[.slice (some ⟨g, 0, none⟩) m.rom.length cap, .slice x2 m.ram.length n2] 24) ∧ Hid (Z.ownsRow (w2.heap.size + 2) 5 1 (.slice (some ⟨g, 0, none⟩) m.rom.length cap) m.rom.length (((m.rom.set 2 0).set 3 10).map (Value.int .u8))) ∧ Hid (Z.ownsRow (w2.heap.size + 2) 5 1 (.slice x2 m.ram.length n2) m.ram.length (m.ram.map (Value.int .u8)))) (F := fun Z => Exit.then _ _ Exit.normal _ Z) ⟨Below.setCell BZ5 (by show w.heap.size ≤ g; omega) _, by simpa using gZ5, Lib.hid (Blk.setAt KZ5.out (by show w.heap.size ≠ g; omega)), Lib.hid hS, Lib.hid oa1, Lib.hid ob1⟩ ?_
  clear hS oa1 ob1 gl B4 KC4 K_w4 OA4 OB4 BZ5 gZ5 KZ5 SZ5 OZ5 PZ5
  intro w5 ⟨B5, gl, KC5, KS5, OA5, OB5⟩
  go_wp2_with fail
  refine wp_region_held_drew (S := fun Z => Blk Z (w.heap.size + 1) #[.slice (some ⟨g, 0, none⟩) m.rom.length cap, .slice x2 m.ram.length n2] 24) (by kernel_rfl) (Blk.drew KS5.out) (fun hS => ?_)
  refine wpAnyH_take (i := 0) (v := ?v0_7) rfl (by kernel_rfl) (by kernel_rfl) (by kernel_rfl) (fun _ _ _ h => h) (Or.inl ⟨by rfl, ?y0_7⟩) hS ?_
  case y0_7 => (intro w hSw; go_simp; try with_reducible rfl)
  try simp only [List.getElem_toArray, List.getElem_cons_succ, List.getElem_cons_zero, Act.put, List.setIfInBounds_toArray, List.set_cons_zero, List.set_cons_succ]
  refine wpAnyH_take (i := 1) (v := ?v1_8) rfl (by kernel_rfl) (by kernel_rfl) (by kernel_rfl) (fun _ _ _ h => h) (Or.inl ⟨by rfl, ?y1_8⟩) hS ?_
  case y1_8 => (intro w hSw; have c0 := hSw.cell 0; go_simp; try with_reducible rfl)
  try simp only [List.getElem_toArray, List.getElem_cons_succ, List.getElem_cons_zero, Act.put, List.setIfInBounds_toArray, List.set_cons_zero, List.set_cons_succ]
  refine wpAnyH_take (i := 2) (v := ?v2_9) rfl (by kernel_rfl) (by kernel_rfl) (by kernel_rfl) (fun _ _ _ h => h) (Or.inl ⟨by rfl, ?y2_9⟩) hS ?_
  case y2_9 => (intro w hSw; go_simp; try with_reducible rfl)
  try simp only [List.getElem_toArray, List.getElem_cons_succ, List.getElem_cons_zero, Act.put, List.setIfInBounds_toArray, List.set_cons_zero, List.set_cons_succ]
  refine wpAnyH_take (i := 3) (v := ?v3_10) rfl (by kernel_rfl) (by kernel_rfl) (by kernel_rfl) (fun _ _ _ h => h) (Or.inl ⟨by rfl, ?y3_10⟩) hS ?_
  case y3_10 => (intro w hSw; have c0 := hSw.cell 0; go_simp; try with_reducible rfl)
  try simp only [List.getElem_toArray, List.getElem_cons_succ, List.getElem_cons_zero, Act.put, List.setIfInBounds_toArray, List.set_cons_zero, List.set_cons_succ]
  refine wpAnyH_take (i := 4) (v := ?v4_11) rfl (by kernel_rfl) (by kernel_rfl) (by kernel_rfl) (fun _ _ _ h => h) (Or.inl ⟨by rfl, ?y4_11⟩) hS ?_
  case y4_11 => (intro w hSw; go_simp; try with_reducible rfl)
  try simp only [List.getElem_toArray, List.getElem_cons_succ, List.getElem_cons_zero, Act.put, List.setIfInBounds_toArray, List.set_cons_zero, List.set_cons_succ]
  refine wpAnyH_ready (rs := [5]) (by kernel_rfl) (by simp) (AllReadyH.cons rfl (fun K hK => ?_) AllReadyH.nil)
  have cx := own_cell OA5.out 10 (by first | omega | (simp; omega))
  have fx := own_free OA5.out 10
  go_simp
  refine hK.out _ _ (Blk.setAt hS (by show w.heap.size + 1 ≠ g; omega)) (fun hS => ?_)
  clear hK K cx fx
  try simp only [List.getElem_toArray, List.getElem_cons_succ, List.getElem_cons_zero, Act.put, List.setIfInBounds_toArray, List.set_cons_zero, List.set_cons_succ]
  have oa1 := own_setI OA5.out 10 208
  have ob1 := own_setAt (p := ⟨g, 10, none⟩) (u := .int .u8 208) OB5.out (apart_ne DJ.out)
  refine pmark1 (R := fun Z => Below w.heap.size w Z ∧ g < Z.heap.size ∧ Hid (Blk Z w.heap.size (cpuC c) 28) ∧ Hid (Blk Z (w.heap.size + 1) #[.slice (some ⟨g, 0, none⟩) m.rom.length cap, .slice x2 m.ram.length n2] 24) ∧ Hid (Z.ownsRow (w2.heap.size + 2) 5 1 (.slice (some ⟨g, 0, none⟩) m.rom.length cap) m.rom.length ((((m.rom.set 2 0).set 3 10).set 10 208).map (Value.int .u8))) ∧ Hid (Z.ownsRow (w2.heap.size + 2) 5 1 (.slice x2 m.ram.length n2) m.ram.length (m.ram.map (Value.int .u8)))) (F := fun Z => wpAnyH _ _ _ _ _ _ _ _ Z) ⟨Below.setCell B5.drew (by show w.heap.size ≤ g; omega) _, by simpa using gl, Lib.hid (Blk.setAt (Blk.drew KC5.out) (by show w.heap.size ≠ g; omega)), Lib.hid hS, Lib.hid oa1, Lib.hid ob1⟩ ?_
  clear hS oa1 ob1
  intro Z6 ⟨BZ6, gZ6, KZ6, SZ6, OZ6, PZ6⟩
  have hS := SZ6.out
  refine wpAnyH_take (i := 6) (v := ?v6_12) rfl (by kernel_rfl) (by kernel_rfl) (by kernel_rfl) (fun _ _ _ h => h) (Or.inl ⟨by rfl, ?y6_12⟩) hS ?_
  case y6_12 => (intro w hSw; go_simp; try with_reducible rfl)
  try simp only [List.getElem_toArray, List.getElem_cons_succ, List.getElem_cons_zero, Act.put, List.setIfInBounds_toArray, List.set_cons_zero, List.set_cons_succ]
  refine wpAnyH_ready (rs := [7]) (by kernel_rfl) (by simp) (AllReadyH.cons rfl (fun K hK => ?_) AllReadyH.nil)
  have cx := own_cell OZ6.out 11 (by first | omega | (simp; omega))
  have fx := own_free OZ6.out 11
  go_simp
  refine hK.out _ _ (Blk.setAt hS (by show w.heap.size + 1 ≠ g; omega)) (fun hS => ?_)
  clear hK K cx fx
  try simp only [List.getElem_toArray, List.getElem_cons_succ, List.getElem_cons_zero, Act.put, List.setIfInBounds_toArray, List.set_cons_zero, List.set_cons_succ]
  have oa1 := own_setI OZ6.out 11 0
  have ob1 := own_setAt (p := ⟨g, 11, none⟩) (u := .int .u8 0) PZ6.out (apart_ne DJ.out)
  refine wpAnyH_done (by kernel_rfl) ?_ _
  refine pmark1 (R := fun Z => Below w.heap.size w Z ∧ g < Z.heap.size ∧ Hid (Blk Z w.heap.size (cpuC c) 28) ∧ Hid (Blk Z (w.heap.size + 1) #[.slice (some ⟨g, 0, none⟩) m.rom.length cap, .slice x2 m.ram.length n2] 24) ∧ Hid (Z.ownsRow (w2.heap.size + 2) 5 1 (.slice (some ⟨g, 0, none⟩) m.rom.length cap) m.rom.length ((romR m.rom).map (Value.int .u8))) ∧ Hid (Z.ownsRow (w2.heap.size + 2) 5 1 (.slice x2 m.ram.length n2) m.ram.length (m.ram.map (Value.int .u8)))) (F := fun Z => Exit.then _ _ Exit.normal _ Z) ⟨Below.setCell BZ6 (by show w.heap.size ≤ g; omega) _, by simpa using gZ6, Lib.hid (Blk.setAt KZ6.out (by show w.heap.size ≠ g; omega)), Lib.hid hS, Lib.hid oa1, Lib.hid ob1⟩ ?_
  clear hS oa1 ob1 gl B5 KC5 KS5 OA5 OB5 BZ6 gZ6 KZ6 SZ6 OZ6 PZ6
  intro w6 ⟨B6, gl, KC6, KS6, OA6, OB6⟩
  obtain ⟨C, hC⟩ : ∃ C : Cp, C = { c with may := true } := ⟨_, rfl⟩
  have hCin : C.In := by rw [hC]; exact hi
  have rt := RT.out
  rw [← hC] at rt
  have one := ret_one ⟨romR m.rom, m.ram⟩ C rt
  have two := ret_two ⟨romR m.rom, m.ram⟩ C hCin rt
  have T1 := Lib.hid (fun W (k1 : SliceAt W .u8 (.slice (some ⟨g, 0, none⟩) m.rom.length cap) (romR m.rom)) (k2 : SliceAt W .u8 (.slice x2 m.ram.length n2) m.ram) => step_any C hCin (.slice (some ⟨g, 0, none⟩) m.rom.length cap) (.slice x2 m.ram.length n2) ⟨romR m.rom, m.ram⟩ true W k1 k2 (by rw [show (romR m.rom).length = m.rom.length by simp [romR]]; exact hl1) hl2)
  have sm : Same ⟨romR m.rom, m.ram⟩ (lvM busS ⟨romR m.rom, m.ram⟩ C) := (same_pW _ _ _).trans (same_pW _ _ _)
  have din := dC_in tells_busS ⟨romR m.rom, m.ram⟩ hCin true
  rw [one.1, one.2.2.2.2] at T1
  obtain ⟨D, hD⟩ : ∃ D, D = dC busS ⟨romR m.rom, m.ram⟩ C true := ⟨_, rfl⟩
  obtain ⟨M, hM⟩ : ∃ M, M = lvM busS ⟨romR m.rom, m.ram⟩ C := ⟨_, rfl⟩
  rw [← hD, ← hM] at T1 two
  rw [← hD] at one din
  rw [← hM] at sm
  have T2 := Lib.hid (fun W u1 u2 (k1 : SliceAt W .u8 u1 M.rom) (k2 : SliceAt W .u8 u2 M.ram) => step_any D din u1 u2 M false W k1 k2 (by rw [sm.1]; show (romR m.rom).length ≤ 1024; rw [show (romR m.rom).length = m.rom.length by simp [romR]]; exact hl1) (by rw [sm.2]; exact hl2))
  obtain ⟨E, hE⟩ : ∃ E : Cp, E = { C with wt := false } := ⟨_, rfl⟩
  rw [two.1, two.2, ← hE] at T2
  have o10 : D.pc = 10 := one.2.1
  have omay : D.may = false := one.2.2.1
  have owt : D.wt = false := one.2.2.2.1
  have ecc : (cpuC c).setIfInBounds 13 (.bool true) = cpuC C := by rw [hC]; rfl
  have ecw : (cpuC C).setIfInBounds 14 (.bool false) = cpuC E := by rw [hE]; rfl
  have HCe := Lib.hid hC
  clear one two hD hM sm din rt hC hCin hE
  have sl1 : SliceAt w6 .u8 (.slice (some ⟨g, 0, none⟩) m.rom.length cap) (romR m.rom) := bytes_slice (by rw [show (romR m.rom).length = m.rom.length by simp [romR]]; exact OA6.out) BY.out.1
  have sl2 : SliceAt w6 .u8 (.slice x2 m.ram.length n2) m.ram := bytes_slice OB6.out BY.out.2
  have hA7 : SliceAt (w6.setCell ⟨w.heap.size, 13, none⟩ (.bool true)) .u8 (.slice (some ⟨g, 0, none⟩) m.rom.length cap) (romR m.rom) := bytes_slice (by rw [show (romR m.rom).length = m.rom.length by simp [romR]]; exact own_setAt OA6.out (fun k hk e => by have := (OA6.out.lt k hk).1; have e' : k = w.heap.size := e; omega)) BY.out.1
  have hB7 : SliceAt (w6.setCell ⟨w.heap.size, 13, none⟩ (.bool true)) .u8 (.slice x2 m.ram.length n2) m.ram := bytes_slice (own_setAt OB6.out (fun k hk e => by have := (OB6.out.lt k hk).1; have e' : k = w.heap.size := e; omega)) BY.out.2
  have SA7 := Lib.hid hA7
  have SB7 := Lib.hid hB7
  have K7c : Hid (Blk (w6.setCell ⟨w.heap.size, 13, none⟩ (.bool true)) w.heap.size (cpuC C) 28) := Lib.hid (Blk.set KC6.out ecc)
  have K7s : Hid (Blk (w6.setCell ⟨w.heap.size, 13, none⟩ (.bool true)) (w.heap.size + 1) #[.slice (some ⟨g, 0, none⟩) m.rom.length cap, .slice x2 m.ram.length n2] 24) := Lib.hid (Blk.setAt KS6.out (by show w.heap.size + 1 ≠ w.heap.size; omega))
  have B7 : Below w.heap.size w (w6.setCell ⟨w.heap.size, 13, none⟩ (.bool true)) := Below.setCell B6 (by show w.heap.size ≤ w.heap.size; omega) _
  have k13 : w6.cell? ⟨w.heap.size, 13, none⟩ = some (.bool c.may) := KC6.out.cell 13
  have f13 : w6.frozen? ⟨w.heap.size, 13, none⟩ = false := Blk.free KC6.out 13
  have l13 : w.heap.size < w6.heap.size := KC6.out.lt
  clear sl1 sl2 hA7 hB7 OA6 OB6 BY t2 t3 t10 t11
  go_wp2_with (first | ((with_reducible show wpList _ _ _ _ _ _); refine wpList_loadW rfl 28 (.tmp 2) rfl (w.heap.size) rfl 28 (cpuC C) (show Blk _ (w.heap.size) (cpuC C) 28 from (by repeat' (first | (with_reducible first | exact Hid.out (by assumption) | exact Blk.new _ _ _ | (refine Blk.new_at _ _ _ _ ?_; simp; done) | refine Blk.alloc ?_ _ | refine Blk.drewN ?_ _ | refine Blk.drew ?_ | apply Blk.set | refine Blk.put ?_ (by assumption) (by first | (simp; done) | (simp; omega) | omega) | refine Blk.below ?_ (by assumption)) | (refine Blk.setAt ?_ (by first | (simp; done) | (simp; omega))) | rfl))) _ Try.underlying28 rfl (by kernel_rfl) ?_) | ((with_reducible show wpList _ _ _ _ _ _); refine wpList_loadW rfl 24 (.tmp 3) rfl (w.heap.size + 1) rfl 24 #[.slice (some ⟨g, 0, none⟩) m.rom.length cap, .slice x2 m.ram.length n2] (show Blk _ (w.heap.size + 1) #[.slice (some ⟨g, 0, none⟩) m.rom.length cap, .slice x2 m.ram.length n2] 24 from (by repeat' (first | (with_reducible first | exact Hid.out (by assumption) | exact Blk.new _ _ _ | (refine Blk.new_at _ _ _ _ ?_; simp; done) | refine Blk.alloc ?_ _ | refine Blk.drewN ?_ _ | refine Blk.drew ?_ | apply Blk.set | refine Blk.put ?_ (by assumption) (by first | (simp; done) | (simp; omega) | omega) | refine Blk.below ?_ (by assumption)) | (refine Blk.setAt ?_ (by first | (simp; done) | (simp; omega))) | rfl))) _ Try.underlying24 rfl (by kernel_rfl) ?_))
  refine (T1.out _ SA7.out SB7.out).mono ?_
  rintro e w8 ⟨r1, m1, rfl, q1, q2, hb8⟩
  have hs8 : w.heap.size + 2 ≤ w8.heap.size := by have := hb8.size; simp at this; omega
  have K8c := Lib.hid (K7c.out.below hb8)
  have B8 : Below w.heap.size w w8 := B7.trans (hb8.mono (by have := B7.size; omega))
  have or1 := slice_one q1
  have om1 := slice_one q2
  have ONE := cpuC_one D
  have ONR : (#[r1, m1] : Array Value).all Value.oneCell' = true := by simp [or1, om1]
  have Q1 := Lib.hid q1
  have Q2 := Lib.hid q2
  clear q1 q2 hb8 T1 K7c K7s B7 SA7 SB7 KC6 KS6 k13 f13 l13 B6
  go_wp2_with (first | ((with_reducible show wpList _ _ _ _ _ _); refine wpList_storeW rfl 28 (.tmp 5) (.tmp 76) rfl (w8.heap.size) (cpuC D) rfl rfl 28 _ (show Blk _ (w8.heap.size) #[.int .u16 0, .int .u16 0, .int .u16 0, .int .u16 0, .int .u16 0, .int .u16 0, .int .u16 0, .int .u16 0, .int .u16 0, .bool false, .bool false, .bool false, .bool false, .bool false, .bool false] 28 from (by repeat' (first | (with_reducible first | exact Hid.out (by assumption) | exact Blk.new _ _ _ | (refine Blk.new_at _ _ _ _ ?_; simp; done) | refine Blk.alloc ?_ _ | refine Blk.drewN ?_ _ | refine Blk.drew ?_ | apply Blk.set | refine Blk.put ?_ (by assumption) (by first | (simp; done) | (simp; omega) | omega) | refine Blk.below ?_ (by assumption)) | (refine Blk.setAt ?_ (by first | (simp; done) | (simp; omega))) | rfl))) (by kernel_rfl) rfl (by first | (with_reducible assumption) | simp [Value.oneCell']) ?_; intro w9 hp_w9 K_w9) | (((with_reducible show wpList _ _ _ _ _ _); refine wpList_storeW rfl 24 (.tmp 6) (.tmp 77) rfl (w8.heap.size + 1) #[r1, m1] rfl rfl 24 _ (show Blk _ (w8.heap.size + 1) #[.slice none 0 0, .slice none 0 0] 24 from (by repeat' (first | (with_reducible first | exact Hid.out (by assumption) | exact Blk.new _ _ _ | (refine Blk.new_at _ _ _ _ ?_; simp; done) | refine Blk.alloc ?_ _ | refine Blk.drewN ?_ _ | refine Blk.drew ?_ | apply Blk.set | refine Blk.put ?_ (by assumption) (by first | (simp; done) | (simp; omega) | omega) | refine Blk.below ?_ (by assumption)) | (refine Blk.setAt ?_ (by first | (simp; done) | (simp; omega))) | rfl))) (by kernel_rfl) rfl (by first | (with_reducible assumption) | simp [Value.oneCell']) ?_; intro wA hp_wA K_wA); have X1 := Lib.hid (show Blk wA w8.heap.size (cpuC D) 28 from (by repeat' (first | (with_reducible first | exact Hid.out (by assumption) | exact Blk.new _ _ _ | (refine Blk.new_at _ _ _ _ ?_; simp; done) | refine Blk.alloc ?_ _ | refine Blk.drewN ?_ _ | refine Blk.drew ?_ | apply Blk.set | refine Blk.put ?_ (by assumption) (by first | (simp; done) | (simp; omega) | omega) | refine Blk.below ?_ (by assumption)) | (refine Blk.setAt ?_ (by first | (simp; done) | (simp; omega))) | rfl))); have X2 := Lib.hid (show Blk wA (w8.heap.size + 1) #[r1, m1] 24 from (by repeat' (first | (with_reducible first | exact Hid.out (by assumption) | exact Blk.new _ _ _ | (refine Blk.new_at _ _ _ _ ?_; simp; done) | refine Blk.alloc ?_ _ | refine Blk.drewN ?_ _ | refine Blk.drew ?_ | apply Blk.set | refine Blk.put ?_ (by assumption) (by first | (simp; done) | (simp; omega) | omega) | refine Blk.below ?_ (by assumption)) | (refine Blk.setAt ?_ (by first | (simp; done) | (simp; omega))) | rfl))); have x1 : wA.cell? ⟨w8.heap.size, 8, none⟩ = some (.int .u16 10) := (by rw [X1.out.cell]; show some (Value.int .u16 D.pc) = _; rw [o10]); have x2 : wA.cell? ⟨w8.heap.size, 13, none⟩ = some (.bool false) := (by rw [X1.out.cell]; show some (Value.bool D.may) = _; rw [omay]); have x3 : wA.cell? ⟨w8.heap.size, 14, none⟩ = some (.bool false) := (by rw [X1.out.cell]; show some (Value.bool D.wt) = _; rw [owt])) | ((with_reducible show wpList _ _ _ _ _ _); refine wpList_loadW rfl 28 (.tmp 5) rfl (w8.heap.size) rfl 28 (cpuC D) (show Blk _ (w8.heap.size) (cpuC D) 28 from (by repeat' (first | (with_reducible first | exact Hid.out (by assumption) | exact Blk.new _ _ _ | (refine Blk.new_at _ _ _ _ ?_; simp; done) | refine Blk.alloc ?_ _ | refine Blk.drewN ?_ _ | refine Blk.drew ?_ | apply Blk.set | refine Blk.put ?_ (by assumption) (by first | (simp; done) | (simp; omega) | omega) | refine Blk.below ?_ (by assumption)) | (refine Blk.setAt ?_ (by first | (simp; done) | (simp; omega))) | rfl))) _ Try.underlying28 rfl (by kernel_rfl) ?_) | ((with_reducible show wpList _ _ _ _ _ _); refine wpList_loadW rfl 24 (.tmp 6) rfl (w8.heap.size + 1) rfl 24 #[r1, m1] (show Blk _ (w8.heap.size + 1) #[r1, m1] 24 from (by repeat' (first | (with_reducible first | exact Hid.out (by assumption) | exact Blk.new _ _ _ | (refine Blk.new_at _ _ _ _ ?_; simp; done) | refine Blk.alloc ?_ _ | refine Blk.drewN ?_ _ | refine Blk.drew ?_ | apply Blk.set | refine Blk.put ?_ (by assumption) (by first | (simp; done) | (simp; omega) | omega) | refine Blk.below ?_ (by assumption)) | (refine Blk.setAt ?_ (by first | (simp; done) | (simp; omega))) | rfl))) _ Try.underlying24 rfl (by kernel_rfl) ?_))
  have BA8 : Below w8.heap.size w8 wA := by repeat' (first | (with_reducible first | exact Below.refl _ _ | assumption | refine below_alloc ?_ _ | refine Below.drew ?_ | refine below_drewN ?_ _ | refine below_then ?_ (by assumption) | refine below_put ?_ (by assumption) (by first | (simp; done) | (simp; omega) | omega) | refine Below.setCell ?_ ?_ _) | (simp; done) | (simp; omega) | omega)
  have KAc := Lib.hid (K8c.out.below BA8)
  have BA : Below w.heap.size w wA := B8.trans (BA8.mono (by omega))
  have hsA : w8.heap.size + 2 ≤ wA.heap.size := by have a := hp_w9.size; have b := hp_wA.size; simp at a b; omega
  refine (T2.out _ _ _ (Q1.out.below BA8) (Q2.out.below BA8)).mono ?_
  rintro e wB ⟨r2, m2, rfl, q1, q2, hbB⟩
  have hsB : wA.heap.size ≤ wB.heap.size := hbB.size
  have KBc := Lib.hid (KAc.out.below hbB)
  have BB : Below w.heap.size w wB := BA.trans (hbB.mono (by omega))
  have or2 := slice_one q1
  have om2 := slice_one q2
  have ONE := cpuC_one E
  have ONR : (#[r2, m2] : Array Value).all Value.oneCell' = true := by simp [or2, om2]
  clear q1 q2 hbB T2 KAc BA BA8 K8c B8 hp_w9 hp_wA K_w9 K_wA X1 X2 x1 x2 x3 Q1 Q2
  have CS := cpu_self E
  go_wp2_with (first | ((with_reducible show wpList _ _ _ _ _ _); refine wpList_storeW rfl 28 (.tmp 9) (.tmp 103) rfl (wB.heap.size) (cpuC E) rfl rfl 28 _ (show Blk _ (wB.heap.size) #[.int .u16 0, .int .u16 0, .int .u16 0, .int .u16 0, .int .u16 0, .int .u16 0, .int .u16 0, .int .u16 0, .int .u16 0, .bool false, .bool false, .bool false, .bool false, .bool false, .bool false] 28 from (by repeat' (first | (with_reducible first | exact Hid.out (by assumption) | exact Blk.new _ _ _ | (refine Blk.new_at _ _ _ _ ?_; simp; done) | refine Blk.alloc ?_ _ | refine Blk.drewN ?_ _ | refine Blk.drew ?_ | apply Blk.set | refine Blk.put ?_ (by assumption) (by first | (simp; done) | (simp; omega) | omega) | refine Blk.below ?_ (by assumption)) | (refine Blk.setAt ?_ (by first | (simp; done) | (simp; omega))) | rfl))) (by kernel_rfl) rfl (by first | (with_reducible assumption) | simp [Value.oneCell']) ?_; intro wC hp_wC K_wC) | (((with_reducible show wpList _ _ _ _ _ _); refine wpList_storeW rfl 24 (.tmp 10) (.tmp 104) rfl (wB.heap.size + 1) #[r2, m2] rfl rfl 24 _ (show Blk _ (wB.heap.size + 1) #[.slice none 0 0, .slice none 0 0] 24 from (by repeat' (first | (with_reducible first | exact Hid.out (by assumption) | exact Blk.new _ _ _ | (refine Blk.new_at _ _ _ _ ?_; simp; done) | refine Blk.alloc ?_ _ | refine Blk.drewN ?_ _ | refine Blk.drew ?_ | apply Blk.set | refine Blk.put ?_ (by assumption) (by first | (simp; done) | (simp; omega) | omega) | refine Blk.below ?_ (by assumption)) | (refine Blk.setAt ?_ (by first | (simp; done) | (simp; omega))) | rfl))) (by kernel_rfl) rfl (by first | (with_reducible assumption) | simp [Value.oneCell']) ?_; intro wD hp_wD K_wD); have BBD : Below wB.heap.size wB wD := (by repeat' (first | (with_reducible first | exact Below.refl _ _ | assumption | refine below_alloc ?_ _ | refine Below.drew ?_ | refine below_drewN ?_ _ | refine below_then ?_ (by assumption) | refine below_put ?_ (by assumption) (by first | (simp; done) | (simp; omega) | omega) | refine Below.setCell ?_ ?_ _) | (simp; done) | (simp; omega) | omega)); have Y1 := Lib.hid (KBc.out.below BBD); have y1 : wD.cell? ⟨w.heap.size, 14, none⟩ = some (.bool C.wt) := Y1.out.cell 14; have y2 : wD.frozen? ⟨w.heap.size, 14, none⟩ = false := Blk.free Y1.out 14; have y3 : w.heap.size < wD.heap.size := Y1.out.lt; have Y2 : Hid (Blk (wD.setCell ⟨w.heap.size, 14, none⟩ (.bool false)) w.heap.size (cpuC E) 28) := Lib.hid (Blk.set Y1.out ecw); have Y3 : Hid (Blk (wD.setCell ⟨w.heap.size, 14, none⟩ (.bool false)) wB.heap.size (cpuC E) 28) := Lib.hid (Blk.setAt (show Blk wD wB.heap.size (cpuC E) 28 from (by repeat' (first | (with_reducible first | exact Hid.out (by assumption) | exact Blk.new _ _ _ | (refine Blk.new_at _ _ _ _ ?_; simp; done) | refine Blk.alloc ?_ _ | refine Blk.drewN ?_ _ | refine Blk.drew ?_ | apply Blk.set | refine Blk.put ?_ (by assumption) (by first | (simp; done) | (simp; omega) | omega) | refine Blk.below ?_ (by assumption)) | (refine Blk.setAt ?_ (by first | (simp; done) | (simp; omega))) | rfl))) (by show wB.heap.size ≠ w.heap.size; omega))) | ((with_reducible show wpList _ _ _ _ _ _); refine wpList_loadG (by rfl) 28 (.tmp 9) rfl (wB.heap.size) rfl 28 (cpuC E) (show Blk _ (wB.heap.size) (cpuC E) 28 from (by repeat' (first | (with_reducible first | exact Hid.out (by assumption) | exact Blk.new _ _ _ | (refine Blk.new_at _ _ _ _ ?_; simp; done) | refine Blk.alloc ?_ _ | refine Blk.drewN ?_ _ | refine Blk.drew ?_ | apply Blk.set | refine Blk.put ?_ (by assumption) (by first | (simp; done) | (simp; omega) | omega) | refine Blk.below ?_ (by assumption)) | (refine Blk.setAt ?_ (by first | (simp; done) | (simp; omega))) | rfl))) _ Try.underlying28 rfl (by kernel_rfl) ?_) | ((with_reducible show wpList _ _ _ _ _ _); refine wpList_loadG (by rfl) 28 (.tmp 2) rfl (w.heap.size) rfl 28 (cpuC E) (show Blk _ (w.heap.size) (cpuC E) 28 from (by repeat' (first | (with_reducible first | exact Hid.out (by assumption) | exact Blk.new _ _ _ | (refine Blk.new_at _ _ _ _ ?_; simp; done) | refine Blk.alloc ?_ _ | refine Blk.drewN ?_ _ | refine Blk.drew ?_ | apply Blk.set | refine Blk.put ?_ (by assumption) (by first | (simp; done) | (simp; omega) | omega) | refine Blk.below ?_ (by assumption)) | (refine Blk.setAt ?_ (by first | (simp; done) | (simp; omega))) | rfl))) _ Try.underlying28 rfl (by kernel_rfl) ?_))
  go_ret
  exact ⟨rfl, Below.setCell (BB.trans (BBD.mono (by omega))) (by show w.heap.size ≤ w.heap.size; omega) _⟩
theorem all (c : Cp) (hi : c.In) (v1 v2 : Value) (m : Spc) (w : World) (h1 : SliceAt w .u8 v1 m.rom) (h2 : SliceAt w .u8 v2 m.ram) :
    Calls Try.prog 4 #[.agg (cpuC c), .agg #[v1, v2]] w fun e w' => e = .returned (.bool true) ∧ Below w.heap.size w w' := by
  by_cases hl : 1024 < m.rom.length ∨ 256 < m.ram.length
  · exact e_size c hi v1 v2 m w h1 h2 hl
  have l1 : m.rom.length ≤ 1024 := by omega
  have l2 : m.ram.length ≤ 256 := by omega
  by_cases hq : m.ram.length < 8
  · exact e_ram c hi v1 v2 m w h1 h2 l1 l2 hq
  have q : 8 ≤ m.ram.length := by omega
  by_cases hr : m.ram.length % 2 = 0
  case neg => exact e_odd c hi v1 v2 m w h1 h2 l1 l2 q (by omega)
  by_cases ho : m.rom.length < 12
  · exact e_rom c hi v1 v2 m w h1 h2 l1 l2 q hr ho
  have o : 12 ≤ m.rom.length := by omega
  by_cases hp : c.r 7 % 2 = 0
  case neg => exact e_r7 c hi v1 v2 m w h1 h2 l1 l2 q hr o (by omega)
  by_cases h5 : c.r 7 < 32772
  · exact e_lo c hi v1 v2 m w h1 h2 l1 l2 q hr o hp h5
  by_cases h6 : 49152 < c.r 7
  · exact e_hi c hi v1 v2 m w h1 h2 l1 l2 q hr o hp (by omega) h6
  exact good c hi v1 v2 m w h1 h2 l1 l2 q hr o hp (by omega) (by omega)
theorem walk (r0 r1 r2 r3 r4 r5 r6 r7 pc : Int) (z n c v may wt : Bool) (v1 : Value) (xs1 : List Int) (v2 : Value) (xs2 : List Int) (w : World)
    (h0 : U16 r0) (h1 : U16 r1) (h2 : U16 r2) (h3 : U16 r3) (h4 : U16 r4) (h5 : U16 r5) (h6 : U16 r6) (h7 : U16 r7) (hp : U16 pc) (k1 : SliceAt w .u8 v1 xs1) (k2 : SliceAt w .u8 v2 xs2) :
    Calls Try.prog 4 #[.agg #[.int .u16 r0, .int .u16 r1, .int .u16 r2, .int .u16 r3, .int .u16 r4, .int .u16 r5, .int .u16 r6, .int .u16 r7, .int .u16 pc, .bool z, .bool n, .bool c, .bool v, .bool may, .bool wt], .agg #[v1, v2]] w fun e w' => e = .returned (.bool true) ∧ Below w.heap.size w w' :=
  all (mkC r0 r1 r2 r3 r4 r5 r6 r7 pc z n c v may wt) (mkC_in _ _ _ _ _ _ h0 h1 h2 h3 h4 h5 h6 h7 hp) v1 v2 ⟨xs1, xs2⟩ w k1 k2
end Go.Proofs.Yteihggfcafoogaa.cpuReturns
