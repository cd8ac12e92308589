/- CpuQuiet: for every processor, space and ring the law answers true. Conditions: none. -/
import Derived.Test.YteihggfcafoogaaCpuStd
import Derived.Test.YteihggfcafoogaaCpuStB
import Derived.Test.YteihggfcafoogaaCpuKeep
import Derived.Test.YteihggfcafoogaaCpuEq
import Derived.Test.YteihggfcafoogaaCpuSame
set_option linter.unusedVariables false
set_option linter.unusedSimpArgs false
namespace Go.Proofs.Yteihggfcafoogaa.cpuQuiet
open Go.RowKit Go.Mq
set_option maxHeartbeats 2000000
set_option maxRecDepth 100000
theorem rung (m : Spc) (c : Cp) (rings : Bool) (h : (rings && c.may) = true) : dN busS m c rings = 6 ∧ (dC busS m c rings).may = false ∧ (dC busS m c rings).wt = false := by
  unfold dN dC
  rw [if_pos h, if_pos h]
  exact ⟨rfl, rfl, rfl⟩
theorem waits (m : Spc) (c : Cp) (rings : Bool) (h : (rings && c.may) = false) (hw : c.wt = true) : dN busS m c rings = 1 ∧ dC busS m c rings = c ∧ dM busS m c rings = m := by
  unfold dN dC dM
  rw [h, hw]
  exact ⟨rfl, rfl, rfl⟩
theorem join16 (x y : Int) (hx : U8 x) (hy : U8 y) : bits .or .u16 (x * 256) y = x * 256 + y := by
  unfold U8 at hx hy
  rw [show x * 256 = ((x.toNat * 256 : Nat) : Int) from by omega, show y = ((y.toNat : Nat) : Int) from by omega, u16_or_nat _ _ (by omega) (by omega), nat_join 8 _ _ (by omega) (by omega)]
  omega
/-- the word that the processor reads, where it lies in the program -/
theorem word_rom (m : Spc) (a : Int) (h0 : 0 ≤ a) (h1 : a + 1 < m.rom.length) (h2 : a < 32767) (hb : Bytes8 m.rom) : wV busS m a = m.rom.getD a.toNat 0 * 256 + m.rom.getD (a + 1).toNat 0 := by
  have e : nx a = a + 1 := by unfold nx; omega
  have b1 := getD_byte hb a.toNat
  have b2 := getD_byte hb (a + 1).toNat
  unfold U8 at b1 b2
  unfold wV busS spG
  simp only [e]
  rw [if_pos ⟨by omega, by omega⟩, if_pos ⟨by omega, by omega⟩]
  omega
theorem q_rung (c : Cp) (hi : c.In) (v1 v2 : Value) (m : Spc) (rings : Bool) (w : World) (h1 : SliceAt w .u8 v1 m.rom) (h2 : SliceAt w .u8 v2 m.ram) (hl1 : m.rom.length ≤ 1024) (hl2 : m.ram.length ≤ 256) (hr : (rings && c.may) = true) :
    Calls Try.prog 5 #[.agg (cpuC c), .agg #[v1, v2], .bool rings] w fun e w' => e = .returned (.bool true) ∧ Below w.heap.size w w' := by
  obtain ⟨f1, f2, f3⟩ := rung m c rings hr
  simp only [Bool.and_eq_true] at hr
  obtain ⟨hr1, hr2⟩ := hr
  subst hr1
  have HR := Lib.hid hr2
  have F := Lib.hid (And.intro f1 (And.intro f2 f3))
  clear hr2 f1 f2 f3
  have hsame := same_dM m c true
  have hpos := dN_pos busS m c true (tells_busS.w m c.pc)
  have hrom : (dM busS m c true).rom = m.rom := hsame.1
  have hram : ((dM busS m c true).ram.length : Int) = m.ram.length := by rw [hsame.2]
  have p1 := hpos.1
  clear hsame hpos
  have H1 := Lib.hid h1
  have H2 := Lib.hid h2
  have o1 := slice_one h1
  have o2 := slice_one h2
  have ONV : (#[v1, v2] : Array Value).all Value.oneCell' = true := by simp [o1, o2]
  have ST := Lib.hid (fun W (k : Below w.heap.size w W) => step_any c hi v1 v2 m true W (H1.out.below k) (H2.out.below k) hl1 hl2)
  rw [hrom] at ST
  clear hrom
  generalize dN busS m c true = dn at *
  generalize dC busS m c true = D at *
  obtain ⟨X, hX⟩ : ∃ X, X = (dM busS m c true).ram := ⟨_, rfl⟩
  rw [← hX] at hram ST
  try rw [← hX] at f4
  try rw [← hX] at QM
  clear hX

  obtain ⟨a2, k2, rfl, -⟩ := h2
  obtain ⟨a1, k1, rfl, -⟩ := h1
  go_enter Try.func5, Try.ntmps5
  go_wp2_with (first | ((with_reducible show wpList _ _ _ _ _ _); refine wpList_loadW rfl 28 (.tmp 3) rfl (w.heap.size) rfl 28 (cpuC c) (show Blk _ (w.heap.size) (cpuC c) 28 from (by repeat' (first | (with_reducible first | exact Hid.out (by assumption) | exact Blk.new _ _ _ | (refine Blk.new_at _ _ _ _ ?_; simp; done) | refine Blk.alloc ?_ _ | refine Blk.drewN ?_ _ | refine Blk.drew ?_ | apply Blk.set | refine Blk.put ?_ (by assumption) (by first | (simp; done) | (simp; omega) | omega) | refine Blk.below ?_ (by assumption)) | (refine Blk.setAt ?_ (by first | (simp; done) | (simp; omega))) | rfl))) _ Try.underlying28 rfl (by kernel_rfl) ?_) | ((with_reducible show wpList _ _ _ _ _ _); refine wpList_loadW rfl 24 (.tmp 4) rfl (w.heap.size + 1) rfl 24 #[.slice a1 m.rom.length k1, .slice a2 m.ram.length k2] (show Blk _ (w.heap.size + 1) #[.slice a1 m.rom.length k1, .slice a2 m.ram.length k2] 24 from (by repeat' (first | (with_reducible first | exact Hid.out (by assumption) | exact Blk.new _ _ _ | (refine Blk.new_at _ _ _ _ ?_; simp; done) | refine Blk.alloc ?_ _ | refine Blk.drewN ?_ _ | refine Blk.drew ?_ | apply Blk.set | refine Blk.put ?_ (by assumption) (by first | (simp; done) | (simp; omega) | omega) | refine Blk.below ?_ (by assumption)) | (refine Blk.setAt ?_ (by first | (simp; done) | (simp; omega))) | rfl))) _ Try.underlying24 rfl (by kernel_rfl) ?_))
  refine (ST.out _ (by repeat' (first | (with_reducible first | exact Below.refl _ _ | assumption | refine below_alloc ?_ _ | refine Below.drew ?_ | refine below_drewN ?_ _ | refine below_then ?_ (by assumption) | refine below_put ?_ (by assumption) (by first | (simp; done) | (simp; omega) | omega) | refine Below.setCell ?_ ?_ _) | (simp; done) | (simp; omega) | omega))).mono ?_
  rintro e w1 ⟨u1, u2, rfl, q1, q2, hb1⟩
  have hs1 : w.heap.size + 2 ≤ w1.heap.size := by have := hb1.size; simpa using this
  have K1 := Lib.hid (show Blk w1 w.heap.size (cpuC c) 28 from (by repeat' (first | (with_reducible first | exact Hid.out (by assumption) | exact Blk.new _ _ _ | (refine Blk.new_at _ _ _ _ ?_; simp; done) | refine Blk.alloc ?_ _ | refine Blk.drewN ?_ _ | refine Blk.drew ?_ | apply Blk.set | refine Blk.put ?_ (by assumption) (by first | (simp; done) | (simp; omega) | omega) | refine Blk.below ?_ (by assumption)) | (refine Blk.setAt ?_ (by first | (simp; done) | (simp; omega))) | rfl)))
  have K2 := Lib.hid (show Blk w1 (w.heap.size + 1) #[.slice a1 m.rom.length k1, .slice a2 m.ram.length k2] 24 from (by repeat' (first | (with_reducible first | exact Hid.out (by assumption) | exact Blk.new _ _ _ | (refine Blk.new_at _ _ _ _ ?_; simp; done) | refine Blk.alloc ?_ _ | refine Blk.drewN ?_ _ | refine Blk.drew ?_ | apply Blk.set | refine Blk.put ?_ (by assumption) (by first | (simp; done) | (simp; omega) | omega) | refine Blk.below ?_ (by assumption)) | (refine Blk.setAt ?_ (by first | (simp; done) | (simp; omega))) | rfl)))
  have B1 : Below w.heap.size w w1 := by repeat' (first | (with_reducible first | exact Below.refl _ _ | assumption | refine below_alloc ?_ _ | refine Below.drew ?_ | refine below_drewN ?_ _ | refine below_then ?_ (by assumption) | refine below_put ?_ (by assumption) (by first | (simp; done) | (simp; omega) | omega) | refine Below.setCell ?_ ?_ _) | (simp; done) | (simp; omega) | omega)
  have or1 := slice_one q1
  have or2 := slice_one q2
  have ONR : (#[u1, u2] : Array Value).all Value.oneCell' = true := by simp [or1, or2]
  have ONE := cpuC_one D
  have Q1 := Lib.hid q1
  have Q2 := Lib.hid q2
  obtain ⟨a4, k4, rfl, -⟩ := q2
  clear hb1 ST q1 or1 or2 o1 o2 ONV
  go_wp2_with (first | ((with_reducible show wpList _ _ _ _ _ _); refine wpList_storeW rfl 28 (.tmp 7) (.tmp 18) rfl (w1.heap.size) (cpuC D) rfl rfl 28 _ (show Blk _ (w1.heap.size) #[.int .u16 0, .int .u16 0, .int .u16 0, .int .u16 0, .int .u16 0, .int .u16 0, .int .u16 0, .int .u16 0, .int .u16 0, .bool false, .bool false, .bool false, .bool false, .bool false, .bool false] 28 from (by repeat' (first | (with_reducible first | exact Hid.out (by assumption) | exact Blk.new _ _ _ | (refine Blk.new_at _ _ _ _ ?_; simp; done) | refine Blk.alloc ?_ _ | refine Blk.drewN ?_ _ | refine Blk.drew ?_ | apply Blk.set | refine Blk.put ?_ (by assumption) (by first | (simp; done) | (simp; omega) | omega) | refine Blk.below ?_ (by assumption)) | (refine Blk.setAt ?_ (by first | (simp; done) | (simp; omega))) | rfl))) (by kernel_rfl) rfl (by first | (with_reducible assumption) | simp [Value.oneCell']) ?_; intro w2 hp_w2 K_w2) | ((with_reducible show wpList _ _ _ _ _ _); refine wpList_storeW rfl 24 (.tmp 8) (.tmp 19) rfl (w1.heap.size + 1) #[u1, .slice a4 X.length k4] rfl rfl 24 _ (show Blk _ (w1.heap.size + 1) #[.slice none 0 0, .slice none 0 0] 24 from (by repeat' (first | (with_reducible first | exact Hid.out (by assumption) | exact Blk.new _ _ _ | (refine Blk.new_at _ _ _ _ ?_; simp; done) | refine Blk.alloc ?_ _ | refine Blk.drewN ?_ _ | refine Blk.drew ?_ | apply Blk.set | refine Blk.put ?_ (by assumption) (by first | (simp; done) | (simp; omega) | omega) | refine Blk.below ?_ (by assumption)) | (refine Blk.setAt ?_ (by first | (simp; done) | (simp; omega))) | rfl))) (by kernel_rfl) rfl (by first | (with_reducible assumption) | simp [Value.oneCell']) ?_; intro w3 hp_w3 K_w3))
  have hsz3 : w3.heap.size = w1.heap.size + 2 := by have a := hp_w2.size; have b := hp_w3.size; simp at a b; omega
  have B13 : Below w1.heap.size w1 w3 := by repeat' (first | (with_reducible first | exact Below.refl _ _ | assumption | refine below_alloc ?_ _ | refine Below.drew ?_ | refine below_drewN ?_ _ | refine below_then ?_ (by assumption) | refine below_put ?_ (by assumption) (by first | (simp; done) | (simp; omega) | omega) | refine Below.setCell ?_ ?_ _) | (simp; done) | (simp; omega) | omega)
  have M1 := Lib.hid (K1.out.below B13)
  have M2 := Lib.hid (K2.out.below B13)
  have M3 := Lib.hid (show Blk w3 w1.heap.size (cpuC D) 28 from (by repeat' (first | (with_reducible first | exact Hid.out (by assumption) | exact Blk.new _ _ _ | (refine Blk.new_at _ _ _ _ ?_; simp; done) | refine Blk.alloc ?_ _ | refine Blk.drewN ?_ _ | refine Blk.drew ?_ | apply Blk.set | refine Blk.put ?_ (by assumption) (by first | (simp; done) | (simp; omega) | omega) | refine Blk.below ?_ (by assumption)) | (refine Blk.setAt ?_ (by first | (simp; done) | (simp; omega))) | rfl)))
  have M4 := Lib.hid (show Blk w3 (w1.heap.size + 1) #[u1, .slice a4 X.length k4] 24 from (by repeat' (first | (with_reducible first | exact Hid.out (by assumption) | exact Blk.new _ _ _ | (refine Blk.new_at _ _ _ _ ?_; simp; done) | refine Blk.alloc ?_ _ | refine Blk.drewN ?_ _ | refine Blk.drew ?_ | apply Blk.set | refine Blk.put ?_ (by assumption) (by first | (simp; done) | (simp; omega) | omega) | refine Blk.below ?_ (by assumption)) | (refine Blk.setAt ?_ (by first | (simp; done) | (simp; omega))) | rfl)))
  have P1 := Lib.hid (Q1.out.below B13)
  have P2 := Lib.hid (Q2.out.below B13)
  have B3 : Below w.heap.size w w3 := B1.trans (B13.mono (by omega))
  clear K1 K2 K_w2 K_w3 Q1 B1 hp_w2 hp_w3 ONR ONE
  refine (stepped_any w3).mono ?_
  rintro e w4 ⟨rfl, hb4⟩
  have L1 := Lib.hid (M1.out.below hb4)
  have L2 := Lib.hid (M2.out.below hb4)
  have L3 := Lib.hid (M3.out.below hb4)
  have L4 := Lib.hid (M4.out.below hb4)
  have R1 := Lib.hid (P1.out.below hb4)
  have R2 := Lib.hid (P2.out.below hb4)
  have B4 : Below w.heap.size w w4 := B3.trans (hb4.mono (by omega))
  have hs4 : w1.heap.size + 2 ≤ w4.heap.size := by have := hb4.size; omega
  have lk1 : w.heap.size < w4.heap.size := by omega
  have lk2 : w.heap.size + 1 < w4.heap.size := by omega
  have lk3 : w1.heap.size < w4.heap.size := by omega
  have lk4 : w1.heap.size + 1 < w4.heap.size := by omega
  have e41 : w4.cell? ⟨w1.heap.size + 1, 0, none⟩ = some u1 := L4.out.cell 0
  have e42 : w4.cell? ⟨w1.heap.size + 1, 1, none⟩ = some (.slice a4 X.length k4) := L4.out.cell 1
  have e21 : w4.cell? ⟨w.heap.size + 1, 0, none⟩ = some (.slice a1 m.rom.length k1) := L2.out.cell 0
  have e22 : w4.cell? ⟨w.heap.size + 1, 1, none⟩ = some (.slice a2 m.ram.length k2) := L2.out.cell 1
  have e1m : w4.cell? ⟨w.heap.size, 13, none⟩ = some (.bool c.may) := L1.out.cell 13
  have e1w : w4.cell? ⟨w.heap.size, 14, none⟩ = some (.bool c.wt) := L1.out.cell 14
  have e1p : w4.cell? ⟨w.heap.size, 8, none⟩ = some (.int .u16 c.pc) := L1.out.cell 8
  have e3m : w4.cell? ⟨w1.heap.size, 13, none⟩ = some (.bool D.may) := L3.out.cell 13
  have e3w : w4.cell? ⟨w1.heap.size, 14, none⟩ = some (.bool D.wt) := L3.out.cell 14
  have E1 := Lib.hid (bytesEqual_any u1 (.slice a1 m.rom.length k1) m.rom m.rom w4 R1.out (H1.out.below B4))
  rw [show decide (m.rom = m.rom) = true by simp] at E1
  have B14 : Below w1.heap.size w1 w4 := B13.trans (hb4.mono (by omega))
  clear M1 M2 M3 M4 P1 P2 B3 hb4 B13
  go_wp2_with fail
  refine E1.out.mono ?_
  rintro e w5 ⟨rfl, rfl⟩
  obtain ⟨f1, f2, f3⟩ := F.out
  subst f1
  rw [HR.out] at e1m
  rw [f2] at e3m
  rw [f3] at e3w
  go_wp2
  go_ret
  exact ⟨rfl, B4⟩
theorem q_waits (c : Cp) (hi : c.In) (v1 v2 : Value) (m : Spc) (rings : Bool) (w : World) (h1 : SliceAt w .u8 v1 m.rom) (h2 : SliceAt w .u8 v2 m.ram) (hl1 : m.rom.length ≤ 1024) (hl2 : m.ram.length ≤ 256) (hr : (rings && c.may) = false) (hw : c.wt = true) :
    Calls Try.prog 5 #[.agg (cpuC c), .agg #[v1, v2], .bool rings] w fun e w' => e = .returned (.bool true) ∧ Below w.heap.size w w' := by
  obtain ⟨f1, f2, f3⟩ := waits m c rings hr hw
  have f4 := congrArg Spc.ram f3
  have HR := Lib.hid hr
  have HW := Lib.hid hw
  clear f3 hr hw
  have hsame := same_dM m c rings
  have hpos := dN_pos busS m c rings (tells_busS.w m c.pc)
  have hrom : (dM busS m c rings).rom = m.rom := hsame.1
  have hram : ((dM busS m c rings).ram.length : Int) = m.ram.length := by rw [hsame.2]
  have p1 := hpos.1
  clear hsame hpos
  have H1 := Lib.hid h1
  have H2 := Lib.hid h2
  have o1 := slice_one h1
  have o2 := slice_one h2
  have ONV : (#[v1, v2] : Array Value).all Value.oneCell' = true := by simp [o1, o2]
  have ST := Lib.hid (fun W (k : Below w.heap.size w W) => step_any c hi v1 v2 m rings W (H1.out.below k) (H2.out.below k) hl1 hl2)
  rw [hrom] at ST
  clear hrom
  generalize dN busS m c rings = dn at *
  generalize dC busS m c rings = D at *
  obtain ⟨X, hX⟩ : ∃ X, X = (dM busS m c rings).ram := ⟨_, rfl⟩
  rw [← hX] at hram ST
  try rw [← hX] at f4
  try rw [← hX] at QM
  clear hX
  have xm := Lib.hid f4
  have F := Lib.hid (And.intro f1 f2)
  clear f1 f2 f4
  obtain ⟨a2, k2, rfl, -⟩ := h2
  obtain ⟨a1, k1, rfl, -⟩ := h1
  go_enter Try.func5, Try.ntmps5
  go_wp2_with (first | ((with_reducible show wpList _ _ _ _ _ _); refine wpList_loadW rfl 28 (.tmp 3) rfl (w.heap.size) rfl 28 (cpuC c) (show Blk _ (w.heap.size) (cpuC c) 28 from (by repeat' (first | (with_reducible first | exact Hid.out (by assumption) | exact Blk.new _ _ _ | (refine Blk.new_at _ _ _ _ ?_; simp; done) | refine Blk.alloc ?_ _ | refine Blk.drewN ?_ _ | refine Blk.drew ?_ | apply Blk.set | refine Blk.put ?_ (by assumption) (by first | (simp; done) | (simp; omega) | omega) | refine Blk.below ?_ (by assumption)) | (refine Blk.setAt ?_ (by first | (simp; done) | (simp; omega))) | rfl))) _ Try.underlying28 rfl (by kernel_rfl) ?_) | ((with_reducible show wpList _ _ _ _ _ _); refine wpList_loadW rfl 24 (.tmp 4) rfl (w.heap.size + 1) rfl 24 #[.slice a1 m.rom.length k1, .slice a2 m.ram.length k2] (show Blk _ (w.heap.size + 1) #[.slice a1 m.rom.length k1, .slice a2 m.ram.length k2] 24 from (by repeat' (first | (with_reducible first | exact Hid.out (by assumption) | exact Blk.new _ _ _ | (refine Blk.new_at _ _ _ _ ?_; simp; done) | refine Blk.alloc ?_ _ | refine Blk.drewN ?_ _ | refine Blk.drew ?_ | apply Blk.set | refine Blk.put ?_ (by assumption) (by first | (simp; done) | (simp; omega) | omega) | refine Blk.below ?_ (by assumption)) | (refine Blk.setAt ?_ (by first | (simp; done) | (simp; omega))) | rfl))) _ Try.underlying24 rfl (by kernel_rfl) ?_))
  refine (ST.out _ (by repeat' (first | (with_reducible first | exact Below.refl _ _ | assumption | refine below_alloc ?_ _ | refine Below.drew ?_ | refine below_drewN ?_ _ | refine below_then ?_ (by assumption) | refine below_put ?_ (by assumption) (by first | (simp; done) | (simp; omega) | omega) | refine Below.setCell ?_ ?_ _) | (simp; done) | (simp; omega) | omega))).mono ?_
  rintro e w1 ⟨u1, u2, rfl, q1, q2, hb1⟩
  have hs1 : w.heap.size + 2 ≤ w1.heap.size := by have := hb1.size; simpa using this
  have K1 := Lib.hid (show Blk w1 w.heap.size (cpuC c) 28 from (by repeat' (first | (with_reducible first | exact Hid.out (by assumption) | exact Blk.new _ _ _ | (refine Blk.new_at _ _ _ _ ?_; simp; done) | refine Blk.alloc ?_ _ | refine Blk.drewN ?_ _ | refine Blk.drew ?_ | apply Blk.set | refine Blk.put ?_ (by assumption) (by first | (simp; done) | (simp; omega) | omega) | refine Blk.below ?_ (by assumption)) | (refine Blk.setAt ?_ (by first | (simp; done) | (simp; omega))) | rfl)))
  have K2 := Lib.hid (show Blk w1 (w.heap.size + 1) #[.slice a1 m.rom.length k1, .slice a2 m.ram.length k2] 24 from (by repeat' (first | (with_reducible first | exact Hid.out (by assumption) | exact Blk.new _ _ _ | (refine Blk.new_at _ _ _ _ ?_; simp; done) | refine Blk.alloc ?_ _ | refine Blk.drewN ?_ _ | refine Blk.drew ?_ | apply Blk.set | refine Blk.put ?_ (by assumption) (by first | (simp; done) | (simp; omega) | omega) | refine Blk.below ?_ (by assumption)) | (refine Blk.setAt ?_ (by first | (simp; done) | (simp; omega))) | rfl)))
  have B1 : Below w.heap.size w w1 := by repeat' (first | (with_reducible first | exact Below.refl _ _ | assumption | refine below_alloc ?_ _ | refine Below.drew ?_ | refine below_drewN ?_ _ | refine below_then ?_ (by assumption) | refine below_put ?_ (by assumption) (by first | (simp; done) | (simp; omega) | omega) | refine Below.setCell ?_ ?_ _) | (simp; done) | (simp; omega) | omega)
  have or1 := slice_one q1
  have or2 := slice_one q2
  have ONR : (#[u1, u2] : Array Value).all Value.oneCell' = true := by simp [or1, or2]
  have ONE := cpuC_one D
  have Q1 := Lib.hid q1
  have Q2 := Lib.hid q2
  obtain ⟨a4, k4, rfl, -⟩ := q2
  clear hb1 ST q1 or1 or2 o1 o2 ONV
  go_wp2_with (first | ((with_reducible show wpList _ _ _ _ _ _); refine wpList_storeW rfl 28 (.tmp 7) (.tmp 18) rfl (w1.heap.size) (cpuC D) rfl rfl 28 _ (show Blk _ (w1.heap.size) #[.int .u16 0, .int .u16 0, .int .u16 0, .int .u16 0, .int .u16 0, .int .u16 0, .int .u16 0, .int .u16 0, .int .u16 0, .bool false, .bool false, .bool false, .bool false, .bool false, .bool false] 28 from (by repeat' (first | (with_reducible first | exact Hid.out (by assumption) | exact Blk.new _ _ _ | (refine Blk.new_at _ _ _ _ ?_; simp; done) | refine Blk.alloc ?_ _ | refine Blk.drewN ?_ _ | refine Blk.drew ?_ | apply Blk.set | refine Blk.put ?_ (by assumption) (by first | (simp; done) | (simp; omega) | omega) | refine Blk.below ?_ (by assumption)) | (refine Blk.setAt ?_ (by first | (simp; done) | (simp; omega))) | rfl))) (by kernel_rfl) rfl (by first | (with_reducible assumption) | simp [Value.oneCell']) ?_; intro w2 hp_w2 K_w2) | ((with_reducible show wpList _ _ _ _ _ _); refine wpList_storeW rfl 24 (.tmp 8) (.tmp 19) rfl (w1.heap.size + 1) #[u1, .slice a4 X.length k4] rfl rfl 24 _ (show Blk _ (w1.heap.size + 1) #[.slice none 0 0, .slice none 0 0] 24 from (by repeat' (first | (with_reducible first | exact Hid.out (by assumption) | exact Blk.new _ _ _ | (refine Blk.new_at _ _ _ _ ?_; simp; done) | refine Blk.alloc ?_ _ | refine Blk.drewN ?_ _ | refine Blk.drew ?_ | apply Blk.set | refine Blk.put ?_ (by assumption) (by first | (simp; done) | (simp; omega) | omega) | refine Blk.below ?_ (by assumption)) | (refine Blk.setAt ?_ (by first | (simp; done) | (simp; omega))) | rfl))) (by kernel_rfl) rfl (by first | (with_reducible assumption) | simp [Value.oneCell']) ?_; intro w3 hp_w3 K_w3))
  have hsz3 : w3.heap.size = w1.heap.size + 2 := by have a := hp_w2.size; have b := hp_w3.size; simp at a b; omega
  have B13 : Below w1.heap.size w1 w3 := by repeat' (first | (with_reducible first | exact Below.refl _ _ | assumption | refine below_alloc ?_ _ | refine Below.drew ?_ | refine below_drewN ?_ _ | refine below_then ?_ (by assumption) | refine below_put ?_ (by assumption) (by first | (simp; done) | (simp; omega) | omega) | refine Below.setCell ?_ ?_ _) | (simp; done) | (simp; omega) | omega)
  have M1 := Lib.hid (K1.out.below B13)
  have M2 := Lib.hid (K2.out.below B13)
  have M3 := Lib.hid (show Blk w3 w1.heap.size (cpuC D) 28 from (by repeat' (first | (with_reducible first | exact Hid.out (by assumption) | exact Blk.new _ _ _ | (refine Blk.new_at _ _ _ _ ?_; simp; done) | refine Blk.alloc ?_ _ | refine Blk.drewN ?_ _ | refine Blk.drew ?_ | apply Blk.set | refine Blk.put ?_ (by assumption) (by first | (simp; done) | (simp; omega) | omega) | refine Blk.below ?_ (by assumption)) | (refine Blk.setAt ?_ (by first | (simp; done) | (simp; omega))) | rfl)))
  have M4 := Lib.hid (show Blk w3 (w1.heap.size + 1) #[u1, .slice a4 X.length k4] 24 from (by repeat' (first | (with_reducible first | exact Hid.out (by assumption) | exact Blk.new _ _ _ | (refine Blk.new_at _ _ _ _ ?_; simp; done) | refine Blk.alloc ?_ _ | refine Blk.drewN ?_ _ | refine Blk.drew ?_ | apply Blk.set | refine Blk.put ?_ (by assumption) (by first | (simp; done) | (simp; omega) | omega) | refine Blk.below ?_ (by assumption)) | (refine Blk.setAt ?_ (by first | (simp; done) | (simp; omega))) | rfl)))
  have P1 := Lib.hid (Q1.out.below B13)
  have P2 := Lib.hid (Q2.out.below B13)
  have B3 : Below w.heap.size w w3 := B1.trans (B13.mono (by omega))
  clear K1 K2 K_w2 K_w3 Q1 B1 hp_w2 hp_w3 ONR ONE
  refine (stepped_any w3).mono ?_
  rintro e w4 ⟨rfl, hb4⟩
  have L1 := Lib.hid (M1.out.below hb4)
  have L2 := Lib.hid (M2.out.below hb4)
  have L3 := Lib.hid (M3.out.below hb4)
  have L4 := Lib.hid (M4.out.below hb4)
  have R1 := Lib.hid (P1.out.below hb4)
  have R2 := Lib.hid (P2.out.below hb4)
  have B4 : Below w.heap.size w w4 := B3.trans (hb4.mono (by omega))
  have hs4 : w1.heap.size + 2 ≤ w4.heap.size := by have := hb4.size; omega
  have lk1 : w.heap.size < w4.heap.size := by omega
  have lk2 : w.heap.size + 1 < w4.heap.size := by omega
  have lk3 : w1.heap.size < w4.heap.size := by omega
  have lk4 : w1.heap.size + 1 < w4.heap.size := by omega
  have e41 : w4.cell? ⟨w1.heap.size + 1, 0, none⟩ = some u1 := L4.out.cell 0
  have e42 : w4.cell? ⟨w1.heap.size + 1, 1, none⟩ = some (.slice a4 X.length k4) := L4.out.cell 1
  have e21 : w4.cell? ⟨w.heap.size + 1, 0, none⟩ = some (.slice a1 m.rom.length k1) := L2.out.cell 0
  have e22 : w4.cell? ⟨w.heap.size + 1, 1, none⟩ = some (.slice a2 m.ram.length k2) := L2.out.cell 1
  have e1m : w4.cell? ⟨w.heap.size, 13, none⟩ = some (.bool c.may) := L1.out.cell 13
  have e1w : w4.cell? ⟨w.heap.size, 14, none⟩ = some (.bool c.wt) := L1.out.cell 14
  have e1p : w4.cell? ⟨w.heap.size, 8, none⟩ = some (.int .u16 c.pc) := L1.out.cell 8
  have e3m : w4.cell? ⟨w1.heap.size, 13, none⟩ = some (.bool D.may) := L3.out.cell 13
  have e3w : w4.cell? ⟨w1.heap.size, 14, none⟩ = some (.bool D.wt) := L3.out.cell 14
  have E1 := Lib.hid (bytesEqual_any u1 (.slice a1 m.rom.length k1) m.rom m.rom w4 R1.out (H1.out.below B4))
  rw [show decide (m.rom = m.rom) = true by simp] at E1
  have B14 : Below w1.heap.size w1 w4 := B13.trans (hb4.mono (by omega))
  clear M1 M2 M3 M4 P1 P2 B3 hb4 B13
  go_wp2_with fail
  refine E1.out.mono ?_
  rintro e w5 ⟨rfl, rfl⟩
  have E2 := Lib.hid (bytesEqual_any (.slice a4 X.length k4) (.slice a2 m.ram.length k2) X m.ram w4 R2.out (H2.out.below B4))
  rw [show decide (X = m.ram) = true by simpa using xm.out] at E2
  obtain ⟨f1, f2⟩ := F.out
  subst f1 f2
  rw [HW.out] at e1w
  have CS := cpu_self D
  by_cases hrg : rings = true
  · subst hrg
    have hm : D.may = false := by simpa using HR.out
    rw [hm] at e1m
    go_wp2_with (first | ((with_reducible show wpList _ _ _ _ _ _); refine wpList_loadW rfl 28 (.tmp 7) rfl (w1.heap.size) rfl 28 (cpuC D) (show Blk _ (w1.heap.size) (cpuC D) 28 from (by repeat' (first | (with_reducible first | exact Hid.out (by assumption) | exact Blk.new _ _ _ | (refine Blk.new_at _ _ _ _ ?_; simp; done) | refine Blk.alloc ?_ _ | refine Blk.drewN ?_ _ | refine Blk.drew ?_ | apply Blk.set | refine Blk.put ?_ (by assumption) (by first | (simp; done) | (simp; omega) | omega) | refine Blk.below ?_ (by assumption)) | (refine Blk.setAt ?_ (by first | (simp; done) | (simp; omega))) | rfl))) _ Try.underlying28 rfl (by kernel_rfl) ?_) | ((with_reducible show wpList _ _ _ _ _ _); refine wpList_loadW rfl 28 (.tmp 3) rfl (w.heap.size) rfl 28 (cpuC D) (show Blk _ (w.heap.size) (cpuC D) 28 from (by repeat' (first | (with_reducible first | exact Hid.out (by assumption) | exact Blk.new _ _ _ | (refine Blk.new_at _ _ _ _ ?_; simp; done) | refine Blk.alloc ?_ _ | refine Blk.drewN ?_ _ | refine Blk.drew ?_ | apply Blk.set | refine Blk.put ?_ (by assumption) (by first | (simp; done) | (simp; omega) | omega) | refine Blk.below ?_ (by assumption)) | (refine Blk.setAt ?_ (by first | (simp; done) | (simp; omega))) | rfl))) _ Try.underlying28 rfl (by kernel_rfl) ?_))
    refine E2.out.mono ?_
    rintro e w5 ⟨rfl, rfl⟩
    go_wp2_with (first | ((with_reducible show wpList _ _ _ _ _ _); refine wpList_loadW rfl 28 (.tmp 7) rfl (w1.heap.size) rfl 28 (cpuC D) (show Blk _ (w1.heap.size) (cpuC D) 28 from (by repeat' (first | (with_reducible first | exact Hid.out (by assumption) | exact Blk.new _ _ _ | (refine Blk.new_at _ _ _ _ ?_; simp; done) | refine Blk.alloc ?_ _ | refine Blk.drewN ?_ _ | refine Blk.drew ?_ | apply Blk.set | refine Blk.put ?_ (by assumption) (by first | (simp; done) | (simp; omega) | omega) | refine Blk.below ?_ (by assumption)) | (refine Blk.setAt ?_ (by first | (simp; done) | (simp; omega))) | rfl))) _ Try.underlying28 rfl (by kernel_rfl) ?_) | ((with_reducible show wpList _ _ _ _ _ _); refine wpList_loadW rfl 28 (.tmp 3) rfl (w.heap.size) rfl 28 (cpuC D) (show Blk _ (w.heap.size) (cpuC D) 28 from (by repeat' (first | (with_reducible first | exact Hid.out (by assumption) | exact Blk.new _ _ _ | (refine Blk.new_at _ _ _ _ ?_; simp; done) | refine Blk.alloc ?_ _ | refine Blk.drewN ?_ _ | refine Blk.drew ?_ | apply Blk.set | refine Blk.put ?_ (by assumption) (by first | (simp; done) | (simp; omega) | omega) | refine Blk.below ?_ (by assumption)) | (refine Blk.setAt ?_ (by first | (simp; done) | (simp; omega))) | rfl))) _ Try.underlying28 rfl (by kernel_rfl) ?_) | go_in)
    go_ret
    exact ⟨rfl, B4⟩
  · have hrg' : rings = false := by simpa using hrg
    subst hrg'
    go_wp2_with (first | ((with_reducible show wpList _ _ _ _ _ _); refine wpList_loadW rfl 28 (.tmp 7) rfl (w1.heap.size) rfl 28 (cpuC D) (show Blk _ (w1.heap.size) (cpuC D) 28 from (by repeat' (first | (with_reducible first | exact Hid.out (by assumption) | exact Blk.new _ _ _ | (refine Blk.new_at _ _ _ _ ?_; simp; done) | refine Blk.alloc ?_ _ | refine Blk.drewN ?_ _ | refine Blk.drew ?_ | apply Blk.set | refine Blk.put ?_ (by assumption) (by first | (simp; done) | (simp; omega) | omega) | refine Blk.below ?_ (by assumption)) | (refine Blk.setAt ?_ (by first | (simp; done) | (simp; omega))) | rfl))) _ Try.underlying28 rfl (by kernel_rfl) ?_) | ((with_reducible show wpList _ _ _ _ _ _); refine wpList_loadW rfl 28 (.tmp 3) rfl (w.heap.size) rfl 28 (cpuC D) (show Blk _ (w.heap.size) (cpuC D) 28 from (by repeat' (first | (with_reducible first | exact Hid.out (by assumption) | exact Blk.new _ _ _ | (refine Blk.new_at _ _ _ _ ?_; simp; done) | refine Blk.alloc ?_ _ | refine Blk.drewN ?_ _ | refine Blk.drew ?_ | apply Blk.set | refine Blk.put ?_ (by assumption) (by first | (simp; done) | (simp; omega) | omega) | refine Blk.below ?_ (by assumption)) | (refine Blk.setAt ?_ (by first | (simp; done) | (simp; omega))) | rfl))) _ Try.underlying28 rfl (by kernel_rfl) ?_))
    refine E2.out.mono ?_
    rintro e w5 ⟨rfl, rfl⟩
    go_wp2_with (first | ((with_reducible show wpList _ _ _ _ _ _); refine wpList_loadW rfl 28 (.tmp 7) rfl (w1.heap.size) rfl 28 (cpuC D) (show Blk _ (w1.heap.size) (cpuC D) 28 from (by repeat' (first | (with_reducible first | exact Hid.out (by assumption) | exact Blk.new _ _ _ | (refine Blk.new_at _ _ _ _ ?_; simp; done) | refine Blk.alloc ?_ _ | refine Blk.drewN ?_ _ | refine Blk.drew ?_ | apply Blk.set | refine Blk.put ?_ (by assumption) (by first | (simp; done) | (simp; omega) | omega) | refine Blk.below ?_ (by assumption)) | (refine Blk.setAt ?_ (by first | (simp; done) | (simp; omega))) | rfl))) _ Try.underlying28 rfl (by kernel_rfl) ?_) | ((with_reducible show wpList _ _ _ _ _ _); refine wpList_loadW rfl 28 (.tmp 3) rfl (w.heap.size) rfl 28 (cpuC D) (show Blk _ (w.heap.size) (cpuC D) 28 from (by repeat' (first | (with_reducible first | exact Hid.out (by assumption) | exact Blk.new _ _ _ | (refine Blk.new_at _ _ _ _ ?_; simp; done) | refine Blk.alloc ?_ _ | refine Blk.drewN ?_ _ | refine Blk.drew ?_ | apply Blk.set | refine Blk.put ?_ (by assumption) (by first | (simp; done) | (simp; omega) | omega) | refine Blk.below ?_ (by assumption)) | (refine Blk.setAt ?_ (by first | (simp; done) | (simp; omega))) | rfl))) _ Try.underlying28 rfl (by kernel_rfl) ?_) | go_in)
    go_ret
    exact ⟨rfl, B4⟩
theorem q_short (c : Cp) (hi : c.In) (v1 v2 : Value) (m : Spc) (rings : Bool) (w : World) (h1 : SliceAt w .u8 v1 m.rom) (h2 : SliceAt w .u8 v2 m.ram) (hl1 : m.rom.length ≤ 1024) (hl2 : m.ram.length ≤ 256) (hr : (rings && c.may) = false) (hw : c.wt = false) (hs : (m.rom.length : Int) ≤ c.pc + 1 ∨ 32767 ≤ c.pc) :
    Calls Try.prog 5 #[.agg (cpuC c), .agg #[v1, v2], .bool rings] w fun e w' => e = .returned (.bool true) ∧ Below w.heap.size w w' := by
  have HR := Lib.hid hr
  have HW := Lib.hid hw
  have HS := Lib.hid hs
  clear hr hw hs
  have hsame := same_dM m c rings
  have hpos := dN_pos busS m c rings (tells_busS.w m c.pc)
  have hrom : (dM busS m c rings).rom = m.rom := hsame.1
  have hram : ((dM busS m c rings).ram.length : Int) = m.ram.length := by rw [hsame.2]
  have p1 := hpos.1
  clear hsame hpos
  have H1 := Lib.hid h1
  have H2 := Lib.hid h2
  have o1 := slice_one h1
  have o2 := slice_one h2
  have ONV : (#[v1, v2] : Array Value).all Value.oneCell' = true := by simp [o1, o2]
  have ST := Lib.hid (fun W (k : Below w.heap.size w W) => step_any c hi v1 v2 m rings W (H1.out.below k) (H2.out.below k) hl1 hl2)
  rw [hrom] at ST
  clear hrom
  generalize dN busS m c rings = dn at *
  generalize dC busS m c rings = D at *
  obtain ⟨X, hX⟩ : ∃ X, X = (dM busS m c rings).ram := ⟨_, rfl⟩
  rw [← hX] at hram ST
  try rw [← hX] at f4
  try rw [← hX] at QM
  clear hX

  obtain ⟨a2, k2, rfl, -⟩ := h2
  obtain ⟨a1, k1, rfl, -⟩ := h1
  go_enter Try.func5, Try.ntmps5
  go_wp2_with (first | ((with_reducible show wpList _ _ _ _ _ _); refine wpList_loadW rfl 28 (.tmp 3) rfl (w.heap.size) rfl 28 (cpuC c) (show Blk _ (w.heap.size) (cpuC c) 28 from (by repeat' (first | (with_reducible first | exact Hid.out (by assumption) | exact Blk.new _ _ _ | (refine Blk.new_at _ _ _ _ ?_; simp; done) | refine Blk.alloc ?_ _ | refine Blk.drewN ?_ _ | refine Blk.drew ?_ | apply Blk.set | refine Blk.put ?_ (by assumption) (by first | (simp; done) | (simp; omega) | omega) | refine Blk.below ?_ (by assumption)) | (refine Blk.setAt ?_ (by first | (simp; done) | (simp; omega))) | rfl))) _ Try.underlying28 rfl (by kernel_rfl) ?_) | ((with_reducible show wpList _ _ _ _ _ _); refine wpList_loadW rfl 24 (.tmp 4) rfl (w.heap.size + 1) rfl 24 #[.slice a1 m.rom.length k1, .slice a2 m.ram.length k2] (show Blk _ (w.heap.size + 1) #[.slice a1 m.rom.length k1, .slice a2 m.ram.length k2] 24 from (by repeat' (first | (with_reducible first | exact Hid.out (by assumption) | exact Blk.new _ _ _ | (refine Blk.new_at _ _ _ _ ?_; simp; done) | refine Blk.alloc ?_ _ | refine Blk.drewN ?_ _ | refine Blk.drew ?_ | apply Blk.set | refine Blk.put ?_ (by assumption) (by first | (simp; done) | (simp; omega) | omega) | refine Blk.below ?_ (by assumption)) | (refine Blk.setAt ?_ (by first | (simp; done) | (simp; omega))) | rfl))) _ Try.underlying24 rfl (by kernel_rfl) ?_))
  refine (ST.out _ (by repeat' (first | (with_reducible first | exact Below.refl _ _ | assumption | refine below_alloc ?_ _ | refine Below.drew ?_ | refine below_drewN ?_ _ | refine below_then ?_ (by assumption) | refine below_put ?_ (by assumption) (by first | (simp; done) | (simp; omega) | omega) | refine Below.setCell ?_ ?_ _) | (simp; done) | (simp; omega) | omega))).mono ?_
  rintro e w1 ⟨u1, u2, rfl, q1, q2, hb1⟩
  have hs1 : w.heap.size + 2 ≤ w1.heap.size := by have := hb1.size; simpa using this
  have K1 := Lib.hid (show Blk w1 w.heap.size (cpuC c) 28 from (by repeat' (first | (with_reducible first | exact Hid.out (by assumption) | exact Blk.new _ _ _ | (refine Blk.new_at _ _ _ _ ?_; simp; done) | refine Blk.alloc ?_ _ | refine Blk.drewN ?_ _ | refine Blk.drew ?_ | apply Blk.set | refine Blk.put ?_ (by assumption) (by first | (simp; done) | (simp; omega) | omega) | refine Blk.below ?_ (by assumption)) | (refine Blk.setAt ?_ (by first | (simp; done) | (simp; omega))) | rfl)))
  have K2 := Lib.hid (show Blk w1 (w.heap.size + 1) #[.slice a1 m.rom.length k1, .slice a2 m.ram.length k2] 24 from (by repeat' (first | (with_reducible first | exact Hid.out (by assumption) | exact Blk.new _ _ _ | (refine Blk.new_at _ _ _ _ ?_; simp; done) | refine Blk.alloc ?_ _ | refine Blk.drewN ?_ _ | refine Blk.drew ?_ | apply Blk.set | refine Blk.put ?_ (by assumption) (by first | (simp; done) | (simp; omega) | omega) | refine Blk.below ?_ (by assumption)) | (refine Blk.setAt ?_ (by first | (simp; done) | (simp; omega))) | rfl)))
  have B1 : Below w.heap.size w w1 := by repeat' (first | (with_reducible first | exact Below.refl _ _ | assumption | refine below_alloc ?_ _ | refine Below.drew ?_ | refine below_drewN ?_ _ | refine below_then ?_ (by assumption) | refine below_put ?_ (by assumption) (by first | (simp; done) | (simp; omega) | omega) | refine Below.setCell ?_ ?_ _) | (simp; done) | (simp; omega) | omega)
  have or1 := slice_one q1
  have or2 := slice_one q2
  have ONR : (#[u1, u2] : Array Value).all Value.oneCell' = true := by simp [or1, or2]
  have ONE := cpuC_one D
  have Q1 := Lib.hid q1
  have Q2 := Lib.hid q2
  obtain ⟨a4, k4, rfl, -⟩ := q2
  clear hb1 ST q1 or1 or2 o1 o2 ONV
  go_wp2_with (first | ((with_reducible show wpList _ _ _ _ _ _); refine wpList_storeW rfl 28 (.tmp 7) (.tmp 18) rfl (w1.heap.size) (cpuC D) rfl rfl 28 _ (show Blk _ (w1.heap.size) #[.int .u16 0, .int .u16 0, .int .u16 0, .int .u16 0, .int .u16 0, .int .u16 0, .int .u16 0, .int .u16 0, .int .u16 0, .bool false, .bool false, .bool false, .bool false, .bool false, .bool false] 28 from (by repeat' (first | (with_reducible first | exact Hid.out (by assumption) | exact Blk.new _ _ _ | (refine Blk.new_at _ _ _ _ ?_; simp; done) | refine Blk.alloc ?_ _ | refine Blk.drewN ?_ _ | refine Blk.drew ?_ | apply Blk.set | refine Blk.put ?_ (by assumption) (by first | (simp; done) | (simp; omega) | omega) | refine Blk.below ?_ (by assumption)) | (refine Blk.setAt ?_ (by first | (simp; done) | (simp; omega))) | rfl))) (by kernel_rfl) rfl (by first | (with_reducible assumption) | simp [Value.oneCell']) ?_; intro w2 hp_w2 K_w2) | ((with_reducible show wpList _ _ _ _ _ _); refine wpList_storeW rfl 24 (.tmp 8) (.tmp 19) rfl (w1.heap.size + 1) #[u1, .slice a4 X.length k4] rfl rfl 24 _ (show Blk _ (w1.heap.size + 1) #[.slice none 0 0, .slice none 0 0] 24 from (by repeat' (first | (with_reducible first | exact Hid.out (by assumption) | exact Blk.new _ _ _ | (refine Blk.new_at _ _ _ _ ?_; simp; done) | refine Blk.alloc ?_ _ | refine Blk.drewN ?_ _ | refine Blk.drew ?_ | apply Blk.set | refine Blk.put ?_ (by assumption) (by first | (simp; done) | (simp; omega) | omega) | refine Blk.below ?_ (by assumption)) | (refine Blk.setAt ?_ (by first | (simp; done) | (simp; omega))) | rfl))) (by kernel_rfl) rfl (by first | (with_reducible assumption) | simp [Value.oneCell']) ?_; intro w3 hp_w3 K_w3))
  have hsz3 : w3.heap.size = w1.heap.size + 2 := by have a := hp_w2.size; have b := hp_w3.size; simp at a b; omega
  have B13 : Below w1.heap.size w1 w3 := by repeat' (first | (with_reducible first | exact Below.refl _ _ | assumption | refine below_alloc ?_ _ | refine Below.drew ?_ | refine below_drewN ?_ _ | refine below_then ?_ (by assumption) | refine below_put ?_ (by assumption) (by first | (simp; done) | (simp; omega) | omega) | refine Below.setCell ?_ ?_ _) | (simp; done) | (simp; omega) | omega)
  have M1 := Lib.hid (K1.out.below B13)
  have M2 := Lib.hid (K2.out.below B13)
  have M3 := Lib.hid (show Blk w3 w1.heap.size (cpuC D) 28 from (by repeat' (first | (with_reducible first | exact Hid.out (by assumption) | exact Blk.new _ _ _ | (refine Blk.new_at _ _ _ _ ?_; simp; done) | refine Blk.alloc ?_ _ | refine Blk.drewN ?_ _ | refine Blk.drew ?_ | apply Blk.set | refine Blk.put ?_ (by assumption) (by first | (simp; done) | (simp; omega) | omega) | refine Blk.below ?_ (by assumption)) | (refine Blk.setAt ?_ (by first | (simp; done) | (simp; omega))) | rfl)))
  have M4 := Lib.hid (show Blk w3 (w1.heap.size + 1) #[u1, .slice a4 X.length k4] 24 from (by repeat' (first | (with_reducible first | exact Hid.out (by assumption) | exact Blk.new _ _ _ | (refine Blk.new_at _ _ _ _ ?_; simp; done) | refine Blk.alloc ?_ _ | refine Blk.drewN ?_ _ | refine Blk.drew ?_ | apply Blk.set | refine Blk.put ?_ (by assumption) (by first | (simp; done) | (simp; omega) | omega) | refine Blk.below ?_ (by assumption)) | (refine Blk.setAt ?_ (by first | (simp; done) | (simp; omega))) | rfl)))
  have P1 := Lib.hid (Q1.out.below B13)
  have P2 := Lib.hid (Q2.out.below B13)
  have B3 : Below w.heap.size w w3 := B1.trans (B13.mono (by omega))
  clear K1 K2 K_w2 K_w3 Q1 B1 hp_w2 hp_w3 ONR ONE
  refine (stepped_any w3).mono ?_
  rintro e w4 ⟨rfl, hb4⟩
  have L1 := Lib.hid (M1.out.below hb4)
  have L2 := Lib.hid (M2.out.below hb4)
  have L3 := Lib.hid (M3.out.below hb4)
  have L4 := Lib.hid (M4.out.below hb4)
  have R1 := Lib.hid (P1.out.below hb4)
  have R2 := Lib.hid (P2.out.below hb4)
  have B4 : Below w.heap.size w w4 := B3.trans (hb4.mono (by omega))
  have hs4 : w1.heap.size + 2 ≤ w4.heap.size := by have := hb4.size; omega
  have lk1 : w.heap.size < w4.heap.size := by omega
  have lk2 : w.heap.size + 1 < w4.heap.size := by omega
  have lk3 : w1.heap.size < w4.heap.size := by omega
  have lk4 : w1.heap.size + 1 < w4.heap.size := by omega
  have e41 : w4.cell? ⟨w1.heap.size + 1, 0, none⟩ = some u1 := L4.out.cell 0
  have e42 : w4.cell? ⟨w1.heap.size + 1, 1, none⟩ = some (.slice a4 X.length k4) := L4.out.cell 1
  have e21 : w4.cell? ⟨w.heap.size + 1, 0, none⟩ = some (.slice a1 m.rom.length k1) := L2.out.cell 0
  have e22 : w4.cell? ⟨w.heap.size + 1, 1, none⟩ = some (.slice a2 m.ram.length k2) := L2.out.cell 1
  have e1m : w4.cell? ⟨w.heap.size, 13, none⟩ = some (.bool c.may) := L1.out.cell 13
  have e1w : w4.cell? ⟨w.heap.size, 14, none⟩ = some (.bool c.wt) := L1.out.cell 14
  have e1p : w4.cell? ⟨w.heap.size, 8, none⟩ = some (.int .u16 c.pc) := L1.out.cell 8
  have e3m : w4.cell? ⟨w1.heap.size, 13, none⟩ = some (.bool D.may) := L3.out.cell 13
  have e3w : w4.cell? ⟨w1.heap.size, 14, none⟩ = some (.bool D.wt) := L3.out.cell 14
  have E1 := Lib.hid (bytesEqual_any u1 (.slice a1 m.rom.length k1) m.rom m.rom w4 R1.out (H1.out.below B4))
  rw [show decide (m.rom = m.rom) = true by simp] at E1
  have B14 : Below w1.heap.size w1 w4 := B13.trans (hb4.mono (by omega))
  clear M1 M2 M3 M4 P1 P2 B3 hb4 B13
  go_wp2_with fail
  refine E1.out.mono ?_
  rintro e w5 ⟨rfl, rfl⟩
  rw [HW.out] at e1w
  obtain ⟨pc0, pc1⟩ : 0 ≤ c.pc ∧ c.pc ≤ 65535 := hi.2
  by_cases hlx : (m.rom.length : Int) ≤ c.pc + 1
  · by_cases hrg : rings = true
    · subst hrg
      have hm : c.may = false := by simpa using HR.out
      rw [hm] at e1m
      go_wp2
      go_ret
      exact ⟨rfl, B4⟩
    · have hrg' : rings = false := by simpa using hrg
      subst hrg'
      go_wp2
      go_ret
      exact ⟨rfl, B4⟩
  · exact absurd HS.out (by omega)
theorem q_full (c : Cp) (hi : c.In) (v1 v2 : Value) (m : Spc) (rings : Bool) (w : World) (h1 : SliceAt w .u8 v1 m.rom) (h2 : SliceAt w .u8 v2 m.ram) (hl1 : m.rom.length ≤ 1024) (hl2 : m.ram.length ≤ 256) (hr : (rings && c.may) = false) (hw : c.wt = false) (hs : c.pc + 1 < m.rom.length ∧ c.pc < 32767) :
    Calls Try.prog 5 #[.agg (cpuC c), .agg #[v1, v2], .bool rings] w fun e w' => e = .returned (.bool true) ∧ Below w.heap.size w w' := by
  have HR := Lib.hid hr
  have HW := Lib.hid hw
  have HS := Lib.hid hs
  have hp := hi.2
  unfold U16 at hp
  have BY : Bytes8 m.rom := fun x hx => by
    obtain ⟨_, _, _, _, _, hw, _⟩ := h1
    exact byte_in (hw x hx)
  have wr := word_rom m c.pc hp.1 hs.1 hs.2 BY
  have QM := Lib.hid (fun (h : wrO (readO (wV busS m c.pc) 0).op = false) => congrArg Spc.ram (dM_quiet m c rings hr (Or.inr h)))
  rw [wr] at QM
  have XU := Lib.hid (getD_byte BY c.pc.toNat)
  have YU := Lib.hid (getD_byte BY (c.pc + 1).toNat)
  have RU := Lib.hid (wr ▸ tells_busS.w m c.pc)
  obtain ⟨n0, hn0⟩ : ∃ n, n = c.pc.toNat := ⟨_, rfl⟩
  obtain ⟨n1, hn1⟩ : ∃ n, n = (c.pc + 1).toNat := ⟨_, rfl⟩
  rw [← hn0, ← hn1] at QM RU
  rw [← hn0] at XU
  rw [← hn1] at YU
  have N0 : Hid ((n0 : Int) = c.pc) := Lib.hid (by omega)
  have N1 : Hid ((n1 : Int) = c.pc + 1) := Lib.hid (by omega)
  have LN : n0 < m.rom.length ∧ n1 < m.rom.length := by omega
  clear hr hw hn0 hn1 wr BY hp
  have hsame := same_dM m c rings
  have hpos := dN_pos busS m c rings (tells_busS.w m c.pc)
  have hrom : (dM busS m c rings).rom = m.rom := hsame.1
  have hram : ((dM busS m c rings).ram.length : Int) = m.ram.length := by rw [hsame.2]
  have p1 := hpos.1
  clear hsame hpos
  have H1 := Lib.hid h1
  have H2 := Lib.hid h2
  have o1 := slice_one h1
  have o2 := slice_one h2
  have ONV : (#[v1, v2] : Array Value).all Value.oneCell' = true := by simp [o1, o2]
  have ST := Lib.hid (fun W (k : Below w.heap.size w W) => step_any c hi v1 v2 m rings W (H1.out.below k) (H2.out.below k) hl1 hl2)
  rw [hrom] at ST
  clear hrom
  generalize dN busS m c rings = dn at *
  generalize dC busS m c rings = D at *
  obtain ⟨X, hX⟩ : ∃ X, X = (dM busS m c rings).ram := ⟨_, rfl⟩
  rw [← hX] at hram ST
  try rw [← hX] at f4
  try rw [← hX] at QM
  clear hX

  obtain ⟨a2, k2, rfl, -⟩ := h2
  obtain ⟨a1, k1, rfl, hlc, hcm, hwf, hcells⟩ := h1
  obtain ⟨b1, off1, rfl, LT0, hcell⟩ := hcells (by omega)
  have hq0 := hcell n0 LN.1
  have hq1 := hcell n1 LN.2
  obtain ⟨x, hx⟩ : ∃ x, x = m.rom.getD n0 0 := ⟨_, rfl⟩
  obtain ⟨y, hy⟩ : ∃ y, y = m.rom.getD n1 0 := ⟨_, rfl⟩
  rw [← hx, ← hy] at QM RU
  rw [← hx] at hq0 XU
  rw [← hy] at hq1 YU
  have HC := Lib.hid (fun W (k : Below w.heap.size w W) => And.intro ((k.cell (p := ⟨b1, off1 + n0, none⟩) LT0).trans hq0) ((k.cell (p := ⟨b1, off1 + n1, none⟩) LT0).trans hq1))
  clear hcells hcell hq0 hq1 hx hy hwf hlc hcm hs LN
  go_enter Try.func5, Try.ntmps5
  go_wp2_with (first | ((with_reducible show wpList _ _ _ _ _ _); refine wpList_loadW rfl 28 (.tmp 3) rfl (w.heap.size) rfl 28 (cpuC c) (show Blk _ (w.heap.size) (cpuC c) 28 from (by repeat' (first | (with_reducible first | exact Hid.out (by assumption) | exact Blk.new _ _ _ | (refine Blk.new_at _ _ _ _ ?_; simp; done) | refine Blk.alloc ?_ _ | refine Blk.drewN ?_ _ | refine Blk.drew ?_ | apply Blk.set | refine Blk.put ?_ (by assumption) (by first | (simp; done) | (simp; omega) | omega) | refine Blk.below ?_ (by assumption)) | (refine Blk.setAt ?_ (by first | (simp; done) | (simp; omega))) | rfl))) _ Try.underlying28 rfl (by kernel_rfl) ?_) | ((with_reducible show wpList _ _ _ _ _ _); refine wpList_loadW rfl 24 (.tmp 4) rfl (w.heap.size + 1) rfl 24 #[.slice (some ⟨b1, off1, none⟩) m.rom.length k1, .slice a2 m.ram.length k2] (show Blk _ (w.heap.size + 1) #[.slice (some ⟨b1, off1, none⟩) m.rom.length k1, .slice a2 m.ram.length k2] 24 from (by repeat' (first | (with_reducible first | exact Hid.out (by assumption) | exact Blk.new _ _ _ | (refine Blk.new_at _ _ _ _ ?_; simp; done) | refine Blk.alloc ?_ _ | refine Blk.drewN ?_ _ | refine Blk.drew ?_ | apply Blk.set | refine Blk.put ?_ (by assumption) (by first | (simp; done) | (simp; omega) | omega) | refine Blk.below ?_ (by assumption)) | (refine Blk.setAt ?_ (by first | (simp; done) | (simp; omega))) | rfl))) _ Try.underlying24 rfl (by kernel_rfl) ?_))
  refine (ST.out _ (by repeat' (first | (with_reducible first | exact Below.refl _ _ | assumption | refine below_alloc ?_ _ | refine Below.drew ?_ | refine below_drewN ?_ _ | refine below_then ?_ (by assumption) | refine below_put ?_ (by assumption) (by first | (simp; done) | (simp; omega) | omega) | refine Below.setCell ?_ ?_ _) | (simp; done) | (simp; omega) | omega))).mono ?_
  rintro e w1 ⟨u1, u2, rfl, q1, q2, hb1⟩
  have hs1 : w.heap.size + 2 ≤ w1.heap.size := by have := hb1.size; simpa using this
  have K1 := Lib.hid (show Blk w1 w.heap.size (cpuC c) 28 from (by repeat' (first | (with_reducible first | exact Hid.out (by assumption) | exact Blk.new _ _ _ | (refine Blk.new_at _ _ _ _ ?_; simp; done) | refine Blk.alloc ?_ _ | refine Blk.drewN ?_ _ | refine Blk.drew ?_ | apply Blk.set | refine Blk.put ?_ (by assumption) (by first | (simp; done) | (simp; omega) | omega) | refine Blk.below ?_ (by assumption)) | (refine Blk.setAt ?_ (by first | (simp; done) | (simp; omega))) | rfl)))
  have K2 := Lib.hid (show Blk w1 (w.heap.size + 1) #[.slice (some ⟨b1, off1, none⟩) m.rom.length k1, .slice a2 m.ram.length k2] 24 from (by repeat' (first | (with_reducible first | exact Hid.out (by assumption) | exact Blk.new _ _ _ | (refine Blk.new_at _ _ _ _ ?_; simp; done) | refine Blk.alloc ?_ _ | refine Blk.drewN ?_ _ | refine Blk.drew ?_ | apply Blk.set | refine Blk.put ?_ (by assumption) (by first | (simp; done) | (simp; omega) | omega) | refine Blk.below ?_ (by assumption)) | (refine Blk.setAt ?_ (by first | (simp; done) | (simp; omega))) | rfl)))
  have B1 : Below w.heap.size w w1 := by repeat' (first | (with_reducible first | exact Below.refl _ _ | assumption | refine below_alloc ?_ _ | refine Below.drew ?_ | refine below_drewN ?_ _ | refine below_then ?_ (by assumption) | refine below_put ?_ (by assumption) (by first | (simp; done) | (simp; omega) | omega) | refine Below.setCell ?_ ?_ _) | (simp; done) | (simp; omega) | omega)
  have or1 := slice_one q1
  have or2 := slice_one q2
  have ONR : (#[u1, u2] : Array Value).all Value.oneCell' = true := by simp [or1, or2]
  have ONE := cpuC_one D
  have Q1 := Lib.hid q1
  have Q2 := Lib.hid q2
  obtain ⟨a4, k4, rfl, -⟩ := q2
  clear hb1 ST q1 or1 or2 o1 o2 ONV
  go_wp2_with (first | ((with_reducible show wpList _ _ _ _ _ _); refine wpList_storeW rfl 28 (.tmp 7) (.tmp 18) rfl (w1.heap.size) (cpuC D) rfl rfl 28 _ (show Blk _ (w1.heap.size) #[.int .u16 0, .int .u16 0, .int .u16 0, .int .u16 0, .int .u16 0, .int .u16 0, .int .u16 0, .int .u16 0, .int .u16 0, .bool false, .bool false, .bool false, .bool false, .bool false, .bool false] 28 from (by repeat' (first | (with_reducible first | exact Hid.out (by assumption) | exact Blk.new _ _ _ | (refine Blk.new_at _ _ _ _ ?_; simp; done) | refine Blk.alloc ?_ _ | refine Blk.drewN ?_ _ | refine Blk.drew ?_ | apply Blk.set | refine Blk.put ?_ (by assumption) (by first | (simp; done) | (simp; omega) | omega) | refine Blk.below ?_ (by assumption)) | (refine Blk.setAt ?_ (by first | (simp; done) | (simp; omega))) | rfl))) (by kernel_rfl) rfl (by first | (with_reducible assumption) | simp [Value.oneCell']) ?_; intro w2 hp_w2 K_w2) | ((with_reducible show wpList _ _ _ _ _ _); refine wpList_storeW rfl 24 (.tmp 8) (.tmp 19) rfl (w1.heap.size + 1) #[u1, .slice a4 X.length k4] rfl rfl 24 _ (show Blk _ (w1.heap.size + 1) #[.slice none 0 0, .slice none 0 0] 24 from (by repeat' (first | (with_reducible first | exact Hid.out (by assumption) | exact Blk.new _ _ _ | (refine Blk.new_at _ _ _ _ ?_; simp; done) | refine Blk.alloc ?_ _ | refine Blk.drewN ?_ _ | refine Blk.drew ?_ | apply Blk.set | refine Blk.put ?_ (by assumption) (by first | (simp; done) | (simp; omega) | omega) | refine Blk.below ?_ (by assumption)) | (refine Blk.setAt ?_ (by first | (simp; done) | (simp; omega))) | rfl))) (by kernel_rfl) rfl (by first | (with_reducible assumption) | simp [Value.oneCell']) ?_; intro w3 hp_w3 K_w3))
  have hsz3 : w3.heap.size = w1.heap.size + 2 := by have a := hp_w2.size; have b := hp_w3.size; simp at a b; omega
  have B13 : Below w1.heap.size w1 w3 := by repeat' (first | (with_reducible first | exact Below.refl _ _ | assumption | refine below_alloc ?_ _ | refine Below.drew ?_ | refine below_drewN ?_ _ | refine below_then ?_ (by assumption) | refine below_put ?_ (by assumption) (by first | (simp; done) | (simp; omega) | omega) | refine Below.setCell ?_ ?_ _) | (simp; done) | (simp; omega) | omega)
  have M1 := Lib.hid (K1.out.below B13)
  have M2 := Lib.hid (K2.out.below B13)
  have M3 := Lib.hid (show Blk w3 w1.heap.size (cpuC D) 28 from (by repeat' (first | (with_reducible first | exact Hid.out (by assumption) | exact Blk.new _ _ _ | (refine Blk.new_at _ _ _ _ ?_; simp; done) | refine Blk.alloc ?_ _ | refine Blk.drewN ?_ _ | refine Blk.drew ?_ | apply Blk.set | refine Blk.put ?_ (by assumption) (by first | (simp; done) | (simp; omega) | omega) | refine Blk.below ?_ (by assumption)) | (refine Blk.setAt ?_ (by first | (simp; done) | (simp; omega))) | rfl)))
  have M4 := Lib.hid (show Blk w3 (w1.heap.size + 1) #[u1, .slice a4 X.length k4] 24 from (by repeat' (first | (with_reducible first | exact Hid.out (by assumption) | exact Blk.new _ _ _ | (refine Blk.new_at _ _ _ _ ?_; simp; done) | refine Blk.alloc ?_ _ | refine Blk.drewN ?_ _ | refine Blk.drew ?_ | apply Blk.set | refine Blk.put ?_ (by assumption) (by first | (simp; done) | (simp; omega) | omega) | refine Blk.below ?_ (by assumption)) | (refine Blk.setAt ?_ (by first | (simp; done) | (simp; omega))) | rfl)))
  have P1 := Lib.hid (Q1.out.below B13)
  have P2 := Lib.hid (Q2.out.below B13)
  have B3 : Below w.heap.size w w3 := B1.trans (B13.mono (by omega))
  clear K1 K2 K_w2 K_w3 Q1 B1 hp_w2 hp_w3 ONR ONE
  refine (stepped_any w3).mono ?_
  rintro e w4 ⟨rfl, hb4⟩
  have L1 := Lib.hid (M1.out.below hb4)
  have L2 := Lib.hid (M2.out.below hb4)
  have L3 := Lib.hid (M3.out.below hb4)
  have L4 := Lib.hid (M4.out.below hb4)
  have R1 := Lib.hid (P1.out.below hb4)
  have R2 := Lib.hid (P2.out.below hb4)
  have B4 : Below w.heap.size w w4 := B3.trans (hb4.mono (by omega))
  have hs4 : w1.heap.size + 2 ≤ w4.heap.size := by have := hb4.size; omega
  have lk1 : w.heap.size < w4.heap.size := by omega
  have lk2 : w.heap.size + 1 < w4.heap.size := by omega
  have lk3 : w1.heap.size < w4.heap.size := by omega
  have lk4 : w1.heap.size + 1 < w4.heap.size := by omega
  have e41 : w4.cell? ⟨w1.heap.size + 1, 0, none⟩ = some u1 := L4.out.cell 0
  have e42 : w4.cell? ⟨w1.heap.size + 1, 1, none⟩ = some (.slice a4 X.length k4) := L4.out.cell 1
  have e21 : w4.cell? ⟨w.heap.size + 1, 0, none⟩ = some (.slice (some ⟨b1, off1, none⟩) m.rom.length k1) := L2.out.cell 0
  have e22 : w4.cell? ⟨w.heap.size + 1, 1, none⟩ = some (.slice a2 m.ram.length k2) := L2.out.cell 1
  have e1m : w4.cell? ⟨w.heap.size, 13, none⟩ = some (.bool c.may) := L1.out.cell 13
  have e1w : w4.cell? ⟨w.heap.size, 14, none⟩ = some (.bool c.wt) := L1.out.cell 14
  have e1p : w4.cell? ⟨w.heap.size, 8, none⟩ = some (.int .u16 c.pc) := L1.out.cell 8
  have e3m : w4.cell? ⟨w1.heap.size, 13, none⟩ = some (.bool D.may) := L3.out.cell 13
  have e3w : w4.cell? ⟨w1.heap.size, 14, none⟩ = some (.bool D.wt) := L3.out.cell 14
  have E1 := Lib.hid (bytesEqual_any u1 (.slice (some ⟨b1, off1, none⟩) m.rom.length k1) m.rom m.rom w4 R1.out (H1.out.below B4))
  rw [show decide (m.rom = m.rom) = true by simp] at E1
  have B14 : Below w1.heap.size w1 w4 := B13.trans (hb4.mono (by omega))
  clear M1 M2 M3 M4 P1 P2 B3 hb4 B13
  go_wp2_with fail
  refine E1.out.mono ?_
  rintro e w5 ⟨rfl, rfl⟩
  rw [HW.out] at e1w
  obtain ⟨pc0, pc1⟩ : 0 ≤ c.pc ∧ c.pc ≤ 65535 := hi.2
  obtain ⟨hly, hlz⟩ := HS.out
  have hlw : c.pc < (m.rom.length : Int) := by omega
  have pc2 : 0 ≤ c.pc + 1 := by omega
  have RD := Lib.hid (fun W => read_any (x * 256 + y) 0 RU.out (by unfold U16; omega) W)
  obtain ⟨q0, q1⟩ := HC.out w4 B4
  obtain ⟨op, hop⟩ : ∃ o, o = (readO (x * 256 + y) 0).op := ⟨_, rfl⟩
  rw [← hop] at RD QM
  clear hop
  generalize readL (x * 256 + y) = rl at *
  generalize (readO (x * 256 + y) 0).d = od at *
  generalize (readO (x * 256 + y) 0).s = os at *
  generalize (readO (x * 256 + y) 0).n = on at *
  generalize (readO (x * 256 + y) 0).w = ow at *
  have hbo : bits .or .u16 (IntKind.u16.wrap (IntKind.u16.wrap x * 256)) (IntKind.u16.wrap y) = x * 256 + y := by
    have a := XU.out; have b := YU.out; unfold U8 at a b
    rw [wrap16, wrap16, wrap16, show x % 65536 * 256 % 65536 = x * 256 by omega, show y % 65536 = y by omega]
    exact join16 x y XU.out YU.out
  have wr1 : IntKind.u16.wrap (c.pc + 1) = c.pc + 1 := by rw [wrap16]; omega
  obtain ⟨x0, x1⟩ : 0 ≤ x ∧ x ≤ 255 := XU.out
  obtain ⟨y0, y1⟩ : 0 ≤ y ∧ y ≤ 255 := YU.out
  have tn0 : c.pc.toNat = n0 := by have := N0.out; omega
  have tn1 : (c.pc + 1).toNat = n1 := by have := N1.out; omega
  by_cases hrg : rings = true
  · subst hrg
    have hm : c.may = false := by simpa using HR.out
    rw [hm] at e1m
    clear hm
    go_wp2_with fail
    apply gcut (fun g Z => w4.heap.size ≤ g ∧ (Below w.heap.size w Z ∧ Below w1.heap.size w1 Z) ∧ Hid (Blk Z (w.heap.size + 1) #[.slice (some ⟨b1, off1, none⟩) m.rom.length k1, .slice a2 m.ram.length k2] 24) ∧ Hid (Blk Z (w1.heap.size + 1) #[u1, .slice a4 X.length k4] 24) ∧ Hid (Blk Z g #[.int .i64 op, .int .i64 od, .int .i64 os, .int .i64 on, .int .i64 ow] 43))
    · intro hk
      refine wp_region_held_drew (S := fun W => (W.cell? ⟨b1, off1 + n0, none⟩ = some (.int .u8 x) ∧ W.cell? ⟨b1, off1 + n1, none⟩ = some (.int .u8 y)) ∧ (Below w.heap.size w W ∧ Below w1.heap.size w1 W) ∧ Blk W (w.heap.size) (cpuC c) 28 ∧ Blk W (w.heap.size + 1) #[.slice (some ⟨b1, off1, none⟩) m.rom.length k1, .slice a2 m.ram.length k2] 24 ∧ Blk W (w1.heap.size + 1) #[u1, .slice a4 X.length k4] 24) (by kernel_rfl) ⟨⟨q0, q1⟩, ⟨B4.drew, B14.drew⟩, L1.out.drew, L2.out.drew, L4.out.drew⟩ (fun hS => ?_)
      refine wpAnyH_take (i := 0) (v := ?v0_1) rfl (by kernel_rfl) (by kernel_rfl) (by kernel_rfl) (fun _ _ _ h => h) (Or.inl ⟨by rfl, ?y0_1⟩) hS ?_
      case y0_1 => (intro w hSw; have c0 : w.cell? ⟨_, 8, none⟩ = some (.int .u16 c.pc) := hSw.2.2.1.cell 8; have c1 := hSw.2.2.2.1.cell 0; have c2 := hSw.1.1; have c3 := hSw.1.2; go_simp; (try simp only [wr1]); try with_reducible rfl)
      try simp only [List.getElem_toArray, List.getElem_cons_succ, List.getElem_cons_zero, Act.put, List.setIfInBounds_toArray, List.set_cons_zero, List.set_cons_succ]
      refine wpAnyH_take (i := 1) (v := ?v1_2) rfl (by kernel_rfl) (by kernel_rfl) (by kernel_rfl) (fun _ _ _ h => h) (Or.inl ⟨by rfl, ?y1_2⟩) hS ?_
      case y1_2 => (intro w hSw; have c0 : w.cell? ⟨_, 8, none⟩ = some (.int .u16 c.pc) := hSw.2.2.1.cell 8; have c1 := hSw.2.2.2.1.cell 0; have c2 := hSw.1.1; have c3 := hSw.1.2; go_simp; (try simp only [wr1]); try with_reducible rfl)
      try simp only [List.getElem_toArray, List.getElem_cons_succ, List.getElem_cons_zero, Act.put, List.setIfInBounds_toArray, List.set_cons_zero, List.set_cons_succ]
      refine wpAnyH_take (i := 2) (v := ?v2_3) rfl (by kernel_rfl) (by kernel_rfl) (by kernel_rfl) (fun _ _ _ h => h) (Or.inl ⟨by rfl, ?y2_3⟩) hS ?_
      case y2_3 => (intro w hSw; have c0 : w.cell? ⟨_, 8, none⟩ = some (.int .u16 c.pc) := hSw.2.2.1.cell 8; have c1 := hSw.2.2.2.1.cell 0; have c2 := hSw.1.1; have c3 := hSw.1.2; go_simp; (try simp only [wr1]); try with_reducible rfl)
      try simp only [List.getElem_toArray, List.getElem_cons_succ, List.getElem_cons_zero, Act.put, List.setIfInBounds_toArray, List.set_cons_zero, List.set_cons_succ]
      refine wpAnyH_take (i := 3) (v := ?v3_4) rfl (by kernel_rfl) (by kernel_rfl) (by kernel_rfl) (fun _ _ _ h => h) (Or.inl ⟨by rfl, ?y3_4⟩) hS ?_
      case y3_4 => (intro w hSw; have c0 : w.cell? ⟨_, 8, none⟩ = some (.int .u16 c.pc) := hSw.2.2.1.cell 8; have c1 := hSw.2.2.2.1.cell 0; have c2 := hSw.1.1; have c3 := hSw.1.2; go_simp; (try simp only [wr1]); try with_reducible rfl)
      try simp only [List.getElem_toArray, List.getElem_cons_succ, List.getElem_cons_zero, Act.put, List.setIfInBounds_toArray, List.set_cons_zero, List.set_cons_succ]
      refine wpAnyH_take (i := 4) (v := ?v4_5) rfl (by kernel_rfl) (by kernel_rfl) (by kernel_rfl) (fun _ _ _ h => h) (Or.inl ⟨by rfl, ?y4_5⟩) hS ?_
      case y4_5 => (intro w hSw; have c0 : w.cell? ⟨_, 8, none⟩ = some (.int .u16 c.pc) := hSw.2.2.1.cell 8; have c1 := hSw.2.2.2.1.cell 0; have c2 := hSw.1.1; have c3 := hSw.1.2; go_simp; (try simp only [wr1]); try with_reducible rfl)
      try simp only [List.getElem_toArray, List.getElem_cons_succ, List.getElem_cons_zero, Act.put, List.setIfInBounds_toArray, List.set_cons_zero, List.set_cons_succ]
      refine wpAnyH_take (i := 5) (v := ?v5_6) rfl (by kernel_rfl) (by kernel_rfl) (by kernel_rfl) (fun _ _ _ h => h) (Or.inl ⟨by rfl, ?y5_6⟩) hS ?_
      case y5_6 => (intro w hSw; have c0 : w.cell? ⟨_, 8, none⟩ = some (.int .u16 c.pc) := hSw.2.2.1.cell 8; have c1 := hSw.2.2.2.1.cell 0; have c2 := hSw.1.1; have c3 := hSw.1.2; go_simp; (try simp only [wr1]); try with_reducible rfl)
      try simp only [List.getElem_toArray, List.getElem_cons_succ, List.getElem_cons_zero, Act.put, List.setIfInBounds_toArray, List.set_cons_zero, List.set_cons_succ]
      refine wpAnyH_take (i := 6) (v := ?v6_7) rfl (by kernel_rfl) (by kernel_rfl) (by kernel_rfl) (fun _ _ _ h => h) (Or.inl ⟨by rfl, ?y6_7⟩) hS ?_
      case y6_7 => (intro w hSw; have c0 : w.cell? ⟨_, 8, none⟩ = some (.int .u16 c.pc) := hSw.2.2.1.cell 8; have c1 := hSw.2.2.2.1.cell 0; have c2 := hSw.1.1; have c3 := hSw.1.2; go_simp; (try simp only [wr1]); try with_reducible rfl)
      try simp only [List.getElem_toArray, List.getElem_cons_succ, List.getElem_cons_zero, Act.put, List.setIfInBounds_toArray, List.set_cons_zero, List.set_cons_succ]
      refine wpAnyH_take (i := 7) (v := ?v7_8) rfl (by kernel_rfl) (by kernel_rfl) (by kernel_rfl) (fun _ _ _ h => h) (Or.inl ⟨by rfl, ?y7_8⟩) hS ?_
      case y7_8 => (intro w hSw; have c0 : w.cell? ⟨_, 8, none⟩ = some (.int .u16 c.pc) := hSw.2.2.1.cell 8; have c1 := hSw.2.2.2.1.cell 0; have c2 := hSw.1.1; have c3 := hSw.1.2; go_simp; (try simp only [wr1]); try with_reducible rfl)
      try simp only [List.getElem_toArray, List.getElem_cons_succ, List.getElem_cons_zero, Act.put, List.setIfInBounds_toArray, List.set_cons_zero, List.set_cons_succ]
      refine wpAnyH_take (i := 8) (v := ?v8_9) rfl (by kernel_rfl) (by kernel_rfl) (by kernel_rfl) (fun _ _ _ h => h) (Or.inl ⟨by rfl, ?y8_9⟩) hS ?_
      case y8_9 => (intro w hSw; have c0 : w.cell? ⟨_, 8, none⟩ = some (.int .u16 c.pc) := hSw.2.2.1.cell 8; have c1 := hSw.2.2.2.1.cell 0; have c2 := hSw.1.1; have c3 := hSw.1.2; go_simp; (try simp only [wr1]); try with_reducible rfl)
      try simp only [List.getElem_toArray, List.getElem_cons_succ, List.getElem_cons_zero, Act.put, List.setIfInBounds_toArray, List.set_cons_zero, List.set_cons_succ]
      refine wpAnyH_take (i := 9) (v := ?v9_10) rfl (by kernel_rfl) (by kernel_rfl) (by kernel_rfl) (fun _ _ _ h => h) (Or.inl ⟨by rfl, ?y9_10⟩) hS ?_
      case y9_10 => (intro w hSw; have c0 : w.cell? ⟨_, 8, none⟩ = some (.int .u16 c.pc) := hSw.2.2.1.cell 8; have c1 := hSw.2.2.2.1.cell 0; have c2 := hSw.1.1; have c3 := hSw.1.2; go_simp; (try simp only [wr1]); try with_reducible rfl)
      try simp only [List.getElem_toArray, List.getElem_cons_succ, List.getElem_cons_zero, Act.put, List.setIfInBounds_toArray, List.set_cons_zero, List.set_cons_succ]
      refine wpAnyH_take (i := 10) (v := ?v10_11) rfl (by kernel_rfl) (by kernel_rfl) (by kernel_rfl) (fun _ _ _ h => h) (Or.inl ⟨by rfl, ?y10_11⟩) hS ?_
      case y10_11 => (intro w hSw; have c0 : w.cell? ⟨_, 8, none⟩ = some (.int .u16 c.pc) := hSw.2.2.1.cell 8; have c1 := hSw.2.2.2.1.cell 0; have c2 := hSw.1.1; have c3 := hSw.1.2; go_simp; (try simp only [wr1]); try with_reducible rfl)
      try simp only [List.getElem_toArray, List.getElem_cons_succ, List.getElem_cons_zero, Act.put, List.setIfInBounds_toArray, List.set_cons_zero, List.set_cons_succ]
      refine wpAnyH_take (i := 11) (v := ?v11_12) rfl (by kernel_rfl) (by kernel_rfl) (by kernel_rfl) (fun _ _ _ h => h) (Or.inl ⟨by rfl, ?y11_12⟩) hS ?_
      case y11_12 => (intro w hSw; have c0 : w.cell? ⟨_, 8, none⟩ = some (.int .u16 c.pc) := hSw.2.2.1.cell 8; have c1 := hSw.2.2.2.1.cell 0; have c2 := hSw.1.1; have c3 := hSw.1.2; go_simp; (try simp only [wr1]); try with_reducible rfl)
      try simp only [List.getElem_toArray, List.getElem_cons_succ, List.getElem_cons_zero, Act.put, List.setIfInBounds_toArray, List.set_cons_zero, List.set_cons_succ]
      refine wpAnyH_take (i := 12) (v := ?v12_13) rfl (by kernel_rfl) (by kernel_rfl) (by kernel_rfl) (fun _ _ _ h => h) (Or.inl ⟨by rfl, ?y12_13⟩) hS ?_
      case y12_13 => (intro w hSw; have c0 : w.cell? ⟨_, 8, none⟩ = some (.int .u16 c.pc) := hSw.2.2.1.cell 8; have c1 := hSw.2.2.2.1.cell 0; have c2 := hSw.1.1; have c3 := hSw.1.2; go_simp; (try simp only [wr1]); try with_reducible rfl)
      try simp only [List.getElem_toArray, List.getElem_cons_succ, List.getElem_cons_zero, Act.put, List.setIfInBounds_toArray, List.set_cons_zero, List.set_cons_succ]
      refine wpAnyH_take (i := 13) (v := ?v13_14) rfl (by kernel_rfl) (by kernel_rfl) (by kernel_rfl) (fun _ _ _ h => h) (Or.inl ⟨by rfl, ?y13_14⟩) hS ?_
      case y13_14 => (intro w hSw; have c0 : w.cell? ⟨_, 8, none⟩ = some (.int .u16 c.pc) := hSw.2.2.1.cell 8; have c1 := hSw.2.2.2.1.cell 0; have c2 := hSw.1.1; have c3 := hSw.1.2; go_simp; (try simp only [wr1]); try with_reducible rfl)
      try simp only [List.getElem_toArray, List.getElem_cons_succ, List.getElem_cons_zero, Act.put, List.setIfInBounds_toArray, List.set_cons_zero, List.set_cons_succ]
      refine wpAnyH_take (i := 14) (v := ?v14_15) rfl (by kernel_rfl) (by kernel_rfl) (by kernel_rfl) (fun _ _ _ h => h) (Or.inl ⟨by rfl, ?y14_15⟩) hS ?_
      case y14_15 => (intro w hSw; have c0 : w.cell? ⟨_, 8, none⟩ = some (.int .u16 c.pc) := hSw.2.2.1.cell 8; have c1 := hSw.2.2.2.1.cell 0; have c2 := hSw.1.1; have c3 := hSw.1.2; go_simp; (try simp only [wr1]); try with_reducible rfl)
      try simp only [List.getElem_toArray, List.getElem_cons_succ, List.getElem_cons_zero, Act.put, List.setIfInBounds_toArray, List.set_cons_zero, List.set_cons_succ]
      refine wpAnyH_take (i := 15) (v := ?v15_16) rfl (by kernel_rfl) (by kernel_rfl) (by kernel_rfl) (fun _ _ _ h => h) (Or.inl ⟨by rfl, ?y15_16⟩) hS ?_
      case y15_16 => (intro w hSw; have c0 : w.cell? ⟨_, 8, none⟩ = some (.int .u16 c.pc) := hSw.2.2.1.cell 8; have c1 := hSw.2.2.2.1.cell 0; have c2 := hSw.1.1; have c3 := hSw.1.2; go_simp; (try simp only [wr1]); try with_reducible rfl)
      try simp only [List.getElem_toArray, List.getElem_cons_succ, List.getElem_cons_zero, Act.put, List.setIfInBounds_toArray, List.set_cons_zero, List.set_cons_succ]
      refine wpAnyH_take (i := 16) (v := ?v16_17) rfl (by kernel_rfl) (by kernel_rfl) (by kernel_rfl) (fun _ _ _ h => h) (Or.inl ⟨by rfl, ?y16_17⟩) hS ?_
      case y16_17 => (intro w hSw; have c0 : w.cell? ⟨_, 8, none⟩ = some (.int .u16 c.pc) := hSw.2.2.1.cell 8; have c1 := hSw.2.2.2.1.cell 0; have c2 := hSw.1.1; have c3 := hSw.1.2; go_simp; (try simp only [wr1]); try with_reducible rfl)
      try simp only [List.getElem_toArray, List.getElem_cons_succ, List.getElem_cons_zero, Act.put, List.setIfInBounds_toArray, List.set_cons_zero, List.set_cons_succ]
      refine wpAnyH_ready (rs := [17, 21]) (by kernel_rfl) (by simp) ?_
      refine AllReadyH.cons rfl (fun K hK => ?_) (AllReadyH.cons rfl (fun K hK => ?_) AllReadyH.nil)
      · go_simp
        refine (RD.out _).mono ?_
        rintro e w6 ⟨rfl, hb6⟩
        try go_wp2_with fail
        refine hK.out _ _ ⟨⟨(hb6.cell (p := ⟨b1, off1 + n0, none⟩) (by show b1 < w4.heap.size; omega)).trans hS.1.1, (hb6.cell (p := ⟨b1, off1 + n1, none⟩) (by show b1 < w4.heap.size; omega)).trans hS.1.2⟩, ⟨below_then hS.2.1.1 hb6, below_then hS.2.1.2 hb6⟩, hS.2.2.1.below hb6, hS.2.2.2.1.below hb6, hS.2.2.2.2.below hb6⟩ (fun hS => ?_)
        clear hK K
        try simp only [List.getElem_toArray, List.getElem_cons_succ, List.getElem_cons_zero, Act.put, List.setIfInBounds_toArray, List.set_cons_zero, List.set_cons_succ]
        refine wpAnyH_take (i := 18) (v := ?v18_18) rfl (by kernel_rfl) (by kernel_rfl) (by kernel_rfl) (fun _ _ _ h => h) (Or.inl ⟨by rfl, ?y18_18⟩) hS ?_
        case y18_18 => (intro w hSw; have c0 : w.cell? ⟨_, 8, none⟩ = some (.int .u16 c.pc) := hSw.2.2.1.cell 8; have c1 := hSw.2.2.2.1.cell 0; have c2 := hSw.1.1; have c3 := hSw.1.2; go_simp; (try simp only [wr1]); try with_reducible rfl)
        try simp only [List.getElem_toArray, List.getElem_cons_succ, List.getElem_cons_zero, Act.put, List.setIfInBounds_toArray, List.set_cons_zero, List.set_cons_succ]
        refine wpAnyH_take (i := 19) (v := ?v19_19) rfl (by kernel_rfl) (by kernel_rfl) (by kernel_rfl) (fun _ _ _ h => h) (Or.inl ⟨by rfl, ?y19_19⟩) hS ?_
        case y19_19 => (intro w hSw; have c0 : w.cell? ⟨_, 8, none⟩ = some (.int .u16 c.pc) := hSw.2.2.1.cell 8; have c1 := hSw.2.2.2.1.cell 0; have c2 := hSw.1.1; have c3 := hSw.1.2; go_simp; (try simp only [wr1]); try with_reducible rfl)
        try simp only [List.getElem_toArray, List.getElem_cons_succ, List.getElem_cons_zero, Act.put, List.setIfInBounds_toArray, List.set_cons_zero, List.set_cons_succ]
        refine wpAnyH_take (i := 20) (v := ?v20_20) rfl (by kernel_rfl) (by kernel_rfl) (by kernel_rfl) (fun _ _ _ h => h) (Or.inl ⟨by rfl, ?y20_20⟩) hS ?_
        case y20_20 => (intro w hSw; have c0 : w.cell? ⟨_, 8, none⟩ = some (.int .u16 c.pc) := hSw.2.2.1.cell 8; have c1 := hSw.2.2.2.1.cell 0; have c2 := hSw.1.1; have c3 := hSw.1.2; go_simp; (try simp only [wr1]); try with_reducible rfl)
        try simp only [List.getElem_toArray, List.getElem_cons_succ, List.getElem_cons_zero, Act.put, List.setIfInBounds_toArray, List.set_cons_zero, List.set_cons_succ]
        refine wpAnyH_ready (rs := [21]) (by kernel_rfl) (by simp) (AllReadyH.cons rfl (fun K hK => ?_) AllReadyH.nil)
        go_simp
        obtain ⟨g, eg⟩ : ∃ g, g = w6.heap.size := ⟨_, rfl⟩
        have hg : w4.heap.size ≤ g := by have h6 := hb6.size; simp at h6; omega
        refine hK.out _ _ ⟨⟨(World.cell?_alloc_lt _ _ _ (by show b1 < w6.heap.size; have h6 := hb6.size; simp at h6; omega)).trans hS.1.1, (World.cell?_alloc_lt _ _ _ (by show b1 < w6.heap.size; have h6 := hb6.size; simp at h6; omega)).trans hS.1.2⟩, ⟨below_alloc hS.2.1.1 _, below_alloc hS.2.1.2 _⟩, hS.2.2.1.alloc _, hS.2.2.2.1.alloc _, hS.2.2.2.2.alloc _⟩ (fun hS => ?_)
        have a7 : Hid (Blk (w6.alloc (.cells #[.int .i64 0, .int .i64 0, .int .i64 0, .int .i64 0, .int .i64 0] 43)) g #[.int .i64 0, .int .i64 0, .int .i64 0, .int .i64 0, .int .i64 0] 43) := Lib.hid (Blk.new_at _ _ _ _ eg)
        rw [← eg]
        clear eg
        clear hK K
        try simp only [List.getElem_toArray, List.getElem_cons_succ, List.getElem_cons_zero, Act.put, List.setIfInBounds_toArray, List.set_cons_zero, List.set_cons_succ]
        refine wpAnyH_ready (rs := [22]) (by kernel_rfl) (by simp) (AllReadyH.cons rfl (fun K hK => ?_) AllReadyH.nil)
        rw [if_pos (by rfl)]
        refine wp_store_row 43 (.tmp 11) (.tmp 113) rfl g #[.int .i64 op, .int .i64 od, .int .i64 os, .int .i64 on, .int .i64 ow] rfl rfl 43 #[.int .i64 0, .int .i64 0, .int .i64 0, .int .i64 0, .int .i64 0] a7.out (by kernel_rfl) rfl (by simp [Value.oneCell']) ?_
        have K7 := Lib.hid (setRow_heap _ g _ #[.int .i64 op, .int .i64 od, .int .i64 os, .int .i64 on, .int .i64 ow] 43 (0, 0) a7.out)
        refine hK.out _ _ ⟨⟨((put_setRow _ g #[.int .i64 op, .int .i64 od, .int .i64 os, .int .i64 on, .int .i64 ow]).below.cell (p := ⟨b1, off1 + n0, none⟩) (by simp; omega)).trans hS.1.1, ((put_setRow _ g #[.int .i64 op, .int .i64 od, .int .i64 os, .int .i64 on, .int .i64 ow]).below.cell (p := ⟨b1, off1 + n1, none⟩) (by simp; omega)).trans hS.1.2⟩, ⟨below_put hS.2.1.1 (put_setRow _ g _) (by omega), below_put hS.2.1.2 (put_setRow _ g _) (by omega)⟩, hS.2.2.1.put (put_setRow _ g _) (by omega), hS.2.2.2.1.put (put_setRow _ g _) (by omega), hS.2.2.2.2.put (put_setRow _ g _) (by omega)⟩ (fun hS => ?_)
        clear hK K
        try simp only [List.getElem_toArray, List.getElem_cons_succ, List.getElem_cons_zero, Act.put, List.setIfInBounds_toArray, List.set_cons_zero, List.set_cons_succ]
        refine wpAnyH_take (i := 23) (v := ?v23_21) rfl (by kernel_rfl) (by kernel_rfl) (by kernel_rfl) (fun _ _ _ h => h) (Or.inl ⟨by rfl, ?y23_21⟩) hS ?_
        case y23_21 => (intro w hSw; have c0 : w.cell? ⟨_, 8, none⟩ = some (.int .u16 c.pc) := hSw.2.2.1.cell 8; have c1 := hSw.2.2.2.1.cell 0; have c2 := hSw.1.1; have c3 := hSw.1.2; go_simp; (try simp only [wr1]); try with_reducible rfl)
        try simp only [List.getElem_toArray, List.getElem_cons_succ, List.getElem_cons_zero, Act.put, List.setIfInBounds_toArray, List.set_cons_zero, List.set_cons_succ]
        refine wpAnyH_done (by kernel_rfl) ?_ _
        refine pmark1 (R := fun Z => (Below w.heap.size w Z ∧ Below w1.heap.size w1 Z) ∧ Hid (Blk Z (w.heap.size + 1) #[.slice (some ⟨b1, off1, none⟩) m.rom.length k1, .slice a2 m.ram.length k2] 24) ∧ Hid (Blk Z (w1.heap.size + 1) #[u1, .slice a4 X.length k4] 24) ∧ Hid (Blk Z g #[.int .i64 op, .int .i64 od, .int .i64 os, .int .i64 on, .int .i64 ow] 43)) (F := fun Z => Exit.then _ _ Exit.normal _ Z) ⟨hS.2.1, Lib.hid hS.2.2.2.1, Lib.hid hS.2.2.2.2, K7⟩ ?_
        clear hS K7 a7
        try clear hb6
        intro W hR
        exact hk g W ⟨hg, hR⟩
      · go_simp
        obtain ⟨g, eg⟩ : ∃ g, g = w4.heap.size := ⟨_, rfl⟩
        have hg : w4.heap.size ≤ g := by omega
        refine hK.out _ _ ⟨⟨(World.cell?_alloc_lt _ _ _ (by show b1 < w4.heap.size; omega)).trans hS.1.1, (World.cell?_alloc_lt _ _ _ (by show b1 < w4.heap.size; omega)).trans hS.1.2⟩, ⟨below_alloc hS.2.1.1 _, below_alloc hS.2.1.2 _⟩, hS.2.2.1.alloc _, hS.2.2.2.1.alloc _, hS.2.2.2.2.alloc _⟩ (fun hS => ?_)
        have a7 : Hid (Blk ((w4.alloc (.cells #[.int .i64 0, .int .i64 0, .int .i64 0, .int .i64 0, .int .i64 0] 43)).drew) g #[.int .i64 0, .int .i64 0, .int .i64 0, .int .i64 0, .int .i64 0] 43) := Lib.hid (Blk.drew (Blk.new_at _ _ _ _ eg))
        rw [← eg]
        clear eg
        clear hK K
        try simp only [List.getElem_toArray, List.getElem_cons_succ, List.getElem_cons_zero, Act.put, List.setIfInBounds_toArray, List.set_cons_zero, List.set_cons_succ]
        refine wpAnyH_ready (rs := [17]) (by kernel_rfl) (by simp) (AllReadyH.cons rfl (fun K hK => ?_) AllReadyH.nil)
        go_simp
        refine (RD.out _).mono ?_
        rintro e w6 ⟨rfl, hb6⟩
        try go_wp2_with fail
        refine hK.out _ _ ⟨⟨(hb6.cell (p := ⟨b1, off1 + n0, none⟩) (by simp; omega)).trans hS.1.1, (hb6.cell (p := ⟨b1, off1 + n1, none⟩) (by simp; omega)).trans hS.1.2⟩, ⟨below_then hS.2.1.1 hb6, below_then hS.2.1.2 hb6⟩, hS.2.2.1.below hb6, hS.2.2.2.1.below hb6, hS.2.2.2.2.below hb6⟩ (fun hS => ?_)
        replace a7 := Lib.hid (a7.out.below hb6)
        clear hK K
        try simp only [List.getElem_toArray, List.getElem_cons_succ, List.getElem_cons_zero, Act.put, List.setIfInBounds_toArray, List.set_cons_zero, List.set_cons_succ]
        refine wpAnyH_take (i := 18) (v := ?v18_22) rfl (by kernel_rfl) (by kernel_rfl) (by kernel_rfl) (fun _ _ _ h => h) (Or.inl ⟨by rfl, ?y18_22⟩) hS ?_
        case y18_22 => (intro w hSw; have c0 : w.cell? ⟨_, 8, none⟩ = some (.int .u16 c.pc) := hSw.2.2.1.cell 8; have c1 := hSw.2.2.2.1.cell 0; have c2 := hSw.1.1; have c3 := hSw.1.2; go_simp; (try simp only [wr1]); try with_reducible rfl)
        try simp only [List.getElem_toArray, List.getElem_cons_succ, List.getElem_cons_zero, Act.put, List.setIfInBounds_toArray, List.set_cons_zero, List.set_cons_succ]
        refine wpAnyH_take (i := 19) (v := ?v19_23) rfl (by kernel_rfl) (by kernel_rfl) (by kernel_rfl) (fun _ _ _ h => h) (Or.inl ⟨by rfl, ?y19_23⟩) hS ?_
        case y19_23 => (intro w hSw; have c0 : w.cell? ⟨_, 8, none⟩ = some (.int .u16 c.pc) := hSw.2.2.1.cell 8; have c1 := hSw.2.2.2.1.cell 0; have c2 := hSw.1.1; have c3 := hSw.1.2; go_simp; (try simp only [wr1]); try with_reducible rfl)
        try simp only [List.getElem_toArray, List.getElem_cons_succ, List.getElem_cons_zero, Act.put, List.setIfInBounds_toArray, List.set_cons_zero, List.set_cons_succ]
        refine wpAnyH_take (i := 20) (v := ?v20_24) rfl (by kernel_rfl) (by kernel_rfl) (by kernel_rfl) (fun _ _ _ h => h) (Or.inl ⟨by rfl, ?y20_24⟩) hS ?_
        case y20_24 => (intro w hSw; have c0 : w.cell? ⟨_, 8, none⟩ = some (.int .u16 c.pc) := hSw.2.2.1.cell 8; have c1 := hSw.2.2.2.1.cell 0; have c2 := hSw.1.1; have c3 := hSw.1.2; go_simp; (try simp only [wr1]); try with_reducible rfl)
        try simp only [List.getElem_toArray, List.getElem_cons_succ, List.getElem_cons_zero, Act.put, List.setIfInBounds_toArray, List.set_cons_zero, List.set_cons_succ]
        refine wpAnyH_ready (rs := [22]) (by kernel_rfl) (by simp) (AllReadyH.cons rfl (fun K hK => ?_) AllReadyH.nil)
        rw [if_pos (by rfl)]
        refine wp_store_row 43 (.tmp 11) (.tmp 113) rfl g #[.int .i64 op, .int .i64 od, .int .i64 os, .int .i64 on, .int .i64 ow] rfl rfl 43 #[.int .i64 0, .int .i64 0, .int .i64 0, .int .i64 0, .int .i64 0] a7.out (by kernel_rfl) rfl (by simp [Value.oneCell']) ?_
        have K7 := Lib.hid (setRow_heap _ g _ #[.int .i64 op, .int .i64 od, .int .i64 os, .int .i64 on, .int .i64 ow] 43 (0, 0) a7.out)
        refine hK.out _ _ ⟨⟨((put_setRow _ g #[.int .i64 op, .int .i64 od, .int .i64 os, .int .i64 on, .int .i64 ow]).below.cell (p := ⟨b1, off1 + n0, none⟩) (by simp; omega)).trans hS.1.1, ((put_setRow _ g #[.int .i64 op, .int .i64 od, .int .i64 os, .int .i64 on, .int .i64 ow]).below.cell (p := ⟨b1, off1 + n1, none⟩) (by simp; omega)).trans hS.1.2⟩, ⟨below_put hS.2.1.1 (put_setRow _ g _) (by omega), below_put hS.2.1.2 (put_setRow _ g _) (by omega)⟩, hS.2.2.1.put (put_setRow _ g _) (by omega), hS.2.2.2.1.put (put_setRow _ g _) (by omega), hS.2.2.2.2.put (put_setRow _ g _) (by omega)⟩ (fun hS => ?_)
        clear hK K
        try simp only [List.getElem_toArray, List.getElem_cons_succ, List.getElem_cons_zero, Act.put, List.setIfInBounds_toArray, List.set_cons_zero, List.set_cons_succ]
        refine wpAnyH_take (i := 23) (v := ?v23_25) rfl (by kernel_rfl) (by kernel_rfl) (by kernel_rfl) (fun _ _ _ h => h) (Or.inl ⟨by rfl, ?y23_25⟩) hS ?_
        case y23_25 => (intro w hSw; have c0 : w.cell? ⟨_, 8, none⟩ = some (.int .u16 c.pc) := hSw.2.2.1.cell 8; have c1 := hSw.2.2.2.1.cell 0; have c2 := hSw.1.1; have c3 := hSw.1.2; go_simp; (try simp only [wr1]); try with_reducible rfl)
        try simp only [List.getElem_toArray, List.getElem_cons_succ, List.getElem_cons_zero, Act.put, List.setIfInBounds_toArray, List.set_cons_zero, List.set_cons_succ]
        refine wpAnyH_done (by kernel_rfl) ?_ _
        refine pmark1 (R := fun Z => (Below w.heap.size w Z ∧ Below w1.heap.size w1 Z) ∧ Hid (Blk Z (w.heap.size + 1) #[.slice (some ⟨b1, off1, none⟩) m.rom.length k1, .slice a2 m.ram.length k2] 24) ∧ Hid (Blk Z (w1.heap.size + 1) #[u1, .slice a4 X.length k4] 24) ∧ Hid (Blk Z g #[.int .i64 op, .int .i64 od, .int .i64 os, .int .i64 on, .int .i64 ow] 43)) (F := fun Z => Exit.then _ _ Exit.normal _ Z) ⟨hS.2.1, Lib.hid hS.2.2.2.1, Lib.hid hS.2.2.2.2, K7⟩ ?_
        clear hS K7 a7
        try clear hb6
        intro W hR
        exact hk g W ⟨hg, hR⟩
    intro g W ⟨hg, ⟨BW, BQ⟩, W2, W4, WG⟩
    obtain ⟨e41', e42', e21', e22', lg', eg0, lW2, lW4⟩ : W.cell? ⟨w1.heap.size + 1, 0, none⟩ = some u1 ∧ W.cell? ⟨w1.heap.size + 1, 1, none⟩ = some (.slice a4 X.length k4) ∧ W.cell? ⟨w.heap.size + 1, 0, none⟩ = some (.slice (some ⟨b1, off1, none⟩) m.rom.length k1) ∧ W.cell? ⟨w.heap.size + 1, 1, none⟩ = some (.slice a2 m.ram.length k2) ∧ g < W.heap.size ∧ W.cell? ⟨g, 0, none⟩ = some (.int .i64 op) ∧ w.heap.size + 1 < W.heap.size ∧ w1.heap.size + 1 < W.heap.size := ⟨W4.out.cell 0, W4.out.cell 1, W2.out.cell 0, W2.out.cell 1, WG.out.lt, WG.out.cell 0, W2.out.lt, W4.out.lt⟩
    clear e41 e42 e21 e22 e1m e1w e1p e3m e3w q0 q1 lk1 lk2 lk3 lk4
    by_cases hq4 : op = 4
    · subst hq4; go_wp2; go_ret; exact ⟨rfl, BW⟩
    by_cases hq6 : op = 6
    · subst hq6; go_wp2; go_ret; exact ⟨rfl, BW⟩
    by_cases hq22 : op = 22
    · subst hq22; go_wp2; go_ret; exact ⟨rfl, BW⟩
    by_cases hq20 : op = 20
    · subst hq20; go_wp2; go_ret; exact ⟨rfl, BW⟩
    by_cases hq31 : op = 31
    · subst hq31; go_wp2; go_ret; exact ⟨rfl, BW⟩
    have xm : X = m.ram := QM.out (by simp [wrO, hq4, hq6, hq22, hq20, hq31])
    have E2 := Lib.hid (bytesEqual_any (.slice a4 X.length k4) (.slice a2 m.ram.length k2) X m.ram W (Q2.out.below BQ) (H2.out.below BW))
    rw [show decide (X = m.ram) = true by simpa using xm] at E2
    clear xm
    go_wp2_with fail
    refine E2.out.mono ?_
    rintro e w9 ⟨rfl, rfl⟩
    go_wp2
    go_ret
    exact ⟨rfl, BW⟩
  · have hrg' : rings = false := by simpa using hrg
    subst hrg'
    clear hrg
    go_wp2_with fail
    apply gcut (fun g Z => w4.heap.size ≤ g ∧ (Below w.heap.size w Z ∧ Below w1.heap.size w1 Z) ∧ Hid (Blk Z (w.heap.size + 1) #[.slice (some ⟨b1, off1, none⟩) m.rom.length k1, .slice a2 m.ram.length k2] 24) ∧ Hid (Blk Z (w1.heap.size + 1) #[u1, .slice a4 X.length k4] 24) ∧ Hid (Blk Z g #[.int .i64 op, .int .i64 od, .int .i64 os, .int .i64 on, .int .i64 ow] 43))
    · intro hk
      refine wp_region_held_drew (S := fun W => (W.cell? ⟨b1, off1 + n0, none⟩ = some (.int .u8 x) ∧ W.cell? ⟨b1, off1 + n1, none⟩ = some (.int .u8 y)) ∧ (Below w.heap.size w W ∧ Below w1.heap.size w1 W) ∧ Blk W (w.heap.size) (cpuC c) 28 ∧ Blk W (w.heap.size + 1) #[.slice (some ⟨b1, off1, none⟩) m.rom.length k1, .slice a2 m.ram.length k2] 24 ∧ Blk W (w1.heap.size + 1) #[u1, .slice a4 X.length k4] 24) (by kernel_rfl) ⟨⟨q0, q1⟩, ⟨B4.drew, B14.drew⟩, L1.out.drew, L2.out.drew, L4.out.drew⟩ (fun hS => ?_)
      refine wpAnyH_take (i := 0) (v := ?v0_26) rfl (by kernel_rfl) (by kernel_rfl) (by kernel_rfl) (fun _ _ _ h => h) (Or.inl ⟨by rfl, ?y0_26⟩) hS ?_
      case y0_26 => (intro w hSw; have c0 : w.cell? ⟨_, 8, none⟩ = some (.int .u16 c.pc) := hSw.2.2.1.cell 8; have c1 := hSw.2.2.2.1.cell 0; have c2 := hSw.1.1; have c3 := hSw.1.2; go_simp; (try simp only [wr1]); try with_reducible rfl)
      try simp only [List.getElem_toArray, List.getElem_cons_succ, List.getElem_cons_zero, Act.put, List.setIfInBounds_toArray, List.set_cons_zero, List.set_cons_succ]
      refine wpAnyH_take (i := 1) (v := ?v1_27) rfl (by kernel_rfl) (by kernel_rfl) (by kernel_rfl) (fun _ _ _ h => h) (Or.inl ⟨by rfl, ?y1_27⟩) hS ?_
      case y1_27 => (intro w hSw; have c0 : w.cell? ⟨_, 8, none⟩ = some (.int .u16 c.pc) := hSw.2.2.1.cell 8; have c1 := hSw.2.2.2.1.cell 0; have c2 := hSw.1.1; have c3 := hSw.1.2; go_simp; (try simp only [wr1]); try with_reducible rfl)
      try simp only [List.getElem_toArray, List.getElem_cons_succ, List.getElem_cons_zero, Act.put, List.setIfInBounds_toArray, List.set_cons_zero, List.set_cons_succ]
      refine wpAnyH_take (i := 2) (v := ?v2_28) rfl (by kernel_rfl) (by kernel_rfl) (by kernel_rfl) (fun _ _ _ h => h) (Or.inl ⟨by rfl, ?y2_28⟩) hS ?_
      case y2_28 => (intro w hSw; have c0 : w.cell? ⟨_, 8, none⟩ = some (.int .u16 c.pc) := hSw.2.2.1.cell 8; have c1 := hSw.2.2.2.1.cell 0; have c2 := hSw.1.1; have c3 := hSw.1.2; go_simp; (try simp only [wr1]); try with_reducible rfl)
      try simp only [List.getElem_toArray, List.getElem_cons_succ, List.getElem_cons_zero, Act.put, List.setIfInBounds_toArray, List.set_cons_zero, List.set_cons_succ]
      refine wpAnyH_take (i := 3) (v := ?v3_29) rfl (by kernel_rfl) (by kernel_rfl) (by kernel_rfl) (fun _ _ _ h => h) (Or.inl ⟨by rfl, ?y3_29⟩) hS ?_
      case y3_29 => (intro w hSw; have c0 : w.cell? ⟨_, 8, none⟩ = some (.int .u16 c.pc) := hSw.2.2.1.cell 8; have c1 := hSw.2.2.2.1.cell 0; have c2 := hSw.1.1; have c3 := hSw.1.2; go_simp; (try simp only [wr1]); try with_reducible rfl)
      try simp only [List.getElem_toArray, List.getElem_cons_succ, List.getElem_cons_zero, Act.put, List.setIfInBounds_toArray, List.set_cons_zero, List.set_cons_succ]
      refine wpAnyH_take (i := 4) (v := ?v4_30) rfl (by kernel_rfl) (by kernel_rfl) (by kernel_rfl) (fun _ _ _ h => h) (Or.inl ⟨by rfl, ?y4_30⟩) hS ?_
      case y4_30 => (intro w hSw; have c0 : w.cell? ⟨_, 8, none⟩ = some (.int .u16 c.pc) := hSw.2.2.1.cell 8; have c1 := hSw.2.2.2.1.cell 0; have c2 := hSw.1.1; have c3 := hSw.1.2; go_simp; (try simp only [wr1]); try with_reducible rfl)
      try simp only [List.getElem_toArray, List.getElem_cons_succ, List.getElem_cons_zero, Act.put, List.setIfInBounds_toArray, List.set_cons_zero, List.set_cons_succ]
      refine wpAnyH_take (i := 5) (v := ?v5_31) rfl (by kernel_rfl) (by kernel_rfl) (by kernel_rfl) (fun _ _ _ h => h) (Or.inl ⟨by rfl, ?y5_31⟩) hS ?_
      case y5_31 => (intro w hSw; have c0 : w.cell? ⟨_, 8, none⟩ = some (.int .u16 c.pc) := hSw.2.2.1.cell 8; have c1 := hSw.2.2.2.1.cell 0; have c2 := hSw.1.1; have c3 := hSw.1.2; go_simp; (try simp only [wr1]); try with_reducible rfl)
      try simp only [List.getElem_toArray, List.getElem_cons_succ, List.getElem_cons_zero, Act.put, List.setIfInBounds_toArray, List.set_cons_zero, List.set_cons_succ]
      refine wpAnyH_take (i := 6) (v := ?v6_32) rfl (by kernel_rfl) (by kernel_rfl) (by kernel_rfl) (fun _ _ _ h => h) (Or.inl ⟨by rfl, ?y6_32⟩) hS ?_
      case y6_32 => (intro w hSw; have c0 : w.cell? ⟨_, 8, none⟩ = some (.int .u16 c.pc) := hSw.2.2.1.cell 8; have c1 := hSw.2.2.2.1.cell 0; have c2 := hSw.1.1; have c3 := hSw.1.2; go_simp; (try simp only [wr1]); try with_reducible rfl)
      try simp only [List.getElem_toArray, List.getElem_cons_succ, List.getElem_cons_zero, Act.put, List.setIfInBounds_toArray, List.set_cons_zero, List.set_cons_succ]
      refine wpAnyH_take (i := 7) (v := ?v7_33) rfl (by kernel_rfl) (by kernel_rfl) (by kernel_rfl) (fun _ _ _ h => h) (Or.inl ⟨by rfl, ?y7_33⟩) hS ?_
      case y7_33 => (intro w hSw; have c0 : w.cell? ⟨_, 8, none⟩ = some (.int .u16 c.pc) := hSw.2.2.1.cell 8; have c1 := hSw.2.2.2.1.cell 0; have c2 := hSw.1.1; have c3 := hSw.1.2; go_simp; (try simp only [wr1]); try with_reducible rfl)
      try simp only [List.getElem_toArray, List.getElem_cons_succ, List.getElem_cons_zero, Act.put, List.setIfInBounds_toArray, List.set_cons_zero, List.set_cons_succ]
      refine wpAnyH_take (i := 8) (v := ?v8_34) rfl (by kernel_rfl) (by kernel_rfl) (by kernel_rfl) (fun _ _ _ h => h) (Or.inl ⟨by rfl, ?y8_34⟩) hS ?_
      case y8_34 => (intro w hSw; have c0 : w.cell? ⟨_, 8, none⟩ = some (.int .u16 c.pc) := hSw.2.2.1.cell 8; have c1 := hSw.2.2.2.1.cell 0; have c2 := hSw.1.1; have c3 := hSw.1.2; go_simp; (try simp only [wr1]); try with_reducible rfl)
      try simp only [List.getElem_toArray, List.getElem_cons_succ, List.getElem_cons_zero, Act.put, List.setIfInBounds_toArray, List.set_cons_zero, List.set_cons_succ]
      refine wpAnyH_take (i := 9) (v := ?v9_35) rfl (by kernel_rfl) (by kernel_rfl) (by kernel_rfl) (fun _ _ _ h => h) (Or.inl ⟨by rfl, ?y9_35⟩) hS ?_
      case y9_35 => (intro w hSw; have c0 : w.cell? ⟨_, 8, none⟩ = some (.int .u16 c.pc) := hSw.2.2.1.cell 8; have c1 := hSw.2.2.2.1.cell 0; have c2 := hSw.1.1; have c3 := hSw.1.2; go_simp; (try simp only [wr1]); try with_reducible rfl)
      try simp only [List.getElem_toArray, List.getElem_cons_succ, List.getElem_cons_zero, Act.put, List.setIfInBounds_toArray, List.set_cons_zero, List.set_cons_succ]
      refine wpAnyH_take (i := 10) (v := ?v10_36) rfl (by kernel_rfl) (by kernel_rfl) (by kernel_rfl) (fun _ _ _ h => h) (Or.inl ⟨by rfl, ?y10_36⟩) hS ?_
      case y10_36 => (intro w hSw; have c0 : w.cell? ⟨_, 8, none⟩ = some (.int .u16 c.pc) := hSw.2.2.1.cell 8; have c1 := hSw.2.2.2.1.cell 0; have c2 := hSw.1.1; have c3 := hSw.1.2; go_simp; (try simp only [wr1]); try with_reducible rfl)
      try simp only [List.getElem_toArray, List.getElem_cons_succ, List.getElem_cons_zero, Act.put, List.setIfInBounds_toArray, List.set_cons_zero, List.set_cons_succ]
      refine wpAnyH_take (i := 11) (v := ?v11_37) rfl (by kernel_rfl) (by kernel_rfl) (by kernel_rfl) (fun _ _ _ h => h) (Or.inl ⟨by rfl, ?y11_37⟩) hS ?_
      case y11_37 => (intro w hSw; have c0 : w.cell? ⟨_, 8, none⟩ = some (.int .u16 c.pc) := hSw.2.2.1.cell 8; have c1 := hSw.2.2.2.1.cell 0; have c2 := hSw.1.1; have c3 := hSw.1.2; go_simp; (try simp only [wr1]); try with_reducible rfl)
      try simp only [List.getElem_toArray, List.getElem_cons_succ, List.getElem_cons_zero, Act.put, List.setIfInBounds_toArray, List.set_cons_zero, List.set_cons_succ]
      refine wpAnyH_take (i := 12) (v := ?v12_38) rfl (by kernel_rfl) (by kernel_rfl) (by kernel_rfl) (fun _ _ _ h => h) (Or.inl ⟨by rfl, ?y12_38⟩) hS ?_
      case y12_38 => (intro w hSw; have c0 : w.cell? ⟨_, 8, none⟩ = some (.int .u16 c.pc) := hSw.2.2.1.cell 8; have c1 := hSw.2.2.2.1.cell 0; have c2 := hSw.1.1; have c3 := hSw.1.2; go_simp; (try simp only [wr1]); try with_reducible rfl)
      try simp only [List.getElem_toArray, List.getElem_cons_succ, List.getElem_cons_zero, Act.put, List.setIfInBounds_toArray, List.set_cons_zero, List.set_cons_succ]
      refine wpAnyH_take (i := 13) (v := ?v13_39) rfl (by kernel_rfl) (by kernel_rfl) (by kernel_rfl) (fun _ _ _ h => h) (Or.inl ⟨by rfl, ?y13_39⟩) hS ?_
      case y13_39 => (intro w hSw; have c0 : w.cell? ⟨_, 8, none⟩ = some (.int .u16 c.pc) := hSw.2.2.1.cell 8; have c1 := hSw.2.2.2.1.cell 0; have c2 := hSw.1.1; have c3 := hSw.1.2; go_simp; (try simp only [wr1]); try with_reducible rfl)
      try simp only [List.getElem_toArray, List.getElem_cons_succ, List.getElem_cons_zero, Act.put, List.setIfInBounds_toArray, List.set_cons_zero, List.set_cons_succ]
      refine wpAnyH_take (i := 14) (v := ?v14_40) rfl (by kernel_rfl) (by kernel_rfl) (by kernel_rfl) (fun _ _ _ h => h) (Or.inl ⟨by rfl, ?y14_40⟩) hS ?_
      case y14_40 => (intro w hSw; have c0 : w.cell? ⟨_, 8, none⟩ = some (.int .u16 c.pc) := hSw.2.2.1.cell 8; have c1 := hSw.2.2.2.1.cell 0; have c2 := hSw.1.1; have c3 := hSw.1.2; go_simp; (try simp only [wr1]); try with_reducible rfl)
      try simp only [List.getElem_toArray, List.getElem_cons_succ, List.getElem_cons_zero, Act.put, List.setIfInBounds_toArray, List.set_cons_zero, List.set_cons_succ]
      refine wpAnyH_take (i := 15) (v := ?v15_41) rfl (by kernel_rfl) (by kernel_rfl) (by kernel_rfl) (fun _ _ _ h => h) (Or.inl ⟨by rfl, ?y15_41⟩) hS ?_
      case y15_41 => (intro w hSw; have c0 : w.cell? ⟨_, 8, none⟩ = some (.int .u16 c.pc) := hSw.2.2.1.cell 8; have c1 := hSw.2.2.2.1.cell 0; have c2 := hSw.1.1; have c3 := hSw.1.2; go_simp; (try simp only [wr1]); try with_reducible rfl)
      try simp only [List.getElem_toArray, List.getElem_cons_succ, List.getElem_cons_zero, Act.put, List.setIfInBounds_toArray, List.set_cons_zero, List.set_cons_succ]
      refine wpAnyH_take (i := 16) (v := ?v16_42) rfl (by kernel_rfl) (by kernel_rfl) (by kernel_rfl) (fun _ _ _ h => h) (Or.inl ⟨by rfl, ?y16_42⟩) hS ?_
      case y16_42 => (intro w hSw; have c0 : w.cell? ⟨_, 8, none⟩ = some (.int .u16 c.pc) := hSw.2.2.1.cell 8; have c1 := hSw.2.2.2.1.cell 0; have c2 := hSw.1.1; have c3 := hSw.1.2; go_simp; (try simp only [wr1]); try with_reducible rfl)
      try simp only [List.getElem_toArray, List.getElem_cons_succ, List.getElem_cons_zero, Act.put, List.setIfInBounds_toArray, List.set_cons_zero, List.set_cons_succ]
      refine wpAnyH_ready (rs := [17, 21]) (by kernel_rfl) (by simp) ?_
      refine AllReadyH.cons rfl (fun K hK => ?_) (AllReadyH.cons rfl (fun K hK => ?_) AllReadyH.nil)
      · go_simp
        refine (RD.out _).mono ?_
        rintro e w6 ⟨rfl, hb6⟩
        try go_wp2_with fail
        refine hK.out _ _ ⟨⟨(hb6.cell (p := ⟨b1, off1 + n0, none⟩) (by show b1 < w4.heap.size; omega)).trans hS.1.1, (hb6.cell (p := ⟨b1, off1 + n1, none⟩) (by show b1 < w4.heap.size; omega)).trans hS.1.2⟩, ⟨below_then hS.2.1.1 hb6, below_then hS.2.1.2 hb6⟩, hS.2.2.1.below hb6, hS.2.2.2.1.below hb6, hS.2.2.2.2.below hb6⟩ (fun hS => ?_)
        clear hK K
        try simp only [List.getElem_toArray, List.getElem_cons_succ, List.getElem_cons_zero, Act.put, List.setIfInBounds_toArray, List.set_cons_zero, List.set_cons_succ]
        refine wpAnyH_take (i := 18) (v := ?v18_43) rfl (by kernel_rfl) (by kernel_rfl) (by kernel_rfl) (fun _ _ _ h => h) (Or.inl ⟨by rfl, ?y18_43⟩) hS ?_
        case y18_43 => (intro w hSw; have c0 : w.cell? ⟨_, 8, none⟩ = some (.int .u16 c.pc) := hSw.2.2.1.cell 8; have c1 := hSw.2.2.2.1.cell 0; have c2 := hSw.1.1; have c3 := hSw.1.2; go_simp; (try simp only [wr1]); try with_reducible rfl)
        try simp only [List.getElem_toArray, List.getElem_cons_succ, List.getElem_cons_zero, Act.put, List.setIfInBounds_toArray, List.set_cons_zero, List.set_cons_succ]
        refine wpAnyH_take (i := 19) (v := ?v19_44) rfl (by kernel_rfl) (by kernel_rfl) (by kernel_rfl) (fun _ _ _ h => h) (Or.inl ⟨by rfl, ?y19_44⟩) hS ?_
        case y19_44 => (intro w hSw; have c0 : w.cell? ⟨_, 8, none⟩ = some (.int .u16 c.pc) := hSw.2.2.1.cell 8; have c1 := hSw.2.2.2.1.cell 0; have c2 := hSw.1.1; have c3 := hSw.1.2; go_simp; (try simp only [wr1]); try with_reducible rfl)
        try simp only [List.getElem_toArray, List.getElem_cons_succ, List.getElem_cons_zero, Act.put, List.setIfInBounds_toArray, List.set_cons_zero, List.set_cons_succ]
        refine wpAnyH_take (i := 20) (v := ?v20_45) rfl (by kernel_rfl) (by kernel_rfl) (by kernel_rfl) (fun _ _ _ h => h) (Or.inl ⟨by rfl, ?y20_45⟩) hS ?_
        case y20_45 => (intro w hSw; have c0 : w.cell? ⟨_, 8, none⟩ = some (.int .u16 c.pc) := hSw.2.2.1.cell 8; have c1 := hSw.2.2.2.1.cell 0; have c2 := hSw.1.1; have c3 := hSw.1.2; go_simp; (try simp only [wr1]); try with_reducible rfl)
        try simp only [List.getElem_toArray, List.getElem_cons_succ, List.getElem_cons_zero, Act.put, List.setIfInBounds_toArray, List.set_cons_zero, List.set_cons_succ]
        refine wpAnyH_ready (rs := [21]) (by kernel_rfl) (by simp) (AllReadyH.cons rfl (fun K hK => ?_) AllReadyH.nil)
        go_simp
        obtain ⟨g, eg⟩ : ∃ g, g = w6.heap.size := ⟨_, rfl⟩
        have hg : w4.heap.size ≤ g := by have h6 := hb6.size; simp at h6; omega
        refine hK.out _ _ ⟨⟨(World.cell?_alloc_lt _ _ _ (by show b1 < w6.heap.size; have h6 := hb6.size; simp at h6; omega)).trans hS.1.1, (World.cell?_alloc_lt _ _ _ (by show b1 < w6.heap.size; have h6 := hb6.size; simp at h6; omega)).trans hS.1.2⟩, ⟨below_alloc hS.2.1.1 _, below_alloc hS.2.1.2 _⟩, hS.2.2.1.alloc _, hS.2.2.2.1.alloc _, hS.2.2.2.2.alloc _⟩ (fun hS => ?_)
        have a7 : Hid (Blk (w6.alloc (.cells #[.int .i64 0, .int .i64 0, .int .i64 0, .int .i64 0, .int .i64 0] 43)) g #[.int .i64 0, .int .i64 0, .int .i64 0, .int .i64 0, .int .i64 0] 43) := Lib.hid (Blk.new_at _ _ _ _ eg)
        rw [← eg]
        clear eg
        clear hK K
        try simp only [List.getElem_toArray, List.getElem_cons_succ, List.getElem_cons_zero, Act.put, List.setIfInBounds_toArray, List.set_cons_zero, List.set_cons_succ]
        refine wpAnyH_ready (rs := [22]) (by kernel_rfl) (by simp) (AllReadyH.cons rfl (fun K hK => ?_) AllReadyH.nil)
        rw [if_pos (by rfl)]
        refine wp_store_row 43 (.tmp 11) (.tmp 113) rfl g #[.int .i64 op, .int .i64 od, .int .i64 os, .int .i64 on, .int .i64 ow] rfl rfl 43 #[.int .i64 0, .int .i64 0, .int .i64 0, .int .i64 0, .int .i64 0] a7.out (by kernel_rfl) rfl (by simp [Value.oneCell']) ?_
        have K7 := Lib.hid (setRow_heap _ g _ #[.int .i64 op, .int .i64 od, .int .i64 os, .int .i64 on, .int .i64 ow] 43 (0, 0) a7.out)
        refine hK.out _ _ ⟨⟨((put_setRow _ g #[.int .i64 op, .int .i64 od, .int .i64 os, .int .i64 on, .int .i64 ow]).below.cell (p := ⟨b1, off1 + n0, none⟩) (by simp; omega)).trans hS.1.1, ((put_setRow _ g #[.int .i64 op, .int .i64 od, .int .i64 os, .int .i64 on, .int .i64 ow]).below.cell (p := ⟨b1, off1 + n1, none⟩) (by simp; omega)).trans hS.1.2⟩, ⟨below_put hS.2.1.1 (put_setRow _ g _) (by omega), below_put hS.2.1.2 (put_setRow _ g _) (by omega)⟩, hS.2.2.1.put (put_setRow _ g _) (by omega), hS.2.2.2.1.put (put_setRow _ g _) (by omega), hS.2.2.2.2.put (put_setRow _ g _) (by omega)⟩ (fun hS => ?_)
        clear hK K
        try simp only [List.getElem_toArray, List.getElem_cons_succ, List.getElem_cons_zero, Act.put, List.setIfInBounds_toArray, List.set_cons_zero, List.set_cons_succ]
        refine wpAnyH_take (i := 23) (v := ?v23_46) rfl (by kernel_rfl) (by kernel_rfl) (by kernel_rfl) (fun _ _ _ h => h) (Or.inl ⟨by rfl, ?y23_46⟩) hS ?_
        case y23_46 => (intro w hSw; have c0 : w.cell? ⟨_, 8, none⟩ = some (.int .u16 c.pc) := hSw.2.2.1.cell 8; have c1 := hSw.2.2.2.1.cell 0; have c2 := hSw.1.1; have c3 := hSw.1.2; go_simp; (try simp only [wr1]); try with_reducible rfl)
        try simp only [List.getElem_toArray, List.getElem_cons_succ, List.getElem_cons_zero, Act.put, List.setIfInBounds_toArray, List.set_cons_zero, List.set_cons_succ]
        refine wpAnyH_done (by kernel_rfl) ?_ _
        refine pmark1 (R := fun Z => (Below w.heap.size w Z ∧ Below w1.heap.size w1 Z) ∧ Hid (Blk Z (w.heap.size + 1) #[.slice (some ⟨b1, off1, none⟩) m.rom.length k1, .slice a2 m.ram.length k2] 24) ∧ Hid (Blk Z (w1.heap.size + 1) #[u1, .slice a4 X.length k4] 24) ∧ Hid (Blk Z g #[.int .i64 op, .int .i64 od, .int .i64 os, .int .i64 on, .int .i64 ow] 43)) (F := fun Z => Exit.then _ _ Exit.normal _ Z) ⟨hS.2.1, Lib.hid hS.2.2.2.1, Lib.hid hS.2.2.2.2, K7⟩ ?_
        clear hS K7 a7
        try clear hb6
        intro W hR
        exact hk g W ⟨hg, hR⟩
      · go_simp
        obtain ⟨g, eg⟩ : ∃ g, g = w4.heap.size := ⟨_, rfl⟩
        have hg : w4.heap.size ≤ g := by omega
        refine hK.out _ _ ⟨⟨(World.cell?_alloc_lt _ _ _ (by show b1 < w4.heap.size; omega)).trans hS.1.1, (World.cell?_alloc_lt _ _ _ (by show b1 < w4.heap.size; omega)).trans hS.1.2⟩, ⟨below_alloc hS.2.1.1 _, below_alloc hS.2.1.2 _⟩, hS.2.2.1.alloc _, hS.2.2.2.1.alloc _, hS.2.2.2.2.alloc _⟩ (fun hS => ?_)
        have a7 : Hid (Blk ((w4.alloc (.cells #[.int .i64 0, .int .i64 0, .int .i64 0, .int .i64 0, .int .i64 0] 43)).drew) g #[.int .i64 0, .int .i64 0, .int .i64 0, .int .i64 0, .int .i64 0] 43) := Lib.hid (Blk.drew (Blk.new_at _ _ _ _ eg))
        rw [← eg]
        clear eg
        clear hK K
        try simp only [List.getElem_toArray, List.getElem_cons_succ, List.getElem_cons_zero, Act.put, List.setIfInBounds_toArray, List.set_cons_zero, List.set_cons_succ]
        refine wpAnyH_ready (rs := [17]) (by kernel_rfl) (by simp) (AllReadyH.cons rfl (fun K hK => ?_) AllReadyH.nil)
        go_simp
        refine (RD.out _).mono ?_
        rintro e w6 ⟨rfl, hb6⟩
        try go_wp2_with fail
        refine hK.out _ _ ⟨⟨(hb6.cell (p := ⟨b1, off1 + n0, none⟩) (by simp; omega)).trans hS.1.1, (hb6.cell (p := ⟨b1, off1 + n1, none⟩) (by simp; omega)).trans hS.1.2⟩, ⟨below_then hS.2.1.1 hb6, below_then hS.2.1.2 hb6⟩, hS.2.2.1.below hb6, hS.2.2.2.1.below hb6, hS.2.2.2.2.below hb6⟩ (fun hS => ?_)
        replace a7 := Lib.hid (a7.out.below hb6)
        clear hK K
        try simp only [List.getElem_toArray, List.getElem_cons_succ, List.getElem_cons_zero, Act.put, List.setIfInBounds_toArray, List.set_cons_zero, List.set_cons_succ]
        refine wpAnyH_take (i := 18) (v := ?v18_47) rfl (by kernel_rfl) (by kernel_rfl) (by kernel_rfl) (fun _ _ _ h => h) (Or.inl ⟨by rfl, ?y18_47⟩) hS ?_
        case y18_47 => (intro w hSw; have c0 : w.cell? ⟨_, 8, none⟩ = some (.int .u16 c.pc) := hSw.2.2.1.cell 8; have c1 := hSw.2.2.2.1.cell 0; have c2 := hSw.1.1; have c3 := hSw.1.2; go_simp; (try simp only [wr1]); try with_reducible rfl)
        try simp only [List.getElem_toArray, List.getElem_cons_succ, List.getElem_cons_zero, Act.put, List.setIfInBounds_toArray, List.set_cons_zero, List.set_cons_succ]
        refine wpAnyH_take (i := 19) (v := ?v19_48) rfl (by kernel_rfl) (by kernel_rfl) (by kernel_rfl) (fun _ _ _ h => h) (Or.inl ⟨by rfl, ?y19_48⟩) hS ?_
        case y19_48 => (intro w hSw; have c0 : w.cell? ⟨_, 8, none⟩ = some (.int .u16 c.pc) := hSw.2.2.1.cell 8; have c1 := hSw.2.2.2.1.cell 0; have c2 := hSw.1.1; have c3 := hSw.1.2; go_simp; (try simp only [wr1]); try with_reducible rfl)
        try simp only [List.getElem_toArray, List.getElem_cons_succ, List.getElem_cons_zero, Act.put, List.setIfInBounds_toArray, List.set_cons_zero, List.set_cons_succ]
        refine wpAnyH_take (i := 20) (v := ?v20_49) rfl (by kernel_rfl) (by kernel_rfl) (by kernel_rfl) (fun _ _ _ h => h) (Or.inl ⟨by rfl, ?y20_49⟩) hS ?_
        case y20_49 => (intro w hSw; have c0 : w.cell? ⟨_, 8, none⟩ = some (.int .u16 c.pc) := hSw.2.2.1.cell 8; have c1 := hSw.2.2.2.1.cell 0; have c2 := hSw.1.1; have c3 := hSw.1.2; go_simp; (try simp only [wr1]); try with_reducible rfl)
        try simp only [List.getElem_toArray, List.getElem_cons_succ, List.getElem_cons_zero, Act.put, List.setIfInBounds_toArray, List.set_cons_zero, List.set_cons_succ]
        refine wpAnyH_ready (rs := [22]) (by kernel_rfl) (by simp) (AllReadyH.cons rfl (fun K hK => ?_) AllReadyH.nil)
        rw [if_pos (by rfl)]
        refine wp_store_row 43 (.tmp 11) (.tmp 113) rfl g #[.int .i64 op, .int .i64 od, .int .i64 os, .int .i64 on, .int .i64 ow] rfl rfl 43 #[.int .i64 0, .int .i64 0, .int .i64 0, .int .i64 0, .int .i64 0] a7.out (by kernel_rfl) rfl (by simp [Value.oneCell']) ?_
        have K7 := Lib.hid (setRow_heap _ g _ #[.int .i64 op, .int .i64 od, .int .i64 os, .int .i64 on, .int .i64 ow] 43 (0, 0) a7.out)
        refine hK.out _ _ ⟨⟨((put_setRow _ g #[.int .i64 op, .int .i64 od, .int .i64 os, .int .i64 on, .int .i64 ow]).below.cell (p := ⟨b1, off1 + n0, none⟩) (by simp; omega)).trans hS.1.1, ((put_setRow _ g #[.int .i64 op, .int .i64 od, .int .i64 os, .int .i64 on, .int .i64 ow]).below.cell (p := ⟨b1, off1 + n1, none⟩) (by simp; omega)).trans hS.1.2⟩, ⟨below_put hS.2.1.1 (put_setRow _ g _) (by omega), below_put hS.2.1.2 (put_setRow _ g _) (by omega)⟩, hS.2.2.1.put (put_setRow _ g _) (by omega), hS.2.2.2.1.put (put_setRow _ g _) (by omega), hS.2.2.2.2.put (put_setRow _ g _) (by omega)⟩ (fun hS => ?_)
        clear hK K
        try simp only [List.getElem_toArray, List.getElem_cons_succ, List.getElem_cons_zero, Act.put, List.setIfInBounds_toArray, List.set_cons_zero, List.set_cons_succ]
        refine wpAnyH_take (i := 23) (v := ?v23_50) rfl (by kernel_rfl) (by kernel_rfl) (by kernel_rfl) (fun _ _ _ h => h) (Or.inl ⟨by rfl, ?y23_50⟩) hS ?_
        case y23_50 => (intro w hSw; have c0 : w.cell? ⟨_, 8, none⟩ = some (.int .u16 c.pc) := hSw.2.2.1.cell 8; have c1 := hSw.2.2.2.1.cell 0; have c2 := hSw.1.1; have c3 := hSw.1.2; go_simp; (try simp only [wr1]); try with_reducible rfl)
        try simp only [List.getElem_toArray, List.getElem_cons_succ, List.getElem_cons_zero, Act.put, List.setIfInBounds_toArray, List.set_cons_zero, List.set_cons_succ]
        refine wpAnyH_done (by kernel_rfl) ?_ _
        refine pmark1 (R := fun Z => (Below w.heap.size w Z ∧ Below w1.heap.size w1 Z) ∧ Hid (Blk Z (w.heap.size + 1) #[.slice (some ⟨b1, off1, none⟩) m.rom.length k1, .slice a2 m.ram.length k2] 24) ∧ Hid (Blk Z (w1.heap.size + 1) #[u1, .slice a4 X.length k4] 24) ∧ Hid (Blk Z g #[.int .i64 op, .int .i64 od, .int .i64 os, .int .i64 on, .int .i64 ow] 43)) (F := fun Z => Exit.then _ _ Exit.normal _ Z) ⟨hS.2.1, Lib.hid hS.2.2.2.1, Lib.hid hS.2.2.2.2, K7⟩ ?_
        clear hS K7 a7
        try clear hb6
        intro W hR
        exact hk g W ⟨hg, hR⟩
    intro g W ⟨hg, ⟨BW, BQ⟩, W2, W4, WG⟩
    obtain ⟨e41', e42', e21', e22', lg', eg0, lW2, lW4⟩ : W.cell? ⟨w1.heap.size + 1, 0, none⟩ = some u1 ∧ W.cell? ⟨w1.heap.size + 1, 1, none⟩ = some (.slice a4 X.length k4) ∧ W.cell? ⟨w.heap.size + 1, 0, none⟩ = some (.slice (some ⟨b1, off1, none⟩) m.rom.length k1) ∧ W.cell? ⟨w.heap.size + 1, 1, none⟩ = some (.slice a2 m.ram.length k2) ∧ g < W.heap.size ∧ W.cell? ⟨g, 0, none⟩ = some (.int .i64 op) ∧ w.heap.size + 1 < W.heap.size ∧ w1.heap.size + 1 < W.heap.size := ⟨W4.out.cell 0, W4.out.cell 1, W2.out.cell 0, W2.out.cell 1, WG.out.lt, WG.out.cell 0, W2.out.lt, W4.out.lt⟩
    clear e41 e42 e21 e22 e1m e1w e1p e3m e3w q0 q1 lk1 lk2 lk3 lk4
    by_cases hq4 : op = 4
    · subst hq4; go_wp2; go_ret; exact ⟨rfl, BW⟩
    by_cases hq6 : op = 6
    · subst hq6; go_wp2; go_ret; exact ⟨rfl, BW⟩
    by_cases hq22 : op = 22
    · subst hq22; go_wp2; go_ret; exact ⟨rfl, BW⟩
    by_cases hq20 : op = 20
    · subst hq20; go_wp2; go_ret; exact ⟨rfl, BW⟩
    by_cases hq31 : op = 31
    · subst hq31; go_wp2; go_ret; exact ⟨rfl, BW⟩
    have xm : X = m.ram := QM.out (by simp [wrO, hq4, hq6, hq22, hq20, hq31])
    have E2 := Lib.hid (bytesEqual_any (.slice a4 X.length k4) (.slice a2 m.ram.length k2) X m.ram W (Q2.out.below BQ) (H2.out.below BW))
    rw [show decide (X = m.ram) = true by simpa using xm] at E2
    clear xm
    go_wp2_with fail
    refine E2.out.mono ?_
    rintro e w9 ⟨rfl, rfl⟩
    go_wp2
    go_ret
    exact ⟨rfl, BW⟩
theorem q_bad (c : Cp) (v1 v2 : Value) (m : Spc) (rings : Bool) (w : World) (h1 : SliceAt w .u8 v1 m.rom) (h2 : SliceAt w .u8 v2 m.ram) (hl : 1024 < m.rom.length ∨ 256 < m.ram.length) :
    Calls Try.prog 5 #[.agg (cpuC c), .agg #[v1, v2], .bool rings] w fun e w' => e = .returned (.bool true) ∧ Below w.heap.size w w' := by
  have H1 := Lib.hid h1
  have H2 := Lib.hid h2
  have o1 := slice_one h1
  have o2 := slice_one h2
  have ONV : (#[v1, v2] : Array Value).all Value.oneCell' = true := by simp [o1, o2]
  have ST := Lib.hid (fun W (k : Below w.heap.size w W) => step_bad c v1 v2 m rings W (H1.out.below k) (H2.out.below k) hl)
  clear h1 h2 hl
  go_enter Try.func5, Try.ntmps5
  go_wp2_with (first | ((with_reducible show wpList _ _ _ _ _ _); refine wpList_loadW rfl 28 (.tmp 3) rfl (w.heap.size) rfl 28 (cpuC c) (show Blk _ (w.heap.size) (cpuC c) 28 from (by repeat' (first | (with_reducible first | exact Hid.out (by assumption) | exact Blk.new _ _ _ | (refine Blk.new_at _ _ _ _ ?_; simp; done) | refine Blk.alloc ?_ _ | refine Blk.drewN ?_ _ | refine Blk.drew ?_ | apply Blk.set | refine Blk.put ?_ (by assumption) (by first | (simp; done) | (simp; omega) | omega) | refine Blk.below ?_ (by assumption)) | (refine Blk.setAt ?_ (by first | (simp; done) | (simp; omega))) | rfl))) _ Try.underlying28 rfl (by kernel_rfl) ?_) | ((with_reducible show wpList _ _ _ _ _ _); refine wpList_loadW rfl 24 (.tmp 4) rfl (w.heap.size + 1) rfl 24 #[v1, v2] (show Blk _ (w.heap.size + 1) #[v1, v2] 24 from (by repeat' (first | (with_reducible first | exact Hid.out (by assumption) | exact Blk.new _ _ _ | (refine Blk.new_at _ _ _ _ ?_; simp; done) | refine Blk.alloc ?_ _ | refine Blk.drewN ?_ _ | refine Blk.drew ?_ | apply Blk.set | refine Blk.put ?_ (by assumption) (by first | (simp; done) | (simp; omega) | omega) | refine Blk.below ?_ (by assumption)) | (refine Blk.setAt ?_ (by first | (simp; done) | (simp; omega))) | rfl))) _ Try.underlying24 rfl (by kernel_rfl) ?_))
  refine (ST.out _ (by repeat' (first | (with_reducible first | exact Below.refl _ _ | assumption | refine below_alloc ?_ _ | refine Below.drew ?_ | refine below_drewN ?_ _ | refine below_then ?_ (by assumption) | refine below_put ?_ (by assumption) (by first | (simp; done) | (simp; omega) | omega) | refine Below.setCell ?_ ?_ _) | (simp; done) | (simp; omega) | omega))).mono ?_
  rintro e w1 ⟨rfl, hb1⟩
  have B1 : Below w.heap.size w w1 := by repeat' (first | (with_reducible first | exact Below.refl _ _ | assumption | refine below_alloc ?_ _ | refine Below.drew ?_ | refine below_drewN ?_ _ | refine below_then ?_ (by assumption) | refine below_put ?_ (by assumption) (by first | (simp; done) | (simp; omega) | omega) | refine Below.setCell ?_ ?_ _) | (simp; done) | (simp; omega) | omega)
  clear hb1 ST
  go_wp2_with (first | ((with_reducible show wpList _ _ _ _ _ _); refine wpList_storeW rfl 28 (.tmp 7) (.tmp 18) rfl (w1.heap.size) #[.int .u16 0, .int .u16 0, .int .u16 0, .int .u16 0, .int .u16 0, .int .u16 0, .int .u16 0, .int .u16 0, .int .u16 0, .bool false, .bool false, .bool false, .bool false, .bool false, .bool false] rfl rfl 28 _ (show Blk _ (w1.heap.size) #[.int .u16 0, .int .u16 0, .int .u16 0, .int .u16 0, .int .u16 0, .int .u16 0, .int .u16 0, .int .u16 0, .int .u16 0, .bool false, .bool false, .bool false, .bool false, .bool false, .bool false] 28 from (by repeat' (first | (with_reducible first | exact Hid.out (by assumption) | exact Blk.new _ _ _ | (refine Blk.new_at _ _ _ _ ?_; simp; done) | refine Blk.alloc ?_ _ | refine Blk.drewN ?_ _ | refine Blk.drew ?_ | apply Blk.set | refine Blk.put ?_ (by assumption) (by first | (simp; done) | (simp; omega) | omega) | refine Blk.below ?_ (by assumption)) | (refine Blk.setAt ?_ (by first | (simp; done) | (simp; omega))) | rfl))) (by kernel_rfl) rfl (by first | (with_reducible assumption) | simp [Value.oneCell']) ?_; intro w2 hp_w2 K_w2) | ((with_reducible show wpList _ _ _ _ _ _); refine wpList_storeW rfl 24 (.tmp 8) (.tmp 19) rfl (w1.heap.size + 1) #[.slice none 0 0, .slice none 0 0] rfl rfl 24 _ (show Blk _ (w1.heap.size + 1) #[.slice none 0 0, .slice none 0 0] 24 from (by repeat' (first | (with_reducible first | exact Hid.out (by assumption) | exact Blk.new _ _ _ | (refine Blk.new_at _ _ _ _ ?_; simp; done) | refine Blk.alloc ?_ _ | refine Blk.drewN ?_ _ | refine Blk.drew ?_ | apply Blk.set | refine Blk.put ?_ (by assumption) (by first | (simp; done) | (simp; omega) | omega) | refine Blk.below ?_ (by assumption)) | (refine Blk.setAt ?_ (by first | (simp; done) | (simp; omega))) | rfl))) (by kernel_rfl) rfl (by first | (with_reducible assumption) | simp [Value.oneCell']) ?_; intro w3 hp_w3 K_w3))
  have B3 : Below w.heap.size w w3 := B1.trans ((show Below w1.heap.size w1 w3 from by repeat' (first | (with_reducible first | exact Below.refl _ _ | assumption | refine below_alloc ?_ _ | refine Below.drew ?_ | refine below_drewN ?_ _ | refine below_then ?_ (by assumption) | refine below_put ?_ (by assumption) (by first | (simp; done) | (simp; omega) | omega) | refine Below.setCell ?_ ?_ _) | (simp; done) | (simp; omega) | omega)).mono B1.size)
  refine (stepped_any w3).mono ?_
  rintro e w4 ⟨rfl, hb4⟩
  have B4 : Below w.heap.size w w4 := B3.trans (hb4.mono B3.size)
  go_wp2_with fail
  refine (stepped_any w4).mono ?_
  rintro e w5 ⟨rfl, hb5⟩
  go_wp2
  go_ret
  exact ⟨rfl, B4.trans (hb5.mono B4.size)⟩
theorem q_all (c : Cp) (hi : c.In) (v1 v2 : Value) (m : Spc) (rings : Bool) (w : World) (h1 : SliceAt w .u8 v1 m.rom) (h2 : SliceAt w .u8 v2 m.ram) :
    Calls Try.prog 5 #[.agg (cpuC c), .agg #[v1, v2], .bool rings] w fun e w' => e = .returned (.bool true) ∧ Below w.heap.size w w' := by
  by_cases hl : 1024 < m.rom.length ∨ 256 < m.ram.length
  · exact q_bad c v1 v2 m rings w h1 h2 hl
  have l1 : m.rom.length ≤ 1024 := by omega
  have l2 : m.ram.length ≤ 256 := by omega
  cases hr : (rings && c.may)
  · cases hw : c.wt
    · by_cases hs : (m.rom.length : Int) ≤ c.pc + 1
      · exact q_short c hi v1 v2 m rings w h1 h2 l1 l2 hr hw (Or.inl hs)
      · exact q_full c hi v1 v2 m rings w h1 h2 l1 l2 hr hw (by omega)
    · exact q_waits c hi v1 v2 m rings w h1 h2 l1 l2 hr hw
  · exact q_rung c hi v1 v2 m rings w h1 h2 l1 l2 hr
theorem walk (r0 r1 r2 r3 r4 r5 r6 r7 pc : Int) (z n c v may wt : Bool) (v1 : Value) (xs1 : List Int) (v2 : Value) (xs2 : List Int) (rings : Bool) (w : World)
    (h0 : U16 r0) (h1 : U16 r1) (h2 : U16 r2) (h3 : U16 r3) (h4 : U16 r4) (h5 : U16 r5) (h6 : U16 r6) (h7 : U16 r7) (hp : U16 pc) (k1 : SliceAt w .u8 v1 xs1) (k2 : SliceAt w .u8 v2 xs2) :
    Calls Try.prog 5 #[.agg #[.int .u16 r0, .int .u16 r1, .int .u16 r2, .int .u16 r3, .int .u16 r4, .int .u16 r5, .int .u16 r6, .int .u16 r7, .int .u16 pc, .bool z, .bool n, .bool c, .bool v, .bool may, .bool wt], .agg #[v1, v2], .bool rings] w fun e w' => e = .returned (.bool true) ∧ Below w.heap.size w w' :=
  q_all (mkC r0 r1 r2 r3 r4 r5 r6 r7 pc z n c v may wt) (mkC_in _ _ _ _ _ _ h0 h1 h2 h3 h4 h5 h6 h7 hp) v1 v2 ⟨xs1, xs2⟩ rings w k1 k2
end Go.Proofs.Yteihggfcafoogaa.cpuQuiet
