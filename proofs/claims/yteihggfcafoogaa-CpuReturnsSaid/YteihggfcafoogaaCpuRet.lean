/- Who is interrupted and returns at once is where it was. Plain mathematics. Conditions: the stack lies in the memory; the program's words at 2 and 10 are the vector and the return. -/
import Derived.Test.YteihggfcafoogaaCpuKeep
import Derived.Test.YteihggfcafoogaaCpuIn
namespace Go.Proofs.Yteihggfcafoogaa
open Go.RowKit Go.Mq
set_option linter.unusedVariables false
set_option linter.unusedSimpArgs false
theorem mod_ne (q j k L : Nat) (h : j < k) (hk : k < j + L) : (q + j) % L ≠ (q + k) % L := by
  intro e
  have h1 := Nat.div_add_mod (q + j) L
  have h2 := Nat.div_add_mod (q + k) L
  rw [e] at h1
  have hd : (q + j) / L < (q + k) / L := by
    rcases Nat.lt_or_ge ((q + j) / L) ((q + k) / L) with h | h
    · exact h
    · have := Nat.mul_le_mul_left L h
      omega
  have := Nat.mul_le_mul_left L hd
  rw [Nat.mul_succ] at this
  omega
theorem spG_ram (m : Spc) (a : Int) (h0 : 32768 ≤ a) (h1 : a < 49152) (hl : 0 < m.ram.length) (hr : m.rom.length ≤ 1024) : spG m a = m.ram.getD (rix m a) 0 := by
  unfold spG
  rw [if_neg (by omega), if_pos ⟨h0, h1, hl⟩]
theorem spP_ram (m : Spc) (a v : Int) (h0 : 32768 ≤ a) (h1 : a < 49152) (hl : 0 < m.ram.length) : spP m a v = ⟨m.rom, m.ram.set (rix m a) v⟩ := by
  unfold spP
  rw [if_pos ⟨h0, h1, hl⟩]
theorem pW_ram (m : Spc) (q : Nat) (n : Int) (h1 : q + 1 < 16384) (hl : 0 < m.ram.length) : pW busS m (32768 + q) n = ⟨m.rom, (m.ram.set (q % m.ram.length) (n / 256)).set ((q + 1) % m.ram.length) (n % 256)⟩ := by
  have e : nx (32768 + q) = 32768 + ((q + 1 : Nat) : Int) := by unfold nx; omega
  have r0 : rix m (32768 + q) = q % m.ram.length := by unfold rix; congr 1; omega
  have r1 : rix ⟨m.rom, m.ram.set (q % m.ram.length) (n / 256)⟩ (32768 + ((q + 1 : Nat) : Int)) = (q + 1) % m.ram.length := by unfold rix; simp only [List.length_set]; congr 1; omega
  unfold pW
  rw [e]
  show spP (spP m _ _) _ _ = _
  rw [spP_ram m _ _ (by omega) (by omega) hl, r0, spP_ram _ _ _ (by omega) (by omega) (by simpa using hl), r1]
theorem wV_ram (m : Spc) (q : Nat) (h1 : q + 1 < 16384) (hl : 0 < m.ram.length) (hr : m.rom.length ≤ 1024) : wV busS m (32768 + q) = m.ram.getD (q % m.ram.length) 0 % 256 * 256 + m.ram.getD ((q + 1) % m.ram.length) 0 % 256 := by
  have e : nx (32768 + q) = 32768 + ((q + 1 : Nat) : Int) := by unfold nx; omega
  have r0 : rix m (32768 + q) = q % m.ram.length := by unfold rix; congr 1; omega
  have r1 : rix m (32768 + ((q + 1 : Nat) : Int)) = (q + 1) % m.ram.length := by unfold rix; congr 1; omega
  unfold wV
  rw [e]
  show spG m _ % 256 * 256 + spG m _ % 256 = _
  rw [spG_ram m _ (by omega) (by omega) hl hr, spG_ram m _ (by omega) (by omega) hl hr, r0, r1]
theorem wV_rom (m : Spc) (a : Nat) (h1 : a + 1 < m.rom.length) (hr : m.rom.length ≤ 1024) : wV busS m a = m.rom.getD a 0 % 256 * 256 + m.rom.getD (a + 1) 0 % 256 := by
  have e : nx (a : Int) = ((a + 1 : Nat) : Int) := by unfold nx; omega
  unfold wV
  rw [e]
  show spG m _ % 256 * 256 + spG m _ % 256 = _
  unfold spG
  rw [if_pos ⟨by omega, by omega⟩, if_pos ⟨by omega, by omega⟩]
  rfl
theorem bit_back (c : Cp) : bitOf (sgn c) 1 = c.z ∧ bitOf (sgn c) 2 = c.n ∧ bitOf (sgn c) 4 = c.c ∧ bitOf (sgn c) 8 = c.v ∧ bitOf (sgn c) 16 = c.may := by
  obtain ⟨r, pc, z, n, k, v, may, wt⟩ := c
  show bitOf ((if z then 1 else 0) + (if n then 2 else 0) + (if k then 4 else 0) + (if v then 8 else 0) + (if may then 16 else 0)) 1 = z ∧ bitOf ((if z then 1 else 0) + (if n then 2 else 0) + (if k then 4 else 0) + (if v then 8 else 0) + (if may then 16 else 0)) 2 = n ∧ bitOf ((if z then 1 else 0) + (if n then 2 else 0) + (if k then 4 else 0) + (if v then 8 else 0) + (if may then 16 else 0)) 4 = k ∧ bitOf ((if z then 1 else 0) + (if n then 2 else 0) + (if k then 4 else 0) + (if v then 8 else 0) + (if may then 16 else 0)) 8 = v ∧ bitOf ((if z then 1 else 0) + (if n then 2 else 0) + (if k then 4 else 0) + (if v then 8 else 0) + (if may then 16 else 0)) 16 = may
  clear r pc wt
  revert z n k v may
  decide +kernel
structure Ret (m : Spc) (c : Cp) : Prop where
  l0 : 12 ≤ m.rom.length
  l1 : m.rom.length ≤ 1024
  l2 : 8 ≤ m.ram.length
  s0 : 32772 ≤ c.r 7
  s1 : c.r 7 ≤ 49152
  b2 : m.rom.getD 2 0 = 0
  b3 : m.rom.getD 3 0 = 10
  b10 : m.rom.getD 10 0 = 208
  b11 : m.rom.getD 11 0 = 0
  may : c.may = true
theorem ret_one (m : Spc) (c : Cp) (h : Ret m c) : dN busS m c true = 6 ∧ (dC busS m c true).pc = 10 ∧ (dC busS m c true).may = false ∧ (dC busS m c true).wt = false ∧ dM busS m c true = lvM busS m c := by
  have hm := h.may
  have e : (true && c.may) = true := by rw [hm]; rfl
  have hs : Same m (lvM busS m c) := (same_pW _ _ _).trans (same_pW _ _ _)
  have w2 := wV_rom (lvM busS m c) 2 (by rw [hs.1]; have := h.l0; omega) (by rw [hs.1]; exact h.l1)
  rw [hs.1, h.b2, h.b3] at w2
  unfold dN dC dM
  rw [if_pos e, if_pos e, if_pos e]
  exact ⟨rfl, w2, rfl, rfl, rfl⟩
theorem ret_two (m : Spc) (c : Cp) (hi : c.In) (h : Ret m c) : dN busS (lvM busS m c) (dC busS m c true) false = 5 ∧ cpuC (dC busS (lvM busS m c) (dC busS m c true) false) = cpuC { c with wt := false } := by
  have hm := h.may
  have e : (true && c.may) = true := by rw [hm]; rfl
  have hs : Same m (lvM busS m c) := (same_pW _ _ _).trans (same_pW _ _ _)
  have hl0 := h.l0
  have hl1 := h.l1
  have hl2 := h.l2
  have s0 := h.s0
  have s1 := h.s1
  obtain ⟨q, hq⟩ : ∃ q : Nat, c.r 7 = 32772 + (q : Int) := ⟨(c.r 7 - 32772).toNat, by omega⟩
  have hpc := hi.2
  unfold U16 at hpc
  have sg := sgn_u c
  unfold U16 at sg
  -- the first step
  have e1 : dC busS m c true = lvC busS m c 2 := by unfold dC; rw [if_pos e]
  rw [e1]
  have p1 : (lvC busS m c 2).pc = 10 := by rw [← e1]; exact (ret_one m c h).2.1
  have ep1 : sp c = 32768 + ((q + 2 : Nat) : Int) := by unfold sp; omega
  have r1 : (lv1 c).r 7 = 32768 + ((q + 2 : Nat) : Int) := by show upd c.r 7 (sp c) 7 = _; unfold upd; rw [if_pos rfl, ep1]
  have ep2 : sp (lv1 c) = 32768 + (q : Int) := by unfold sp; rw [r1]; omega
  have r2 : (lv2 c).r 7 = 32768 + (q : Int) := by show upd (lv1 c).r 7 (sp (lv1 c)) 7 = _; unfold upd; rw [if_pos rfl, ep2]
  have r3 : (lvC busS m c 2).r 7 = 32768 + (q : Int) := r2
  -- the memory
  obtain ⟨M, hM⟩ : ∃ M, M = lvM busS m c := ⟨_, rfl⟩
  have hM' := hM
  have esg : sgn (lv1 c) = sgn c := rfl
  unfold lvM at hM'
  rw [ep1, ep2, esg, pW_ram m (q + 2) c.pc (by omega) (by omega), pW_ram _ q (sgn c) (by omega) (by simp; omega)] at hM'
  simp only [List.length_set] at hM'
  rw [← hM]
  rw [← hM] at hs
  have n01 := mod_ne q 0 1 m.ram.length (by omega) (by omega)
  have n02 := mod_ne q 0 2 m.ram.length (by omega) (by omega)
  have n03 := mod_ne q 0 3 m.ram.length (by omega) (by omega)
  have n12 := mod_ne q 1 2 m.ram.length (by omega) (by omega)
  have n13 := mod_ne q 1 3 m.ram.length (by omega) (by omega)
  have n23 := mod_ne q 2 3 m.ram.length (by omega) (by omega)
  rw [Nat.add_zero] at n01 n02 n03
  have i0 : q % m.ram.length < m.ram.length := Nat.mod_lt _ (by omega)
  have i1 : (q + 1) % m.ram.length < m.ram.length := Nat.mod_lt _ (by omega)
  have i2 : (q + 2) % m.ram.length < m.ram.length := Nat.mod_lt _ (by omega)
  have i3 : (q + 3) % m.ram.length < m.ram.length := Nat.mod_lt _ (by omega)
  have g : ∀ (l : List Int) (i j : Nat) (x : Int), i < l.length → (l.set i x).getD j 0 = if i = j then x else l.getD j 0 := by
    intro l i j x hi
    rw [List.getD_eq_getElem?_getD, List.getElem?_set]
    by_cases hij : i = j
    · rw [if_pos hij, if_pos hij, if_pos (by omega)]; rfl
    · rw [if_neg hij, if_neg hij, List.getD_eq_getElem?_getD]
  have m0 : M.ram.getD (q % m.ram.length) 0 = sgn c / 256 := by
    rw [hM']; simp only
    rw [g _ _ _ _ (by simpa using i1), if_neg n01.symm, g _ _ _ _ (by simpa using i0), if_pos rfl]
  have m1 : M.ram.getD ((q + 1) % m.ram.length) 0 = sgn c % 256 := by
    rw [hM']; simp only
    rw [g _ _ _ _ (by simpa using i1), if_pos rfl]
  have m2 : M.ram.getD ((q + 2) % m.ram.length) 0 = c.pc / 256 := by
    rw [hM']; simp only
    rw [g _ _ _ _ (by simpa using i1), if_neg n12, g _ _ _ _ (by simpa using i0), if_neg n02, g _ _ _ _ (by simpa using i3), if_neg n23.symm, g _ _ _ _ (by simpa using i2), if_pos rfl]
  have m3 : M.ram.getD ((q + 3) % m.ram.length) 0 = c.pc % 256 := by
    rw [hM']; simp only
    rw [g _ _ _ _ (by simpa using i1), if_neg n13, g _ _ _ _ (by simpa using i0), if_neg n03, g _ _ _ _ (by simpa using i3), if_pos rfl]
  have wsg : wV busS M (32768 + (q : Int)) = sgn c := by
    rw [wV_ram M q (by omega) (by rw [hs.2]; omega) (by rw [hs.1]; exact hl1), hs.2, m0, m1]; omega
  have wpc : wV busS M (32768 + ((q + 2 : Nat) : Int)) = c.pc := by
    rw [wV_ram M (q + 2) (by omega) (by rw [hs.2]; omega) (by rw [hs.1]; exact hl1), hs.2, m2, m3]; omega
  -- the second step
  have w10 : wV busS M (lvC busS m c 2).pc = 53248 := by
    rw [p1]
    have := wV_rom M 10 (by rw [hs.1]; omega) (by rw [hs.1]; exact hl1)
    rw [hs.1, h.b10, h.b11] at this
    exact this
  generalize hD : lvC busS m c 2 = d at *
  have dr : ∀ i, i ≠ 7 → d.r i = c.r i := fun i hi => by
    rw [← hD]
    show upd (upd c.r 7 _) 7 _ i = _
    unfold upd
    rw [if_neg hi, if_neg hi]
  have dw : d.wt = false := by rw [← hD]; rfl
  have eO : dO busS M d = ⟨26, 0, 0, 0, 0⟩ := by unfold dO; rw [w10]; kernel_rfl
  have tw : two busS M d = false := by unfold two; rw [w10]; decide
  have e0 : d0 busS M d = d.go 12 := by unfold d0; rw [tw, p1]; rfl
  have eN : dN busS M d false = 5 := by
    unfold dN
    rw [eO, e0, dw]
    rfl
  refine ⟨eN, ?_⟩
  have eC : dC busS M d false = signedF (((rt1 (rt1 (d.go 12)))).go (wV busS M ((rt1 (d.go 12)).r 7))) (wV busS M ((d.go 12).r 7)) := by
    unfold dC
    rw [eO, e0, dw, d1_busS]
    rfl
  have q1 : (d.go 12).r 7 = 32768 + (q : Int) := r3
  have q2 : (rt1 (d.go 12)).r 7 = 32768 + ((q + 2 : Nat) : Int) := by
    show upd (d.go 12).r 7 (spUp (d.go 12)) 7 = _
    unfold upd spUp
    rw [if_pos rfl, q1]
    omega
  have q3 : (rt1 (rt1 (d.go 12))).r 7 = c.r 7 := by
    show upd (rt1 (d.go 12)).r 7 (spUp (rt1 (d.go 12))) 7 = _
    unfold upd spUp
    rw [if_pos rfl, q2]
    omega
  have q4 : ∀ i, i ≠ 7 → (rt1 (rt1 (d.go 12))).r i = c.r i := fun i hi => by
    show upd (upd d.r 7 _) 7 _ i = _
    unfold upd
    rw [if_neg hi, if_neg hi]
    exact dr i hi
  rw [eC, q1, q2, wsg, wpc]
  obtain ⟨b1, b2, b3, b4, b5⟩ := bit_back c
  have dwt : (rt1 (rt1 (d.go 12))).wt = false := dw
  generalize rt1 (rt1 (d.go 12)) = t at *
  simp only [cpuC, signedF, Cp.go, b1, b2, b3, b4, b5, q3, q4 0 (by decide), q4 1 (by decide), q4 2 (by decide), q4 3 (by decide), q4 4 (by decide), q4 5 (by decide), q4 6 (by decide), dwt]
end Go.Proofs.Yteihggfcafoogaa
