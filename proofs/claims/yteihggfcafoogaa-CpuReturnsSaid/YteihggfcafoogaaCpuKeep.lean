/- What an order leaves of a space: its program, its memory's size; the memory itself, but for those that write. Plain mathematics. Conditions: none. -/
import Derived.Test.YteihggfcafoogaaCpuStep
import Derived.Test.YteihggfcafoogaaCpuBus
namespace Go.Proofs.Yteihggfcafoogaa
open Go.RowKit Go.Mq
def Same (m m' : Spc) : Prop := m'.rom = m.rom ∧ m'.ram.length = m.ram.length
theorem Same.refl (m : Spc) : Same m m := ⟨rfl, rfl⟩
theorem Same.trans {a b c : Spc} (h : Same a b) (k : Same b c) : Same a c := ⟨k.1.trans h.1, k.2.trans h.2⟩
theorem same_spP (m : Spc) (a v : Int) : Same m (spP m a v) := by
  unfold spP
  split
  · exact ⟨rfl, by simp⟩
  · exact Same.refl m
theorem busS_g (m : Spc) (a : Int) : wS busS m a = m := rfl
theorem same_pW (m : Spc) (a n : Int) : Same m (pW busS m a n) := (same_spP _ _ _).trans (same_spP _ _ _)
theorem same_lvS (m : Spc) (c : Cp) (to : Int) : Same m (lvS busS m c to) := (same_pW _ _ _).trans (same_pW _ _ _)
theorem same_movS (m : Spc) (c : Cp) (op : Int) (D S : Nat) (n : Int) : Same m (movS busS m c op D S n) := by
  unfold movS
  repeat' split
  · exact Same.refl m
  · exact same_pW _ _ _
  · exact Same.refl m
  · exact same_spP _ _ _
  · exact same_pW _ _ _
  · exact Same.refl m
  · exact Same.refl m
theorem same_goS (m : Spc) (c : Cp) (op : Int) : Same m (goS busS m c op) := by
  unfold goS
  repeat' split
  · exact same_pW _ _ _
  · exact Same.refl m
  · exact Same.refl m
  · exact same_lvS _ _ _
  · exact Same.refl m
theorem d1_busS (m : Spc) (c : Cp) : d1 busS m c = m := by
  unfold d1
  split <;> rfl
theorem same_dM (m : Spc) (c : Cp) (rings : Bool) : Same m (dM busS m c rings) := by
  unfold dM finS
  rw [d1_busS]
  repeat' split
  · exact same_lvS _ _ _
  · exact Same.refl m
  · exact Same.refl m
  · exact same_movS _ _ _ _ _ _
  · exact same_goS _ _ _
/-- the orders that write -/
def wrO (op : Int) : Bool := op == 4 || op == 6 || op == 22 || op == 20 || op == 31
theorem dM_quiet (m : Spc) (c : Cp) (rings : Bool) (h : (rings && c.may) = false) (hw : c.wt = true ∨ wrO (dO busS m c).op = false) : dM busS m c rings = m := by
  unfold dM
  rw [h]
  cases hwt : c.wt
  · have ho : wrO (dO busS m c).op = false := by
      rcases hw with hw | hw
      · rw [hwt] at hw; cases hw
      · exact hw
    simp only [wrO, Bool.or_eq_false_iff, beq_eq_false_iff_ne] at ho
    obtain ⟨⟨⟨⟨h4, h6⟩, h22⟩, h20⟩, h31⟩ := ho
    simp only [Bool.false_eq_true, if_false]
    unfold finS movS goS
    rw [d1_busS, if_neg h4, if_neg h6, if_neg h22, if_neg h20, if_neg h31]
    repeat' split
    all_goals rfl
  · rfl
theorem cyc_pos (op : Int) (h0 : 0 ≤ op) (h1 : op < 32) (h30 : op ≠ 30) : 1 ≤ cycO op ∧ cycO op ≤ 100 := by
  obtain ⟨k, rfl⟩ := Int.eq_ofNat_of_zero_le h0
  have hk : k < 32 := by omega
  have hk' : k ≠ 30 := by omega
  have : ∀ k : Nat, k < 32 → k ≠ 30 → 1 ≤ cycO (k : Int) ∧ cycO (k : Int) ≤ 100 := by decide
  exact this k hk hk'
theorem dN_pos {σ : Type} (b : Bus σ) (m : σ) (c : Cp) (rings : Bool) (hu : U16 (wV b m c.pc)) : 1 ≤ dN b m c rings ∧ dN b m c rings ≤ 101 := by
  obtain ⟨op, D, S, n, eO, -, -, -, -, h0, h1, h30⟩ := rd_parts (wV b m c.pc) hu
  have hc := cyc_pos op h0 h1 h30
  have ho : (dO b m c).op = op := by unfold dO; rw [eO]
  unfold dN finN goY
  rw [ho]
  repeat' split
  all_goals omega
end Go.Proofs.Yteihggfcafoogaa
