/- Plain mathematics of the beam. Conditions: none; no program in sight. -/
import Derived.Test.YtegilgnpkcjhpaaBase
namespace Go.Mq
structure Bm where
  ln : Int
  pt : Int
  rg : Bool
  fr : Int
/-- a line and a place within it -/
def Bm.In (b : Bm) : Prop := 0 ≤ b.ln ∧ b.ln ≤ 9 ∧ 0 ≤ b.pt ∧ b.pt ≤ 63
def Bm.Ok (b : Bm) : Prop := b.In ∧ 0 ≤ b.fr ∧ b.fr ≤ 20000
def untilB (at' : Int) : Int := if at' < 512 then 512 - at' else 1152 - at'
def tickB (b : Bm) : Bm :=
  if b.pt = 63 then (if b.ln = 7 then ⟨8, 0, true, b.fr⟩ else if b.ln = 9 then ⟨0, 0, b.rg, b.fr + 1⟩ else ⟨b.ln + 1, 0, b.rg, b.fr⟩) else ⟨b.ln, b.pt + 1, b.rg, b.fr⟩
def runBm (b : Bm) (n : Int) : Bm :=
  ⟨(b.ln * 64 + b.pt + n) % 640 / 64, (b.ln * 64 + b.pt + n) % 640 % 64, if untilB (b.ln * 64 + b.pt) ≤ n then true else b.rg, b.fr + (b.ln * 64 + b.pt + n) / 640⟩
def nextB (b : Bm) : Int := (64 - b.pt) % 64

theorem runBm_zero (b : Bm) (h : b.In) : runBm b 0 = b := by
  obtain ⟨ln, pt, rg, fr⟩ := b
  obtain ⟨h1, h2, h3, h4⟩ := h
  simp only at h1 h2 h3 h4
  unfold runBm untilB
  simp only [Int.add_zero]
  rw [if_neg (by split <;> omega)]
  congr 1 <;> omega
theorem tickB_in (b : Bm) (h : b.In) : (tickB b).In := by
  obtain ⟨ln, pt, rg, fr⟩ := b
  obtain ⟨h1, h2, h3, h4⟩ := h
  simp only at h1 h2 h3 h4
  unfold tickB Bm.In
  simp only
  split
  · split
    · simp
    · split
      · simp
      · simp only; omega
  · simp only; omega
theorem runBm_in (b : Bm) (n : Int) : (runBm b n).In := by
  unfold runBm Bm.In
  simp only
  omega
theorem runBm_succ (b : Bm) (h : b.In) (n : Int) (hn : 0 ≤ n) : runBm b (n + 1) = tickB (runBm b n) := by
  obtain ⟨ln, pt, rg, fr⟩ := b
  obtain ⟨h1, h2, h3, h4⟩ := h
  simp only at h1 h2 h3 h4
  unfold tickB runBm
  simp only
  generalize hp : ln * 64 + pt = p at *
  have hp0 : 0 ≤ p := by omega
  have hp1 : p ≤ 639 := by omega
  unfold untilB
  by_cases e1 : (p + n) % 640 % 64 = 63
  · rw [if_pos e1]
    by_cases e2 : (p + n) % 640 / 64 = 7
    · rw [if_pos e2]
      congr 1
      · omega
      · omega
      · rw [if_pos]; split <;> omega
      · omega
    · rw [if_neg e2]
      have hsame : ((if p < 512 then 512 - p else 1152 - p) ≤ n + 1) ↔ ((if p < 512 then 512 - p else 1152 - p) ≤ n) := by split <;> omega
      by_cases e3 : (p + n) % 640 / 64 = 9
      · rw [if_pos e3]
        congr 1
        · omega
        · omega
        · simp only [hsame]
        · omega
      · rw [if_neg e3]
        congr 1
        · omega
        · omega
        · simp only [hsame]
        · omega
  · rw [if_neg e1]
    have hsame : ((if p < 512 then 512 - p else 1152 - p) ≤ n + 1) ↔ ((if p < 512 then 512 - p else 1152 - p) ≤ n) := by split <;> omega
    congr 1
    · omega
    · omega
    · simp only [hsame]
    · omega
theorem runBm_add (b : Bm) (h : b.In) (n m : Int) (hn : 0 ≤ n) (hm : 0 ≤ m) : runBm (runBm b n) m = runBm b (n + m) := by
  obtain ⟨m, rfl⟩ := Int.eq_ofNat_of_zero_le hm
  clear hm
  induction m with
  | zero => rw [show ((0 : Nat) : Int) = 0 from rfl, runBm_zero _ (runBm_in b n), Int.add_zero]
  | succ k ih => rw [show ((k + 1 : Nat) : Int) = (k : Int) + 1 from by omega, runBm_succ _ (runBm_in b n) k (by omega), ih, ← Int.add_assoc, runBm_succ b h _ (by omega)]
end Go.Mq
