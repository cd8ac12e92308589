/- Plain mathematics of the timer: ticks, runs. Conditions: none; no program in sight. -/
import Derived.Test.YtegilgnpkcjhpaaBase
namespace Go.Mq
structure Tim where
  rl : Int
  ct : Int
  on : Bool
  rg : Bool
structure Tim.Ok (t : Tim) : Prop where
  rl : U16 t.rl
  ct : U16 t.ct
def tickTm (t : Tim) : Tim := if t.on then (if t.ct = 0 then { t with ct := t.rl, rg := true } else { t with ct := t.ct - 1 }) else t
def setTm (t : Tim) (on : Bool) : Tim := if on then { t with on := true, ct := t.rl } else { t with on := false }
def runTm (t : Tim) (n : Int) : Tim :=
  if t.on then (if n ≤ t.ct then { t with ct := t.ct - n } else { t with ct := t.rl - (n - t.ct - 1) % (t.rl + 1), rg := true }) else t
def nextTm (t : Tim) : Int := if t.on then t.ct + 1 else 0

theorem runTm_zero (t : Tim) (h : t.Ok) : runTm t 0 = t := by
  obtain ⟨_, hc, _⟩ := h
  unfold runTm
  split
  · simp
  · rfl
theorem mod_last (x m : Int) (h : 0 < m) : (x + 1) % m = if x % m = m - 1 then 0 else x % m + 1 := by
  have h1 := Int.emod_nonneg x (by omega : m ≠ 0)
  have h2 := Int.emod_lt_of_pos x h
  have hd := Int.emod_add_mul_ediv x m
  split
  · rename_i hl
    have : x + 1 = m * (x / m + 1) := by rw [Int.mul_add]; omega
    rw [this, Int.mul_emod_right]
  · have : x + 1 = (x % m + 1) + m * (x / m) := by omega
    rw [this, Int.add_mul_emod_self_left, Int.emod_eq_of_lt (by omega) (by omega)]
theorem runTm_succ (t : Tim) (h : t.Ok) (n : Int) : runTm t (n + 1) = tickTm (runTm t n) := by
  obtain ⟨⟨hr0, hr1⟩, ⟨hc0, hc1⟩⟩ := h
  obtain ⟨rl, ct, on, rg⟩ := t
  simp only at *
  unfold runTm tickTm
  cases on
  · simp
  · simp only [if_true]
    by_cases h1 : n + 1 ≤ ct
    · rw [if_pos h1, if_pos (show n ≤ ct by omega)]
      simp only [if_true]
      rw [if_neg (by omega)]
      congr 1; omega
    · rw [if_neg h1]
      by_cases h2 : n ≤ ct
      · rw [if_pos h2]
        simp only [if_true]
        have : n = ct := by omega
        subst this
        rw [if_pos (by omega)]
        congr 1
        rw [show n + 1 - n - 1 = 0 from by omega, Int.zero_emod]; omega
      · rw [if_neg h2]
        simp only [if_true]
        have hm := mod_last (n - ct - 1) (rl + 1) (by omega)
        rw [show n - ct - 1 + 1 = n + 1 - ct - 1 from by omega] at hm
        rw [hm]
        by_cases h3 : (n - ct - 1) % (rl + 1) = rl + 1 - 1
        · rw [if_pos h3, if_pos (by omega)]; simp
        · rw [if_neg h3, if_neg (by omega)]; congr 1; omega
theorem tickTm_ok (t : Tim) (h : t.Ok) : (tickTm t).Ok := by
  obtain ⟨⟨hr0, hr1⟩, ⟨hc0, hc1⟩⟩ := h
  unfold tickTm
  split
  · split
    · exact ⟨⟨hr0, hr1⟩, ⟨hr0, hr1⟩⟩
    · exact ⟨⟨hr0, hr1⟩, ⟨by simp only; omega, by simp only; omega⟩⟩
  · exact ⟨⟨hr0, hr1⟩, ⟨hc0, hc1⟩⟩
theorem runTm_ok (t : Tim) (h : t.Ok) (n : Int) (hn : 0 ≤ n) : (runTm t n).Ok := by
  obtain ⟨n, rfl⟩ := Int.eq_ofNat_of_zero_le hn
  clear hn
  induction n with
  | zero => rw [show ((0 : Nat) : Int) = 0 from rfl, runTm_zero t h]; exact h
  | succ k ih => rw [show ((k + 1 : Nat) : Int) = (k : Int) + 1 from by omega, runTm_succ t h k]; exact tickTm_ok _ ih
theorem runTm_add (t : Tim) (h : t.Ok) (a b : Int) (ha : 0 ≤ a) (hb : 0 ≤ b) : runTm (runTm t a) b = runTm t (a + b) := by
  obtain ⟨b, rfl⟩ := Int.eq_ofNat_of_zero_le hb
  clear hb
  have ho := runTm_ok t h a ha
  induction b with
  | zero => rw [show ((0 : Nat) : Int) = 0 from rfl, runTm_zero _ ho, Int.add_zero]
  | succ k ih => rw [show ((k + 1 : Nat) : Int) = (k : Int) + 1 from by omega, runTm_succ _ ho k, ih, ← Int.add_assoc, runTm_succ t h _]
end Go.Mq
