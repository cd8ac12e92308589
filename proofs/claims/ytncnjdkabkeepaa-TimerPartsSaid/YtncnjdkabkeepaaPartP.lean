/- Plain mathematics of a pad. Conditions: none; no program in sight. -/
import Derived.Test.YtncnjdkabkeepaaBase
namespace Go.Mq
set_option linter.unusedVariables false
structure Pd where
  dn : Int
  la : Bool
  sh : Int
structure Pd.Ok (p : Pd) : Prop where
  dn : U8 p.dn
  sh : U8 p.sh
def readP (p : Pd) : Pd := if p.la then p else { p with sh := p.sh * 2 % 256 + 1 }
def bitP (p : Pd) : Int := if p.la then p.dn / 128 else p.sh / 128
def writeP (p : Pd) (b : Int) : Pd := if b % 2 = 1 then { p with la := true, sh := p.dn } else { p with la := false }
def pressP (p : Pd) (d : Int) : Pd := if p.la then { p with dn := d, sh := d } else { p with dn := d }
/-- what is shifted after k reads of a pad whose latch was let go; what was read -/
def shK (dn : Int) (k : Nat) : Int := dn * 2 ^ k % 256 + (2 ^ k - 1)
def rdK (dn : Int) (k : Nat) : Int := dn / 2 ^ (8 - k)

theorem or1 (x : Int) (h0 : 0 ≤ x) (h1 : x < 256) (h2 : x % 2 = 0) : bits .or .u8 x 1 = x + 1 := by
  rw [show x = ((x.toNat : Nat) : Int) from by omega, show (1 : Int) = ((1 : Nat) : Int) from rfl, u8_or_nat _ _ (by omega) (by omega), nat_join 1 _ _ (by omega) (by omega)]
  omega
theorem readP_ok (p : Pd) (h : p.Ok) : (readP p).Ok := by
  obtain ⟨⟨a, b⟩, ⟨c, d⟩⟩ := h
  unfold readP
  split
  · exact ⟨⟨a, b⟩, ⟨c, d⟩⟩
  · exact ⟨⟨a, b⟩, ⟨by simp only; omega, by simp only; omega⟩⟩
theorem writeP_ok (p : Pd) (b : Int) (h : p.Ok) : (writeP p b).Ok := by
  unfold writeP
  split
  · exact ⟨h.dn, h.dn⟩
  · exact ⟨h.dn, h.sh⟩
theorem pressP_ok (p : Pd) (d : Int) (h : p.Ok) (hd : U8 d) : (pressP p d).Ok := by
  unfold pressP
  split
  · exact ⟨hd, hd⟩
  · exact ⟨hd, h.sh⟩
theorem shK_u (dn : Int) (h : U8 dn) (k : Nat) (hk : k ≤ 8) : U8 (shK dn k) := by
  unfold U8 at *; unfold shK
  rcases (by omega : k = 0 ∨ k = 1 ∨ k = 2 ∨ k = 3 ∨ k = 4 ∨ k = 5 ∨ k = 6 ∨ k = 7 ∨ k = 8) with rfl | rfl | rfl | rfl | rfl | rfl | rfl | rfl | rfl <;> simp <;> omega
theorem rdK_u (dn : Int) (h : U8 dn) (k : Nat) (hk : k ≤ 8) : U8 (rdK dn k) := by
  unfold U8 at *; unfold rdK
  rcases (by omega : k = 0 ∨ k = 1 ∨ k = 2 ∨ k = 3 ∨ k = 4 ∨ k = 5 ∨ k = 6 ∨ k = 7 ∨ k = 8) with rfl | rfl | rfl | rfl | rfl | rfl | rfl | rfl | rfl <;> simp <;> omega
theorem shK_succ (dn : Int) (h : U8 dn) (k : Nat) (hk : k < 8) : shK dn k * 2 % 256 + 1 = shK dn (k + 1) := by
  unfold U8 at h; unfold shK
  rcases (by omega : k = 0 ∨ k = 1 ∨ k = 2 ∨ k = 3 ∨ k = 4 ∨ k = 5 ∨ k = 6 ∨ k = 7) with rfl | rfl | rfl | rfl | rfl | rfl | rfl | rfl <;> simp <;> omega
theorem rdK_succ (dn : Int) (h : U8 dn) (k : Nat) (hk : k < 8) : rdK dn k * 2 + shK dn k / 128 = rdK dn (k + 1) := by
  unfold U8 at h; unfold shK rdK
  rcases (by omega : k = 0 ∨ k = 1 ∨ k = 2 ∨ k = 3 ∨ k = 4 ∨ k = 5 ∨ k = 6 ∨ k = 7) with rfl | rfl | rfl | rfl | rfl | rfl | rfl | rfl <;> simp <;> omega
theorem shK_zero (dn : Int) (h : U8 dn) : shK dn 0 = dn := by unfold U8 at h; unfold shK; simp; omega
theorem rdK_zero (dn : Int) (h : U8 dn) : rdK dn 0 = 0 := by unfold U8 at h; unfold rdK; simp; omega
theorem shK_all (dn : Int) (h : U8 dn) : shK dn 8 = 255 := by unfold U8 at h; unfold shK; simp
theorem rdK_all (dn : Int) : rdK dn 8 = dn := by unfold rdK; simp
theorem join_bit (x b : Int) (x0 : 0 ≤ x) (x1 : x ≤ 127) (b0 : 0 ≤ b) (b1 : b ≤ 1) : bits .or .u8 (x * 2) b = x * 2 + b := by
  rw [show x * 2 = (((x * 2).toNat : Nat) : Int) from by omega, show b = ((b.toNat : Nat) : Int) from by omega, u8_or_nat _ _ (by omega) (by omega), nat_join 1 _ _ (by omega) (by omega)]
  omega
end Go.Mq

/- Plain mathematics of the timer: ticks, runs. Conditions: none; no program in sight. -/
namespace Go.Mq
structure Tim where
  rl : Int
  ct : Int
  on : Bool
  rg : Bool
structure Tim.Ok (t : Tim) : Prop where
  rl : U16 t.rl
  ct : U16 t.ct
def tickTm (t : Tim) : Tim := if t.on then (if t.ct = 0 then { t with ct := t.rl, rg := true } else { t with ct := t.ct - 1 }) else t
def setTm (t : Tim) (on : Bool) : Tim := if on then { t with on := true, ct := t.rl } else { t with on := false }
def runTm (t : Tim) (n : Int) : Tim :=
  if t.on then (if n ≤ t.ct then { t with ct := t.ct - n } else { t with ct := t.rl - (n - t.ct - 1) % (t.rl + 1), rg := true }) else t
def nextTm (t : Tim) : Int := if t.on then t.ct + 1 else 0

theorem runTm_zero (t : Tim) (h : t.Ok) : runTm t 0 = t := by
  obtain ⟨_, hc, _⟩ := h
  unfold runTm
  split
  · simp
  · rfl
theorem mod_last (x m : Int) (h : 0 < m) : (x + 1) % m = if x % m = m - 1 then 0 else x % m + 1 := by
  have h1 := Int.emod_nonneg x (by omega : m ≠ 0)
  have h2 := Int.emod_lt_of_pos x h
  have hd := Int.emod_add_mul_ediv x m
  split
  · rename_i hl
    have : x + 1 = m * (x / m + 1) := by rw [Int.mul_add]; omega
    rw [this, Int.mul_emod_right]
  · have : x + 1 = (x % m + 1) + m * (x / m) := by omega
    rw [this, Int.add_mul_emod_self_left, Int.emod_eq_of_lt (by omega) (by omega)]
theorem runTm_succ (t : Tim) (h : t.Ok) (n : Int) : runTm t (n + 1) = tickTm (runTm t n) := by
  obtain ⟨⟨hr0, hr1⟩, ⟨hc0, hc1⟩⟩ := h
  obtain ⟨rl, ct, on, rg⟩ := t
  simp only at *
  unfold runTm tickTm
  cases on
  · simp
  · simp only [if_true]
    by_cases h1 : n + 1 ≤ ct
    · rw [if_pos h1, if_pos (show n ≤ ct by omega)]
      simp only [if_true]
      rw [if_neg (by omega)]
      congr 1; omega
    · rw [if_neg h1]
      by_cases h2 : n ≤ ct
      · rw [if_pos h2]
        simp only [if_true]
        have : n = ct := by omega
        subst this
        rw [if_pos (by omega)]
        congr 1
        rw [show n + 1 - n - 1 = 0 from by omega, Int.zero_emod]; omega
      · rw [if_neg h2]
        simp only [if_true]
        have hm := mod_last (n - ct - 1) (rl + 1) (by omega)
        rw [show n - ct - 1 + 1 = n + 1 - ct - 1 from by omega] at hm
        rw [hm]
        by_cases h3 : (n - ct - 1) % (rl + 1) = rl + 1 - 1
        · rw [if_pos h3, if_pos (by omega)]; simp
        · rw [if_neg h3, if_neg (by omega)]; congr 1; omega
theorem tickTm_ok (t : Tim) (h : t.Ok) : (tickTm t).Ok := by
  obtain ⟨⟨hr0, hr1⟩, ⟨hc0, hc1⟩⟩ := h
  unfold tickTm
  split
  · split
    · exact ⟨⟨hr0, hr1⟩, ⟨hr0, hr1⟩⟩
    · exact ⟨⟨hr0, hr1⟩, ⟨by simp only; omega, by simp only; omega⟩⟩
  · exact ⟨⟨hr0, hr1⟩, ⟨hc0, hc1⟩⟩
theorem runTm_ok (t : Tim) (h : t.Ok) (n : Int) (hn : 0 ≤ n) : (runTm t n).Ok := by
  obtain ⟨n, rfl⟩ := Int.eq_ofNat_of_zero_le hn
  clear hn
  induction n with
  | zero => rw [show ((0 : Nat) : Int) = 0 from rfl, runTm_zero t h]; exact h
  | succ k ih => rw [show ((k + 1 : Nat) : Int) = (k : Int) + 1 from by omega, runTm_succ t h k]; exact tickTm_ok _ ih
theorem runTm_add (t : Tim) (h : t.Ok) (a b : Int) (ha : 0 ≤ a) (hb : 0 ≤ b) : runTm (runTm t a) b = runTm t (a + b) := by
  obtain ⟨b, rfl⟩ := Int.eq_ofNat_of_zero_le hb
  clear hb
  have ho := runTm_ok t h a ha
  induction b with
  | zero => rw [show ((0 : Nat) : Int) = 0 from rfl, runTm_zero _ ho, Int.add_zero]
  | succ k ih => rw [show ((k + 1 : Nat) : Int) = (k : Int) + 1 from by omega, runTm_succ _ ho k, ih, ← Int.add_assoc, runTm_succ t h _]
end Go.Mq

/- Plain mathematics of the beam. Conditions: none; no program in sight. -/
namespace Go.Mq
structure Bm where
  ln : Int
  pt : Int
  rg : Bool
  fr : Int
/-- a line and a place within it -/
def Bm.In (b : Bm) : Prop := 0 ≤ b.ln ∧ b.ln ≤ 9 ∧ 0 ≤ b.pt ∧ b.pt ≤ 63
def Bm.Ok (b : Bm) : Prop := b.In ∧ 0 ≤ b.fr ∧ b.fr ≤ 20000
def untilB (at' : Int) : Int := if at' < 512 then 512 - at' else 1152 - at'
def tickB (b : Bm) : Bm :=
  if b.pt = 63 then (if b.ln = 7 then ⟨8, 0, true, b.fr⟩ else if b.ln = 9 then ⟨0, 0, b.rg, b.fr + 1⟩ else ⟨b.ln + 1, 0, b.rg, b.fr⟩) else ⟨b.ln, b.pt + 1, b.rg, b.fr⟩
def runBm (b : Bm) (n : Int) : Bm :=
  ⟨(b.ln * 64 + b.pt + n) % 640 / 64, (b.ln * 64 + b.pt + n) % 640 % 64, if untilB (b.ln * 64 + b.pt) ≤ n then true else b.rg, b.fr + (b.ln * 64 + b.pt + n) / 640⟩
def nextB (b : Bm) : Int := (64 - b.pt) % 64

theorem runBm_zero (b : Bm) (h : b.In) : runBm b 0 = b := by
  obtain ⟨ln, pt, rg, fr⟩ := b
  obtain ⟨h1, h2, h3, h4⟩ := h
  simp only at h1 h2 h3 h4
  unfold runBm untilB
  simp only [Int.add_zero]
  rw [if_neg (by split <;> omega)]
  congr 1 <;> omega
theorem tickB_in (b : Bm) (h : b.In) : (tickB b).In := by
  obtain ⟨ln, pt, rg, fr⟩ := b
  obtain ⟨h1, h2, h3, h4⟩ := h
  simp only at h1 h2 h3 h4
  unfold tickB Bm.In
  simp only
  split
  · split
    · simp
    · split
      · simp
      · simp only; omega
  · simp only; omega
theorem runBm_in (b : Bm) (n : Int) : (runBm b n).In := by
  unfold runBm Bm.In
  simp only
  omega
theorem runBm_succ (b : Bm) (h : b.In) (n : Int) (hn : 0 ≤ n) : runBm b (n + 1) = tickB (runBm b n) := by
  obtain ⟨ln, pt, rg, fr⟩ := b
  obtain ⟨h1, h2, h3, h4⟩ := h
  simp only at h1 h2 h3 h4
  unfold tickB runBm
  simp only
  generalize hp : ln * 64 + pt = p at *
  have hp0 : 0 ≤ p := by omega
  have hp1 : p ≤ 639 := by omega
  unfold untilB
  by_cases e1 : (p + n) % 640 % 64 = 63
  · rw [if_pos e1]
    by_cases e2 : (p + n) % 640 / 64 = 7
    · rw [if_pos e2]
      congr 1
      · omega
      · omega
      · rw [if_pos]; split <;> omega
      · omega
    · rw [if_neg e2]
      have hsame : ((if p < 512 then 512 - p else 1152 - p) ≤ n + 1) ↔ ((if p < 512 then 512 - p else 1152 - p) ≤ n) := by split <;> omega
      by_cases e3 : (p + n) % 640 / 64 = 9
      · rw [if_pos e3]
        congr 1
        · omega
        · omega
        · simp only [hsame]
        · omega
      · rw [if_neg e3]
        congr 1
        · omega
        · omega
        · simp only [hsame]
        · omega
  · rw [if_neg e1]
    have hsame : ((if p < 512 then 512 - p else 1152 - p) ≤ n + 1) ↔ ((if p < 512 then 512 - p else 1152 - p) ≤ n) := by split <;> omega
    congr 1
    · omega
    · omega
    · simp only [hsame]
    · omega
theorem runBm_add (b : Bm) (h : b.In) (n m : Int) (hn : 0 ≤ n) (hm : 0 ≤ m) : runBm (runBm b n) m = runBm b (n + m) := by
  obtain ⟨m, rfl⟩ := Int.eq_ofNat_of_zero_le hm
  clear hm
  induction m with
  | zero => rw [show ((0 : Nat) : Int) = 0 from rfl, runBm_zero _ (runBm_in b n), Int.add_zero]
  | succ k ih => rw [show ((k + 1 : Nat) : Int) = (k : Int) + 1 from by omega, runBm_succ _ (runBm_in b n) k (by omega), ih, ← Int.add_assoc, runBm_succ b h _ (by omega)]
end Go.Mq
