/- Plain mathematics of a pad. Conditions: none; no program in sight. -/
import Derived.Test.YtegilgnpkcjhpaaBase
namespace Go.Mq
set_option linter.unusedVariables false
structure Pd where
  dn : Int
  la : Bool
  sh : Int
structure Pd.Ok (p : Pd) : Prop where
  dn : U8 p.dn
  sh : U8 p.sh
def readP (p : Pd) : Pd := if p.la then p else { p with sh := p.sh * 2 % 256 + 1 }
def bitP (p : Pd) : Int := if p.la then p.dn / 128 else p.sh / 128
def writeP (p : Pd) (b : Int) : Pd := if b % 2 = 1 then { p with la := true, sh := p.dn } else { p with la := false }
def pressP (p : Pd) (d : Int) : Pd := if p.la then { p with dn := d, sh := d } else { p with dn := d }
/-- what is shifted after k reads of a pad whose latch was let go; what was read -/
def shK (dn : Int) (k : Nat) : Int := dn * 2 ^ k % 256 + (2 ^ k - 1)
def rdK (dn : Int) (k : Nat) : Int := dn / 2 ^ (8 - k)

theorem or1 (x : Int) (h0 : 0 ≤ x) (h1 : x < 256) (h2 : x % 2 = 0) : bits .or .u8 x 1 = x + 1 := by
  rw [show x = ((x.toNat : Nat) : Int) from by omega, show (1 : Int) = ((1 : Nat) : Int) from rfl, u8_or_nat _ _ (by omega) (by omega), nat_join 1 _ _ (by omega) (by omega)]
  omega
theorem readP_ok (p : Pd) (h : p.Ok) : (readP p).Ok := by
  obtain ⟨⟨a, b⟩, ⟨c, d⟩⟩ := h
  unfold readP
  split
  · exact ⟨⟨a, b⟩, ⟨c, d⟩⟩
  · exact ⟨⟨a, b⟩, ⟨by simp only; omega, by simp only; omega⟩⟩
theorem writeP_ok (p : Pd) (b : Int) (h : p.Ok) : (writeP p b).Ok := by
  unfold writeP
  split
  · exact ⟨h.dn, h.dn⟩
  · exact ⟨h.dn, h.sh⟩
theorem pressP_ok (p : Pd) (d : Int) (h : p.Ok) (hd : U8 d) : (pressP p d).Ok := by
  unfold pressP
  split
  · exact ⟨hd, hd⟩
  · exact ⟨hd, h.sh⟩
theorem shK_u (dn : Int) (h : U8 dn) (k : Nat) (hk : k ≤ 8) : U8 (shK dn k) := by
  unfold U8 at *; unfold shK
  rcases (by omega : k = 0 ∨ k = 1 ∨ k = 2 ∨ k = 3 ∨ k = 4 ∨ k = 5 ∨ k = 6 ∨ k = 7 ∨ k = 8) with rfl | rfl | rfl | rfl | rfl | rfl | rfl | rfl | rfl <;> simp <;> omega
theorem rdK_u (dn : Int) (h : U8 dn) (k : Nat) (hk : k ≤ 8) : U8 (rdK dn k) := by
  unfold U8 at *; unfold rdK
  rcases (by omega : k = 0 ∨ k = 1 ∨ k = 2 ∨ k = 3 ∨ k = 4 ∨ k = 5 ∨ k = 6 ∨ k = 7 ∨ k = 8) with rfl | rfl | rfl | rfl | rfl | rfl | rfl | rfl | rfl <;> simp <;> omega
theorem shK_succ (dn : Int) (h : U8 dn) (k : Nat) (hk : k < 8) : shK dn k * 2 % 256 + 1 = shK dn (k + 1) := by
  unfold U8 at h; unfold shK
  rcases (by omega : k = 0 ∨ k = 1 ∨ k = 2 ∨ k = 3 ∨ k = 4 ∨ k = 5 ∨ k = 6 ∨ k = 7) with rfl | rfl | rfl | rfl | rfl | rfl | rfl | rfl <;> simp <;> omega
theorem rdK_succ (dn : Int) (h : U8 dn) (k : Nat) (hk : k < 8) : rdK dn k * 2 + shK dn k / 128 = rdK dn (k + 1) := by
  unfold U8 at h; unfold shK rdK
  rcases (by omega : k = 0 ∨ k = 1 ∨ k = 2 ∨ k = 3 ∨ k = 4 ∨ k = 5 ∨ k = 6 ∨ k = 7) with rfl | rfl | rfl | rfl | rfl | rfl | rfl | rfl <;> simp <;> omega
theorem shK_zero (dn : Int) (h : U8 dn) : shK dn 0 = dn := by unfold U8 at h; unfold shK; simp; omega
theorem rdK_zero (dn : Int) (h : U8 dn) : rdK dn 0 = 0 := by unfold U8 at h; unfold rdK; simp; omega
theorem shK_all (dn : Int) (h : U8 dn) : shK dn 8 = 255 := by unfold U8 at h; unfold shK; simp
theorem rdK_all (dn : Int) : rdK dn 8 = dn := by unfold rdK; simp
theorem join_bit (x b : Int) (x0 : 0 ≤ x) (x1 : x ≤ 127) (b0 : 0 ≤ b) (b1 : b ≤ 1) : bits .or .u8 (x * 2) b = x * 2 + b := by
  rw [show x * 2 = (((x * 2).toNat : Nat) : Int) from by omega, show b = ((b.toNat : Nat) : Int) from by omega, u8_or_nat _ _ (by omega) (by omega), nat_join 1 _ _ (by omega) (by omega)]
  omega
end Go.Mq
