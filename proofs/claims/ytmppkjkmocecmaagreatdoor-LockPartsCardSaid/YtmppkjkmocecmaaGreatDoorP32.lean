/- The program's run clock by clock says what is not right. Conditions: the machine's memories are slices of bytes; what is pressed lies in memory. -/
import Derived.Test.YtmppkjkmocecmaaGreatDoorSq
import Derived.Test.YtmppkjkmocecmaaGreatDoorSh
import Derived.Test.YtmppkjkmocecmaaGreatDoorLockRn
import Derived.Test.YtmppkjkmocecmaaGreatDoorP19
import Derived.Lib.IndexLaws
import Derived.Lib.IndexBytes
import Derived.Lib.CountLaws
set_option linter.unusedVariables false
set_option linter.unusedSimpArgs false
set_option maxHeartbeats 2000000
set_option maxRecDepth 100000
namespace Go.Proofs.YtmppkjkmocecmaaGreatDoor
open Go.RowKit Go.Mq
/-- a run's first error -/
def errL (m : Mach) (ins : List Inp) (n : Int) : Int := if chk m ≠ 0 then chk m else if chkI ins m.ck ≠ 0 then chkI ins m.ck else if n < 0 ∨ 20000 < n ∨ 200000 < m.ck + n then 3 else 0
theorem errL_ok {m : Mach} {ins : List Inp} {n : Int} (h : errL m ins n = 0) : m.Right ∧ chkI ins m.ck = 0 ∧ 0 ≤ n ∧ n ≤ 20000 ∧ m.ck + n ≤ 200000 := by
 unfold errL at h
 by_cases h1 : chk m = 0
 ·rw [if_neg (fun k => k h1)] at h
  by_cases h2 : chkI ins m.ck = 0
  ·rw [if_neg (fun k => k h2)] at h
   by_cases h3 : n < 0 ∨ 20000 < n ∨ 200000 < m.ck + n
   ·rw [if_pos h3] at h; cases h
   ·exact ⟨(chk_zero m).1 h1, h2, by omega, by omega, by omega⟩
  ·rw [if_pos h2] at h; exact absurd h h2
 ·rw [if_pos h1] at h; exact absurd h h1
end Go.Proofs.YtmppkjkmocecmaaGreatDoor
namespace Go.Mq
open Go
theorem index1_cases (s : List UInt8) (c : UInt8) : (Lib.index s [c] = -1 ∧ c ∉ s) ∨ ∃ (a b : List UInt8), s = a ++ c :: b ∧ c ∉ a ∧ Lib.index s [c] = a.length := by
 rw [Lib.index_one]
 rcases h : decide (Lib.indexByte s c = -1) with _ | _
 ·have hn := of_decide_eq_false h
  have hg := Lib.indexByte_ge s c
  obtain ⟨o, ho⟩ : ∃ o : Nat, Lib.indexByte s c = o := ⟨(Lib.indexByte s c).toNat, by omega⟩
  obtain ⟨h1, h2⟩ := Lib.indexByte_some ho
  obtain ⟨hlt, he⟩ := List.getElem?_eq_some_iff.1 h1
  refine .inr ⟨s.take o, s.drop (o + 1), ?_, fun hm => ?_, ?_⟩
  ·rw [← he, ← List.drop_eq_getElem_cons hlt, List.take_append_drop]
  ·obtain ⟨k, hk, e⟩ := List.mem_iff_getElem.1 hm
   rw [List.length_take] at hk
   rw [List.getElem_take] at e
   exact h2 k kO (by rw [List.getElem?_eq_getElem kO, e])
  ·rw [ho, List.length_take]; omega
 ·have hn := of_decide_eq_true h
  refine .inl ⟨hn, fun hm => ?_⟩
  obtain ⟨k, hk, e⟩ := List.mem_iff_getElem.1 hm
  exact Lib.indexByte_none hn k (by rw [List.getElem?_eq_getElem hk, e])
theorem split_sepBy (c : UInt8) : ∀ (n : Nat) (s : List UInt8), s.length ≤ n → Lib.splitK [c] 0 (Lib.count s [c]) s = sepBy c s
 | n, s, hn => by
  rcases index1_cases s c with ⟨h1, h2⟩ | ⟨a, b, rfl, h2, h3⟩
  ·rw [Lib.count_miss h1, sepBy_miss c s h2]
   rfl
  ·rw [Lib.count_hit kS h3, Nat.add_comm 1, Lib.splitK, if_neg (by rw [h3]; intro e; have := beq_iff_eq.1 e; omega), sepBy_hit c a b h2, h3]
   simp only [Int.toNat_natCast, List.length_singleton, Nat.add_zero]
   have e1 : (a ++ c :: b).take a.length = a := by simp
   have e2 : (a ++ c :: b).drop (a.length + 1) = b := by simp
   rw [e1, e2]
   cases n with
   | zero => simp at hn
   | succ n => rw [split_sepBy c n b (by simp at hn; omega)]
theorem split_all (c : UInt8) (s : List UInt8) : Lib.splitK [c] 0 (Lib.count s [c]) s = sepBy c s := split_sepBy c _ s (Nat.le_refl _)
theorem cut_miss (c : UInt8) (s : List UInt8) (h : c ∉ s) : Lib.cut s [c] = (s, [], false) := by
 rcases index1_cases s c with ⟨h1, h2⟩ | ⟨a, b, rfl, h2, h3⟩
 ·unfold Lib.cut
  rw [if_neg (by rw [h1]; omega)]
 ·exact absurd kS h
theorem cut_hit (c : UInt8) (a b : List UInt8) (h : c ∉ a) : Lib.cut (a ++ c :: b) [c] = (a, b, true) := by
 rcases index1_cases (a ++ c :: b) c with ⟨h1, h2⟩ | ⟨a', b', e, h2, h3⟩
 ·exact absurd kS h2
 ·have ha : a' = a ∧ b' = b := by
   clear h3
   induction a generalizing a' with
   | nil => cases a' with
    | nil => simp at e; exact ⟨rfl, e.symm⟩
    | cons x t => simp at e; exact absurd (by simp [e.1]) h2
   | cons y t ih => cases a' with
    | nil => simp at e; exact absurd (by simp [e.1]) h
    | cons x t' =>
     simp only [List.cons_append, List.cons.injEq] at e
     obtain ⟨r1, r2⟩ := ih (fun hm => h (by simp [hm])) t' e.2 (fun hm => h2 (by simp [hm]))
     exact ⟨by rw [r1, e.1], r2⟩
  obtain ⟨rfl, rfl⟩ := ha
  unfold Lib.cut
  rw [h3, if_pos kO]
  simp
end Go.Mq
