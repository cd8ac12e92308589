/- An order's sums of registers. Conditions: the fields are words, the order's parts in their ranges. -/
import Derived.Test.YteihggfcafoogaaCpuSumA
import Derived.Test.YteihggfcafoogaaCpuSumB
import Derived.Test.YteihggfcafoogaaCpuSumC
import Derived.Test.YteihggfcafoogaaCpuSumD
namespace Go.Proofs.Yteihggfcafoogaa
open Go.RowKit Go.Mq
theorem sums_any (c : Cp) (op : Int) (D S : Nat) (n v cy : Int) (get put : Value) (hD : D < 8) (hS8 : S < 8) (hn : -16 ≤ n ∧ n ≤ 15) (hsh : op = 12 ∨ op = 13 → 0 ≤ n) (cb db B : Nat) (hBc : B ≤ cb) (hBd : B ≤ db) (hdc : db ≠ cb) (w : World) (hc : Blk w cb (cpuC c) 28) (hd : Blk w db (doC cb get put op D S n v cy) 69) (hi : c.In) :
    Calls Try.prog 25 #[.pointer (some ⟨db, 0, none⟩)] w fun e w' => e = .returned (.bool (isSum op)) ∧ Blk w' cb (cpuC (sumR c op D S n)) 28 ∧ Kp B (· = cb) w w' ∧ Below cb w w' := by
  by_cases h12 : op = 12
  · exact sums_a c op D S n v cy get put hD hS8 hn hsh cb db B hBc hBd hdc w hc hd hi (fun _ => Or.inl h12)
  by_cases h13 : op = 13
  · exact sums_a c op D S n v cy get put hD hS8 hn hsh cb db B hBc hBd hdc w hc hd hi (fun _ => Or.inr h13)
  by_cases h15 : op = 15
  · exact sums_b c op D S n v cy get put hD hS8 hn hsh cb db B hBc hBd hdc w hc hd hi h15
  by_cases h14 : op = 14
  · exact sums_c c op D S n v cy get put hD hS8 hn hsh cb db B hBc hBd hdc w hc hd hi h14
  by_cases hf : isFl op = true
  · exact sums_d c op D S n v cy get put hD hS8 hn hsh cb db B hBc hBd hdc w hc hd hi hf h12 h13 h14 h15
  · refine sums_a c op D S n v cy get put hD hS8 hn hsh cb db B hBc hBd hdc w hc hd hi (fun h => ?_)
    simp only [isSum, Bool.or_eq_true, beq_iff_eq] at h
    rcases h with (h | h) | h
    · exact Or.inl h
    · exact Or.inr h
    · exact absurd h hf
end Go.Proofs.Yteihggfcafoogaa
