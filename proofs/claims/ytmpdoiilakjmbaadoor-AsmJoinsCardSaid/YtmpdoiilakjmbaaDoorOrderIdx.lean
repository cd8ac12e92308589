/- The table of orders by its index; small helps. Conditions: none of its own. -/
import Derived.Test.YtmpdoiilakjmbaaDoorRows
import Derived.Test.YtmpdoiilakjmbaaDoorOrderTab
namespace Go.Proofs.YtmpdoiilakjmbaaDoor
open Go.RowKit Go.Mq
set_option linter.unusedVariables false
set_option linter.unusedSimpArgs false
set_option maxHeartbeats 400000
set_option maxRecDepth 100000
theorem pmark {F R : World → Prop} {W : World} (h : R W) (k : ∀ W', R W' → F W') : F W := k W h
theorem and7 (n : Int) (h : U16 n) : bits .and .u16 n 7 = n % 8 := by
  have := bits_mask .u16 16 (by decide) (fun n h h' => by rw [wrap16]; omega) 3 (by omega) n h.1 (by unfold U16 at h; omega)
  simpa using this
theorem and31 (n : Int) (h : U16 n) : bits .and .u16 n 31 = n % 32 := by
  have := bits_mask .u16 16 (by decide) (fun n h h' => by rw [wrap16]; omega) 5 (by omega) n h.1 (by unfold U16 at h; omega)
  simpa using this
theorem and15i (n : Int) (h0 : 0 ≤ n) (h1 : n < 65536) : bits .and .i64 n 15 = n % 16 := by
  have := bits_mask .i64 63 (by decide) (fun n h h' => by rw [IntKind.wrap_i64]; omega) 4 (by omega) n h0 (by omega)
  simpa using this
theorem gcut {G : Prop} {F : Nat → World → Prop} (R : Nat → World → Prop) (h : (∀ g W, R g W → F g W) → G) (H : ∀ g W, R g W → F g W) : G := h H
theorem idx_tab (w : World) (k : Nat) (h : k < 32) : (Instr.index 82 (.agg shC) (.int .i64 (k : Int))).run Tryd.prog w = .ok (.agg (shCell k).toArray) w :=
  match k, h with
  | 0, _ => by kernel_rfl
  | 1, _ => by kernel_rfl
  | 2, _ => by kernel_rfl
  | 3, _ => by kernel_rfl
  | 4, _ => by kernel_rfl
  | 5, _ => by kernel_rfl
  | 6, _ => by kernel_rfl
  | 7, _ => by kernel_rfl
  | 8, _ => by kernel_rfl
  | 9, _ => by kernel_rfl
  | 10, _ => by kernel_rfl
  | 11, _ => by kernel_rfl
  | 12, _ => by kernel_rfl
  | 13, _ => by kernel_rfl
  | 14, _ => by kernel_rfl
  | 15, _ => by kernel_rfl
  | 16, _ => by kernel_rfl
  | 17, _ => by kernel_rfl
  | 18, _ => by kernel_rfl
  | 19, _ => by kernel_rfl
  | 20, _ => by kernel_rfl
  | 21, _ => by kernel_rfl
  | 22, _ => by kernel_rfl
  | 23, _ => by kernel_rfl
  | 24, _ => by kernel_rfl
  | 25, _ => by kernel_rfl
  | 26, _ => by kernel_rfl
  | 27, _ => by kernel_rfl
  | 28, _ => by kernel_rfl
  | 29, _ => by kernel_rfl
  | 30, _ => by kernel_rfl
  | 31, _ => by kernel_rfl
  | k + 32, h => absurd h (by omega)
/-- The parts that an order has, by its number. -/
def hasD (k : Int) : Bool := shdL.getD k.toNat false
def hasS (k : Int) : Bool := shsL.getD k.toNat false
def hasN (k : Int) : Bool := shnL.getD k.toNat false
def hasW (k : Int) : Bool := shwL.getD k.toNat false
def cycO (k : Int) : Int := shcL.getD k.toNat 0
def namO (k : Int) : ByteArray := ⟨(shmL.getD k.toNat []).toArray⟩
theorem idx_any (k : Int) (h0 : 0 ≤ k) (h1 : k < 32) (w : World) : (Instr.index 82 (.agg shC) (.int .i64 k)).run Tryd.prog w = .ok (.agg #[.bool (hasD k), .bool (hasS k), .bool (hasN k), .bool (hasW k), .int .i64 (cycO k), .string (namO k)]) w := by
  obtain ⟨n, rfl⟩ : ∃ n : Nat, k = (n : Int) := ⟨k.toNat, by omega⟩
  rw [idx_tab w n (by omega)]
  rfl
/-- The eight patterns. -/
theorem pat (k : Int) (h0 : 0 ≤ k) (h1 : k < 32) (h3 : k ≠ 30) :
    (hasD k = false ∧ hasS k = false ∧ hasN k = false ∧ hasW k = false) ∨ (hasD k = true ∧ hasS k = true ∧ hasN k = false ∧ hasW k = false) ∨
    (hasD k = true ∧ hasS k = false ∧ hasN k = false ∧ hasW k = true) ∨ (hasD k = false ∧ hasS k = false ∧ hasN k = false ∧ hasW k = true) ∨
    (hasD k = false ∧ hasS k = true ∧ hasN k = false ∧ hasW k = false) ∨ (hasD k = true ∧ hasS k = false ∧ hasN k = false ∧ hasW k = false) ∨
    (hasD k = true ∧ hasS k = true ∧ hasN k = true ∧ hasW k = false ∧ k ≠ 12 ∧ k ≠ 13) ∨ (hasD k = true ∧ hasS k = false ∧ hasN k = true ∧ hasW k = false ∧ (k = 12 ∨ k = 13 ∨ k = 15)) := by
  rcases (by omega : k = 0 ∨ k = 1 ∨ k = 2 ∨ k = 3 ∨ k = 4 ∨ k = 5 ∨ k = 6 ∨ k = 7 ∨ k = 8 ∨ k = 9 ∨ k = 10 ∨ k = 11 ∨ k = 12 ∨ k = 13 ∨ k = 14 ∨ k = 15 ∨ k = 16 ∨ k = 17 ∨ k = 18 ∨ k = 19 ∨ k = 20 ∨ k = 21 ∨ k = 22 ∨ k = 23 ∨ k = 24 ∨ k = 25 ∨ k = 26 ∨ k = 27 ∨ k = 28 ∨ k = 29 ∨ k = 31) with rfl | rfl | rfl | rfl | rfl | rfl | rfl | rfl | rfl | rfl | rfl | rfl | rfl | rfl | rfl | rfl | rfl | rfl | rfl | rfl | rfl | rfl | rfl | rfl | rfl | rfl | rfl | rfl | rfl | rfl | rfl
  all_goals decide
end Go.Proofs.YtmpdoiilakjmbaaDoor
