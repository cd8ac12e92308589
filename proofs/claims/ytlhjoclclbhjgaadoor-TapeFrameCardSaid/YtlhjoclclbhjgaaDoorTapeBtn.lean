/- The program's buttons as a text. Conditions: the buttons are a byte. -/
import Derived.Test.YtlhjoclclbhjgaaDoorTapePure
import Derived.Test.YtlhjoclclbhjgaaDoorBase
import Derived.Test.YtlhjoclclbhjgaaDoorShelf
import Derived.Test.YtlhjoclclbhjgaaDoorRows
import Derived.LoopTactic
namespace Go.Proofs.YtlhjoclclbhjgaaDoor
open Go.RowKit Go.Mq
set_option linter.unusedVariables false
set_option linter.unusedSimpArgs false
set_option maxHeartbeats 1000000
set_option maxRecDepth 100000
theorem letter_at (k : Nat) (h : k < 8) (h' : k < (⟨#[117, 100, 108, 114, 97, 98, 115, 116]⟩ : ByteArray).size) : ((⟨#[117, 100, 108, 114, 97, 98, 115, 116]⟩ : ByteArray)[k]'h').toNat = (letB.getD k 0).toNat := by
  rcases (by omega : k = 0 ∨ k = 1 ∨ k = 2 ∨ k = 3 ∨ k = 4 ∨ k = 5 ∨ k = 6 ∨ k = 7) with rfl | rfl | rfl | rfl | rfl | rfl | rfl | rfl <;> rfl
theorem btn_take (n k : Nat) (h : k < 8) : Lib.byteCells ((btn n).take (k + 1)) = Lib.byteCells ((btn n).take k) ++ [.int .u8 (if n / 2 ^ (7 - k) % 2 = 1 then ((letB.getD k 0).toNat : Int) else 46)] := by
  have hl : k < (btn n).length := by simp [btn]; omega
  rw [List.take_add_one, List.getElem?_eq_getElem hl]
  simp only [btn, List.getElem_map, List.getElem_range, Option.toList_some, Lib.byteCells, List.map_append, List.map_cons, List.map_nil]
  split <;> rfl
theorem bit8a : ∀ m, m < 256 → bits .and .u8 ((m : Nat) : Int) 1 = ((m % 2 : Nat) : Int) := by decide +kernel
theorem bit8 (n j : Nat) (h : n < 256) : bits .and .u8 ((n : Int) / 2 ^ j) 1 = ((n / 2 ^ j % 2 : Nat) : Int) := by
  have e : ((n : Int) / 2 ^ j) = ((n / 2 ^ j : Nat) : Int) := by simp
  have hl : n / 2 ^ j < 256 := Nat.lt_of_le_of_lt (Nat.div_le_self _ _) h
  rw [e]
  exact bit8a _ hl
theorem buttons_any (b : Int) (hb : U8 b) (w : World) :
    Calls Tryd.prog 17 #[.int .u8 b] w fun e w' => e = .returned (.string ⟨(btn b.toNat).toArray⟩) ∧ Below w.heap.size w w' := by
  obtain ⟨n, rfl⟩ : ∃ n : Nat, b = n := ⟨b.toNat, by unfold U8 at hb; omega⟩
  have hn : Hid (n < 256) := Lib.hid (by unfold U8 at hb; omega)
  clear hb
  rw [Int.toNat_natCast]
  go_enter Tryd.func17, Tryd.ntmps17
  go_wp2
  go_loopw [5] (fun i wr => ∃ k : Nat, k ≤ 8 ∧ i = .int .i64 k ∧ Hid (Lib.IsBuilder 99 5 w.heap.size w.heap.size (Lib.byteCells ((btn n).take k)) wr) ∧ Below w.heap.size w wr) (fun i _ => 8 - (intOf i).toNat)
  case atStart => exact ⟨0, by omega, rfl, Lib.hid (Lib.fresh_isBuilder _ _ _), by repeat' (first | (with_reducible first | exact Below.refl _ _ | assumption | refine below_alloc ?_ _ | refine Below.drew ?_ | refine below_drewN ?_ _ | refine below_then ?_ (by assumption) | refine below_put ?_ (by assumption) (by first | (simp; done) | (simp; omega) | omega) | refine Below.setCell ?_ ?_ _) | (simp; done) | (simp; omega) | omega)⟩
  case round =>
    obtain ⟨k, hk, rfl, hx, hb⟩ := hrel
    by_cases h8 : k < 8
    · have e7 : (7 - (k : Int)) = ((7 - k : Nat) : Int) := by omega
      have hk7 : (k : Int) ≤ 7 := by omega
      have hl : ((btn n).take k).length ≤ 8 := by rw [List.length_take]; omega
      have hbs := hb.size
      have BT := Lib.hid (btn_take n k h8)
      by_cases hbit : n / 2 ^ (7 - k) % 2 = 1
      · have hq : bits .and .u8 ((n : Int) / 2 ^ (7 - k)) 1 = 1 := by rw [bit8 n _ hn.out, hbit]; rfl
        have hq2 := Lib.hid hbit
        clear hbit
        go_wp2_with fail
        rw [letter_at k h8]
        refine (Tryd.Builder_WriteByte _ _ _ _ _ hx.out (by rw [Lib.byteCells_length]; omega) (by omega)).mono ?_
        rintro e w1 ⟨rfl, hu, hb1⟩
        replace hu : Hid _ := Lib.hid hu
        have hbb : Below w.heap.size w w1 := hb.trans hb1
        go_wp2
        go_roundw
        case rel => exact ⟨k + 1, by omega, by go_num, Lib.hid (Or.inr (by rw [BT.out, if_pos hq2.out]; exact hu.out)), hbb⟩
        case measure => simp [intOf]; omega
      · have hq : bits .and .u8 ((n : Int) / 2 ^ (7 - k)) 1 = 0 := by rw [bit8 n _ hn.out, show n / 2 ^ (7 - k) % 2 = 0 by omega]; rfl
        have hq2 := Lib.hid hbit
        clear hbit
        go_wp2_with fail
        refine (Tryd.Builder_WriteByte _ _ _ _ _ hx.out (by rw [Lib.byteCells_length]; omega) (by omega)).mono ?_
        rintro e w1 ⟨rfl, hu, hb1⟩
        replace hu : Hid _ := Lib.hid hu
        have hbb : Below w.heap.size w w1 := hb.trans hb1
        go_wp2
        go_roundw
        case rel => exact ⟨k + 1, by omega, by go_num, Lib.hid (Or.inr (by rw [BT.out, if_neg hq2.out]; exact hu.out)), hbb⟩
        case measure => simp [intOf]; omega
    · have : k = 8 := by omega
      subst this
      go_wp2_with fail
      refine (Tryd.Builder_String_any _ _ (btn n) _ (by have := hx.out; rwa [List.take_of_length_le (by simp [btn])] at this) (by have := hb.size; omega)).mono ?_
      rintro e w1 ⟨rfl, hb1⟩
      have hbb : Below w.heap.size w w1 := hb.trans hb1
      go_wp2
      go_ret
      exact ⟨rfl, hbb⟩
end Go.Proofs.YtlhjoclclbhjgaaDoor
