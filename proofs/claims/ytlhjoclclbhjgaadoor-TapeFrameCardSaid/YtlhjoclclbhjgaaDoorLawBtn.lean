/- The law's own buttons, there and back. Conditions: the buttons are a byte. -/
import Derived.Test.YtlhjoclclbhjgaaDoorTapeBtn
namespace Go.Proofs.YtlhjoclclbhjgaaDoor
open Go.RowKit Go.Mq
set_option linter.unusedVariables false
set_option linter.unusedSimpArgs false
set_option maxHeartbeats 1000000
set_option maxRecDepth 100000
theorem str_app (l m : List UInt8) : (⟨l.toArray⟩ : ByteArray) ++ (⟨m.toArray⟩ : ByteArray) = ⟨(l ++ m).toArray⟩ := by
  apply ByteArray.ext
  simp [ByteArray.data_append]
theorem btn_next (n k : Nat) (h : k < 8) : (btn n).take (k + 1) = (btn n).take k ++ [if n / 2 ^ (7 - k) % 2 = 1 then letB.getD k 0 else 46] := by
  have hl : k < (btn n).length := by simp [btn]; omega
  rw [List.take_add_one, List.getElem?_eq_getElem hl]
  simp [btn]
theorem tmod2 (n j : Nat) : ((n : Int) / 2 ^ j).tmod 2 = ((n / 2 ^ j % 2 : Nat) : Int) := by
  have e : ((n : Int) / 2 ^ j) = ((n / 2 ^ j : Nat) : Int) := by simp
  rw [e, Int.tmod_eq_emod_of_nonneg (Int.natCast_nonneg _)]
  omega
theorem lawbuttons_any (b : Int) (hb : U8 b) (w : World) :
    Calls Tryd.prog 18 #[.int .u8 b] w fun e w' => e = .returned (.string ⟨(btn b.toNat).toArray⟩) ∧ Below w.heap.size w w' := by
  obtain ⟨n, rfl⟩ : ∃ n : Nat, b = n := ⟨b.toNat, by unfold U8 at hb; omega⟩
  have hn : Hid (n < 256) := Lib.hid (by unfold U8 at hb; omega)
  clear hb
  rw [Int.toNat_natCast]
  go_enter Tryd.func18, Tryd.ntmps18
  go_wp2
  refine wp_mark (R := fun W => Below w.heap.size w W ∧ Hid (Blk W (w.heap.size) (#[.string ⟨#[117]⟩, .string ⟨#[100]⟩, .string ⟨#[108]⟩, .string ⟨#[114]⟩, .string ⟨#[97]⟩, .string ⟨#[98]⟩, .string ⟨#[115]⟩, .string ⟨#[116]⟩]) 9)) ⟨by repeat' (first | (with_reducible first | exact Below.refl _ _ | assumption | refine below_alloc ?_ _ | refine Below.drew ?_ | refine below_drewN ?_ _ | refine below_then ?_ (by assumption) | refine below_put ?_ (by assumption) (by first | (simp; done) | (simp; omega) | omega) | refine Below.setCell ?_ ?_ _) | (simp; done) | (simp; omega) | omega), Lib.hid (by repeat' (first | (with_reducible first | exact Hid.out (by assumption) | exact Blk.new _ _ _ | (refine Blk.new_at _ _ _ _ ?_; simp; done) | refine Blk.alloc ?_ _ | refine Blk.drewN ?_ _ | refine Blk.drew ?_ | apply Blk.set | refine Blk.put ?_ (by assumption) (by first | (simp; done) | (simp; omega) | omega) | refine Blk.below ?_ (by assumption)) | (refine Blk.setAt ?_ (by first | (simp; done) | (simp; omega))) | rfl))⟩ ?_
  rintro w1 ⟨hbw1, Kw1_0⟩
  obtain ⟨lw1_0, cw1_0, fw1_0⟩ := Kw1_0.out.use
  have CL : Hid (∀ k, k < 8 → w1.cell? ⟨w.heap.size, k, none⟩ = some (.string ⟨#[letB.getD k 0]⟩)) := Lib.hid fun k h => by
    rw [cw1_0]
    rcases (by omega : k = 0 ∨ k = 1 ∨ k = 2 ∨ k = 3 ∨ k = 4 ∨ k = 5 ∨ k = 6 ∨ k = 7) with rfl | rfl | rfl | rfl | rfl | rfl | rfl | rfl <;> rfl
  clear cw1_0 fw1_0
  go_loopw [3, 8] (fun t i wr => ∃ k : Nat, k ≤ 8 ∧ t = .string ⟨((btn n).take k).toArray⟩ ∧ i = .int .i64 k ∧ wr = w1) (fun _ i _ => 8 - (intOf i).toNat)
  case atStart => exact ⟨0, by omega, rfl, rfl, rfl⟩
  case round =>
    obtain ⟨k, hk, rfl, rfl, rfl⟩ := hrel
    by_cases h8 : k < 8
    · have e7 : (7 - (k : Int)) = ((7 - k : Nat) : Int) := by omega
      have hk7 : (k : Int) ≤ 7 := by omega
      have hkz : (k : Int) < 8 := by omega
      have ck := CL.out k h8
      have TM := Lib.hid (tmod2 n (7 - k))
      have NX := Lib.hid (btn_next n k h8)
      go_wp2
      · have hh : (((n : Int) / 2 ^ (7 - k)).tmod 2 == 0) = true := by assumption
        have h0 : ¬ n / 2 ^ (7 - k) % 2 = 1 := by have := beq_iff_eq.1 hh; rw [TM.out] at this; omega
        refine ⟨⟨k + 1, by omega, ?_, by simp, trivial⟩, by simp [intOf]; omega⟩
        rw [NX.out, if_neg h0, ← str_app]
      · have hh : (((n : Int) / 2 ^ (7 - k)).tmod 2 == 0) = false := by assumption
        have h0 : n / 2 ^ (7 - k) % 2 = 1 := by have := beq_eq_false_iff_ne.1 hh; rw [TM.out] at this; omega
        refine ⟨⟨k + 1, by omega, ?_, by simp, trivial⟩, by simp [intOf]; omega⟩
        rw [NX.out, if_pos h0, ← str_app]
        simp
    · have : k = 8 := by omega
      subst this
      go_wp2
      go_ret
      exact ⟨by rw [List.take_of_length_le (by simp [btn])]; simp, by repeat' (first | (with_reducible first | exact Below.refl _ _ | assumption | refine below_alloc ?_ _ | refine Below.drew ?_ | refine below_drewN ?_ _ | refine below_then ?_ (by assumption) | refine below_put ?_ (by assumption) (by first | (simp; done) | (simp; omega) | omega) | refine Below.setCell ?_ ?_ _) | (simp; done) | (simp; omega) | omega)⟩
/-- back: the first byte whose buttons these are -/
def lawOf (l : List UInt8) : Value := match ofBtn l with
  | some n => .tuple #[.int .u8 n, .bool true]
  | none => .tuple #[.int .u8 0, .bool false]
theorem lawof_any (s : ByteArray) (w : World) : Calls Tryd.prog 15 #[.string s] w fun e w' => e = .returned (lawOf s.data.toList) ∧ Below w.heap.size w w' := by
  have LB := Lib.hid lawbuttons_any
  go_enter Tryd.func15, Tryd.ntmps15
  go_wp2
  go_loopw [5] (fun i wr => ∃ k : Nat, k ≤ 256 ∧ i = .int .i64 k ∧ Hid (∀ j, j < k → btn j ≠ s.data.toList) ∧ Below w.heap.size w wr) (fun i _ => 256 - (intOf i).toNat)
  case atStart => exact ⟨0, by omega, rfl, Lib.hid (fun j hj => by omega), Below.refl _ _⟩
  case round =>
    obtain ⟨k, hk, rfl, hx, hb⟩ := hrel
    by_cases h8 : k < 256
    · have hkz : (k : Int) < 256 := by omega
      have e8 : (k : Int) % 256 = k := by omega
      have BB := Lib.hid (LB.out (k : Int) (by unfold U8; omega) wr)
      have TN := Lib.hid (Int.toNat_natCast k)
      by_cases hq : btn k = s.data.toList
      · have E : Hid (ofBtn s.data.toList = some k) := Lib.hid (by rw [← hq]; exact of_btn k h8)
        have hqq : (btn k == s.toList) = true := by rw [Lib.toList_data, hq]; simp
        clear hq
        go_wp2_with fail
        refine (BB.out).mono ?_
        rintro e w1 ⟨rfl, hb1⟩
        rw [TN.out]
        have hbb : Below w.heap.size w w1 := hb.trans (hb1.mono hb.size)
        go_wp2
        go_ret2
        refine ⟨?_, hbb⟩
        unfold lawOf
        rw [E.out]
        rfl
      · have hqq : (btn k == s.toList) = false := by rw [Lib.toList_data]; exact beq_eq_false_iff_ne.2 hq
        have HQ := Lib.hid hq
        clear hq
        go_wp2_with fail
        refine (BB.out).mono ?_
        rintro e w1 ⟨rfl, hb1⟩
        rw [TN.out]
        have hbb : Below w.heap.size w w1 := hb.trans (hb1.mono hb.size)
        go_wp2
        refine ⟨⟨k + 1, by omega, by simp, Lib.hid (fun j hj => ?_), hbb⟩, by simp [intOf]; omega⟩
        rcases (by omega : j < k ∨ j = k) with h | rfl
        · exact hx.out j h
        · exact HQ.out
    · have hk' : k = 256 := by omega
      subst hk'
      have E : Hid (ofBtn s.data.toList = none) := Lib.hid (by
        cases h : ofBtn s.data.toList with
        | none => rfl
        | some n => exact absurd (btn_of h).2 (hx.out n (btn_of h).1))
      go_wp2
      go_ret2
      refine ⟨?_, hb⟩
      unfold lawOf
      rw [E.out]
      rfl
end Go.Proofs.YtlhjoclclbhjgaaDoor
