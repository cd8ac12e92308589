/- bytes.ContainsAny of a few bytes below 128, and the letter w. Conditions: at most ten bytes. -/
import Derived.Test.YtmpdoiilakjmbaaDoorLibS
import Derived.Lib.IndexLaws
namespace Go.Proofs.YtmpdoiilakjmbaaDoor
open Go.RowKit Go.Mq
set_option linter.unusedVariables false
set_option linter.unusedSimpArgs false
set_option maxHeartbeats 1000000
set_option maxRecDepth 100000
theorem idxrune_w (b n c : Nat) (xs : List Int) (hx : xs.length = n) (w : World) (hc : ∀ i, i < n → w.cell? ⟨b, i, none⟩ = some (.int .u8 (xs.getD i 0))) :
    Calls Tryd.prog 70 #[.slice (some ⟨b, 0, none⟩) n c, .int .i32 119] w fun e w' => e = .returned (.int .i64 (Lib.indexByte (Lib.bytesOf xs) 119)) ∧ w' = w := by
  have I := Lib.hid (Tryd.bytes_IndexByte b 0 n c xs 119 w hx (by simpa using hc))
  clear hc
  go_enter Tryd.func70, Tryd.ntmps70
  go_wp2_with fail
  refine (I.out).mono ?_
  rintro e w' ⟨rfl, rfl⟩
  go_wp2
  go_ret
  exact ⟨rfl, rfl⟩
theorem idxany_w (b n c : Nat) (xs : List Int) (hx : xs.length = n) (hn : n ≠ 1) (hl : n ≤ 10) (w : World) (hc : ∀ i, i < n → w.cell? ⟨b, i, none⟩ = some (.int .u8 (xs.getD i 0))) :
    Calls Tryd.prog 41 #[.slice (some ⟨b, 0, none⟩) n c, .string ⟨#[119]⟩] w fun e w' => e = .returned (.int .i64 (Lib.indexByte (Lib.bytesOf xs) 119)) ∧ w' = w := by
  have I := Lib.hid (idxrune_w b n c xs hx w hc)
  have q : ((n : Int) == 1) = false := beq_eq_false_iff_ne.2 (by omega)
  clear hc hx
  have ew : wrap32 (((⟨#[119]⟩ : ByteArray)[0]'(by decide)).toNat : Int) = 119 := by decide +kernel
  go_enter Tryd.func41, Tryd.ntmps41
  go_wp2_with fail
  simp only [ew]
  refine (I.out).mono ?_
  rintro e w' ⟨rfl, rfl⟩
  go_wp2
  go_ret
  exact ⟨rfl, rfl⟩
theorem idxany_1 (b c : Nat) (x : Int) (h0 : 0 ≤ x) (h1 : x ≤ 127) (w : World) (hc : w.cell? ⟨b, 0, none⟩ = some (.int .u8 x)) :
    Calls Tryd.prog 41 #[.slice (some ⟨b, 0, none⟩) 1 c, .string ⟨#[119]⟩] w fun e w' => e = .returned (.int .i64 (if x = 119 then 0 else -1)) ∧ w' = w := by
  have hx : Lib.indexByte [119] x.toNat.toUInt8 = (if x = 119 then 0 else -1) := by
    unfold Lib.indexByte
    by_cases e : x = 119
    · subst e; rfl
    · have : (119 == x.toNat.toUInt8) = false := by
        rw [beq_eq_false_iff_ne]
        intro e2
        have := congrArg UInt8.toNat e2
        simp at this
        omega
      rw [this, if_neg e]
      rfl
  obtain ⟨R, hR⟩ : ∃ R : Int, R = if x = 119 then 0 else -1 := ⟨_, rfl⟩
  rw [← hR] at hx ⊢
  have w3 : wrap32 x = x := by unfold wrap32; omega
  have q : decide (128 ≤ x) = false := by simp; omega
  have q2 : R = 0 ∨ R = -1 := by rw [hR]; split <;> simp
  clear hR
  go_enter Tryd.func41, Tryd.ntmps41
  rcases q2 with rfl | rfl
  all_goals (
    go_wp2
    rw [run_callFunc_extern Tryd.func69 (by kernel_rfl) (by kernel_rfl) (by kernel_rfl) (e := Extern.BytealgIndexByte.indexByte) (by kernel_rfl), Lib.run_indexByteString]
    simp only [Result.andThen]
    rw [Oper.upon_value]
    go_wp2
    go_ret
    exact ⟨rfl, rfl⟩)
theorem contany_w (b n c : Nat) (xs : List Int) (hx : xs.length = n) (hl : n ≤ 10) (w : World) (hc : ∀ i, i < n → w.cell? ⟨b, i, none⟩ = some (.int .u8 (xs.getD i 0))) (ha : ∀ x ∈ xs, 0 ≤ x ∧ x ≤ 127) :
    Calls Tryd.prog 20 #[.slice (some ⟨b, 0, none⟩) n c, .string ⟨#[119]⟩] w fun e w' => e = .returned (.bool (decide (119 ∈ xs))) ∧ w' = w := by
  have H : ∃ R : Int, (Calls Tryd.prog 41 #[.slice (some ⟨b, 0, none⟩) n c, .string ⟨#[119]⟩] w fun e w' => e = .returned (.int .i64 R) ∧ w' = w) ∧ decide (0 ≤ R) = decide (119 ∈ xs) := by
    by_cases h1 : n = 1
    · subst h1
      match xs, hx with
      | [x], _ =>
        obtain ⟨a0, a1⟩ := ha x (by simp)
        refine ⟨_, idxany_1 b c x a0 a1 w (by simpa using hc 0 (by omega)), ?_⟩
        by_cases e : x = 119
        · subst e; rfl
        · rw [if_neg e]; simp; omega
    · refine ⟨_, idxany_w b n c xs hx h1 hl w hc, ?_⟩
      clear hc hl h1 hx
      induction xs with
      | nil => rfl
      | cons x xs ih =>
        obtain ⟨a0, a1⟩ := ha x (by simp)
        have ih := ih (fun y hy => ha y (by simp [hy]))
        have hb : Lib.bytesOf (x :: xs) = x.toNat.toUInt8 :: Lib.bytesOf xs := rfl
        rw [hb]
        unfold Lib.indexByte
        have hg := Lib.indexByte_ge (Lib.bytesOf xs) 119
        by_cases e : x = 119
        · subst e; simp
        · have hne : (x.toNat.toUInt8 == 119) = false := by
            rw [beq_eq_false_iff_ne]
            intro e2
            have := congrArg UInt8.toNat e2
            simp at this
            omega
          rw [hne]
          simp only [Bool.false_eq_true, if_false]
          have e3 : decide (119 ∈ x :: xs) = decide (119 ∈ xs) := by
            simp only [List.mem_cons]
            congr 1
            simp
            exact fun h => absurd h.symm e
          rw [e3, ← ih]
          split
          · next h => simp at h; rw [h]
          · next h => simp at h; simp; omega
  obtain ⟨R, H, hR⟩ := H
  have I := Lib.hid H
  rw [← hR]
  clear H hR hc ha
  go_enter Tryd.func20, Tryd.ntmps20
  go_wp2_with fail
  refine (I.out).mono ?_
  rintro e w' ⟨rfl, rfl⟩
  go_wp2
  go_ret
  exact ⟨rfl, rfl⟩
end Go.Proofs.YtmpdoiilakjmbaaDoor
