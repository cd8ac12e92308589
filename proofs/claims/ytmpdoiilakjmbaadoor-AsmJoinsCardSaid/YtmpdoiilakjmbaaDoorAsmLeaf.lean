/- The small functions of the assembler. Conditions: the library's variables hold what they were laid with, where numbers are read. -/
import Derived.Test.YtmpdoiilakjmbaaDoorAsmPure
import Derived.Test.YtmpdoiilakjmbaaDoorLibS
import Derived.Test.YtmpdoiilakjmbaaDoorOrdNm
import Derived.LoopTactic
namespace Go.Proofs.YtmpdoiilakjmbaaDoor
open Go.RowKit Go.Mq
set_option linter.unusedVariables false
set_option linter.unusedSimpArgs false
set_option maxHeartbeats 1000000
set_option maxRecDepth 100000
def stopE (k : Int) : Ending := .panicked [{ v := .iface 101 (.agg #[.int .i64 k]), recovered := false }]
theorem fail_any (k : Int) (w : World) : Calls Tryd.prog 58 #[.int .i64 k] w fun e w' => e = stopE k ∧ w' = w := by
  go_enter Tryd.func58, Tryd.ntmps58
  go_wp2
  exact ⟨rfl, rfl, rfl⟩
theorem reg_yes (r d : UInt8) (h : r.toNat = 114 ∧ 48 ≤ d.toNat ∧ d.toNat ≤ 55) (w : World) : Calls Tryd.prog 84 #[.string ⟨#[r, d]⟩] w fun e w' => e = .returned (.tuple #[.int .i64 ((d.toNat : Int) - 48), .int .i64 0, .bool true]) ∧ w' = w := by
  have e0 : ∀ h, ((⟨#[r, d]⟩ : ByteArray)[0]'h) = r := fun _ => rfl
  have e1 : ∀ h, ((⟨#[r, d]⟩ : ByteArray)[1]'h) = d := fun _ => rfl
  obtain ⟨x, hx⟩ : ∃ x : Int, x = d.toNat := ⟨_, rfl⟩
  have q0 : (r.toNat : Int) = 114 := by omega
  have q1 : 48 ≤ x := by omega
  have q2 : x ≤ 55 := by omega
  rw [← hx]
  replace hx : ((d.toNat : Nat) : Int) = x := hx.symm
  clear h
  go_enter Tryd.func84, Tryd.ntmps84
  go_wp2
  go_ret3
  exact ⟨rfl, rfl⟩
theorem reg_no (l : List UInt8) (h : regF l = none) (w : World) : Calls Tryd.prog 84 #[.string ⟨l.toArray⟩] w fun e w' => e = .returned (.tuple #[.int .i64 0, .int .i64 1, .bool false]) ∧ w' = w := by
  by_cases hl : l.length = 2
  · match l, hl with
    | [r, d], _ =>
      have e0 : ∀ h, ((⟨#[r, d]⟩ : ByteArray)[0]'h) = r := fun _ => rfl
      have e1 : ∀ h, ((⟨#[r, d]⟩ : ByteArray)[1]'h) = d := fun _ => rfl
      have hn : ¬ (r.toNat = 114 ∧ 48 ≤ d.toNat ∧ d.toNat ≤ 55) := fun hh => by simp [regF, hh] at h
      obtain ⟨x, hx⟩ : ∃ x : Int, x = d.toNat := ⟨_, rfl⟩
      obtain ⟨y, hy⟩ : ∃ x : Int, x = r.toNat := ⟨_, rfl⟩
      have hn' : ¬ (y = 114 ∧ 48 ≤ x ∧ x ≤ 55) := by omega
      replace hx : ((d.toNat : Nat) : Int) = x := hx.symm
      replace hy : ((r.toNat : Nat) : Int) = y := hy.symm
      clear h hn
      by_cases h0 : y = 114
      · by_cases h1 : 48 ≤ x
        · have h2 : 55 < x := by omega
          clear hn'
          go_enter Tryd.func84, Tryd.ntmps84
          go_wp2
          go_ret3
          exact ⟨rfl, rfl⟩
        · have h2 : x < 48 := by omega
          clear hn' h1
          go_enter Tryd.func84, Tryd.ntmps84
          go_wp2
          go_ret3
          exact ⟨rfl, rfl⟩
      · have h2 : (y == 114) = false := beq_eq_false_iff_ne.2 h0
        clear hn' h0
        go_enter Tryd.func84, Tryd.ntmps84
        go_wp2
        go_ret3
        exact ⟨rfl, rfl⟩
  · have q : ((l.length : Int) == 2) = false := beq_eq_false_iff_ne.2 (by omega)
    clear h hl
    go_enter Tryd.func84, Tryd.ntmps84
    go_wp2
    go_ret3
    exact ⟨rfl, rfl⟩
theorem reg_cases (l : List UInt8) : regF l = none ∨ ∃ r d, l = [r, d] ∧ (r.toNat = 114 ∧ 48 ≤ d.toNat ∧ d.toNat ≤ 55) ∧ regF l = some ((d.toNat : Int) - 48) := by
  match l with
  | [] => exact .inl rfl
  | [_] => exact .inl rfl
  | [r, d] =>
    by_cases h : r.toNat = 114 ∧ 48 ≤ d.toNat ∧ d.toNat ≤ 55
    · exact .inr ⟨r, d, rfl, h, by rw [regF, if_pos h]⟩
    · exact .inl (by rw [regF, if_neg h])
  | _ :: _ :: _ :: _ => exact .inl rfl
theorem register_yes (l : List UInt8) (n : Int) (h : regF l = some n) (w : World) : Calls Tryd.prog 63 #[.string ⟨l.toArray⟩] w fun e w' => e = .returned (.int .i64 n) ∧ w' = w := by
  rcases reg_cases l with h0 | ⟨r, d, rfl, hd, h0⟩
  · rw [h0] at h; cases h
  · rw [h0] at h
    injection h with h
    subst h
    have I := Lib.hid (reg_yes r d hd)
    clear hd h0
    obtain ⟨x, hx⟩ : ∃ x : Int, x = (d.toNat : Int) - 48 := ⟨_, rfl⟩
    rw [← hx] at I ⊢
    clear hx
    go_enter Tryd.func63, Tryd.ntmps63
    go_wp2_with fail
    refine (I.out _).mono ?_
    rintro e w' ⟨rfl, rfl⟩
    go_wp2
    go_ret
    exact ⟨rfl, rfl⟩
theorem register_no (l : List UInt8) (h : regF l = none) (w : World) : Calls Tryd.prog 63 #[.string ⟨l.toArray⟩] w fun e w' => e = stopE 1 ∧ w' = w := by
  have I := Lib.hid (reg_no l h)
  have F := Lib.hid fail_any
  clear h
  go_enter Tryd.func63, Tryd.ntmps63
  go_wp2_with fail
  refine (I.out _).mono ?_
  rintro e w' ⟨rfl, rfl⟩
  go_wp2_with fail
  refine (F.out _ _).mono ?_
  rintro e w'' ⟨rfl, rfl⟩
  exact ⟨rfl, rfl, rfl⟩
theorem atoi_yA (x : List UInt8) (hx : x.length ≤ 4000) (v : Int) (h : Lib.atoiAll x = .ok v) (w : World) : Calls Tryd.prog 86 #[.string ⟨x.toArray⟩] w fun e w' => e = .returned (.tuple #[.int .i64 v, .nilIface]) ∧ Below w.heap.size w w' :=
  atoi_yes ⟨x.toArray⟩ (by show x.toArray.size ≤ _; rw [List.size_toArray]; omega) v (by simpa using h) w
theorem atoi_nA (x : List UInt8) (hx : x.length ≤ 4000) (h : ∀ v, Lib.atoiAll x ≠ .ok v) (w : World) (hL : Lk w) : Calls Tryd.prog 86 #[.string ⟨x.toArray⟩] w fun e w' => (∃ (n : Int) (N : Nat), e = .returned (.tuple #[.int .i64 n, .iface 143 (.pointer (some ⟨N, 0, none⟩))])) ∧ Below w.heap.size w w' :=
  atoi_no ⟨x.toArray⟩ (by show x.toArray.size ≤ _; rw [List.size_toArray]; omega) (by simpa using h) w hL
theorem atoi_I64 {l : List UInt8} {v : Int} (h : Lib.atoiAll l = .ok v) : I64 v := by
  have := Lib.atoiAll_bounds h
  unfold I64
  omega
theorem number_yes (x : List UInt8) (hx : x.length ≤ 4000) (v : Int) (h : wholeZ x = some v) (w : World) (hL : Lk w) : Calls Tryd.prog 60 #[.string ⟨x.toArray⟩] w fun e w' => e = .returned (.int .i64 v) ∧ Below w.heap.size w w' := by
  obtain ⟨h1, h2⟩ : Lib.atoiAll x = .ok v ∧ Lib.itoa v = x := by
    unfold wholeZ at h
    split at h
    · next u hu => split at h <;> simp_all
    · cases h
  have A := Lib.hid (atoi_yA x hx v h1)
  have I := Lib.hid (itoa_any v (atoi_I64 h1))
  rw [h2] at I
  have HL := Lib.hid hL
  clear h h1 h2 hx hL
  go_enter Tryd.func60, Tryd.ntmps60
  go_wp2_with fail
  refine (A.out _).mono ?_
  rintro e w1 ⟨rfl, hb1⟩
  go_wp2_with fail
  refine (I.out _ (HL.out.below hb1)).mono ?_
  rintro e w2 ⟨rfl, hb2⟩
  go_wp2
  go_ret
  exact ⟨rfl, by repeat' (first | (with_reducible first | exact Below.refl _ _ | assumption | refine below_alloc ?_ _ | refine Below.drew ?_ | refine Go.Mq.below_drewN ?_ _ | refine below_then ?_ (by assumption) | refine below_put ?_ (by assumption) (by first | (simp; done) | (simp; omega) | omega) | refine Below.setCell ?_ ?_ _) | (simp; done) | (simp; omega) | omega)⟩
theorem number_no (x : List UInt8) (hx : x.length ≤ 4000) (h : wholeZ x = none) (w : World) (hL : Lk w) : Calls Tryd.prog 60 #[.string ⟨x.toArray⟩] w fun e w' => e = stopE 1 ∧ Below w.heap.size w w' := by
  have F := Lib.hid fail_any
  have HL := Lib.hid hL
  clear hL
  by_cases hv : ∃ v, Lib.atoiAll x = .ok v
  · obtain ⟨v, hv⟩ := hv
    have A := Lib.hid (atoi_yA x hx v hv)
    have I := Lib.hid (itoa_any v (atoi_I64 hv))
    have q : (Lib.itoa v == x) = false := by
      rw [beq_eq_false_iff_ne]
      intro e
      unfold wholeZ at h
      rw [hv] at h
      simp [e] at h
    clear h hx hv
    obtain ⟨y, hy⟩ : ∃ y, y = Lib.itoa v := ⟨_, rfl⟩
    rw [← hy] at q I
    clear hy
    go_enter Tryd.func60, Tryd.ntmps60
    go_wp2_with fail
    refine (A.out _).mono ?_
    rintro e w1 ⟨rfl, hb1⟩
    go_wp2_with fail
    refine (I.out _ (HL.out.below hb1)).mono ?_
    rintro e w2 ⟨rfl, hb2⟩
    go_wp2_with fail
    refine (F.out _ _).mono ?_
    rintro e w3 ⟨rfl, rfl⟩
    exact ⟨rfl, rfl, by repeat' (first | (with_reducible first | exact Below.refl _ _ | assumption | refine below_alloc ?_ _ | refine Below.drew ?_ | refine Go.Mq.below_drewN ?_ _ | refine below_then ?_ (by assumption) | refine below_put ?_ (by assumption) (by first | (simp; done) | (simp; omega) | omega) | refine Below.setCell ?_ ?_ _) | (simp; done) | (simp; omega) | omega)⟩
  · have A := Lib.hid (atoi_nA x hx (fun v e => hv ⟨v, e⟩))
    clear h hx hv
    go_enter Tryd.func60, Tryd.ntmps60
    go_wp2_with fail
    refine (A.out _ HL.out).mono ?_
    rintro e w1 ⟨⟨n, N, rfl⟩, hb1⟩
    go_wp2_with fail
    refine (F.out _ _).mono ?_
    rintro e w3 ⟨rfl, rfl⟩
    exact ⟨rfl, rfl, by repeat' (first | (with_reducible first | exact Below.refl _ _ | assumption | refine below_alloc ?_ _ | refine Below.drew ?_ | refine Go.Mq.below_drewN ?_ _ | refine below_then ?_ (by assumption) | refine below_put ?_ (by assumption) (by first | (simp; done) | (simp; omega) | omega) | refine Below.setCell ?_ ?_ _) | (simp; done) | (simp; omega) | omega)⟩
theorem parts_k (K : Nat) (hk : K < 32) (w : World) : Calls Tryd.prog 47 #[.int .i64 K] w fun e w' => e = .returned (.string ⟨(prtL K).toArray⟩) ∧ w' = w := by
  rcases (by omega : K = 0 ∨ K = 1 ∨ K = 2 ∨ K = 3 ∨ K = 4 ∨ K = 5 ∨ K = 6 ∨ K = 7 ∨ K = 8 ∨ K = 9 ∨ K = 10 ∨ K = 11 ∨ K = 12 ∨ K = 13 ∨ K = 14 ∨ K = 15 ∨ K = 16 ∨ K = 17 ∨ K = 18 ∨ K = 19 ∨ K = 20 ∨ K = 21 ∨ K = 22 ∨ K = 23 ∨ K = 24 ∨ K = 25 ∨ K = 26 ∨ K = 27 ∨ K = 28 ∨ K = 29 ∨ K = 30 ∨ K = 31) with rfl | rfl | rfl | rfl | rfl | rfl | rfl | rfl | rfl | rfl | rfl | rfl | rfl | rfl | rfl | rfl | rfl | rfl | rfl | rfl | rfl | rfl | rfl | rfl | rfl | rfl | rfl | rfl | rfl | rfl | rfl | rfl
  all_goals (
    go_enter Tryd.func47, Tryd.ntmps47
    go_wp2
    go_ret
    exact ⟨rfl, rfl⟩)
end Go.Proofs.YtmpdoiilakjmbaaDoor
