/- What is printed of what was pressed is read as it: plain. Conditions: none; no program in sight. -/
import Derived.Test.YtmpdoiilakjmbaaDoorParsePure
import Derived.Lib.ItoaLen
namespace Go.Mq
open Go Go.RowKit
theorem puint_snoc : ∀ (l : List UInt8) (a v : Nat) (c : UInt8), Lib.parseUint10 a l = .ok v → 48 ≤ c.toNat ∧ c.toNat ≤ 57 → ¬ 1844674407370955162 ≤ v → ¬ 18446744073709551616 ≤ v * 10 + (c.toNat - 48) → Lib.parseUint10 a (l ++ [c]) = .ok (v * 10 + (c.toNat - 48))
  | [], a, v, c, h, c1, c2, c3 => by
    simp only [Lib.parseUint10] at h
    injection h with h
    subst h
    rw [List.nil_append, Lib.parseUint10, if_pos c1, if_neg c2, if_neg c3]
    rfl
  | x :: t, a, v, c, h, c1, c2, c3 => by
    rw [List.cons_append, Lib.parseUint10]
    rw [Lib.parseUint10] at h
    split at h
    · rename_i h1
      rw [if_pos h1]
      split at h
      · cases h
      · rename_i h2
        rw [if_neg h2]
        split at h
        · cases h
        · rename_i h3
          rw [if_neg h3]
          exact puint_snoc t _ v c h c1 c2 c3
    · cases h
theorem dig_toNat {d : Nat} (h : d < 10) : (UInt8.ofNat (48 + d)).toNat = 48 + d := by
  rw [UInt8.toNat_ofNat']
  omega
theorem puint_dec : ∀ (u : Nat), u < 9223372036854775808 → Lib.parseUint10 0 (Lib.decDigits u) = .ok u := by
  intro u
  induction u using Nat.strongRecOn with
  | ind u ih =>
    intro hu
    rw [Lib.decDigits]
    by_cases h : u < 10
    · rw [dif_pos h]
      have e := dig_toNat h
      simp only [Lib.parseUint10, e]
      rw [if_pos (by omega), if_neg (by omega), if_neg (by omega)]
      congr 1
      omega
    · rw [dif_neg h]
      have e := dig_toNat (Nat.mod_lt u (show 0 < 10 by omega))
      rw [puint_snoc _ 0 (u / 10) _ (ih (u / 10) (by omega) (by omega)) (by rw [e]; omega) (by omega) (by rw [e]; omega), e]
      congr 1
      omega
theorem dec_digits : ∀ (u : Nat), ∀ b ∈ Lib.decDigits u, 48 ≤ b.toNat ∧ b.toNat ≤ 57 := by
  intro u
  induction u using Nat.strongRecOn with
  | ind u ih =>
    intro b hb
    rw [Lib.decDigits] at hb
    by_cases h : u < 10
    · rw [dif_pos h, List.mem_singleton] at hb
      subst hb
      rw [dig_toNat h]
      omega
    · rw [dif_neg h] at hb
      rcases List.mem_append.1 hb with hb | hb
      · exact ih (u / 10) (by omega) b hb
      · rw [List.mem_singleton] at hb
        subst hb
        rw [dig_toNat (Nat.mod_lt u (by omega))]
        omega
theorem dec_ne (u : Nat) : Lib.decDigits u ≠ [] := by
  rw [Lib.decDigits]
  split
  · simp
  · simp
theorem itoa_nat (n : Int) (h : 0 ≤ n) : Lib.itoa n = Lib.decDigits n.toNat := by
  unfold Lib.itoa
  rw [if_neg (by omega)]
theorem whole_itoa (n : Int) (h : 0 ≤ n) (h2 : n < 9223372036854775808) : wholeZ (Lib.itoa n) = some n := by
  have ha : Lib.atoiAll (Lib.itoa n) = .ok n := by
    rw [itoa_nat n h]
    have hp := puint_dec n.toNat (by omega)
    cases hd : Lib.decDigits n.toNat with
    | nil => exact absurd hd (dec_ne _)
    | cons c r =>
      have hc := dec_digits n.toNat c (by rw [hd]; simp)
      rw [hd] at hp
      unfold Lib.atoiAll
      simp only
      rw [if_neg (by omega)]
      unfold Lib.parseMag
      rw [if_neg (by simp), hp]
      simp only
      rw [if_neg (by omega), if_neg (by omega), if_neg (by omega)]
      congr 1
      omega
  unfold wholeZ
  rw [ha]
  simp only
  rw [if_pos trivial]
theorem itoa_no (n : Int) (h : 0 ≤ n) (c : UInt8) (hc : c.toNat < 48) : c ∉ Lib.itoa n := by
  rw [itoa_nat n h]
  intro hm
  have := dec_digits _ c hm
  omega
theorem btn_no : ∀ n, n < 256 → (32 : UInt8) ∉ btn n ∧ (10 : UInt8) ∉ btn n := by decide +kernel
def lineL (x : Inp) : List UInt8 := Lib.itoa x.ck ++ 32 :: (Lib.itoa x.pd ++ 32 :: btn x.dn.toNat)
theorem lineP_eq (x : Inp) : lineP x = lineL x ++ [10] := by simp [lineP, lineL]
theorem item_line (x : Inp) (h1 : 0 ≤ x.ck ∧ x.ck ≤ 400000) (h2 : x.pd = 0 ∨ x.pd = 1) (h3 : U8 x.dn) : item (lineL x) = some x := by
  have hd : x.dn.toNat < 256 := by unfold U8 at h3; omega
  unfold item lineL
  rw [sepBy_hit 32 _ _ (itoa_no _ h1.1 32 (by decide)), sepBy_hit 32 _ _ (itoa_no _ (by omega) 32 (by decide)), sepBy_miss 32 _ (btn_no _ hd).1]
  simp only
  rw [whole_itoa x.ck h1.1 (by omega), whole_itoa x.pd (by omega) (by omega), of_btn _ hd]
  simp only
  congr 1
  cases x
  simp only [Inp.mk.injEq, true_and]
  unfold U8 at h3
  simp only at h3 hd ⊢
  omega
theorem line_no (x : Inp) (h1 : 0 ≤ x.ck) (h2 : 0 ≤ x.pd) (h3 : U8 x.dn) : (10 : UInt8) ∉ lineL x := by
  have hd : x.dn.toNat < 256 := by unfold U8 at h3; omega
  unfold lineL
  simp only [List.mem_append, List.mem_cons, not_or]
  exact ⟨itoa_no _ h1 10 (by decide), by decide, itoa_no _ h2 10 (by decide), by decide, (btn_no _ hd).2⟩
theorem parse_print : ∀ (l : List Inp) (k : Nat) (acc : List Inp), (∀ x ∈ l, (0 ≤ x.ck ∧ x.ck ≤ 400000) ∧ (x.pd = 0 ∨ x.pd = 1) ∧ U8 x.dn) → parseGo k acc (sepBy 10 (printP l)) = .inr (acc ++ l)
  | [], k, acc, _ => by
    show parseGo k acc (sepBy 10 []) = _
    rw [parse_nil, List.append_nil]
  | x :: t, k, acc, h => by
    obtain ⟨h1, h2, h3⟩ := h x (by simp)
    show parseGo k acc (sepBy 10 (lineP x ++ printP t)) = _
    rw [lineP_eq, List.append_assoc, List.singleton_append, parse_good k acc _ _ (line_no x h1.1 (by omega) h3) x (item_line x h1 h2 h3), parse_print t (k + 1) _ (fun y hy => h y (by simp [hy])), List.append_assoc, List.singleton_append]
theorem chk_each : ∀ (l : List Inp) (f : Int), 0 ≤ f → chkFrom f l = 0 → ∀ x ∈ l, (0 ≤ x.ck ∧ x.ck ≤ 400000) ∧ (x.pd = 0 ∨ x.pd = 1)
  | [], _, _, _, x, hx => by simp at hx
  | y :: t, f, hf, h, x, hx => by
    rw [chkFrom] at h
    split at h
    · cases h
    · rename_i h1
      split at h
      · cases h
      · rename_i h2
        rcases List.mem_cons.1 hx with rfl | hx
        · exact ⟨by omega, by omega⟩
        · exact chk_each t y.ck (by omega) h x hx
theorem parse_back (l : List Inp) (hz : chkI l 0 = 0) (hok : ∀ x ∈ l, x.Ok) : parseV (printP l) = .inr l := by
  unfold chkI at hz
  split at hz
  · cases hz
  · have he := chk_each l 0 (by omega) hz
    have := parse_print l 0 [] (fun x hx => ⟨(he x hx).1, (he x hx).2, (hok x hx).2.2⟩)
    rwa [List.nil_append] at this
end Go.Mq
