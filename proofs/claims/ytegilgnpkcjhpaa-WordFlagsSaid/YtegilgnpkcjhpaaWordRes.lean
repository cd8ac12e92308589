/- What the document's Result and the program's Flags compute of two words. Conditions: the arguments are words. -/
import Derived.Test.YtegilgnpkcjhpaaWord
namespace Go.Proofs.Ytegilgnpkcjhpaa
open Go.RowKit Go.Mq

theorem mod_succ (x k : Nat) : x % 2 ^ (k + 1) = x % 2 ^ k + if x.testBit k then 2 ^ k else 0 := by
  rw [Nat.mod_pow_succ, Nat.testBit_eq_decide_div_mod_eq]
  have h2 : x / 2 ^ k % 2 < 2 := Nat.mod_lt _ (by omega)
  rcases (by omega : x / 2 ^ k % 2 = 0 ∨ x / 2 ^ k % 2 = 1) with h | h <;> simp [h]
theorem bit_of (a : Int) (k : Nat) (ha : U16 a) : a / 2 ^ k % 2 = if a.toNat.testBit k then 1 else 0 := by
  obtain ⟨n, rfl⟩ := Int.eq_ofNat_of_zero_le ha.1
  rw [Int.toNat_natCast, Nat.testBit_eq_decide_div_mod_eq]
  have : ((n : Int) / 2 ^ k % 2) = ((n / 2 ^ k % 2 : Nat) : Int) := by norm_cast
  rw [this]
  have h2 : n / 2 ^ k % 2 < 2 := Nat.mod_lt _ (by omega)
  by_cases h : n / 2 ^ k % 2 = 1 <;> simp [h] <;> omega

theorem add_pow (X k : Nat) (h : X < 2 ^ k) (hp : 2 ^ k ≤ 2 ^ 15) : IntKind.u16.wrap ((X : Int) + IntKind.u16.wrap (2 ^ k)) = (X : Int) + 2 ^ k := by
  rw [wrap16, wrap16]
  have e : ((2 : Int) ^ k) = ((2 ^ k : Nat) : Int) := by norm_cast
  rw [e]
  omega
theorem nat16 {a : Int} (ha : U16 a) : a.toNat < 2 ^ 16 := by unfold U16 at ha; omega
theorem lt_land (a b : Int) (_ha : U16 a) (hb : U16 b) : a.toNat &&& b.toNat < 2 ^ 16 := Nat.and_lt_two_pow _ (nat16 hb)
theorem lt_lor (a b : Int) (ha : U16 a) (hb : U16 b) : a.toNat ||| b.toNat < 2 ^ 16 := Nat.or_lt_two_pow (nat16 ha) (nat16 hb)
theorem lt_xor (a b : Int) (ha : U16 a) (hb : U16 b) : a.toNat ^^^ b.toNat < 2 ^ 16 := Nat.xor_lt_two_pow (nat16 ha) (nat16 hb)

def b_land (x y : Bool) : Bool := x && y
def b_lor (x y : Bool) : Bool := x || y
def b_xor (x y : Bool) : Bool := x ^^ y

theorem bit_fn_land (x y : Bool) (w : World) :
    Calls Try.prog 53 #[.int .u16 (if x then 1 else 0), .int .u16 (if y then 1 else 0)] w fun e w' => e = .returned (.bool (b_land x y)) ∧ w = w' := by
  cases x <;> cases y
  all_goals
    go_enter Try.func53, Try.ntmps53
    go_wp2
    go_ret
    exact ⟨rfl, rfl⟩

theorem bit_fn_lor (x y : Bool) (w : World) :
    Calls Try.prog 54 #[.int .u16 (if x then 1 else 0), .int .u16 (if y then 1 else 0)] w fun e w' => e = .returned (.bool (b_lor x y)) ∧ w = w' := by
  cases x <;> cases y
  all_goals
    go_enter Try.func54, Try.ntmps54
    go_wp2
    go_ret
    exact ⟨rfl, rfl⟩

theorem bit_fn_xor (x y : Bool) (w : World) :
    Calls Try.prog 55 #[.int .u16 (if x then 1 else 0), .int .u16 (if y then 1 else 0)] w fun e w' => e = .returned (.bool (b_xor x y)) ∧ w = w' := by
  cases x <;> cases y
  all_goals
    go_enter Try.func55, Try.ntmps55
    go_wp2
    go_ret
    exact ⟨rfl, rfl⟩

theorem up_land (a b : Int) (ha : U16 a) (hb : U16 b) (pa pb : Addr) (w : World) (ca : w.cell? pa = some (.int .u16 a)) (cb : w.cell? pb = some (.int .u16 b)) :
    Calls Try.prog 52 #[.func (.func 53) #[] #[], .pointer (some pa), .pointer (some pb)] w fun e w' => e = .returned (.int .u16 (bAnd a b)) ∧ Drew w w' := by
  obtain ⟨ha0, ha1⟩ := id ha; obtain ⟨hb0, hb1⟩ := id hb
  go_enter Try.func52, Try.ntmps52
  go_wp2
  go_loopw [5, 7] (fun x i wr => ∃ k : Nat, k ≤ 16 ∧ i = .int .i64 k ∧ x = .int .u16 (((a.toNat &&& b.toNat) % 2 ^ k : Nat) : Int) ∧ Drew w wr) (fun _ i _ => 16 - (intOf i).toNat)
  case atStart => exact ⟨0, by omega, rfl, by rw [Nat.pow_zero, Nat.mod_one]; rfl, Drew.refl _⟩
  case round =>
    obtain ⟨k, hk, rfl, rfl, hd⟩ := hrel
    have ca' : wr.cell? pa = some (.int .u16 a) := by rw [hd.cell]; exact ca
    have cb' : wr.cell? pb = some (.int .u16 b) := by rw [hd.cell]; exact cb
    have HD := Lib.hid hd
    clear hd ca cb
    by_cases hlt : k < 16
    · have b1 : bits .and .u16 (a / 2 ^ k) 1 = a / 2 ^ k % 2 := and1 _ (shrN_u a k ha)
      have b2 : bits .and .u16 (b / 2 ^ k) 1 = b / 2 ^ k % 2 := and1 _ (shrN_u b k hb)
      rw [bit_of a k ha] at b1
      rw [bit_of b k hb] at b2
      have hs := mod_succ (a.toNat &&& b.toNat) k
      rw [Nat.testBit_and] at hs
      have hlt2 : (a.toNat &&& b.toNat) % 2 ^ k < 2 ^ k := Nat.mod_lt _ (Nat.pos_of_ne_zero (by simp))
      have hp : 2 ^ k ≤ 2 ^ 15 := Nat.pow_le_pow_right (by omega) (by omega)
      generalize hX : (a.toNat &&& b.toNat) % 2 ^ k = X at *
      have HS := Lib.hid hs
      clear hs hX
      go_wp2_with fail
      go_quiet ((go_at_call 53; exact quiet_sym (bit_fn_land _ _ _)))
      cases hbb : b_land (a.toNat.testBit k) (b.toNat.testBit k)
      · go_wp2
        go_roundw
        case rel => exact ⟨k + 1, by omega, by go_num, vi (by rw [HS.out]; unfold b_land at hbb; simp [hbb]), (HD.out).drewN _⟩
        case measure => simp [intOf]; omega
      · go_wp2
        go_roundw
        case rel => exact ⟨k + 1, by omega, by go_num, vi (by rw [HS.out]; unfold b_land at hbb; simp [hbb]; exact add_pow X k hlt2 hp), (HD.out).drewN _⟩
        case measure => simp [intOf]; omega
    · have hkn : k = 16 := by omega
      subst hkn
      go_wp2
      go_ret
      exact ⟨ret1 (vi (by unfold bAnd; rw [Nat.mod_eq_of_lt (a := a.toNat &&& b.toNat)]; exact lt_land a b ha hb)), HD.out⟩

theorem up_lor (a b : Int) (ha : U16 a) (hb : U16 b) (pa pb : Addr) (w : World) (ca : w.cell? pa = some (.int .u16 a)) (cb : w.cell? pb = some (.int .u16 b)) :
    Calls Try.prog 52 #[.func (.func 54) #[] #[], .pointer (some pa), .pointer (some pb)] w fun e w' => e = .returned (.int .u16 (bOr a b)) ∧ Drew w w' := by
  obtain ⟨ha0, ha1⟩ := id ha; obtain ⟨hb0, hb1⟩ := id hb
  go_enter Try.func52, Try.ntmps52
  go_wp2
  go_loopw [5, 7] (fun x i wr => ∃ k : Nat, k ≤ 16 ∧ i = .int .i64 k ∧ x = .int .u16 (((a.toNat ||| b.toNat) % 2 ^ k : Nat) : Int) ∧ Drew w wr) (fun _ i _ => 16 - (intOf i).toNat)
  case atStart => exact ⟨0, by omega, rfl, by rw [Nat.pow_zero, Nat.mod_one]; rfl, Drew.refl _⟩
  case round =>
    obtain ⟨k, hk, rfl, rfl, hd⟩ := hrel
    have ca' : wr.cell? pa = some (.int .u16 a) := by rw [hd.cell]; exact ca
    have cb' : wr.cell? pb = some (.int .u16 b) := by rw [hd.cell]; exact cb
    have HD := Lib.hid hd
    clear hd ca cb
    by_cases hlt : k < 16
    · have b1 : bits .and .u16 (a / 2 ^ k) 1 = a / 2 ^ k % 2 := and1 _ (shrN_u a k ha)
      have b2 : bits .and .u16 (b / 2 ^ k) 1 = b / 2 ^ k % 2 := and1 _ (shrN_u b k hb)
      rw [bit_of a k ha] at b1
      rw [bit_of b k hb] at b2
      have hs := mod_succ (a.toNat ||| b.toNat) k
      rw [Nat.testBit_or] at hs
      have hlt2 : (a.toNat ||| b.toNat) % 2 ^ k < 2 ^ k := Nat.mod_lt _ (Nat.pos_of_ne_zero (by simp))
      have hp : 2 ^ k ≤ 2 ^ 15 := Nat.pow_le_pow_right (by omega) (by omega)
      generalize hX : (a.toNat ||| b.toNat) % 2 ^ k = X at *
      have HS := Lib.hid hs
      clear hs hX
      go_wp2_with fail
      go_quiet ((go_at_call 54; exact quiet_sym (bit_fn_lor _ _ _)))
      cases hbb : b_lor (a.toNat.testBit k) (b.toNat.testBit k)
      · go_wp2
        go_roundw
        case rel => exact ⟨k + 1, by omega, by go_num, vi (by rw [HS.out]; unfold b_lor at hbb; simp [hbb]), (HD.out).drewN _⟩
        case measure => simp [intOf]; omega
      · go_wp2
        go_roundw
        case rel => exact ⟨k + 1, by omega, by go_num, vi (by rw [HS.out]; unfold b_lor at hbb; simp [hbb]; exact add_pow X k hlt2 hp), (HD.out).drewN _⟩
        case measure => simp [intOf]; omega
    · have hkn : k = 16 := by omega
      subst hkn
      go_wp2
      go_ret
      exact ⟨ret1 (vi (by unfold bOr; rw [Nat.mod_eq_of_lt (a := a.toNat ||| b.toNat)]; exact lt_lor a b ha hb)), HD.out⟩

theorem up_xor (a b : Int) (ha : U16 a) (hb : U16 b) (pa pb : Addr) (w : World) (ca : w.cell? pa = some (.int .u16 a)) (cb : w.cell? pb = some (.int .u16 b)) :
    Calls Try.prog 52 #[.func (.func 55) #[] #[], .pointer (some pa), .pointer (some pb)] w fun e w' => e = .returned (.int .u16 (bXor a b)) ∧ Drew w w' := by
  obtain ⟨ha0, ha1⟩ := id ha; obtain ⟨hb0, hb1⟩ := id hb
  go_enter Try.func52, Try.ntmps52
  go_wp2
  go_loopw [5, 7] (fun x i wr => ∃ k : Nat, k ≤ 16 ∧ i = .int .i64 k ∧ x = .int .u16 (((a.toNat ^^^ b.toNat) % 2 ^ k : Nat) : Int) ∧ Drew w wr) (fun _ i _ => 16 - (intOf i).toNat)
  case atStart => exact ⟨0, by omega, rfl, by rw [Nat.pow_zero, Nat.mod_one]; rfl, Drew.refl _⟩
  case round =>
    obtain ⟨k, hk, rfl, rfl, hd⟩ := hrel
    have ca' : wr.cell? pa = some (.int .u16 a) := by rw [hd.cell]; exact ca
    have cb' : wr.cell? pb = some (.int .u16 b) := by rw [hd.cell]; exact cb
    have HD := Lib.hid hd
    clear hd ca cb
    by_cases hlt : k < 16
    · have b1 : bits .and .u16 (a / 2 ^ k) 1 = a / 2 ^ k % 2 := and1 _ (shrN_u a k ha)
      have b2 : bits .and .u16 (b / 2 ^ k) 1 = b / 2 ^ k % 2 := and1 _ (shrN_u b k hb)
      rw [bit_of a k ha] at b1
      rw [bit_of b k hb] at b2
      have hs := mod_succ (a.toNat ^^^ b.toNat) k
      rw [Nat.testBit_xor] at hs
      have hlt2 : (a.toNat ^^^ b.toNat) % 2 ^ k < 2 ^ k := Nat.mod_lt _ (Nat.pos_of_ne_zero (by simp))
      have hp : 2 ^ k ≤ 2 ^ 15 := Nat.pow_le_pow_right (by omega) (by omega)
      generalize hX : (a.toNat ^^^ b.toNat) % 2 ^ k = X at *
      have HS := Lib.hid hs
      clear hs hX
      go_wp2_with fail
      go_quiet ((go_at_call 55; exact quiet_sym (bit_fn_xor _ _ _)))
      cases hbb : b_xor (a.toNat.testBit k) (b.toNat.testBit k)
      · go_wp2
        go_roundw
        case rel => exact ⟨k + 1, by omega, by go_num, vi (by rw [HS.out]; unfold b_xor at hbb; simp [hbb]), (HD.out).drewN _⟩
        case measure => simp [intOf]; omega
      · go_wp2
        go_roundw
        case rel => exact ⟨k + 1, by omega, by go_num, vi (by rw [HS.out]; unfold b_xor at hbb; simp [hbb]; exact add_pow X k hlt2 hp), (HD.out).drewN _⟩
        case measure => simp [intOf]; omega
    · have hkn : k = 16 := by omega
      subst hkn
      go_wp2
      go_ret
      exact ⟨ret1 (vi (by unfold bXor; rw [Nat.mod_eq_of_lt (a := a.toNat ^^^ b.toNat)]; exact lt_xor a b ha hb)), HD.out⟩

/-- no order that reckons -/
def NoSum (op : Int) : Prop := (op == 7) = false ∧ (op == 15) = false ∧ (op == 8) = false ∧ (op == 14) = false ∧ (op == 9) = false ∧ (op == 10) = false ∧ (op == 11) = false ∧ (op == 28) = false

theorem result_7 (a b : Int) (ha : U16 a) (hb : U16 b) (w : World) :
    Calls Try.prog 28 #[.int .i64 7, .int .u16 a, .int .u16 b] w fun e w' => e = .returned (.tuple #[.int .u16 (addN a b), .bool (addC a b), .bool (addV a b), .bool true]) ∧ Below w.heap.size w w' := by
  obtain ⟨ha0, ha1⟩ := id ha; obtain ⟨hb0, hb1⟩ := id hb
  go_enter Try.func28, Try.ntmps28
  go_wp2_with fail
  refine (sum_any a b ha hb _).mono ?_
  rintro e w' ⟨rfl, rfl⟩
  go_wp2
  exact bodyPost_ret (v := .tuple #[.int .u16 (addN a b), .bool (addC a b), .bool (addV a b), .bool true]) (by simp [results, Try.results28, go_sem]) rfl ⟨rfl, ((Below.refl _ _).alloc (Nat.le_refl _) _).alloc (by simp) _⟩

theorem result_15 (a b : Int) (ha : U16 a) (hb : U16 b) (w : World) :
    Calls Try.prog 28 #[.int .i64 15, .int .u16 a, .int .u16 b] w fun e w' => e = .returned (.tuple #[.int .u16 (addN a b), .bool (addC a b), .bool (addV a b), .bool true]) ∧ Below w.heap.size w w' := by
  obtain ⟨ha0, ha1⟩ := id ha; obtain ⟨hb0, hb1⟩ := id hb
  go_enter Try.func28, Try.ntmps28
  go_wp2_with fail
  refine (sum_any a b ha hb _).mono ?_
  rintro e w' ⟨rfl, rfl⟩
  go_wp2
  exact bodyPost_ret (v := .tuple #[.int .u16 (addN a b), .bool (addC a b), .bool (addV a b), .bool true]) (by simp [results, Try.results28, go_sem]) rfl ⟨rfl, ((Below.refl _ _).alloc (Nat.le_refl _) _).alloc (by simp) _⟩

theorem result_8 (a b : Int) (ha : U16 a) (hb : U16 b) (w : World) :
    Calls Try.prog 28 #[.int .i64 8, .int .u16 a, .int .u16 b] w fun e w' => e = .returned (.tuple #[.int .u16 (subN a b), .bool (subC a b), .bool (subV a b), .bool true]) ∧ Below w.heap.size w w' := by
  obtain ⟨ha0, ha1⟩ := id ha; obtain ⟨hb0, hb1⟩ := id hb
  go_enter Try.func28, Try.ntmps28
  go_wp2_with fail
  refine (less_any a b ha hb _).mono ?_
  rintro e w' ⟨rfl, rfl⟩
  go_wp2
  exact bodyPost_ret (v := .tuple #[.int .u16 (subN a b), .bool (subC a b), .bool (subV a b), .bool true]) (by simp [results, Try.results28, go_sem]) rfl ⟨rfl, ((Below.refl _ _).alloc (Nat.le_refl _) _).alloc (by simp) _⟩

theorem result_14 (a b : Int) (ha : U16 a) (hb : U16 b) (w : World) :
    Calls Try.prog 28 #[.int .i64 14, .int .u16 a, .int .u16 b] w fun e w' => e = .returned (.tuple #[.int .u16 (subN a b), .bool (subC a b), .bool (subV a b), .bool true]) ∧ Below w.heap.size w w' := by
  obtain ⟨ha0, ha1⟩ := id ha; obtain ⟨hb0, hb1⟩ := id hb
  go_enter Try.func28, Try.ntmps28
  go_wp2_with fail
  refine (less_any a b ha hb _).mono ?_
  rintro e w' ⟨rfl, rfl⟩
  go_wp2
  exact bodyPost_ret (v := .tuple #[.int .u16 (subN a b), .bool (subC a b), .bool (subV a b), .bool true]) (by simp [results, Try.results28, go_sem]) rfl ⟨rfl, ((Below.refl _ _).alloc (Nat.le_refl _) _).alloc (by simp) _⟩

theorem result_28 (a b : Int) (ha : U16 a) (hb : U16 b) (w : World) :
    Calls Try.prog 28 #[.int .i64 28, .int .u16 a, .int .u16 b] w fun e w' => e = .returned (.tuple #[.int .u16 (mulN a b), .bool (mulH a b), .bool false, .bool true]) ∧ Below w.heap.size w w' := by
  obtain ⟨ha0, ha1⟩ := id ha; obtain ⟨hb0, hb1⟩ := id hb
  have h1 : 0 ≤ a * b := Int.mul_nonneg ha0 hb0
  have h2 : a * b ≤ 65535 * 65535 := Int.mul_le_mul ha1 hb1 hb0 (by omega)
  go_enter Try.func28, Try.ntmps28
  go_wp2
  exact bodyPost_ret (v := .tuple #[.int .u16 (mulN a b), .bool (mulH a b), .bool false, .bool true]) (by simp [results, Try.results28, go_sem]; exact ⟨rfl, rfl⟩) rfl ⟨rfl, ((Below.refl _ _).alloc (Nat.le_refl _) _).alloc (by simp) _⟩

theorem result_9 (a b : Int) (ha : U16 a) (hb : U16 b) (w : World) :
    Calls Try.prog 28 #[.int .i64 9, .int .u16 a, .int .u16 b] w fun e w' => e = .returned (.tuple #[.int .u16 (bAnd a b), .bool false, .bool false, .bool true]) ∧ Below w.heap.size w w' := by
  obtain ⟨ha0, ha1⟩ := id ha; obtain ⟨hb0, hb1⟩ := id hb
  go_enter Try.func28, Try.ntmps28
  go_wp2_with fail
  refine (up_land a b ha hb _ _ _ (by go_simp) (by go_simp)).mono ?_
  rintro e w1 ⟨rfl, hd⟩
  have HD := Lib.hid hd
  clear hd
  go_wp2
  exact bodyPost_ret (v := .tuple #[.int .u16 (bAnd a b), .bool false, .bool false, .bool true]) (by simp [results, Try.results28, go_sem]) rfl ⟨rfl, (((Below.refl _ _).alloc (Nat.le_refl _) _).alloc (by simp) _).trans (HD.out.below _)⟩

theorem result_10 (a b : Int) (ha : U16 a) (hb : U16 b) (w : World) :
    Calls Try.prog 28 #[.int .i64 10, .int .u16 a, .int .u16 b] w fun e w' => e = .returned (.tuple #[.int .u16 (bOr a b), .bool false, .bool false, .bool true]) ∧ Below w.heap.size w w' := by
  obtain ⟨ha0, ha1⟩ := id ha; obtain ⟨hb0, hb1⟩ := id hb
  go_enter Try.func28, Try.ntmps28
  go_wp2_with fail
  refine (up_lor a b ha hb _ _ _ (by go_simp) (by go_simp)).mono ?_
  rintro e w1 ⟨rfl, hd⟩
  have HD := Lib.hid hd
  clear hd
  go_wp2
  exact bodyPost_ret (v := .tuple #[.int .u16 (bOr a b), .bool false, .bool false, .bool true]) (by simp [results, Try.results28, go_sem]) rfl ⟨rfl, (((Below.refl _ _).alloc (Nat.le_refl _) _).alloc (by simp) _).trans (HD.out.below _)⟩

theorem result_11 (a b : Int) (ha : U16 a) (hb : U16 b) (w : World) :
    Calls Try.prog 28 #[.int .i64 11, .int .u16 a, .int .u16 b] w fun e w' => e = .returned (.tuple #[.int .u16 (bXor a b), .bool false, .bool false, .bool true]) ∧ Below w.heap.size w w' := by
  obtain ⟨ha0, ha1⟩ := id ha; obtain ⟨hb0, hb1⟩ := id hb
  go_enter Try.func28, Try.ntmps28
  go_wp2_with fail
  refine (up_xor a b ha hb _ _ _ (by go_simp) (by go_simp)).mono ?_
  rintro e w1 ⟨rfl, hd⟩
  have HD := Lib.hid hd
  clear hd
  go_wp2
  exact bodyPost_ret (v := .tuple #[.int .u16 (bXor a b), .bool false, .bool false, .bool true]) (by simp [results, Try.results28, go_sem]) rfl ⟨rfl, (((Below.refl _ _).alloc (Nat.le_refl _) _).alloc (by simp) _).trans (HD.out.below _)⟩

theorem result_no (op a b : Int) (h : NoSum op) (w : World) :
    Calls Try.prog 28 #[.int .i64 op, .int .u16 a, .int .u16 b] w fun e w' => e = .returned (.tuple #[.int .u16 0, .bool false, .bool false, .bool false]) ∧ Below w.heap.size w w' := by
  obtain ⟨h1, h2, h3, h4, h5, h6, h7, h8⟩ := h
  go_enter Try.func28, Try.ntmps28
  go_wp2
  exact bodyPost_ret (v := .tuple #[.int .u16 0, .bool false, .bool false, .bool false]) (by simp [results, Try.results28, go_sem]) rfl ⟨rfl, ((Below.refl _ _).alloc (Nat.le_refl _) _).alloc (by simp) _⟩

end Go.Proofs.Ytegilgnpkcjhpaa
