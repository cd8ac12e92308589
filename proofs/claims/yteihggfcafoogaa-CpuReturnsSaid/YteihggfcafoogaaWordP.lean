/- The words' program functions: sums, differences, products, shifts, bytes, and what Flags computes. Conditions: the arguments are words. -/
import Derived.Test.YteihggfcafoogaaRows
import Derived.Test.YteihggfcafoogaaWordPure
namespace Go.Proofs.Yteihggfcafoogaa
open Go.RowKit Go.Mq

theorem add_any (a b : Int) (ha : U16 a) (hb : U16 b) (w : World) :
    Calls Try.prog 42 #[.int .u16 a, .int .u16 b] w fun e w' => e = .returned (.tuple #[.int .u16 (addN a b), .bool (addC a b), .bool (addV a b)]) ∧ w = w' := by
  obtain ⟨ha0, ha1⟩ := id ha; obtain ⟨hb0, hb1⟩ := id hb
  go_enter Try.func42, Try.ntmps42
  go_wp2
  go_ret3
  refine ⟨ret3 (vi (wrap16 _)) (vb (?_ : decide (IntKind.u16.wrap (a + b) < a) = _)) (vb ?_), rfl⟩
  · rw [wrap16]; exact addC_eq a b ha hb
  · rw [wrap16]; exact addV_eq a b ha hb

theorem sub_any (a b : Int) (ha : U16 a) (hb : U16 b) (w : World) :
    Calls Try.prog 45 #[.int .u16 a, .int .u16 b] w fun e w' => e = .returned (.tuple #[.int .u16 (subN a b), .bool (subC a b), .bool (subV a b)]) ∧ w = w' := by
  obtain ⟨ha0, ha1⟩ := id ha; obtain ⟨hb0, hb1⟩ := id hb
  go_enter Try.func45, Try.ntmps45
  go_wp2
  go_ret3
  refine ⟨ret3 (vi (wrap16 _)) rfl (vb ?_), rfl⟩
  rw [wrap16]; exact subV_eq a b ha hb

theorem mul_any (a b : Int) (ha : U16 a) (hb : U16 b) (w : World) :
    Calls Try.prog 51 #[.int .u16 a, .int .u16 b] w fun e w' => e = .returned (.tuple #[.int .u16 (mulN a b), .bool (mulH a b)]) ∧ w = w' := by
  obtain ⟨ha0, ha1⟩ := id ha; obtain ⟨hb0, hb1⟩ := id hb
  have h1 : 0 ≤ a * b := Int.mul_nonneg ha0 hb0
  have h2 : a * b ≤ 65535 * 65535 := Int.mul_le_mul ha1 hb1 hb0 (by omega)
  go_enter Try.func51, Try.ntmps51
  go_wp2
  go_ret2
  refine ⟨ret2 (vi (wrap16 _)) (vb (?_ : (a * b / 65536 != 0) = _)), rfl⟩
  unfold mulH
  rw [Bool.eq_iff_iff]
  simp
  omega

theorem bytes_any (a : Int) (ha : U16 a) (w : World) :
    Calls Try.prog 53 #[.int .u16 a] w fun e w' => e = .returned (.tuple #[.int .u8 (a / 256), .int .u8 (a % 256)]) ∧ w = w' := by
  obtain ⟨ha0, ha1⟩ := id ha
  go_enter Try.func53, Try.ntmps53
  go_wp2
  go_ret2
  exact ⟨ret2 rfl (vi (wrap8 a)), rfl⟩

theorem of_any (h l : Int) (h0 : 0 ≤ h) (h1 : h ≤ 255) (l0 : 0 ≤ l) (l1 : l ≤ 255) (w : World) :
    Calls Try.prog 29 #[.int .u8 h, .int .u8 l] w fun e w' => e = .returned (.int .u16 (h * 256 + l)) ∧ w = w' := by
  go_enter Try.func29, Try.ntmps29
  go_wp2
  go_ret
  refine ⟨ret1 (vi ?_), rfl⟩
  rw [show h * 256 = ((h.toNat * 256 : Nat) : Int) from by omega, show l = ((l.toNat : Nat) : Int) from by omega, u16_or_nat _ _ (by omega) (by omega), nat_join 8 _ _ (by omega) (by omega)]
  omega

theorem shl_ok (a n : Int) (ha : U16 a) (h0 : 0 ≤ n) (h1 : n ≤ 15) (w : World) :
    Calls Try.prog 34 #[.int .u16 a, .int .i64 n] w fun e w' => e = .returned (.tuple #[.int .u16 (shlN a n.toNat), .bool (shlO a n.toNat), .int .i64 0]) ∧ Drew w w' := by
  obtain ⟨ha0, ha1⟩ := id ha
  by_cases hn : n = 0
  · subst hn
    go_enter Try.func34, Try.ntmps34
    go_wp2
    go_ret3
    refine ⟨ret3 (vi ?_) (vb ?_) rfl, 0, rfl⟩
    · rw [show (0 : Int).toNat = 0 from rfl, shl_zero a ha]
    · rw [show (0 : Int).toNat = 0 from rfl, shlO_zero a ha]
  · have hn' : (n == 0) = false := beq_eq_false_iff_ne.2 hn
    go_enter Try.func34, Try.ntmps34
    go_wp2
    go_quiet (fail)
    go_wp2
    go_ret3
    refine ⟨ret3 (vi (wrap16 _)) (vb ?_) rfl, nq, rfl⟩
    rw [show n.toNat = 16 - (16 - n).toNat from by omega]
    exact shlO_and a (16 - n).toNat ha (by omega) (by omega)

theorem shr_ok (a n : Int) (ha : U16 a) (h0 : 0 ≤ n) (h1 : n ≤ 15) (w : World) :
    Calls Try.prog 35 #[.int .u16 a, .int .i64 n] w fun e w' => e = .returned (.tuple #[.int .u16 (shrN a n.toNat), .bool (shrO a n.toNat), .int .i64 0]) ∧ Drew w w' := by
  obtain ⟨ha0, ha1⟩ := id ha
  by_cases hn : n = 0
  · subst hn
    go_enter Try.func35, Try.ntmps35
    go_wp2
    go_ret3
    refine ⟨ret3 (vi ?_) (vb ?_) rfl, 0, rfl⟩
    · rw [show (0 : Int).toNat = 0 from rfl, shr_zero]
    · rw [show (0 : Int).toNat = 0 from rfl, shrO_zero]
  · have hn' : (n == 0) = false := beq_eq_false_iff_ne.2 hn
    go_enter Try.func35, Try.ntmps35
    go_wp2
    go_quiet (fail)
    go_wp2
    go_ret3
    refine ⟨ret3 (vi rfl) (vb ?_) rfl, nq, rfl⟩
    rw [show n.toNat = (n - 1).toNat + 1 from by omega, shrO_succ]
    exact and1_shr a (n - 1).toNat ha

theorem nat16 {a : Int} (ha : U16 a) : a.toNat < 2 ^ 16 := by unfold U16 at ha; omega

theorem lt_land (a b : Int) (_ha : U16 a) (hb : U16 b) : a.toNat &&& b.toNat < 2 ^ 16 := Nat.and_lt_two_pow _ (nat16 hb)

theorem lt_lor (a b : Int) (ha : U16 a) (hb : U16 b) : a.toNat ||| b.toNat < 2 ^ 16 := Nat.or_lt_two_pow (nat16 ha) (nat16 hb)

theorem lt_xor (a b : Int) (ha : U16 a) (hb : U16 b) : a.toNat ^^^ b.toNat < 2 ^ 16 := Nat.xor_lt_two_pow (nat16 ha) (nat16 hb)

def NoSum (op : Int) : Prop := (op == 7) = false ∧ (op == 15) = false ∧ (op == 8) = false ∧ (op == 14) = false ∧ (op == 9) = false ∧ (op == 10) = false ∧ (op == 11) = false ∧ (op == 28) = false

/-- the map of reckoners, as far as it is filled -/
def reckoners (pa pb : Value) : List MapEntry := [{ key := .int .i64 7, val := .func (.func 41) #[] #[pa, pb], born := 0 }, { key := .int .i64 15, val := .func (.func 43) #[] #[pa, pb], born := 1 }, { key := .int .i64 8, val := .func (.func 44) #[] #[pa, pb], born := 2 }, { key := .int .i64 14, val := .func (.func 46) #[] #[pa, pb], born := 3 }, { key := .int .i64 9, val := .func (.func 47) #[] #[pa, pb], born := 4 }, { key := .int .i64 10, val := .func (.func 48) #[] #[pa, pb], born := 5 }, { key := .int .i64 11, val := .func (.func 49) #[] #[pa, pb], born := 6 }, { key := .int .i64 28, val := .func (.func 50) #[] #[pa, pb], born := 7 }]

def upTo (pa pb : Value) (j : Nat) : Array MapEntry := ((reckoners pa pb).take j).toArray
theorem upTo_zero (pa pb : Value) : upTo pa pb 0 = #[] := rfl

theorem flags_put (w0 : World) (pa pb : Value) (n j : Nat) (hn : n = w0.heap.size) (k : Int) (v : Value) (hk : (reckoners pa pb)[j]? = some { key := .int .i64 k, val := v, born := j })
    (hf : Instr.findNow (.int .i64) (.int .i64 k) ((reckoners pa pb).take j) 0 = some none) :
    (Instr.mapUpdate 91 (.map (some n)) (.int .i64 k) v).run Try.prog (w0.alloc (.map (upTo pa pb j) j)) = .ok () (w0.alloc (.map (upTo pa pb (j + 1)) (j + 1))) := by
  have h := run_put_new (P := Try.prog) w0 (es := upTo pa pb j) (clock := j) (val := v) hn Try.underlying91 Try.underlying3 (by simp [MapKept.IsKey]) hf
  rw [h]
  unfold upTo
  rw [List.take_add_one, hk]
  simp

theorem run_eql_func (w : World) (f : Fn) (x y : Array Value) : (binOp .eql 88 (.func f x y) .nilFunc).run Try.prog w = .ok (.bool false) w := by kernel_rfl
theorem run_eql_nilfunc (w : World) : (binOp .eql 88 .nilFunc .nilFunc).run Try.prog w = .ok (.bool true) w := by kernel_rfl

theorem mulN_u (a b : Int) : U16 (mulN a b) := by unfold U16 mulN; omega
theorem bAnd_u (a b : Int) (ha : U16 a) (hb : U16 b) : U16 (bAnd a b) := by have := lt_land a b ha hb; unfold U16 bAnd; omega
theorem bOr_u (a b : Int) (ha : U16 a) (hb : U16 b) : U16 (bOr a b) := by have := lt_lor a b ha hb; unfold U16 bOr; omega
theorem bXor_u (a b : Int) (ha : U16 a) (hb : U16 b) : U16 (bXor a b) := by have := lt_xor a b ha hb; unfold U16 bXor; omega

theorem signs_any (n : Int) (c v : Bool) (hn : U16 n) (w : World) :
    Calls Try.prog 52 #[.int .u16 n, .bool c, .bool v] w fun e w' => e = .returned (.agg #[.bool (n == 0), .bool (decide (32768 ≤ n)), .bool c, .bool v]) ∧ Below w.heap.size w w' := by
  obtain ⟨hn0, hn1⟩ := id hn
  have ht : (n / 32768 == 1) = decide (32768 ≤ n) := by rw [Bool.eq_iff_iff]; simp; omega
  go_enter Try.func52, Try.ntmps52
  go_wp2
  exact bodyPost_ret (v := .agg #[.bool (n == 0), .bool (decide (32768 ≤ n)), .bool c, .bool v]) (by simp [results, Try.results52, go_sem]) rfl ⟨rfl, (Below.refl _ _).alloc (Nat.le_refl _) _⟩

theorem fl_7 (a b : Int) (ha : U16 a) (hb : U16 b) (pa pb : Addr) (w : World) (ca : w.cell? pa = some (.int .u16 a)) (cb : w.cell? pb = some (.int .u16 b)) :
    Calls Try.prog 41 #[.pointer (some pa), .pointer (some pb)] w fun e w' => e = .returned (.tuple #[.int .u16 (addN a b), .bool (addC a b), .bool (addV a b)]) ∧ w = w' := by
  obtain ⟨ha0, ha1⟩ := id ha; obtain ⟨hb0, hb1⟩ := id hb
  go_enter Try.func41, Try.ntmps41
  go_wp2_with fail
  refine (add_any a b ha hb _).mono ?_
  rintro e w' ⟨rfl, rfl⟩
  go_wp2
  go_ret3
  exact ⟨rfl, rfl⟩

theorem fl_15 (a b : Int) (ha : U16 a) (hb : U16 b) (pa pb : Addr) (w : World) (ca : w.cell? pa = some (.int .u16 a)) (cb : w.cell? pb = some (.int .u16 b)) :
    Calls Try.prog 43 #[.pointer (some pa), .pointer (some pb)] w fun e w' => e = .returned (.tuple #[.int .u16 (addN a b), .bool (addC a b), .bool (addV a b)]) ∧ w = w' := by
  obtain ⟨ha0, ha1⟩ := id ha; obtain ⟨hb0, hb1⟩ := id hb
  go_enter Try.func43, Try.ntmps43
  go_wp2_with fail
  refine (add_any a b ha hb _).mono ?_
  rintro e w' ⟨rfl, rfl⟩
  go_wp2
  go_ret3
  exact ⟨rfl, rfl⟩

theorem fl_8 (a b : Int) (ha : U16 a) (hb : U16 b) (pa pb : Addr) (w : World) (ca : w.cell? pa = some (.int .u16 a)) (cb : w.cell? pb = some (.int .u16 b)) :
    Calls Try.prog 44 #[.pointer (some pa), .pointer (some pb)] w fun e w' => e = .returned (.tuple #[.int .u16 (subN a b), .bool (subC a b), .bool (subV a b)]) ∧ w = w' := by
  obtain ⟨ha0, ha1⟩ := id ha; obtain ⟨hb0, hb1⟩ := id hb
  go_enter Try.func44, Try.ntmps44
  go_wp2_with fail
  refine (sub_any a b ha hb _).mono ?_
  rintro e w' ⟨rfl, rfl⟩
  go_wp2
  go_ret3
  exact ⟨rfl, rfl⟩

theorem fl_14 (a b : Int) (ha : U16 a) (hb : U16 b) (pa pb : Addr) (w : World) (ca : w.cell? pa = some (.int .u16 a)) (cb : w.cell? pb = some (.int .u16 b)) :
    Calls Try.prog 46 #[.pointer (some pa), .pointer (some pb)] w fun e w' => e = .returned (.tuple #[.int .u16 (subN a b), .bool (subC a b), .bool (subV a b)]) ∧ w = w' := by
  obtain ⟨ha0, ha1⟩ := id ha; obtain ⟨hb0, hb1⟩ := id hb
  go_enter Try.func46, Try.ntmps46
  go_wp2_with fail
  refine (sub_any a b ha hb _).mono ?_
  rintro e w' ⟨rfl, rfl⟩
  go_wp2
  go_ret3
  exact ⟨rfl, rfl⟩

theorem fl_9 (a b : Int) (ha : U16 a) (hb : U16 b) (pa pb : Addr) (w : World) (ca : w.cell? pa = some (.int .u16 a)) (cb : w.cell? pb = some (.int .u16 b)) :
    Calls Try.prog 47 #[.pointer (some pa), .pointer (some pb)] w fun e w' => e = .returned (.tuple #[.int .u16 (bAnd a b), .bool (false), .bool (false)]) ∧ w = w' := by
  obtain ⟨ha0, ha1⟩ := id ha; obtain ⟨hb0, hb1⟩ := id hb
  go_enter Try.func47, Try.ntmps47
  go_wp2
  go_ret3
  exact ⟨ret3 (vi (u16_and a b ha0 (by omega) hb0 (by omega))) rfl rfl, rfl⟩

theorem fl_10 (a b : Int) (ha : U16 a) (hb : U16 b) (pa pb : Addr) (w : World) (ca : w.cell? pa = some (.int .u16 a)) (cb : w.cell? pb = some (.int .u16 b)) :
    Calls Try.prog 48 #[.pointer (some pa), .pointer (some pb)] w fun e w' => e = .returned (.tuple #[.int .u16 (bOr a b), .bool (false), .bool (false)]) ∧ w = w' := by
  obtain ⟨ha0, ha1⟩ := id ha; obtain ⟨hb0, hb1⟩ := id hb
  go_enter Try.func48, Try.ntmps48
  go_wp2
  go_ret3
  exact ⟨ret3 (vi (u16_or a b ha0 (by omega) hb0 (by omega))) rfl rfl, rfl⟩

theorem fl_11 (a b : Int) (ha : U16 a) (hb : U16 b) (pa pb : Addr) (w : World) (ca : w.cell? pa = some (.int .u16 a)) (cb : w.cell? pb = some (.int .u16 b)) :
    Calls Try.prog 49 #[.pointer (some pa), .pointer (some pb)] w fun e w' => e = .returned (.tuple #[.int .u16 (bXor a b), .bool (false), .bool (false)]) ∧ w = w' := by
  obtain ⟨ha0, ha1⟩ := id ha; obtain ⟨hb0, hb1⟩ := id hb
  go_enter Try.func49, Try.ntmps49
  go_wp2
  go_ret3
  exact ⟨ret3 (vi (u16_xor a b ha0 (by omega) hb0 (by omega))) rfl rfl, rfl⟩

theorem fl_28 (a b : Int) (ha : U16 a) (hb : U16 b) (pa pb : Addr) (w : World) (ca : w.cell? pa = some (.int .u16 a)) (cb : w.cell? pb = some (.int .u16 b)) :
    Calls Try.prog 50 #[.pointer (some pa), .pointer (some pb)] w fun e w' => e = .returned (.tuple #[.int .u16 (mulN a b), .bool (mulH a b), .bool (false)]) ∧ w = w' := by
  obtain ⟨ha0, ha1⟩ := id ha; obtain ⟨hb0, hb1⟩ := id hb
  go_enter Try.func50, Try.ntmps50
  go_wp2_with fail
  refine (mul_any a b ha hb _).mono ?_
  rintro e w' ⟨rfl, rfl⟩
  go_wp2
  go_ret3
  exact ⟨rfl, rfl⟩

set_option maxHeartbeats 400000 in
theorem flags_7 (a b : Int) (ha : U16 a) (hb : U16 b) (w : World) :
    Calls Try.prog 36 #[.int .i64 7, .int .u16 a, .int .u16 b] w fun e w' => e = .returned (.tuple #[.int .u16 (addN a b), .bool (addN a b == 0), .bool (decide (32768 ≤ addN a b)), .bool (addC a b), .bool (addV a b), .int .i64 0]) ∧ Below w.heap.size w w' := by
  obtain ⟨ha0, ha1⟩ := id ha; obtain ⟨hb0, hb1⟩ := id hb
  have hmm := @run_makeMap Try.prog
  have eq1 := run_eql_func
  have eq0 := run_eql_nilfunc
  have p0 := flags_put ((w.alloc (.cells #[.int .u16 a] 25)).alloc (.cells #[.int .u16 b] 25)) (.pointer (some ⟨w.heap.size, 0, none⟩)) (.pointer (some ⟨w.heap.size + 1, 0, none⟩)) (w.heap.size + 1 + 1) 0 (by simp) 7 _ rfl rfl
  have p1 := flags_put ((w.alloc (.cells #[.int .u16 a] 25)).alloc (.cells #[.int .u16 b] 25)) (.pointer (some ⟨w.heap.size, 0, none⟩)) (.pointer (some ⟨w.heap.size + 1, 0, none⟩)) (w.heap.size + 1 + 1) 1 (by simp) 15 _ rfl rfl
  have p2 := flags_put ((w.alloc (.cells #[.int .u16 a] 25)).alloc (.cells #[.int .u16 b] 25)) (.pointer (some ⟨w.heap.size, 0, none⟩)) (.pointer (some ⟨w.heap.size + 1, 0, none⟩)) (w.heap.size + 1 + 1) 2 (by simp) 8 _ rfl rfl
  have p3 := flags_put ((w.alloc (.cells #[.int .u16 a] 25)).alloc (.cells #[.int .u16 b] 25)) (.pointer (some ⟨w.heap.size, 0, none⟩)) (.pointer (some ⟨w.heap.size + 1, 0, none⟩)) (w.heap.size + 1 + 1) 3 (by simp) 14 _ rfl rfl
  have p4 := flags_put ((w.alloc (.cells #[.int .u16 a] 25)).alloc (.cells #[.int .u16 b] 25)) (.pointer (some ⟨w.heap.size, 0, none⟩)) (.pointer (some ⟨w.heap.size + 1, 0, none⟩)) (w.heap.size + 1 + 1) 4 (by simp) 9 _ rfl rfl
  have p5 := flags_put ((w.alloc (.cells #[.int .u16 a] 25)).alloc (.cells #[.int .u16 b] 25)) (.pointer (some ⟨w.heap.size, 0, none⟩)) (.pointer (some ⟨w.heap.size + 1, 0, none⟩)) (w.heap.size + 1 + 1) 5 (by simp) 10 _ rfl rfl
  have p6 := flags_put ((w.alloc (.cells #[.int .u16 a] 25)).alloc (.cells #[.int .u16 b] 25)) (.pointer (some ⟨w.heap.size, 0, none⟩)) (.pointer (some ⟨w.heap.size + 1, 0, none⟩)) (w.heap.size + 1 + 1) 6 (by simp) 11 _ rfl rfl
  have p7 := flags_put ((w.alloc (.cells #[.int .u16 a] 25)).alloc (.cells #[.int .u16 b] 25)) (.pointer (some ⟨w.heap.size, 0, none⟩)) (.pointer (some ⟨w.heap.size + 1, 0, none⟩)) (w.heap.size + 1 + 1) 7 (by simp) 28 _ rfl rfl
  rw [upTo_zero] at p0
  have get := run_get_new (P := Try.prog) ((w.alloc (.cells #[.int .u16 a] 25)).alloc (.cells #[.int .u16 b] 25)) (es := upTo (.pointer (some ⟨w.heap.size, 0, none⟩)) (.pointer (some ⟨w.heap.size + 1, 0, none⟩)) 8) (clock := 8) (n := w.heap.size + 1 + 1) (by simp) Try.underlying91 Try.underlying3 (key := .int .i64 7) (by simp [MapKept.IsKey]) (i := 0) (v := .func (.func 41) #[] #[.pointer (some ⟨w.heap.size, 0, none⟩), .pointer (some ⟨w.heap.size + 1, 0, none⟩)]) rfl
  go_enter Try.func36, Try.ntmps36
  go_wp2_with fail
  refine (fl_7 a b ha hb _ _ _ (by go_simp) (by go_simp)).mono ?_
  rintro e w1 ⟨rfl, rfl⟩
  go_wp2_with fail
  refine (signs_any (addN a b) (addC a b) (addV a b) (addN_u a b) _).mono ?_
  rintro e w2 ⟨rfl, hb2⟩
  go_wp2
  go_quiet (fail)
  go_wp2
  have hs := hb2.size
  simp at hs
  exact bodyPost_ret (v := .tuple #[.int .u16 (addN a b), .bool (addN a b == 0), .bool (decide (32768 ≤ addN a b)), .bool (addC a b), .bool (addV a b), .int .i64 0]) (by simp [results, Try.results36, go_sem]) rfl
    ⟨rfl, ((((((Below.refl _ _).alloc (Nat.le_refl _) _).alloc (by simp) _).alloc (by simp; omega) _).trans (hb2.mono (by simp; omega))).alloc (by omega) _).trans ((Drew.refl _).drewN _ |>.below _)⟩

set_option maxHeartbeats 400000 in
theorem flags_15 (a b : Int) (ha : U16 a) (hb : U16 b) (w : World) :
    Calls Try.prog 36 #[.int .i64 15, .int .u16 a, .int .u16 b] w fun e w' => e = .returned (.tuple #[.int .u16 (addN a b), .bool (addN a b == 0), .bool (decide (32768 ≤ addN a b)), .bool (addC a b), .bool (addV a b), .int .i64 0]) ∧ Below w.heap.size w w' := by
  obtain ⟨ha0, ha1⟩ := id ha; obtain ⟨hb0, hb1⟩ := id hb
  have hmm := @run_makeMap Try.prog
  have eq1 := run_eql_func
  have eq0 := run_eql_nilfunc
  have p0 := flags_put ((w.alloc (.cells #[.int .u16 a] 25)).alloc (.cells #[.int .u16 b] 25)) (.pointer (some ⟨w.heap.size, 0, none⟩)) (.pointer (some ⟨w.heap.size + 1, 0, none⟩)) (w.heap.size + 1 + 1) 0 (by simp) 7 _ rfl rfl
  have p1 := flags_put ((w.alloc (.cells #[.int .u16 a] 25)).alloc (.cells #[.int .u16 b] 25)) (.pointer (some ⟨w.heap.size, 0, none⟩)) (.pointer (some ⟨w.heap.size + 1, 0, none⟩)) (w.heap.size + 1 + 1) 1 (by simp) 15 _ rfl rfl
  have p2 := flags_put ((w.alloc (.cells #[.int .u16 a] 25)).alloc (.cells #[.int .u16 b] 25)) (.pointer (some ⟨w.heap.size, 0, none⟩)) (.pointer (some ⟨w.heap.size + 1, 0, none⟩)) (w.heap.size + 1 + 1) 2 (by simp) 8 _ rfl rfl
  have p3 := flags_put ((w.alloc (.cells #[.int .u16 a] 25)).alloc (.cells #[.int .u16 b] 25)) (.pointer (some ⟨w.heap.size, 0, none⟩)) (.pointer (some ⟨w.heap.size + 1, 0, none⟩)) (w.heap.size + 1 + 1) 3 (by simp) 14 _ rfl rfl
  have p4 := flags_put ((w.alloc (.cells #[.int .u16 a] 25)).alloc (.cells #[.int .u16 b] 25)) (.pointer (some ⟨w.heap.size, 0, none⟩)) (.pointer (some ⟨w.heap.size + 1, 0, none⟩)) (w.heap.size + 1 + 1) 4 (by simp) 9 _ rfl rfl
  have p5 := flags_put ((w.alloc (.cells #[.int .u16 a] 25)).alloc (.cells #[.int .u16 b] 25)) (.pointer (some ⟨w.heap.size, 0, none⟩)) (.pointer (some ⟨w.heap.size + 1, 0, none⟩)) (w.heap.size + 1 + 1) 5 (by simp) 10 _ rfl rfl
  have p6 := flags_put ((w.alloc (.cells #[.int .u16 a] 25)).alloc (.cells #[.int .u16 b] 25)) (.pointer (some ⟨w.heap.size, 0, none⟩)) (.pointer (some ⟨w.heap.size + 1, 0, none⟩)) (w.heap.size + 1 + 1) 6 (by simp) 11 _ rfl rfl
  have p7 := flags_put ((w.alloc (.cells #[.int .u16 a] 25)).alloc (.cells #[.int .u16 b] 25)) (.pointer (some ⟨w.heap.size, 0, none⟩)) (.pointer (some ⟨w.heap.size + 1, 0, none⟩)) (w.heap.size + 1 + 1) 7 (by simp) 28 _ rfl rfl
  rw [upTo_zero] at p0
  have get := run_get_new (P := Try.prog) ((w.alloc (.cells #[.int .u16 a] 25)).alloc (.cells #[.int .u16 b] 25)) (es := upTo (.pointer (some ⟨w.heap.size, 0, none⟩)) (.pointer (some ⟨w.heap.size + 1, 0, none⟩)) 8) (clock := 8) (n := w.heap.size + 1 + 1) (by simp) Try.underlying91 Try.underlying3 (key := .int .i64 15) (by simp [MapKept.IsKey]) (i := 1) (v := .func (.func 43) #[] #[.pointer (some ⟨w.heap.size, 0, none⟩), .pointer (some ⟨w.heap.size + 1, 0, none⟩)]) rfl
  go_enter Try.func36, Try.ntmps36
  go_wp2_with fail
  refine (fl_15 a b ha hb _ _ _ (by go_simp) (by go_simp)).mono ?_
  rintro e w1 ⟨rfl, rfl⟩
  go_wp2_with fail
  refine (signs_any (addN a b) (addC a b) (addV a b) (addN_u a b) _).mono ?_
  rintro e w2 ⟨rfl, hb2⟩
  go_wp2
  go_quiet (fail)
  go_wp2
  have hs := hb2.size
  simp at hs
  exact bodyPost_ret (v := .tuple #[.int .u16 (addN a b), .bool (addN a b == 0), .bool (decide (32768 ≤ addN a b)), .bool (addC a b), .bool (addV a b), .int .i64 0]) (by simp [results, Try.results36, go_sem]) rfl
    ⟨rfl, ((((((Below.refl _ _).alloc (Nat.le_refl _) _).alloc (by simp) _).alloc (by simp; omega) _).trans (hb2.mono (by simp; omega))).alloc (by omega) _).trans ((Drew.refl _).drewN _ |>.below _)⟩

set_option maxHeartbeats 400000 in
theorem flags_8 (a b : Int) (ha : U16 a) (hb : U16 b) (w : World) :
    Calls Try.prog 36 #[.int .i64 8, .int .u16 a, .int .u16 b] w fun e w' => e = .returned (.tuple #[.int .u16 (subN a b), .bool (subN a b == 0), .bool (decide (32768 ≤ subN a b)), .bool (subC a b), .bool (subV a b), .int .i64 0]) ∧ Below w.heap.size w w' := by
  obtain ⟨ha0, ha1⟩ := id ha; obtain ⟨hb0, hb1⟩ := id hb
  have hmm := @run_makeMap Try.prog
  have eq1 := run_eql_func
  have eq0 := run_eql_nilfunc
  have p0 := flags_put ((w.alloc (.cells #[.int .u16 a] 25)).alloc (.cells #[.int .u16 b] 25)) (.pointer (some ⟨w.heap.size, 0, none⟩)) (.pointer (some ⟨w.heap.size + 1, 0, none⟩)) (w.heap.size + 1 + 1) 0 (by simp) 7 _ rfl rfl
  have p1 := flags_put ((w.alloc (.cells #[.int .u16 a] 25)).alloc (.cells #[.int .u16 b] 25)) (.pointer (some ⟨w.heap.size, 0, none⟩)) (.pointer (some ⟨w.heap.size + 1, 0, none⟩)) (w.heap.size + 1 + 1) 1 (by simp) 15 _ rfl rfl
  have p2 := flags_put ((w.alloc (.cells #[.int .u16 a] 25)).alloc (.cells #[.int .u16 b] 25)) (.pointer (some ⟨w.heap.size, 0, none⟩)) (.pointer (some ⟨w.heap.size + 1, 0, none⟩)) (w.heap.size + 1 + 1) 2 (by simp) 8 _ rfl rfl
  have p3 := flags_put ((w.alloc (.cells #[.int .u16 a] 25)).alloc (.cells #[.int .u16 b] 25)) (.pointer (some ⟨w.heap.size, 0, none⟩)) (.pointer (some ⟨w.heap.size + 1, 0, none⟩)) (w.heap.size + 1 + 1) 3 (by simp) 14 _ rfl rfl
  have p4 := flags_put ((w.alloc (.cells #[.int .u16 a] 25)).alloc (.cells #[.int .u16 b] 25)) (.pointer (some ⟨w.heap.size, 0, none⟩)) (.pointer (some ⟨w.heap.size + 1, 0, none⟩)) (w.heap.size + 1 + 1) 4 (by simp) 9 _ rfl rfl
  have p5 := flags_put ((w.alloc (.cells #[.int .u16 a] 25)).alloc (.cells #[.int .u16 b] 25)) (.pointer (some ⟨w.heap.size, 0, none⟩)) (.pointer (some ⟨w.heap.size + 1, 0, none⟩)) (w.heap.size + 1 + 1) 5 (by simp) 10 _ rfl rfl
  have p6 := flags_put ((w.alloc (.cells #[.int .u16 a] 25)).alloc (.cells #[.int .u16 b] 25)) (.pointer (some ⟨w.heap.size, 0, none⟩)) (.pointer (some ⟨w.heap.size + 1, 0, none⟩)) (w.heap.size + 1 + 1) 6 (by simp) 11 _ rfl rfl
  have p7 := flags_put ((w.alloc (.cells #[.int .u16 a] 25)).alloc (.cells #[.int .u16 b] 25)) (.pointer (some ⟨w.heap.size, 0, none⟩)) (.pointer (some ⟨w.heap.size + 1, 0, none⟩)) (w.heap.size + 1 + 1) 7 (by simp) 28 _ rfl rfl
  rw [upTo_zero] at p0
  have get := run_get_new (P := Try.prog) ((w.alloc (.cells #[.int .u16 a] 25)).alloc (.cells #[.int .u16 b] 25)) (es := upTo (.pointer (some ⟨w.heap.size, 0, none⟩)) (.pointer (some ⟨w.heap.size + 1, 0, none⟩)) 8) (clock := 8) (n := w.heap.size + 1 + 1) (by simp) Try.underlying91 Try.underlying3 (key := .int .i64 8) (by simp [MapKept.IsKey]) (i := 2) (v := .func (.func 44) #[] #[.pointer (some ⟨w.heap.size, 0, none⟩), .pointer (some ⟨w.heap.size + 1, 0, none⟩)]) rfl
  go_enter Try.func36, Try.ntmps36
  go_wp2_with fail
  refine (fl_8 a b ha hb _ _ _ (by go_simp) (by go_simp)).mono ?_
  rintro e w1 ⟨rfl, rfl⟩
  go_wp2_with fail
  refine (signs_any (subN a b) (subC a b) (subV a b) (subN_u a b) _).mono ?_
  rintro e w2 ⟨rfl, hb2⟩
  go_wp2
  go_quiet (fail)
  go_wp2
  have hs := hb2.size
  simp at hs
  exact bodyPost_ret (v := .tuple #[.int .u16 (subN a b), .bool (subN a b == 0), .bool (decide (32768 ≤ subN a b)), .bool (subC a b), .bool (subV a b), .int .i64 0]) (by simp [results, Try.results36, go_sem]) rfl
    ⟨rfl, ((((((Below.refl _ _).alloc (Nat.le_refl _) _).alloc (by simp) _).alloc (by simp; omega) _).trans (hb2.mono (by simp; omega))).alloc (by omega) _).trans ((Drew.refl _).drewN _ |>.below _)⟩

set_option maxHeartbeats 400000 in
theorem flags_14 (a b : Int) (ha : U16 a) (hb : U16 b) (w : World) :
    Calls Try.prog 36 #[.int .i64 14, .int .u16 a, .int .u16 b] w fun e w' => e = .returned (.tuple #[.int .u16 (subN a b), .bool (subN a b == 0), .bool (decide (32768 ≤ subN a b)), .bool (subC a b), .bool (subV a b), .int .i64 0]) ∧ Below w.heap.size w w' := by
  obtain ⟨ha0, ha1⟩ := id ha; obtain ⟨hb0, hb1⟩ := id hb
  have hmm := @run_makeMap Try.prog
  have eq1 := run_eql_func
  have eq0 := run_eql_nilfunc
  have p0 := flags_put ((w.alloc (.cells #[.int .u16 a] 25)).alloc (.cells #[.int .u16 b] 25)) (.pointer (some ⟨w.heap.size, 0, none⟩)) (.pointer (some ⟨w.heap.size + 1, 0, none⟩)) (w.heap.size + 1 + 1) 0 (by simp) 7 _ rfl rfl
  have p1 := flags_put ((w.alloc (.cells #[.int .u16 a] 25)).alloc (.cells #[.int .u16 b] 25)) (.pointer (some ⟨w.heap.size, 0, none⟩)) (.pointer (some ⟨w.heap.size + 1, 0, none⟩)) (w.heap.size + 1 + 1) 1 (by simp) 15 _ rfl rfl
  have p2 := flags_put ((w.alloc (.cells #[.int .u16 a] 25)).alloc (.cells #[.int .u16 b] 25)) (.pointer (some ⟨w.heap.size, 0, none⟩)) (.pointer (some ⟨w.heap.size + 1, 0, none⟩)) (w.heap.size + 1 + 1) 2 (by simp) 8 _ rfl rfl
  have p3 := flags_put ((w.alloc (.cells #[.int .u16 a] 25)).alloc (.cells #[.int .u16 b] 25)) (.pointer (some ⟨w.heap.size, 0, none⟩)) (.pointer (some ⟨w.heap.size + 1, 0, none⟩)) (w.heap.size + 1 + 1) 3 (by simp) 14 _ rfl rfl
  have p4 := flags_put ((w.alloc (.cells #[.int .u16 a] 25)).alloc (.cells #[.int .u16 b] 25)) (.pointer (some ⟨w.heap.size, 0, none⟩)) (.pointer (some ⟨w.heap.size + 1, 0, none⟩)) (w.heap.size + 1 + 1) 4 (by simp) 9 _ rfl rfl
  have p5 := flags_put ((w.alloc (.cells #[.int .u16 a] 25)).alloc (.cells #[.int .u16 b] 25)) (.pointer (some ⟨w.heap.size, 0, none⟩)) (.pointer (some ⟨w.heap.size + 1, 0, none⟩)) (w.heap.size + 1 + 1) 5 (by simp) 10 _ rfl rfl
  have p6 := flags_put ((w.alloc (.cells #[.int .u16 a] 25)).alloc (.cells #[.int .u16 b] 25)) (.pointer (some ⟨w.heap.size, 0, none⟩)) (.pointer (some ⟨w.heap.size + 1, 0, none⟩)) (w.heap.size + 1 + 1) 6 (by simp) 11 _ rfl rfl
  have p7 := flags_put ((w.alloc (.cells #[.int .u16 a] 25)).alloc (.cells #[.int .u16 b] 25)) (.pointer (some ⟨w.heap.size, 0, none⟩)) (.pointer (some ⟨w.heap.size + 1, 0, none⟩)) (w.heap.size + 1 + 1) 7 (by simp) 28 _ rfl rfl
  rw [upTo_zero] at p0
  have get := run_get_new (P := Try.prog) ((w.alloc (.cells #[.int .u16 a] 25)).alloc (.cells #[.int .u16 b] 25)) (es := upTo (.pointer (some ⟨w.heap.size, 0, none⟩)) (.pointer (some ⟨w.heap.size + 1, 0, none⟩)) 8) (clock := 8) (n := w.heap.size + 1 + 1) (by simp) Try.underlying91 Try.underlying3 (key := .int .i64 14) (by simp [MapKept.IsKey]) (i := 3) (v := .func (.func 46) #[] #[.pointer (some ⟨w.heap.size, 0, none⟩), .pointer (some ⟨w.heap.size + 1, 0, none⟩)]) rfl
  go_enter Try.func36, Try.ntmps36
  go_wp2_with fail
  refine (fl_14 a b ha hb _ _ _ (by go_simp) (by go_simp)).mono ?_
  rintro e w1 ⟨rfl, rfl⟩
  go_wp2_with fail
  refine (signs_any (subN a b) (subC a b) (subV a b) (subN_u a b) _).mono ?_
  rintro e w2 ⟨rfl, hb2⟩
  go_wp2
  go_quiet (fail)
  go_wp2
  have hs := hb2.size
  simp at hs
  exact bodyPost_ret (v := .tuple #[.int .u16 (subN a b), .bool (subN a b == 0), .bool (decide (32768 ≤ subN a b)), .bool (subC a b), .bool (subV a b), .int .i64 0]) (by simp [results, Try.results36, go_sem]) rfl
    ⟨rfl, ((((((Below.refl _ _).alloc (Nat.le_refl _) _).alloc (by simp) _).alloc (by simp; omega) _).trans (hb2.mono (by simp; omega))).alloc (by omega) _).trans ((Drew.refl _).drewN _ |>.below _)⟩

set_option maxHeartbeats 400000 in
theorem flags_9 (a b : Int) (ha : U16 a) (hb : U16 b) (w : World) :
    Calls Try.prog 36 #[.int .i64 9, .int .u16 a, .int .u16 b] w fun e w' => e = .returned (.tuple #[.int .u16 (bAnd a b), .bool (bAnd a b == 0), .bool (decide (32768 ≤ bAnd a b)), .bool (false), .bool (false), .int .i64 0]) ∧ Below w.heap.size w w' := by
  obtain ⟨ha0, ha1⟩ := id ha; obtain ⟨hb0, hb1⟩ := id hb
  have hmm := @run_makeMap Try.prog
  have eq1 := run_eql_func
  have eq0 := run_eql_nilfunc
  have p0 := flags_put ((w.alloc (.cells #[.int .u16 a] 25)).alloc (.cells #[.int .u16 b] 25)) (.pointer (some ⟨w.heap.size, 0, none⟩)) (.pointer (some ⟨w.heap.size + 1, 0, none⟩)) (w.heap.size + 1 + 1) 0 (by simp) 7 _ rfl rfl
  have p1 := flags_put ((w.alloc (.cells #[.int .u16 a] 25)).alloc (.cells #[.int .u16 b] 25)) (.pointer (some ⟨w.heap.size, 0, none⟩)) (.pointer (some ⟨w.heap.size + 1, 0, none⟩)) (w.heap.size + 1 + 1) 1 (by simp) 15 _ rfl rfl
  have p2 := flags_put ((w.alloc (.cells #[.int .u16 a] 25)).alloc (.cells #[.int .u16 b] 25)) (.pointer (some ⟨w.heap.size, 0, none⟩)) (.pointer (some ⟨w.heap.size + 1, 0, none⟩)) (w.heap.size + 1 + 1) 2 (by simp) 8 _ rfl rfl
  have p3 := flags_put ((w.alloc (.cells #[.int .u16 a] 25)).alloc (.cells #[.int .u16 b] 25)) (.pointer (some ⟨w.heap.size, 0, none⟩)) (.pointer (some ⟨w.heap.size + 1, 0, none⟩)) (w.heap.size + 1 + 1) 3 (by simp) 14 _ rfl rfl
  have p4 := flags_put ((w.alloc (.cells #[.int .u16 a] 25)).alloc (.cells #[.int .u16 b] 25)) (.pointer (some ⟨w.heap.size, 0, none⟩)) (.pointer (some ⟨w.heap.size + 1, 0, none⟩)) (w.heap.size + 1 + 1) 4 (by simp) 9 _ rfl rfl
  have p5 := flags_put ((w.alloc (.cells #[.int .u16 a] 25)).alloc (.cells #[.int .u16 b] 25)) (.pointer (some ⟨w.heap.size, 0, none⟩)) (.pointer (some ⟨w.heap.size + 1, 0, none⟩)) (w.heap.size + 1 + 1) 5 (by simp) 10 _ rfl rfl
  have p6 := flags_put ((w.alloc (.cells #[.int .u16 a] 25)).alloc (.cells #[.int .u16 b] 25)) (.pointer (some ⟨w.heap.size, 0, none⟩)) (.pointer (some ⟨w.heap.size + 1, 0, none⟩)) (w.heap.size + 1 + 1) 6 (by simp) 11 _ rfl rfl
  have p7 := flags_put ((w.alloc (.cells #[.int .u16 a] 25)).alloc (.cells #[.int .u16 b] 25)) (.pointer (some ⟨w.heap.size, 0, none⟩)) (.pointer (some ⟨w.heap.size + 1, 0, none⟩)) (w.heap.size + 1 + 1) 7 (by simp) 28 _ rfl rfl
  rw [upTo_zero] at p0
  have get := run_get_new (P := Try.prog) ((w.alloc (.cells #[.int .u16 a] 25)).alloc (.cells #[.int .u16 b] 25)) (es := upTo (.pointer (some ⟨w.heap.size, 0, none⟩)) (.pointer (some ⟨w.heap.size + 1, 0, none⟩)) 8) (clock := 8) (n := w.heap.size + 1 + 1) (by simp) Try.underlying91 Try.underlying3 (key := .int .i64 9) (by simp [MapKept.IsKey]) (i := 4) (v := .func (.func 47) #[] #[.pointer (some ⟨w.heap.size, 0, none⟩), .pointer (some ⟨w.heap.size + 1, 0, none⟩)]) rfl
  go_enter Try.func36, Try.ntmps36
  go_wp2_with fail
  refine (fl_9 a b ha hb _ _ _ (by go_simp) (by go_simp)).mono ?_
  rintro e w1 ⟨rfl, rfl⟩
  go_wp2_with fail
  refine (signs_any (bAnd a b) (false) (false) (bAnd_u a b ha hb) _).mono ?_
  rintro e w2 ⟨rfl, hb2⟩
  go_wp2
  go_quiet (fail)
  go_wp2
  have hs := hb2.size
  simp at hs
  exact bodyPost_ret (v := .tuple #[.int .u16 (bAnd a b), .bool (bAnd a b == 0), .bool (decide (32768 ≤ bAnd a b)), .bool (false), .bool (false), .int .i64 0]) (by simp [results, Try.results36, go_sem]) rfl
    ⟨rfl, ((((((Below.refl _ _).alloc (Nat.le_refl _) _).alloc (by simp) _).alloc (by simp; omega) _).trans (hb2.mono (by simp; omega))).alloc (by omega) _).trans ((Drew.refl _).drewN _ |>.below _)⟩

set_option maxHeartbeats 400000 in
theorem flags_10 (a b : Int) (ha : U16 a) (hb : U16 b) (w : World) :
    Calls Try.prog 36 #[.int .i64 10, .int .u16 a, .int .u16 b] w fun e w' => e = .returned (.tuple #[.int .u16 (bOr a b), .bool (bOr a b == 0), .bool (decide (32768 ≤ bOr a b)), .bool (false), .bool (false), .int .i64 0]) ∧ Below w.heap.size w w' := by
  obtain ⟨ha0, ha1⟩ := id ha; obtain ⟨hb0, hb1⟩ := id hb
  have hmm := @run_makeMap Try.prog
  have eq1 := run_eql_func
  have eq0 := run_eql_nilfunc
  have p0 := flags_put ((w.alloc (.cells #[.int .u16 a] 25)).alloc (.cells #[.int .u16 b] 25)) (.pointer (some ⟨w.heap.size, 0, none⟩)) (.pointer (some ⟨w.heap.size + 1, 0, none⟩)) (w.heap.size + 1 + 1) 0 (by simp) 7 _ rfl rfl
  have p1 := flags_put ((w.alloc (.cells #[.int .u16 a] 25)).alloc (.cells #[.int .u16 b] 25)) (.pointer (some ⟨w.heap.size, 0, none⟩)) (.pointer (some ⟨w.heap.size + 1, 0, none⟩)) (w.heap.size + 1 + 1) 1 (by simp) 15 _ rfl rfl
  have p2 := flags_put ((w.alloc (.cells #[.int .u16 a] 25)).alloc (.cells #[.int .u16 b] 25)) (.pointer (some ⟨w.heap.size, 0, none⟩)) (.pointer (some ⟨w.heap.size + 1, 0, none⟩)) (w.heap.size + 1 + 1) 2 (by simp) 8 _ rfl rfl
  have p3 := flags_put ((w.alloc (.cells #[.int .u16 a] 25)).alloc (.cells #[.int .u16 b] 25)) (.pointer (some ⟨w.heap.size, 0, none⟩)) (.pointer (some ⟨w.heap.size + 1, 0, none⟩)) (w.heap.size + 1 + 1) 3 (by simp) 14 _ rfl rfl
  have p4 := flags_put ((w.alloc (.cells #[.int .u16 a] 25)).alloc (.cells #[.int .u16 b] 25)) (.pointer (some ⟨w.heap.size, 0, none⟩)) (.pointer (some ⟨w.heap.size + 1, 0, none⟩)) (w.heap.size + 1 + 1) 4 (by simp) 9 _ rfl rfl
  have p5 := flags_put ((w.alloc (.cells #[.int .u16 a] 25)).alloc (.cells #[.int .u16 b] 25)) (.pointer (some ⟨w.heap.size, 0, none⟩)) (.pointer (some ⟨w.heap.size + 1, 0, none⟩)) (w.heap.size + 1 + 1) 5 (by simp) 10 _ rfl rfl
  have p6 := flags_put ((w.alloc (.cells #[.int .u16 a] 25)).alloc (.cells #[.int .u16 b] 25)) (.pointer (some ⟨w.heap.size, 0, none⟩)) (.pointer (some ⟨w.heap.size + 1, 0, none⟩)) (w.heap.size + 1 + 1) 6 (by simp) 11 _ rfl rfl
  have p7 := flags_put ((w.alloc (.cells #[.int .u16 a] 25)).alloc (.cells #[.int .u16 b] 25)) (.pointer (some ⟨w.heap.size, 0, none⟩)) (.pointer (some ⟨w.heap.size + 1, 0, none⟩)) (w.heap.size + 1 + 1) 7 (by simp) 28 _ rfl rfl
  rw [upTo_zero] at p0
  have get := run_get_new (P := Try.prog) ((w.alloc (.cells #[.int .u16 a] 25)).alloc (.cells #[.int .u16 b] 25)) (es := upTo (.pointer (some ⟨w.heap.size, 0, none⟩)) (.pointer (some ⟨w.heap.size + 1, 0, none⟩)) 8) (clock := 8) (n := w.heap.size + 1 + 1) (by simp) Try.underlying91 Try.underlying3 (key := .int .i64 10) (by simp [MapKept.IsKey]) (i := 5) (v := .func (.func 48) #[] #[.pointer (some ⟨w.heap.size, 0, none⟩), .pointer (some ⟨w.heap.size + 1, 0, none⟩)]) rfl
  go_enter Try.func36, Try.ntmps36
  go_wp2_with fail
  refine (fl_10 a b ha hb _ _ _ (by go_simp) (by go_simp)).mono ?_
  rintro e w1 ⟨rfl, rfl⟩
  go_wp2_with fail
  refine (signs_any (bOr a b) (false) (false) (bOr_u a b ha hb) _).mono ?_
  rintro e w2 ⟨rfl, hb2⟩
  go_wp2
  go_quiet (fail)
  go_wp2
  have hs := hb2.size
  simp at hs
  exact bodyPost_ret (v := .tuple #[.int .u16 (bOr a b), .bool (bOr a b == 0), .bool (decide (32768 ≤ bOr a b)), .bool (false), .bool (false), .int .i64 0]) (by simp [results, Try.results36, go_sem]) rfl
    ⟨rfl, ((((((Below.refl _ _).alloc (Nat.le_refl _) _).alloc (by simp) _).alloc (by simp; omega) _).trans (hb2.mono (by simp; omega))).alloc (by omega) _).trans ((Drew.refl _).drewN _ |>.below _)⟩

set_option maxHeartbeats 400000 in
theorem flags_11 (a b : Int) (ha : U16 a) (hb : U16 b) (w : World) :
    Calls Try.prog 36 #[.int .i64 11, .int .u16 a, .int .u16 b] w fun e w' => e = .returned (.tuple #[.int .u16 (bXor a b), .bool (bXor a b == 0), .bool (decide (32768 ≤ bXor a b)), .bool (false), .bool (false), .int .i64 0]) ∧ Below w.heap.size w w' := by
  obtain ⟨ha0, ha1⟩ := id ha; obtain ⟨hb0, hb1⟩ := id hb
  have hmm := @run_makeMap Try.prog
  have eq1 := run_eql_func
  have eq0 := run_eql_nilfunc
  have p0 := flags_put ((w.alloc (.cells #[.int .u16 a] 25)).alloc (.cells #[.int .u16 b] 25)) (.pointer (some ⟨w.heap.size, 0, none⟩)) (.pointer (some ⟨w.heap.size + 1, 0, none⟩)) (w.heap.size + 1 + 1) 0 (by simp) 7 _ rfl rfl
  have p1 := flags_put ((w.alloc (.cells #[.int .u16 a] 25)).alloc (.cells #[.int .u16 b] 25)) (.pointer (some ⟨w.heap.size, 0, none⟩)) (.pointer (some ⟨w.heap.size + 1, 0, none⟩)) (w.heap.size + 1 + 1) 1 (by simp) 15 _ rfl rfl
  have p2 := flags_put ((w.alloc (.cells #[.int .u16 a] 25)).alloc (.cells #[.int .u16 b] 25)) (.pointer (some ⟨w.heap.size, 0, none⟩)) (.pointer (some ⟨w.heap.size + 1, 0, none⟩)) (w.heap.size + 1 + 1) 2 (by simp) 8 _ rfl rfl
  have p3 := flags_put ((w.alloc (.cells #[.int .u16 a] 25)).alloc (.cells #[.int .u16 b] 25)) (.pointer (some ⟨w.heap.size, 0, none⟩)) (.pointer (some ⟨w.heap.size + 1, 0, none⟩)) (w.heap.size + 1 + 1) 3 (by simp) 14 _ rfl rfl
  have p4 := flags_put ((w.alloc (.cells #[.int .u16 a] 25)).alloc (.cells #[.int .u16 b] 25)) (.pointer (some ⟨w.heap.size, 0, none⟩)) (.pointer (some ⟨w.heap.size + 1, 0, none⟩)) (w.heap.size + 1 + 1) 4 (by simp) 9 _ rfl rfl
  have p5 := flags_put ((w.alloc (.cells #[.int .u16 a] 25)).alloc (.cells #[.int .u16 b] 25)) (.pointer (some ⟨w.heap.size, 0, none⟩)) (.pointer (some ⟨w.heap.size + 1, 0, none⟩)) (w.heap.size + 1 + 1) 5 (by simp) 10 _ rfl rfl
  have p6 := flags_put ((w.alloc (.cells #[.int .u16 a] 25)).alloc (.cells #[.int .u16 b] 25)) (.pointer (some ⟨w.heap.size, 0, none⟩)) (.pointer (some ⟨w.heap.size + 1, 0, none⟩)) (w.heap.size + 1 + 1) 6 (by simp) 11 _ rfl rfl
  have p7 := flags_put ((w.alloc (.cells #[.int .u16 a] 25)).alloc (.cells #[.int .u16 b] 25)) (.pointer (some ⟨w.heap.size, 0, none⟩)) (.pointer (some ⟨w.heap.size + 1, 0, none⟩)) (w.heap.size + 1 + 1) 7 (by simp) 28 _ rfl rfl
  rw [upTo_zero] at p0
  have get := run_get_new (P := Try.prog) ((w.alloc (.cells #[.int .u16 a] 25)).alloc (.cells #[.int .u16 b] 25)) (es := upTo (.pointer (some ⟨w.heap.size, 0, none⟩)) (.pointer (some ⟨w.heap.size + 1, 0, none⟩)) 8) (clock := 8) (n := w.heap.size + 1 + 1) (by simp) Try.underlying91 Try.underlying3 (key := .int .i64 11) (by simp [MapKept.IsKey]) (i := 6) (v := .func (.func 49) #[] #[.pointer (some ⟨w.heap.size, 0, none⟩), .pointer (some ⟨w.heap.size + 1, 0, none⟩)]) rfl
  go_enter Try.func36, Try.ntmps36
  go_wp2_with fail
  refine (fl_11 a b ha hb _ _ _ (by go_simp) (by go_simp)).mono ?_
  rintro e w1 ⟨rfl, rfl⟩
  go_wp2_with fail
  refine (signs_any (bXor a b) (false) (false) (bXor_u a b ha hb) _).mono ?_
  rintro e w2 ⟨rfl, hb2⟩
  go_wp2
  go_quiet (fail)
  go_wp2
  have hs := hb2.size
  simp at hs
  exact bodyPost_ret (v := .tuple #[.int .u16 (bXor a b), .bool (bXor a b == 0), .bool (decide (32768 ≤ bXor a b)), .bool (false), .bool (false), .int .i64 0]) (by simp [results, Try.results36, go_sem]) rfl
    ⟨rfl, ((((((Below.refl _ _).alloc (Nat.le_refl _) _).alloc (by simp) _).alloc (by simp; omega) _).trans (hb2.mono (by simp; omega))).alloc (by omega) _).trans ((Drew.refl _).drewN _ |>.below _)⟩

set_option maxHeartbeats 400000 in
theorem flags_28 (a b : Int) (ha : U16 a) (hb : U16 b) (w : World) :
    Calls Try.prog 36 #[.int .i64 28, .int .u16 a, .int .u16 b] w fun e w' => e = .returned (.tuple #[.int .u16 (mulN a b), .bool (mulN a b == 0), .bool (decide (32768 ≤ mulN a b)), .bool (mulH a b), .bool (false), .int .i64 0]) ∧ Below w.heap.size w w' := by
  obtain ⟨ha0, ha1⟩ := id ha; obtain ⟨hb0, hb1⟩ := id hb
  have hmm := @run_makeMap Try.prog
  have eq1 := run_eql_func
  have eq0 := run_eql_nilfunc
  have p0 := flags_put ((w.alloc (.cells #[.int .u16 a] 25)).alloc (.cells #[.int .u16 b] 25)) (.pointer (some ⟨w.heap.size, 0, none⟩)) (.pointer (some ⟨w.heap.size + 1, 0, none⟩)) (w.heap.size + 1 + 1) 0 (by simp) 7 _ rfl rfl
  have p1 := flags_put ((w.alloc (.cells #[.int .u16 a] 25)).alloc (.cells #[.int .u16 b] 25)) (.pointer (some ⟨w.heap.size, 0, none⟩)) (.pointer (some ⟨w.heap.size + 1, 0, none⟩)) (w.heap.size + 1 + 1) 1 (by simp) 15 _ rfl rfl
  have p2 := flags_put ((w.alloc (.cells #[.int .u16 a] 25)).alloc (.cells #[.int .u16 b] 25)) (.pointer (some ⟨w.heap.size, 0, none⟩)) (.pointer (some ⟨w.heap.size + 1, 0, none⟩)) (w.heap.size + 1 + 1) 2 (by simp) 8 _ rfl rfl
  have p3 := flags_put ((w.alloc (.cells #[.int .u16 a] 25)).alloc (.cells #[.int .u16 b] 25)) (.pointer (some ⟨w.heap.size, 0, none⟩)) (.pointer (some ⟨w.heap.size + 1, 0, none⟩)) (w.heap.size + 1 + 1) 3 (by simp) 14 _ rfl rfl
  have p4 := flags_put ((w.alloc (.cells #[.int .u16 a] 25)).alloc (.cells #[.int .u16 b] 25)) (.pointer (some ⟨w.heap.size, 0, none⟩)) (.pointer (some ⟨w.heap.size + 1, 0, none⟩)) (w.heap.size + 1 + 1) 4 (by simp) 9 _ rfl rfl
  have p5 := flags_put ((w.alloc (.cells #[.int .u16 a] 25)).alloc (.cells #[.int .u16 b] 25)) (.pointer (some ⟨w.heap.size, 0, none⟩)) (.pointer (some ⟨w.heap.size + 1, 0, none⟩)) (w.heap.size + 1 + 1) 5 (by simp) 10 _ rfl rfl
  have p6 := flags_put ((w.alloc (.cells #[.int .u16 a] 25)).alloc (.cells #[.int .u16 b] 25)) (.pointer (some ⟨w.heap.size, 0, none⟩)) (.pointer (some ⟨w.heap.size + 1, 0, none⟩)) (w.heap.size + 1 + 1) 6 (by simp) 11 _ rfl rfl
  have p7 := flags_put ((w.alloc (.cells #[.int .u16 a] 25)).alloc (.cells #[.int .u16 b] 25)) (.pointer (some ⟨w.heap.size, 0, none⟩)) (.pointer (some ⟨w.heap.size + 1, 0, none⟩)) (w.heap.size + 1 + 1) 7 (by simp) 28 _ rfl rfl
  rw [upTo_zero] at p0
  have get := run_get_new (P := Try.prog) ((w.alloc (.cells #[.int .u16 a] 25)).alloc (.cells #[.int .u16 b] 25)) (es := upTo (.pointer (some ⟨w.heap.size, 0, none⟩)) (.pointer (some ⟨w.heap.size + 1, 0, none⟩)) 8) (clock := 8) (n := w.heap.size + 1 + 1) (by simp) Try.underlying91 Try.underlying3 (key := .int .i64 28) (by simp [MapKept.IsKey]) (i := 7) (v := .func (.func 50) #[] #[.pointer (some ⟨w.heap.size, 0, none⟩), .pointer (some ⟨w.heap.size + 1, 0, none⟩)]) rfl
  go_enter Try.func36, Try.ntmps36
  go_wp2_with fail
  refine (fl_28 a b ha hb _ _ _ (by go_simp) (by go_simp)).mono ?_
  rintro e w1 ⟨rfl, rfl⟩
  go_wp2_with fail
  refine (signs_any (mulN a b) (mulH a b) (false) (mulN_u a b) _).mono ?_
  rintro e w2 ⟨rfl, hb2⟩
  go_wp2
  go_quiet (fail)
  go_wp2
  have hs := hb2.size
  simp at hs
  exact bodyPost_ret (v := .tuple #[.int .u16 (mulN a b), .bool (mulN a b == 0), .bool (decide (32768 ≤ mulN a b)), .bool (mulH a b), .bool (false), .int .i64 0]) (by simp [results, Try.results36, go_sem]) rfl
    ⟨rfl, ((((((Below.refl _ _).alloc (Nat.le_refl _) _).alloc (by simp) _).alloc (by simp; omega) _).trans (hb2.mono (by simp; omega))).alloc (by omega) _).trans ((Drew.refl _).drewN _ |>.below _)⟩

theorem flags_no (op a b : Int) (h : NoSum op) (w : World) :
    Calls Try.prog 36 #[.int .i64 op, .int .u16 a, .int .u16 b] w fun e w' => e = .returned (.tuple #[.int .u16 0, .bool false, .bool false, .bool false, .bool false, .int .i64 5]) ∧ Below w.heap.size w w' := by
  obtain ⟨n1, n2, n3, n4, n5, n6, n7, n8⟩ := h
  have hmm := @run_makeMap Try.prog
  have eq1 := run_eql_func
  have eq0 := run_eql_nilfunc
  have p0 := flags_put ((w.alloc (.cells #[.int .u16 a] 25)).alloc (.cells #[.int .u16 b] 25)) (.pointer (some ⟨w.heap.size, 0, none⟩)) (.pointer (some ⟨w.heap.size + 1, 0, none⟩)) (w.heap.size + 1 + 1) 0 (by simp) 7 _ rfl rfl
  have p1 := flags_put ((w.alloc (.cells #[.int .u16 a] 25)).alloc (.cells #[.int .u16 b] 25)) (.pointer (some ⟨w.heap.size, 0, none⟩)) (.pointer (some ⟨w.heap.size + 1, 0, none⟩)) (w.heap.size + 1 + 1) 1 (by simp) 15 _ rfl rfl
  have p2 := flags_put ((w.alloc (.cells #[.int .u16 a] 25)).alloc (.cells #[.int .u16 b] 25)) (.pointer (some ⟨w.heap.size, 0, none⟩)) (.pointer (some ⟨w.heap.size + 1, 0, none⟩)) (w.heap.size + 1 + 1) 2 (by simp) 8 _ rfl rfl
  have p3 := flags_put ((w.alloc (.cells #[.int .u16 a] 25)).alloc (.cells #[.int .u16 b] 25)) (.pointer (some ⟨w.heap.size, 0, none⟩)) (.pointer (some ⟨w.heap.size + 1, 0, none⟩)) (w.heap.size + 1 + 1) 3 (by simp) 14 _ rfl rfl
  have p4 := flags_put ((w.alloc (.cells #[.int .u16 a] 25)).alloc (.cells #[.int .u16 b] 25)) (.pointer (some ⟨w.heap.size, 0, none⟩)) (.pointer (some ⟨w.heap.size + 1, 0, none⟩)) (w.heap.size + 1 + 1) 4 (by simp) 9 _ rfl rfl
  have p5 := flags_put ((w.alloc (.cells #[.int .u16 a] 25)).alloc (.cells #[.int .u16 b] 25)) (.pointer (some ⟨w.heap.size, 0, none⟩)) (.pointer (some ⟨w.heap.size + 1, 0, none⟩)) (w.heap.size + 1 + 1) 5 (by simp) 10 _ rfl rfl
  have p6 := flags_put ((w.alloc (.cells #[.int .u16 a] 25)).alloc (.cells #[.int .u16 b] 25)) (.pointer (some ⟨w.heap.size, 0, none⟩)) (.pointer (some ⟨w.heap.size + 1, 0, none⟩)) (w.heap.size + 1 + 1) 6 (by simp) 11 _ rfl rfl
  have p7 := flags_put ((w.alloc (.cells #[.int .u16 a] 25)).alloc (.cells #[.int .u16 b] 25)) (.pointer (some ⟨w.heap.size, 0, none⟩)) (.pointer (some ⟨w.heap.size + 1, 0, none⟩)) (w.heap.size + 1 + 1) 7 (by simp) 28 _ rfl rfl
  rw [upTo_zero] at p0
  have get := run_get_none (P := Try.prog) ((w.alloc (.cells #[.int .u16 a] 25)).alloc (.cells #[.int .u16 b] 25)) (es := upTo (.pointer (some ⟨w.heap.size, 0, none⟩)) (.pointer (some ⟨w.heap.size + 1, 0, none⟩)) 8) (clock := 8) (n := w.heap.size + 1 + 1) (by simp) Try.underlying91 Try.underlying3 (key := .int .i64 op) (by simp [MapKept.IsKey]) (z := .nilFunc) (by simp [upTo, reckoners, Instr.findNow, Instr.sameNow, n1, n2, n3, n4, n5, n6, n7, n8]) (fun w => by kernel_rfl)
  go_enter Try.func36, Try.ntmps36
  go_wp2
  exact bodyPost_ret (v := .tuple #[.int .u16 0, .bool false, .bool false, .bool false, .bool false, .int .i64 5]) (by simp [results, Try.results36, go_sem]) rfl
    ⟨rfl, ((((Below.refl _ _).alloc (Nat.le_refl _) _).alloc (by simp) _).alloc (by simp; omega) _)⟩

end Go.Proofs.Yteihggfcafoogaa
