/- What the program's functions on words, and the document's, compute: each returns what the plain functions of WordPure say. Conditions: the arguments are words. -/
import Derived.Test.YtegilgnpkcjhpaaRows
import Derived.Test.YtegilgnpkcjhpaaWordPure
namespace Go.Proofs.Ytegilgnpkcjhpaa
open Go.RowKit Go.Mq

theorem add_any (a b : Int) (ha : U16 a) (hb : U16 b) (w : World) :
    Calls Try.prog 15 #[.int .u16 a, .int .u16 b] w fun e w' => e = .returned (.tuple #[.int .u16 (addN a b), .bool (addC a b), .bool (addV a b)]) ∧ w = w' := by
  obtain ⟨ha0, ha1⟩ := id ha; obtain ⟨hb0, hb1⟩ := id hb
  go_enter Try.func15, Try.ntmps15
  go_wp2
  go_ret3
  refine ⟨ret3 (vi (wrap16 _)) (vb (?_ : decide (IntKind.u16.wrap (a + b) < a) = _)) (vb ?_), rfl⟩
  · rw [wrap16]; exact addC_eq a b ha hb
  · rw [wrap16]; exact addV_eq a b ha hb

theorem sub_any (a b : Int) (ha : U16 a) (hb : U16 b) (w : World) :
    Calls Try.prog 16 #[.int .u16 a, .int .u16 b] w fun e w' => e = .returned (.tuple #[.int .u16 (subN a b), .bool (subC a b), .bool (subV a b)]) ∧ w = w' := by
  obtain ⟨ha0, ha1⟩ := id ha; obtain ⟨hb0, hb1⟩ := id hb
  go_enter Try.func16, Try.ntmps16
  go_wp2
  go_ret3
  refine ⟨ret3 (vi (wrap16 _)) rfl (vb ?_), rfl⟩
  rw [wrap16]; exact subV_eq a b ha hb

theorem mul_any (a b : Int) (ha : U16 a) (hb : U16 b) (w : World) :
    Calls Try.prog 17 #[.int .u16 a, .int .u16 b] w fun e w' => e = .returned (.tuple #[.int .u16 (mulN a b), .bool (mulH a b)]) ∧ w = w' := by
  obtain ⟨ha0, ha1⟩ := id ha; obtain ⟨hb0, hb1⟩ := id hb
  have h1 : 0 ≤ a * b := Int.mul_nonneg ha0 hb0
  have h2 : a * b ≤ 65535 * 65535 := Int.mul_le_mul ha1 hb1 hb0 (by omega)
  go_enter Try.func17, Try.ntmps17
  go_wp2
  go_ret2
  refine ⟨ret2 (vi (wrap16 _)) (vb (?_ : (a * b / 65536 != 0) = _)), rfl⟩
  unfold mulH
  rw [Bool.eq_iff_iff]
  simp
  omega

theorem signed_bad (a n : Int) (h : n < 1 ∨ 16 < n) (w : World) :
    Calls Try.prog 19 #[.int .u16 a, .int .i64 n] w fun e w' => e = .returned (.tuple #[.int .i64 0, .int .i64 3]) ∧ w = w' := by
  rcases h with h | h
  · go_enter Try.func19, Try.ntmps19
    go_wp2
    go_ret2
    exact ⟨rfl, rfl⟩
  · have h' : ¬ n < 1 := by omega
    go_enter Try.func19, Try.ntmps19
    go_wp2
    go_ret2
    exact ⟨rfl, rfl⟩

theorem signed_ok (a n : Int) (ha : U16 a) (h : 1 ≤ n) (h' : n ≤ 16) (w : World) :
    Calls Try.prog 19 #[.int .u16 a, .int .i64 n] w fun e w' => e = .returned (.tuple #[.int .i64 (lowest a n.toNat), .int .i64 0]) ∧ w = w' := by
  obtain ⟨ha0, ha1⟩ := id ha
  have hn : n = 1 ∨ n = 2 ∨ n = 3 ∨ n = 4 ∨ n = 5 ∨ n = 6 ∨ n = 7 ∨ n = 8 ∨ n = 9 ∨ n = 10 ∨ n = 11 ∨ n = 12 ∨ n = 13 ∨ n = 14 ∨ n = 15 ∨ n = 16 := by omega
  have hm := mask64 n.toNat (by omega) a ha0 (by omega)
  clear h h'
  rcases hn with rfl | rfl | rfl | rfl | rfl | rfl | rfl | rfl | rfl | rfl | rfl | rfl | rfl | rfl | rfl | rfl
  all_goals
    simp at hm
    go_enter Try.func19, Try.ntmps19
    go_wp2
    all_goals
      go_ret2
      refine ⟨ret2 (vi ?_) rfl, rfl⟩
      simp at *
      unfold lowest
      simp
      omega

theorem bytes_any (a : Int) (ha : U16 a) (w : World) :
    Calls Try.prog 20 #[.int .u16 a] w fun e w' => e = .returned (.tuple #[.int .u8 (a / 256), .int .u8 (a % 256)]) ∧ w = w' := by
  obtain ⟨ha0, ha1⟩ := id ha
  go_enter Try.func20, Try.ntmps20
  go_wp2
  go_ret2
  exact ⟨ret2 rfl (vi (wrap8 a)), rfl⟩

theorem of_any (h l : Int) (h0 : 0 ≤ h) (h1 : h ≤ 255) (l0 : 0 ≤ l) (l1 : l ≤ 255) (w : World) :
    Calls Try.prog 21 #[.int .u8 h, .int .u8 l] w fun e w' => e = .returned (.int .u16 (h * 256 + l)) ∧ w = w' := by
  go_enter Try.func21, Try.ntmps21
  go_wp2
  go_ret
  refine ⟨ret1 (vi ?_), rfl⟩
  rw [show h * 256 = ((h.toNat * 256 : Nat) : Int) from by omega, show l = ((l.toNat : Nat) : Int) from by omega, u16_or_nat _ _ (by omega) (by omega), nat_join 8 _ _ (by omega) (by omega)]
  omega

theorem lowest_ok (a n : Int) (ha : U16 a) (h : 1 ≤ n) (h' : n ≤ 16) (w : World) :
    Calls Try.prog 22 #[.int .u16 a, .int .i64 n] w fun e w' => e = .returned (.int .i64 (lowest a n.toNat)) ∧ w = w' := by
  obtain ⟨ha0, ha1⟩ := id ha
  have hn : n = 1 ∨ n = 2 ∨ n = 3 ∨ n = 4 ∨ n = 5 ∨ n = 6 ∨ n = 7 ∨ n = 8 ∨ n = 9 ∨ n = 10 ∨ n = 11 ∨ n = 12 ∨ n = 13 ∨ n = 14 ∨ n = 15 ∨ n = 16 := by omega
  clear h h'
  rcases hn with rfl | rfl | rfl | rfl | rfl | rfl | rfl | rfl | rfl | rfl | rfl | rfl | rfl | rfl | rfl | rfl
  all_goals
    go_enter Try.func22, Try.ntmps22
    go_wp2
    all_goals
      go_ret
      refine ⟨ret1 (vi ?_), rfl⟩
      simp at *
      unfold lowest
      simp
      omega

theorem sign_any (a : Int) (ha : U16 a) (w : World) :
    Calls Try.prog 51 #[.int .u16 a] w fun e w' => e = .returned (.int .i64 (sg a)) ∧ w = w' := by
  obtain ⟨ha0, ha1⟩ := id ha
  by_cases h : 32768 ≤ a
  · go_enter Try.func51, Try.ntmps51
    go_wp2
    go_ret
    exact ⟨ret1 (vi (by rw [sg, if_pos h])), rfl⟩
  · go_enter Try.func51, Try.ntmps51
    go_wp2
    go_ret
    exact ⟨ret1 (vi (by rw [sg, if_neg (by omega)])), rfl⟩

theorem sum_any (a b : Int) (ha : U16 a) (hb : U16 b) (w : World) :
    Calls Try.prog 26 #[.int .u16 a, .int .u16 b] w fun e w' => e = .returned (.tuple #[.int .u16 (addN a b), .bool (addC a b), .bool (addV a b)]) ∧ w = w' := by
  obtain ⟨ha0, ha1⟩ := id ha; obtain ⟨hb0, hb1⟩ := id hb
  have s1 := sg_b a ha; have s2 := sg_b b hb
  obtain ⟨s1a, s1b⟩ := s1; obtain ⟨s2a, s2b⟩ := s2
  go_enter Try.func26, Try.ntmps26
  go_wp2_with fail
  refine (sign_any a ha _).mono ?_
  rintro e w' ⟨rfl, rfl⟩
  go_wp2_with fail
  refine (sign_any b hb _).mono ?_
  rintro e w' ⟨rfl, rfl⟩
  go_wp2
  all_goals
    go_ret3
    refine ⟨ret3 (vi ?_) (vb ?_) (vb ?_), rfl⟩
    · try rw [wrap16]
      unfold addN; omega
    · unfold addC; rw [Bool.eq_iff_iff]; simp; omega
    · unfold addV; rw [Bool.eq_iff_iff]; simp; try omega

theorem less_any (a b : Int) (ha : U16 a) (hb : U16 b) (w : World) :
    Calls Try.prog 27 #[.int .u16 a, .int .u16 b] w fun e w' => e = .returned (.tuple #[.int .u16 (subN a b), .bool (subC a b), .bool (subV a b)]) ∧ w = w' := by
  obtain ⟨ha0, ha1⟩ := id ha; obtain ⟨hb0, hb1⟩ := id hb
  have s1 := sg_b a ha; have s2 := sg_b b hb
  obtain ⟨s1a, s1b⟩ := s1; obtain ⟨s2a, s2b⟩ := s2
  go_enter Try.func27, Try.ntmps27
  go_wp2_with fail
  refine (sign_any a ha _).mono ?_
  rintro e w' ⟨rfl, rfl⟩
  go_wp2_with fail
  refine (sign_any b hb _).mono ?_
  rintro e w' ⟨rfl, rfl⟩
  go_wp2
  all_goals
    go_ret3
    refine ⟨ret3 (vi ?_) (vb ?_) (vb ?_), rfl⟩
    · try rw [wrap16]
      unfold subN; omega
    · unfold subC; rw [Bool.eq_iff_iff]; simp; omega
    · unfold subV; rw [Bool.eq_iff_iff]; simp; try omega

theorem up_any (a n : Int) (ha : U16 a) (h0 : 0 ≤ n) (h1 : n ≤ 15) (w : World) :
    Calls Try.prog 31 #[.int .u16 a, .int .i64 n] w fun e w' => e = .returned (.tuple #[.int .u16 (shlN a n.toNat), .bool (shlO a n.toNat)]) ∧ w = w' := by
  obtain ⟨ha0, ha1⟩ := id ha
  go_enter Try.func31, Try.ntmps31
  go_wp2
  go_loop [0, 6, 8] (fun x o i => ∃ k : Nat, (k : Int) ≤ n ∧ i = .int .i64 k ∧ x = .int .u16 (shlN a k) ∧ o = .bool (shlO a k)) (fun _ _ i => (n - intOf i).toNat)
  case atStart => exact ⟨0, by omega, rfl, by rw [shl_zero a ha], by rw [shlO_zero a ha]⟩
  case round =>
    obtain ⟨k, hk, rfl, rfl, rfl⟩ := hrel
    have hu := shlN_u a k
    obtain ⟨hu0, hu1⟩ := hu
    by_cases hlt : (k : Int) < n
    · go_wp2
      all_goals
        go_round
        case rel => exact ⟨k + 1, by omega, by go_num, vi (by rw [shl_succ, wrap16]), vb (by rw [shlO_succ])⟩
        case measure => simp [intOf]; omega
    · have hkn : n.toNat = k := by omega
      have HK := Lib.hid hkn
      clear hkn
      go_wp2
      go_ret2
      rw [HK.out]
      exact ⟨rfl, rfl⟩

theorem shl_bad (a n : Int) (h : n < 0 ∨ 15 < n) (w : World) :
    Calls Try.prog 29 #[.int .u16 a, .int .i64 n] w fun e w' => e = .returned (.tuple #[.int .u16 0, .bool false, .int .i64 3]) ∧ w = w' := by
  rcases h with h | h
  · go_enter Try.func29, Try.ntmps29
    go_wp2
    go_ret3
    exact ⟨rfl, rfl⟩
  · have h' : ¬ n < 0 := by omega
    go_enter Try.func29, Try.ntmps29
    go_wp2
    go_ret3
    exact ⟨rfl, rfl⟩

theorem shl_ok (a n : Int) (ha : U16 a) (h0 : 0 ≤ n) (h1 : n ≤ 15) (w : World) :
    Calls Try.prog 29 #[.int .u16 a, .int .i64 n] w fun e w' => e = .returned (.tuple #[.int .u16 (shlN a n.toNat), .bool (shlO a n.toNat), .int .i64 0]) ∧ Drew w w' := by
  obtain ⟨ha0, ha1⟩ := id ha
  by_cases hn : n = 0
  · subst hn
    go_enter Try.func29, Try.ntmps29
    go_wp2
    go_ret3
    refine ⟨ret3 (vi ?_) (vb ?_) rfl, 0, rfl⟩
    · rw [show (0 : Int).toNat = 0 from rfl, shl_zero a ha]
    · rw [show (0 : Int).toNat = 0 from rfl, shlO_zero a ha]
  · have hn' : (n == 0) = false := beq_eq_false_iff_ne.2 hn
    go_enter Try.func29, Try.ntmps29
    go_wp2
    go_quiet (fail)
    go_wp2
    go_ret3
    refine ⟨ret3 (vi (wrap16 _)) (vb ?_) rfl, nq, rfl⟩
    rw [show n.toNat = 16 - (16 - n).toNat from by omega]
    exact shlO_and a (16 - n).toNat ha (by omega) (by omega)

theorem shr_bad (a n : Int) (h : n < 0 ∨ 15 < n) (w : World) :
    Calls Try.prog 30 #[.int .u16 a, .int .i64 n] w fun e w' => e = .returned (.tuple #[.int .u16 0, .bool false, .int .i64 3]) ∧ w = w' := by
  rcases h with h | h
  · go_enter Try.func30, Try.ntmps30
    go_wp2
    go_ret3
    exact ⟨rfl, rfl⟩
  · have h' : ¬ n < 0 := by omega
    go_enter Try.func30, Try.ntmps30
    go_wp2
    go_ret3
    exact ⟨rfl, rfl⟩

theorem shr_ok (a n : Int) (ha : U16 a) (h0 : 0 ≤ n) (h1 : n ≤ 15) (w : World) :
    Calls Try.prog 30 #[.int .u16 a, .int .i64 n] w fun e w' => e = .returned (.tuple #[.int .u16 (shrN a n.toNat), .bool (shrO a n.toNat), .int .i64 0]) ∧ Drew w w' := by
  obtain ⟨ha0, ha1⟩ := id ha
  by_cases hn : n = 0
  · subst hn
    go_enter Try.func30, Try.ntmps30
    go_wp2
    go_ret3
    refine ⟨ret3 (vi ?_) (vb ?_) rfl, 0, rfl⟩
    · rw [show (0 : Int).toNat = 0 from rfl, shr_zero]
    · rw [show (0 : Int).toNat = 0 from rfl, shrO_zero]
  · have hn' : (n == 0) = false := beq_eq_false_iff_ne.2 hn
    go_enter Try.func30, Try.ntmps30
    go_wp2
    go_quiet (fail)
    go_wp2
    go_ret3
    refine ⟨ret3 (vi rfl) (vb ?_) rfl, nq, rfl⟩
    rw [show n.toNat = (n - 1).toNat + 1 from by omega, shrO_succ]
    exact and1_shr a (n - 1).toNat ha

theorem down_any (a n : Int) (ha : U16 a) (h0 : 0 ≤ n) (h1 : n ≤ 15) (w : World) :
    Calls Try.prog 32 #[.int .u16 a, .int .i64 n] w fun e w' => e = .returned (.tuple #[.int .u16 (shrN a n.toNat), .bool (shrO a n.toNat)]) ∧ w = w' := by
  obtain ⟨ha0, ha1⟩ := id ha
  go_enter Try.func32, Try.ntmps32
  go_wp2
  go_loop [0, 6, 8] (fun x o i => ∃ k : Nat, (k : Int) ≤ n ∧ i = .int .i64 k ∧ x = .int .u16 (shrN a k) ∧ o = .bool (shrO a k)) (fun _ _ i => (n - intOf i).toNat)
  case atStart => exact ⟨0, by omega, rfl, by rw [shr_zero a], by rw [shrO_zero a]⟩
  case round =>
    obtain ⟨k, hk, rfl, rfl, rfl⟩ := hrel
    have hu := shrN_u a k ha
    obtain ⟨hu0, hu1⟩ := hu
    by_cases hlt : (k : Int) < n
    · go_wp2
      all_goals
        go_round
        case rel => exact ⟨k + 1, by omega, by go_num, vi (by rw [shr_succ, wrap16, Int.tdiv_eq_ediv_of_nonneg hu0]; omega), vb (by rw [shrO_succ]; rfl)⟩
        case measure => simp [intOf]; omega
    · have hkn : n.toNat = k := by omega
      have HK := Lib.hid hkn
      clear hkn
      go_wp2
      go_ret2
      rw [HK.out]
      exact ⟨rfl, rfl⟩

theorem reckoned_any (w : World) :
    Calls Try.prog 18 #[] w fun e w' => e = .returned (.bool true) ∧ w = w' := by
  have h1 := add_any 32767 1 ⟨by omega, by omega⟩ ⟨by omega, by omega⟩
  have h2 := sub_any 0 1 ⟨by omega, by omega⟩ ⟨by omega, by omega⟩
  rw [show addN 32767 1 = 32768 from rfl, show addC 32767 1 = false from rfl, show addV 32767 1 = true from rfl] at h1
  rw [show subN 0 1 = 65535 from rfl, show subC 0 1 = true from rfl, show subV 0 1 = false from rfl] at h2
  have H1 := Lib.hid h1
  have H2 := Lib.hid h2
  clear h1 h2
  go_enter Try.func18, Try.ntmps18
  go_wp2_with fail
  refine (H1.out _).mono ?_
  rintro e w' ⟨rfl, rfl⟩
  go_wp2_with fail
  refine (H2.out _).mono ?_
  rintro e w' ⟨rfl, rfl⟩
  go_wp2
  go_ret
  exact ⟨rfl, rfl⟩

end Go.Proofs.Ytegilgnpkcjhpaa
