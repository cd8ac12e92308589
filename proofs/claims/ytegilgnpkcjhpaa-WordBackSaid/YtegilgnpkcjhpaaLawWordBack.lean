/- WordBack: for every two words and every number the law answers true. Conditions: none. -/
import Derived.Test.YtegilgnpkcjhpaaWord
namespace Go.Proofs.Ytegilgnpkcjhpaa.wordBack
open Go.RowKit Go.Mq

theorem sub_add (a b : Int) (ha : U16 a) : subN (addN a b) b = a := by unfold U16 at ha; unfold addN subN; omega
theorem low16 (a : Int) (ha : U16 a) : IntKind.u16.wrap (lowest a 16) = a := by
  unfold U16 at ha; rw [wrap16]; unfold lowest; simp; split <;> omega
theorem mask16 (i : Nat) (hi : i ≤ 16) (x : Int) (hx : U16 x) : bits .and .u16 x (2 ^ i - 1) = x % 2 ^ i :=
  bits_mask .u16 16 (by decide) (fun n h h' => by rw [wrap16]; omega) i hi x hx.1 (by unfold U16 at hx; omega)
theorem back (a : Int) (ha : U16 a) (n : Nat) (hn : n ≤ 15) : bits .and .u16 a (65535 / 2 ^ n) = shrN (shlN a n) n := by
  have h1 := mask16 (16 - n) (by omega) a ha
  have hc : n = 0 ∨ n = 1 ∨ n = 2 ∨ n = 3 ∨ n = 4 ∨ n = 5 ∨ n = 6 ∨ n = 7 ∨ n = 8 ∨ n = 9 ∨ n = 10 ∨ n = 11 ∨ n = 12 ∨ n = 13 ∨ n = 14 ∨ n = 15 := by omega
  unfold shrN shlN
  rcases hc with rfl | rfl | rfl | rfl | rfl | rfl | rfl | rfl | rfl | rfl | rfl | rfl | rfl | rfl | rfl | rfl
  all_goals
    simp at h1 ⊢
    rw [h1]
    try omega

set_option maxRecDepth 100000 in
theorem walk (a b n : Int) (ha : U16 a) (hb : U16 b) (_hn : I64 n) (w : World) :
    Calls Try.prog 13 #[.int .u16 a, .int .u16 b, .int .i64 n] w fun e w' => e = .returned (.bool true) ∧ Below w.heap.size w w' := by
  obtain ⟨ha0, ha1⟩ := id ha
  have h2 := sub_any (addN a b) b (addN_u a b) hb
  rw [sub_add a b ha] at h2
  have h3 := of_any (a / 256) (a % 256) (by omega) (by omega) (by omega) (by omega)
  rw [show a / 256 * 256 + a % 256 = a from by omega] at h3
  have h4 := signed_ok a 16 ha (by omega) (by omega)
  have H2 := Lib.hid h2
  have H3 := Lib.hid h3
  have H4 := Lib.hid h4
  clear h2 h3 h4
  have e16 := low16 a ha
  by_cases h : n < 0 ∨ 15 < n
  · go_enter Try.func13, Try.ntmps13
    go_wp2_with fail
    refine (add_any a b ha hb _).mono ?_
    rintro e w' ⟨rfl, rfl⟩
    go_wp2_with fail
    refine (H2.out _).mono ?_
    rintro e w' ⟨rfl, rfl⟩
    go_wp2_with fail
    refine (bytes_any a ha _).mono ?_
    rintro e w' ⟨rfl, rfl⟩
    go_wp2_with fail
    refine (reckoned_any _).mono ?_
    rintro e w' ⟨rfl, rfl⟩
    go_wp2_with fail
    refine (H3.out _).mono ?_
    rintro e w' ⟨rfl, rfl⟩
    go_wp2_with fail
    refine (H4.out _).mono ?_
    rintro e w' ⟨rfl, rfl⟩
    go_wp2_with fail
    refine (shl_bad a n h _).mono ?_
    rintro e w' ⟨rfl, rfl⟩
    go_wp2_with fail
    refine (shr_bad 0 n h _).mono ?_
    rintro e w' ⟨rfl, rfl⟩
    go_wp2
    go_ret
    exact ⟨rfl, Below.refl _ _⟩
  · have eb := back a ha n.toNat (by omega)
    go_enter Try.func13, Try.ntmps13
    go_wp2_with fail
    refine (add_any a b ha hb _).mono ?_
    rintro e w' ⟨rfl, rfl⟩
    go_wp2_with fail
    refine (H2.out _).mono ?_
    rintro e w' ⟨rfl, rfl⟩
    go_wp2_with fail
    refine (bytes_any a ha _).mono ?_
    rintro e w' ⟨rfl, rfl⟩
    go_wp2_with fail
    refine (reckoned_any _).mono ?_
    rintro e w' ⟨rfl, rfl⟩
    go_wp2_with fail
    refine (H3.out _).mono ?_
    rintro e w' ⟨rfl, rfl⟩
    go_wp2_with fail
    refine (H4.out _).mono ?_
    rintro e w' ⟨rfl, rfl⟩
    go_wp2_with fail
    refine (shl_ok a n ha (by omega) (by omega) _).mono ?_
    rintro e w2 ⟨rfl, hd2⟩
    go_wp2_with fail
    refine (shr_ok (shlN a n.toNat) n (shlN_u a _) (by omega) (by omega) _).mono ?_
    rintro e w3 ⟨rfl, hd3⟩
    go_wp2
    go_ret
    exact ⟨rfl, (hd2.trans hd3).below _⟩
end Go.Proofs.Ytegilgnpkcjhpaa.wordBack
