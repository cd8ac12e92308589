/- What the program's timer, and the document's, compute. Conditions: the timer's words are words. -/
import Derived.Test.YtegilgnpkcjhpaaRows
import Derived.Test.YtegilgnpkcjhpaaTimerPure
namespace Go.Proofs.Ytegilgnpkcjhpaa
open Go.RowKit Go.Mq

theorem reftick_any (t : Tim) (ht : t.Ok) (w : World) :
    Calls Try.prog 46 #[.agg #[.int .u16 t.rl, .int .u16 t.ct, .bool t.on, .bool t.rg]] w fun e w' => e = .returned (.agg #[.int .u16 (tickTm t).rl, .int .u16 (tickTm t).ct, .bool (tickTm t).on, .bool (tickTm t).rg]) ∧ Below w.heap.size w w' := by
  obtain ⟨⟨hr0, hr1⟩, ⟨hc0, hc1⟩⟩ := id ht
  obtain ⟨rl, ct, on, rg⟩ := t
  simp only at hr0 hr1 hc0 hc1
  clear ht
  unfold tickTm
  cases on
  · simp only [Bool.false_eq_true, if_false]
    go_enter Try.func46, Try.ntmps46
    go_wp2
    refine bodyPost_ret (v := .agg #[.int .u16 rl, .int .u16 ct, .bool false, .bool rg]) (by simp [results, Try.results46, go_sem]) rfl ⟨rfl, ?_⟩
    exact by repeat' (first | exact Below.refl _ _ | assumption | refine below_alloc ?_ _ | refine Below.drew ?_ | refine below_drewN ?_ _ | refine below_then ?_ (by assumption) | refine Below.setCell ?_ ?_ _ | (simp; done) | (simp; omega) | omega)
  · by_cases h : ct = 0
    · subst h
      simp only [if_true]
      go_enter Try.func46, Try.ntmps46
      go_wp2
      refine bodyPost_ret (v := .agg #[.int .u16 rl, .int .u16 rl, .bool true, .bool true]) (by simp [results, Try.results46, go_sem]) rfl ⟨rfl, ?_⟩
      exact by repeat' (first | exact Below.refl _ _ | assumption | refine below_alloc ?_ _ | refine Below.drew ?_ | refine below_drewN ?_ _ | refine below_then ?_ (by assumption) | refine Below.setCell ?_ ?_ _ | (simp; done) | (simp; omega) | omega)
    · simp only [if_true, if_neg h]
      go_enter Try.func46, Try.ntmps46
      go_wp2
      refine bodyPost_ret (v := .agg #[.int .u16 rl, .int .u16 (ct - 1), .bool true, .bool rg]) (by simp [results, Try.results46, go_sem]) rfl ⟨rfl, ?_⟩
      exact by repeat' (first | exact Below.refl _ _ | assumption | refine below_alloc ?_ _ | refine Below.drew ?_ | refine below_drewN ?_ _ | refine below_then ?_ (by assumption) | refine Below.setCell ?_ ?_ _ | (simp; done) | (simp; omega) | omega)

theorem tick_any (t : Tim) (ht : t.Ok) (w : World) :
    Calls Try.prog 45 #[.agg #[.int .u16 t.rl, .int .u16 t.ct, .bool t.on, .bool t.rg]] w fun e w' => e = .returned (.agg #[.int .u16 (tickTm t).rl, .int .u16 (tickTm t).ct, .bool (tickTm t).on, .bool (tickTm t).rg]) ∧ Below w.heap.size w w' := by
  obtain ⟨⟨hr0, hr1⟩, ⟨hc0, hc1⟩⟩ := id ht
  obtain ⟨rl, ct, on, rg⟩ := t
  simp only at hr0 hr1 hc0 hc1
  clear ht
  unfold tickTm
  cases on
  · simp only [Bool.false_eq_true, if_false]
    go_enter Try.func45, Try.ntmps45
    go_wp2
    refine bodyPost_ret (v := .agg #[.int .u16 rl, .int .u16 ct, .bool false, .bool rg]) (by simp [results, Try.results45, go_sem]) rfl ⟨rfl, ?_⟩
    exact by repeat' (first | exact Below.refl _ _ | assumption | refine below_alloc ?_ _ | refine Below.drew ?_ | refine below_drewN ?_ _ | refine below_then ?_ (by assumption) | refine Below.setCell ?_ ?_ _ | (simp; done) | (simp; omega) | omega)
  · by_cases h : ct = 0
    · subst h
      simp only [if_true]
      go_enter Try.func45, Try.ntmps45
      go_wp2
      refine bodyPost_ret (v := .agg #[.int .u16 rl, .int .u16 rl, .bool true, .bool true]) (by simp [results, Try.results45, go_sem]) rfl ⟨rfl, ?_⟩
      exact by repeat' (first | exact Below.refl _ _ | assumption | refine below_alloc ?_ _ | refine Below.drew ?_ | refine below_drewN ?_ _ | refine below_then ?_ (by assumption) | refine Below.setCell ?_ ?_ _ | (simp; done) | (simp; omega) | omega)
    · simp only [if_true, if_neg h]
      go_enter Try.func45, Try.ntmps45
      go_wp2
      refine bodyPost_ret (v := .agg #[.int .u16 rl, .int .u16 (ct - 1), .bool true, .bool rg]) (by simp [results, Try.results45, go_sem]) rfl ⟨rfl, ?_⟩
      exact by repeat' (first | exact Below.refl _ _ | assumption | refine below_alloc ?_ _ | refine Below.drew ?_ | refine below_drewN ?_ _ | refine below_then ?_ (by assumption) | refine Below.setCell ?_ ?_ _ | (simp; done) | (simp; omega) | omega)

theorem set_any (t : Tim) (ht : t.Ok) (b : Bool) (w : World) :
    Calls Try.prog 47 #[.agg #[.int .u16 t.rl, .int .u16 t.ct, .bool t.on, .bool t.rg], .bool b] w fun e w' => e = .returned (.agg #[.int .u16 (setTm t b).rl, .int .u16 (setTm t b).ct, .bool (setTm t b).on, .bool (setTm t b).rg]) ∧ Below w.heap.size w w' := by
  obtain ⟨⟨hr0, hr1⟩, ⟨hc0, hc1⟩⟩ := id ht
  obtain ⟨rl, ct, on, rg⟩ := t
  simp only at hr0 hr1 hc0 hc1
  clear ht
  unfold setTm
  cases b
  · simp only [Bool.false_eq_true, if_false]
    go_enter Try.func47, Try.ntmps47
    go_wp2
    refine bodyPost_ret (v := .agg #[.int .u16 rl, .int .u16 ct, .bool false, .bool rg]) (by simp [results, Try.results47, go_sem]) rfl ⟨rfl, ?_⟩
    exact by repeat' (first | exact Below.refl _ _ | assumption | refine below_alloc ?_ _ | refine Below.drew ?_ | refine below_drewN ?_ _ | refine below_then ?_ (by assumption) | refine Below.setCell ?_ ?_ _ | (simp; done) | (simp; omega) | omega)
  · simp only [if_true]
    go_enter Try.func47, Try.ntmps47
    go_wp2
    refine bodyPost_ret (v := .agg #[.int .u16 rl, .int .u16 rl, .bool true, .bool rg]) (by simp [results, Try.results47, go_sem]) rfl ⟨rfl, ?_⟩
    exact by repeat' (first | exact Below.refl _ _ | assumption | refine below_alloc ?_ _ | refine Below.drew ?_ | refine below_drewN ?_ _ | refine below_then ?_ (by assumption) | refine Below.setCell ?_ ?_ _ | (simp; done) | (simp; omega) | omega)

theorem next_any (t : Tim) (ht : t.Ok) (w : World) :
    Calls Try.prog 25 #[.agg #[.int .u16 t.rl, .int .u16 t.ct, .bool t.on, .bool t.rg]] w fun e w' => e = .returned (.int .i64 (nextTm t)) ∧ Below w.heap.size w w' := by
  obtain ⟨⟨hr0, hr1⟩, ⟨hc0, hc1⟩⟩ := id ht
  obtain ⟨rl, ct, on, rg⟩ := t
  simp only at hr0 hr1 hc0 hc1
  clear ht
  unfold nextTm
  cases on
  · go_enter Try.func25, Try.ntmps25
    go_wp2
    go_ret
    exact ⟨rfl, by repeat' (first | exact Below.refl _ _ | assumption | refine below_alloc ?_ _ | refine Below.drew ?_ | refine below_drewN ?_ _ | refine below_then ?_ (by assumption) | refine Below.setCell ?_ ?_ _ | (simp; done) | (simp; omega) | omega)⟩
  · go_enter Try.func25, Try.ntmps25
    go_wp2
    go_ret
    exact ⟨rfl, by repeat' (first | exact Below.refl _ _ | assumption | refine below_alloc ?_ _ | refine Below.drew ?_ | refine below_drewN ?_ _ | refine below_then ?_ (by assumption) | refine Below.setCell ?_ ?_ _ | (simp; done) | (simp; omega) | omega)⟩

theorem run_bad (t : Tim) (n : Int) (h : n < 0 ∨ 20000 < n) (w : World) :
    Calls Try.prog 24 #[.agg #[.int .u16 t.rl, .int .u16 t.ct, .bool t.on, .bool t.rg], .int .i64 n] w fun e w' => e = .returned (.tuple #[.agg #[.int .u16 0, .int .u16 0, .bool false, .bool false], .int .i64 3]) ∧ Below w.heap.size w w' := by
  rcases h with h | h
  · go_enter Try.func24, Try.ntmps24
    go_wp2
    refine bodyPost_ret (v := .tuple #[.agg #[.int .u16 0, .int .u16 0, .bool false, .bool false], .int .i64 3]) (by simp [results, Try.results24, go_sem]) rfl ⟨rfl, ?_⟩
    exact by repeat' (first | exact Below.refl _ _ | assumption | refine below_alloc ?_ _ | refine Below.drew ?_ | refine below_drewN ?_ _ | refine below_then ?_ (by assumption) | refine Below.setCell ?_ ?_ _ | (simp; done) | (simp; omega) | omega)
  · have h' : ¬ n < 0 := by omega
    go_enter Try.func24, Try.ntmps24
    go_wp2
    refine bodyPost_ret (v := .tuple #[.agg #[.int .u16 0, .int .u16 0, .bool false, .bool false], .int .i64 3]) (by simp [results, Try.results24, go_sem]) rfl ⟨rfl, ?_⟩
    exact by repeat' (first | exact Below.refl _ _ | assumption | refine below_alloc ?_ _ | refine Below.drew ?_ | refine below_drewN ?_ _ | refine below_then ?_ (by assumption) | refine Below.setCell ?_ ?_ _ | (simp; done) | (simp; omega) | omega)

theorem count_any (rl n : Int) (h0 : 0 ≤ rl) (h1 : rl ≤ 65535) (n0 : 0 ≤ n) (n1 : n ≤ 20000) (b : Nat) (w : World) (c0 : w.cell? ⟨b, 0, none⟩ = some (.int .u16 rl)) :
    Calls Try.prog 50 #[.int .i64 n, .pointer (some ⟨b, 0, none⟩)] w fun e w' => e = .returned (.int .u16 (rl - n % (rl + 1))) ∧ Drew w w' := by
  have hm1 := Int.emod_nonneg n (show rl + 1 ≠ 0 by omega)
  have hm2 := Int.emod_lt_of_pos n (show 0 < rl + 1 by omega)
  have e1 : IntKind.u16.wrap (n % (rl + 1)) = n % (rl + 1) := by rw [wrap16]; omega
  go_enter Try.func50, Try.ntmps50
  go_wp2
  go_quiet (fail)
  go_wp2
  go_ret
  exact ⟨rfl, (Drew.refl _).drewN _⟩

theorem run_ok (t : Tim) (ht : t.Ok) (n : Int) (n0 : 0 ≤ n) (n1 : n ≤ 20000) (w : World) :
    Calls Try.prog 24 #[.agg #[.int .u16 t.rl, .int .u16 t.ct, .bool t.on, .bool t.rg], .int .i64 n] w fun e w' => e = .returned (.tuple #[.agg #[.int .u16 (runTm t n).rl, .int .u16 (runTm t n).ct, .bool (runTm t n).on, .bool (runTm t n).rg], .int .i64 0]) ∧ Below w.heap.size w w' := by
  obtain ⟨⟨hr0, hr1⟩, ⟨hc0, hc1⟩⟩ := id ht
  obtain ⟨rl, ct, on, rg⟩ := t
  simp only at hr0 hr1 hc0 hc1
  clear ht
  unfold runTm
  cases on
  · simp only [Bool.false_eq_true, if_false]
    go_enter Try.func24, Try.ntmps24
    go_wp2
    refine bodyPost_ret (v := .tuple #[.agg #[.int .u16 rl, .int .u16 ct, .bool false, .bool rg], .int .i64 0]) (by simp [results, Try.results24, go_sem]) rfl ⟨rfl, ?_⟩
    exact by repeat' (first | exact Below.refl _ _ | assumption | refine below_alloc ?_ _ | refine Below.drew ?_ | refine below_drewN ?_ _ | refine below_then ?_ (by assumption) | refine Below.setCell ?_ ?_ _ | (simp; done) | (simp; omega) | omega)
  · by_cases h : n ≤ ct
    · simp only [if_true, if_pos h]
      have e1 : IntKind.u16.wrap n = n := by rw [wrap16]; omega
      go_enter Try.func24, Try.ntmps24
      go_wp2
      refine bodyPost_ret (v := .tuple #[.agg #[.int .u16 rl, .int .u16 (ct - n), .bool true, .bool rg], .int .i64 0]) (by simp [results, Try.results24, go_sem]) rfl ⟨rfl, ?_⟩
      exact by repeat' (first | exact Below.refl _ _ | assumption | refine below_alloc ?_ _ | refine Below.drew ?_ | refine below_drewN ?_ _ | refine below_then ?_ (by assumption) | refine Below.setCell ?_ ?_ _ | (simp; done) | (simp; omega) | omega)
    · simp only [if_true, if_neg h]
      have h' : ct < n := by omega
      have hc := fun b w => count_any rl (n - ct - 1) hr0 hr1 (by omega) (by omega) b w
      generalize rl - (n - ct - 1) % (rl + 1) = x at *
      have HC := Lib.hid hc
      clear hc
      go_enter Try.func24, Try.ntmps24
      go_wp2_with fail
      refine (HC.out _ _ (by go_simp)).mono ?_
      rintro e w1 ⟨rfl, hd⟩
      obtain ⟨d, rfl⟩ := hd
      go_wp2
      refine bodyPost_ret (v := .tuple #[.agg #[.int .u16 rl, .int .u16 x, .bool true, .bool true], .int .i64 0]) (by simp [results, Try.results24, go_sem]) rfl ⟨rfl, ?_⟩
      exact by repeat' (first | exact Below.refl _ _ | assumption | refine below_alloc ?_ _ | refine Below.drew ?_ | refine below_drewN ?_ _ | refine below_then ?_ (by assumption) | refine Below.setCell ?_ ?_ _ | (simp; done) | (simp; omega) | omega)

theorem timed_any (w : World) :
    Calls Try.prog 23 #[] w fun e w' => e = .returned (.bool true) ∧ Below w.heap.size w w' := by
  have h1 := set_any ⟨2, 0, false, false⟩ ⟨⟨by simp, by simp⟩, ⟨by simp, by simp⟩⟩ true
  have h2 := run_ok ⟨2, 2, true, false⟩ ⟨⟨by simp, by simp⟩, ⟨by simp, by simp⟩⟩ 3 (by omega) (by omega)
  have h3 := next_any ⟨2, 2, true, true⟩ ⟨⟨by simp, by simp⟩, ⟨by simp, by simp⟩⟩
  simp [setTm] at h1
  simp [runTm] at h2
  simp [nextTm] at h3
  have H1 := Lib.hid h1
  have H2 := Lib.hid h2
  have H3 := Lib.hid h3
  clear h1 h2 h3
  go_enter Try.func23, Try.ntmps23
  go_wp2_with fail
  refine (H1.out _).mono ?_
  rintro e w1 ⟨rfl, hb1⟩
  go_wp2_with fail
  refine (H2.out _).mono ?_
  rintro e w2 ⟨rfl, hb2⟩
  go_wp2_with fail
  refine (H3.out _).mono ?_
  rintro e w3 ⟨rfl, hb3⟩
  go_wp2
  go_ret
  exact ⟨rfl, by repeat' (first | exact Below.refl _ _ | assumption | refine below_alloc ?_ _ | refine Below.drew ?_ | refine below_drewN ?_ _ | refine below_then ?_ (by assumption) | refine Below.setCell ?_ ?_ _ | (simp; done) | (simp; omega) | omega)⟩

end Go.Proofs.Ytegilgnpkcjhpaa
