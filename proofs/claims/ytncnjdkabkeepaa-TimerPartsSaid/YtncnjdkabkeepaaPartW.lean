/- What the program's pad, and the document's, compute. Conditions: the pad's bytes are bytes. -/
import Derived.Test.YtncnjdkabkeepaaRows
import Derived.Test.YtncnjdkabkeepaaPartP
namespace Go.Proofs.Ytncnjdkabkeepaa
open Go.RowKit Go.Mq
set_option linter.unusedVariables false
set_option linter.unusedSimpArgs false

end Go.Proofs.Ytncnjdkabkeepaa

/- What the program's timer, and the document's, compute. Conditions: the timer's words are words. -/
namespace Go.Proofs.Ytncnjdkabkeepaa
open Go.RowKit Go.Mq

theorem tmset_any (t : Tim) (ht : t.Ok) (b : Bool) (w : World) :
    Calls Try.prog 7 #[.agg #[.int .u16 t.rl, .int .u16 t.ct, .bool t.on, .bool t.rg], .bool b] w fun e w' => e = .returned (.agg #[.int .u16 (setTm t b).rl, .int .u16 (setTm t b).ct, .bool (setTm t b).on, .bool (setTm t b).rg]) ∧ Below w.heap.size w w' := by
  obtain ⟨⟨hr0, hr1⟩, ⟨hc0, hc1⟩⟩ := id ht
  obtain ⟨rl, ct, on, rg⟩ := t
  simp only at hr0 hr1 hc0 hc1
  clear ht
  unfold setTm
  cases b
  · simp only [Bool.false_eq_true, if_false]
    go_enter Try.func7, Try.ntmps7
    go_wp2
    refine bodyPost_ret (v := .agg #[.int .u16 rl, .int .u16 ct, .bool false, .bool rg]) (by simp [results, Try.results7, go_sem]) rfl ⟨rfl, ?_⟩
    exact by repeat' (first | (with_reducible first | exact Below.refl _ _ | assumption | refine below_alloc ?_ _ | refine Below.drew ?_ | refine Go.Mq.below_drewN ?_ _ | refine below_then ?_ (by assumption) | refine below_put ?_ (by assumption) (by first | (simp; done) | (simp; omega) | omega) | refine Below.setCell ?_ ?_ _) | (simp; done) | (simp; omega) | omega)
  · simp only [if_true]
    go_enter Try.func7, Try.ntmps7
    go_wp2
    refine bodyPost_ret (v := .agg #[.int .u16 rl, .int .u16 rl, .bool true, .bool rg]) (by simp [results, Try.results7, go_sem]) rfl ⟨rfl, ?_⟩
    exact by repeat' (first | (with_reducible first | exact Below.refl _ _ | assumption | refine below_alloc ?_ _ | refine Below.drew ?_ | refine Go.Mq.below_drewN ?_ _ | refine below_then ?_ (by assumption) | refine below_put ?_ (by assumption) (by first | (simp; done) | (simp; omega) | omega) | refine Below.setCell ?_ ?_ _) | (simp; done) | (simp; omega) | omega)

theorem tmnext_any (t : Tim) (ht : t.Ok) (w : World) :
    Calls Try.prog 6 #[.agg #[.int .u16 t.rl, .int .u16 t.ct, .bool t.on, .bool t.rg]] w fun e w' => e = .returned (.int .i64 (nextTm t)) ∧ Below w.heap.size w w' := by
  obtain ⟨⟨hr0, hr1⟩, ⟨hc0, hc1⟩⟩ := id ht
  obtain ⟨rl, ct, on, rg⟩ := t
  simp only at hr0 hr1 hc0 hc1
  clear ht
  unfold nextTm
  cases on
  · go_enter Try.func6, Try.ntmps6
    go_wp2
    go_ret
    exact ⟨rfl, by repeat' (first | (with_reducible first | exact Below.refl _ _ | assumption | refine below_alloc ?_ _ | refine Below.drew ?_ | refine Go.Mq.below_drewN ?_ _ | refine below_then ?_ (by assumption) | refine below_put ?_ (by assumption) (by first | (simp; done) | (simp; omega) | omega) | refine Below.setCell ?_ ?_ _) | (simp; done) | (simp; omega) | omega)⟩
  · go_enter Try.func6, Try.ntmps6
    go_wp2
    go_ret
    exact ⟨rfl, by repeat' (first | (with_reducible first | exact Below.refl _ _ | assumption | refine below_alloc ?_ _ | refine Below.drew ?_ | refine Go.Mq.below_drewN ?_ _ | refine below_then ?_ (by assumption) | refine below_put ?_ (by assumption) (by first | (simp; done) | (simp; omega) | omega) | refine Below.setCell ?_ ?_ _) | (simp; done) | (simp; omega) | omega)⟩

theorem tmrun_bad (t : Tim) (n : Int) (h : n < 0 ∨ 20000 < n) (w : World) :
    Calls Try.prog 5 #[.agg #[.int .u16 t.rl, .int .u16 t.ct, .bool t.on, .bool t.rg], .int .i64 n] w fun e w' => e = .returned (.tuple #[.agg #[.int .u16 0, .int .u16 0, .bool false, .bool false], .int .i64 3]) ∧ Below w.heap.size w w' := by
  rcases h with h | h
  · go_enter Try.func5, Try.ntmps5
    go_wp2
    refine bodyPost_ret (v := .tuple #[.agg #[.int .u16 0, .int .u16 0, .bool false, .bool false], .int .i64 3]) (by simp [results, Try.results5, go_sem]) rfl ⟨rfl, ?_⟩
    exact by repeat' (first | (with_reducible first | exact Below.refl _ _ | assumption | refine below_alloc ?_ _ | refine Below.drew ?_ | refine Go.Mq.below_drewN ?_ _ | refine below_then ?_ (by assumption) | refine below_put ?_ (by assumption) (by first | (simp; done) | (simp; omega) | omega) | refine Below.setCell ?_ ?_ _) | (simp; done) | (simp; omega) | omega)
  · have h' : ¬ n < 0 := by omega
    go_enter Try.func5, Try.ntmps5
    go_wp2
    refine bodyPost_ret (v := .tuple #[.agg #[.int .u16 0, .int .u16 0, .bool false, .bool false], .int .i64 3]) (by simp [results, Try.results5, go_sem]) rfl ⟨rfl, ?_⟩
    exact by repeat' (first | (with_reducible first | exact Below.refl _ _ | assumption | refine below_alloc ?_ _ | refine Below.drew ?_ | refine Go.Mq.below_drewN ?_ _ | refine below_then ?_ (by assumption) | refine below_put ?_ (by assumption) (by first | (simp; done) | (simp; omega) | omega) | refine Below.setCell ?_ ?_ _) | (simp; done) | (simp; omega) | omega)

theorem count_any (rl n : Int) (h0 : 0 ≤ rl) (h1 : rl ≤ 65535) (n0 : 0 ≤ n) (n1 : n ≤ 20000) (b : Nat) (w : World) (c0 : w.cell? ⟨b, 0, none⟩ = some (.int .u16 rl)) :
    Calls Try.prog 8 #[.int .i64 n, .pointer (some ⟨b, 0, none⟩)] w fun e w' => e = .returned (.int .u16 (rl - n % (rl + 1))) ∧ Drew w w' := by
  have hm1 := Int.emod_nonneg n (show rl + 1 ≠ 0 by omega)
  have hm2 := Int.emod_lt_of_pos n (show 0 < rl + 1 by omega)
  have e1 : IntKind.u16.wrap (n % (rl + 1)) = n % (rl + 1) := by rw [wrap16]; omega
  go_enter Try.func8, Try.ntmps8
  go_wp2
  go_quiet (fail)
  go_wp2
  go_ret
  exact ⟨rfl, (Drew.refl _).drewN _⟩

theorem tmrun_ok (t : Tim) (ht : t.Ok) (n : Int) (n0 : 0 ≤ n) (n1 : n ≤ 20000) (w : World) :
    Calls Try.prog 5 #[.agg #[.int .u16 t.rl, .int .u16 t.ct, .bool t.on, .bool t.rg], .int .i64 n] w fun e w' => e = .returned (.tuple #[.agg #[.int .u16 (runTm t n).rl, .int .u16 (runTm t n).ct, .bool (runTm t n).on, .bool (runTm t n).rg], .int .i64 0]) ∧ Below w.heap.size w w' := by
  obtain ⟨⟨hr0, hr1⟩, ⟨hc0, hc1⟩⟩ := id ht
  obtain ⟨rl, ct, on, rg⟩ := t
  simp only at hr0 hr1 hc0 hc1
  clear ht
  unfold runTm
  cases on
  · simp only [Bool.false_eq_true, if_false]
    go_enter Try.func5, Try.ntmps5
    go_wp2
    refine bodyPost_ret (v := .tuple #[.agg #[.int .u16 rl, .int .u16 ct, .bool false, .bool rg], .int .i64 0]) (by simp [results, Try.results5, go_sem]) rfl ⟨rfl, ?_⟩
    exact by repeat' (first | (with_reducible first | exact Below.refl _ _ | assumption | refine below_alloc ?_ _ | refine Below.drew ?_ | refine Go.Mq.below_drewN ?_ _ | refine below_then ?_ (by assumption) | refine below_put ?_ (by assumption) (by first | (simp; done) | (simp; omega) | omega) | refine Below.setCell ?_ ?_ _) | (simp; done) | (simp; omega) | omega)
  · by_cases h : n ≤ ct
    · simp only [if_true, if_pos h]
      have e1 : IntKind.u16.wrap n = n := by rw [wrap16]; omega
      go_enter Try.func5, Try.ntmps5
      go_wp2
      refine bodyPost_ret (v := .tuple #[.agg #[.int .u16 rl, .int .u16 (ct - n), .bool true, .bool rg], .int .i64 0]) (by simp [results, Try.results5, go_sem]) rfl ⟨rfl, ?_⟩
      exact by repeat' (first | (with_reducible first | exact Below.refl _ _ | assumption | refine below_alloc ?_ _ | refine Below.drew ?_ | refine Go.Mq.below_drewN ?_ _ | refine below_then ?_ (by assumption) | refine below_put ?_ (by assumption) (by first | (simp; done) | (simp; omega) | omega) | refine Below.setCell ?_ ?_ _) | (simp; done) | (simp; omega) | omega)
    · simp only [if_true, if_neg h]
      have h' : ct < n := by omega
      have hc := fun b w => count_any rl (n - ct - 1) hr0 hr1 (by omega) (by omega) b w
      generalize rl - (n - ct - 1) % (rl + 1) = x at *
      have HC := Lib.hid hc
      clear hc
      go_enter Try.func5, Try.ntmps5
      go_wp2_with fail
      refine (HC.out _ _ (by go_simp)).mono ?_
      rintro e w1 ⟨rfl, hd⟩
      obtain ⟨d, rfl⟩ := hd
      go_wp2
      refine bodyPost_ret (v := .tuple #[.agg #[.int .u16 rl, .int .u16 x, .bool true, .bool true], .int .i64 0]) (by simp [results, Try.results5, go_sem]) rfl ⟨rfl, ?_⟩
      exact by repeat' (first | (with_reducible first | exact Below.refl _ _ | assumption | refine below_alloc ?_ _ | refine Below.drew ?_ | refine Go.Mq.below_drewN ?_ _ | refine below_then ?_ (by assumption) | refine below_put ?_ (by assumption) (by first | (simp; done) | (simp; omega) | omega) | refine Below.setCell ?_ ?_ _) | (simp; done) | (simp; omega) | omega)

theorem timed_any (w : World) :
    Calls Try.prog 4 #[] w fun e w' => e = .returned (.bool true) ∧ Below w.heap.size w w' := by
  have h1 := tmset_any ⟨2, 0, false, false⟩ ⟨⟨by simp, by simp⟩, ⟨by simp, by simp⟩⟩ true
  have h2 := tmrun_ok ⟨2, 2, true, false⟩ ⟨⟨by simp, by simp⟩, ⟨by simp, by simp⟩⟩ 3 (by omega) (by omega)
  have h3 := tmnext_any ⟨2, 2, true, true⟩ ⟨⟨by simp, by simp⟩, ⟨by simp, by simp⟩⟩
  simp [setTm] at h1
  simp [runTm] at h2
  simp [nextTm] at h3
  have H1 := Lib.hid h1
  have H2 := Lib.hid h2
  have H3 := Lib.hid h3
  clear h1 h2 h3
  go_enter Try.func4, Try.ntmps4
  go_wp2_with fail
  refine (H1.out _).mono ?_
  rintro e w1 ⟨rfl, hb1⟩
  go_wp2_with fail
  refine (H2.out _).mono ?_
  rintro e w2 ⟨rfl, hb2⟩
  go_wp2_with fail
  refine (H3.out _).mono ?_
  rintro e w3 ⟨rfl, hb3⟩
  go_wp2
  go_ret
  exact ⟨rfl, by repeat' (first | (with_reducible first | exact Below.refl _ _ | assumption | refine below_alloc ?_ _ | refine Below.drew ?_ | refine Go.Mq.below_drewN ?_ _ | refine below_then ?_ (by assumption) | refine below_put ?_ (by assumption) (by first | (simp; done) | (simp; omega) | omega) | refine Below.setCell ?_ ?_ _) | (simp; done) | (simp; omega) | omega)⟩

end Go.Proofs.Ytncnjdkabkeepaa

/- What the program's beam, and the document's, compute. Conditions: the fields are ints. -/
namespace Go.Proofs.Ytncnjdkabkeepaa
open Go.RowKit Go.Mq
set_option linter.unusedVariables false
set_option linter.unusedSimpArgs false
set_option maxHeartbeats 2000000

/-- which test says no first -/
def BadAt (ln pt fr : Int) (k : Nat) : Prop :=
  match k with
  | 0 => ln < 0
  | 1 => 0 ≤ ln ∧ 10 ≤ ln
  | 2 => 0 ≤ ln ∧ ln < 10 ∧ pt < 0
  | 3 => 0 ≤ ln ∧ ln < 10 ∧ 0 ≤ pt ∧ 64 ≤ pt
  | 4 => 0 ≤ ln ∧ ln < 10 ∧ 0 ≤ pt ∧ pt < 64 ∧ fr < 0
  | _ => 0 ≤ ln ∧ ln < 10 ∧ 0 ≤ pt ∧ pt < 64 ∧ 0 ≤ fr ∧ 20000 < fr
theorem badAt_of (b : Bm) (h : ¬ b.Ok) : ∃ k, k < 6 ∧ BadAt b.ln b.pt b.fr k := by
  unfold Bm.Ok Bm.In at h
  by_cases h0 : b.ln < 0
  · exact ⟨0, by omega, h0⟩
  by_cases h1 : 10 ≤ b.ln
  · exact ⟨1, by omega, by omega, h1⟩
  by_cases h2 : b.pt < 0
  · exact ⟨2, by omega, by omega, by omega, h2⟩
  by_cases h3 : 64 ≤ b.pt
  · exact ⟨3, by omega, by omega, by omega, by omega, h3⟩
  by_cases h4 : b.fr < 0
  · exact ⟨4, by omega, by omega, by omega, by omega, by omega, h4⟩
  · exact ⟨5, by omega, by omega, by omega, by omega, by omega, by omega, by omega⟩

end Go.Proofs.Ytncnjdkabkeepaa
