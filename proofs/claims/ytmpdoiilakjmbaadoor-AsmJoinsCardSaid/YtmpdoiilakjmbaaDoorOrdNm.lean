/- The program names an order, and tells its clocks. Conditions: none. -/
import Derived.Test.YtmpdoiilakjmbaaDoorRows
import Derived.Test.YtmpdoiilakjmbaaDoorOrderIdx
namespace Go.Proofs.YtmpdoiilakjmbaaDoor
open Go.RowKit Go.Mq
set_option linter.unusedVariables false
set_option linter.unusedSimpArgs false
set_option maxHeartbeats 1000000
set_option maxRecDepth 100000
theorem name_no (op : Int) (h : op < 0 ∨ 31 < op ∨ op = 30) (w : World) : Calls Tryd.prog 13 #[.int .i64 op] w fun e w' => e = .returned (.tuple #[.string ⟨#[]⟩, .int .i64 5]) ∧ Below w.heap.size w w' := by
  rcases h with h | h | h
  · have q1 : decide (op < 0) = true := by simpa using h
    clear h
    go_enter Tryd.func13, Tryd.ntmps13
    go_wp2
    refine bodyPost_ret (v := .tuple #[.string ⟨#[]⟩, .int .i64 5]) (by simp [results, Tryd.results13, go_sem]) rfl ⟨rfl, ?_⟩
    exact by repeat' (first | (with_reducible first | exact Below.refl _ _ | assumption | refine below_alloc ?_ _ | refine Below.drew ?_ | refine Go.Mq.below_drewN ?_ _ | refine below_then ?_ (by assumption) | refine below_put ?_ (by assumption) (by first | (simp; done) | (simp; omega) | omega) | refine Below.setCell ?_ ?_ _) | (simp; done) | (simp; omega) | omega)
  · have q1 : decide (op < 0) = false := by simp; omega
    have q2 : decide (31 < op) = true := by simpa using h
    clear h
    go_enter Tryd.func13, Tryd.ntmps13
    go_wp2
    refine bodyPost_ret (v := .tuple #[.string ⟨#[]⟩, .int .i64 5]) (by simp [results, Tryd.results13, go_sem]) rfl ⟨rfl, ?_⟩
    exact by repeat' (first | (with_reducible first | exact Below.refl _ _ | assumption | refine below_alloc ?_ _ | refine Below.drew ?_ | refine Go.Mq.below_drewN ?_ _ | refine below_then ?_ (by assumption) | refine below_put ?_ (by assumption) (by first | (simp; done) | (simp; omega) | omega) | refine Below.setCell ?_ ?_ _) | (simp; done) | (simp; omega) | omega)
  · subst h
    go_enter Tryd.func13, Tryd.ntmps13
    go_wp2
    refine bodyPost_ret (v := .tuple #[.string ⟨#[]⟩, .int .i64 5]) (by simp [results, Tryd.results13, go_sem]) rfl ⟨rfl, ?_⟩
    exact by repeat' (first | (with_reducible first | exact Below.refl _ _ | assumption | refine below_alloc ?_ _ | refine Below.drew ?_ | refine Go.Mq.below_drewN ?_ _ | refine below_then ?_ (by assumption) | refine below_put ?_ (by assumption) (by first | (simp; done) | (simp; omega) | omega) | refine Below.setCell ?_ ?_ _) | (simp; done) | (simp; omega) | omega)
theorem name_yes (op : Int) (h0 : 0 ≤ op) (h1 : op < 32) (h3 : op ≠ 30) (w : World) : Calls Tryd.prog 13 #[.int .i64 op] w fun e w' => e = .returned (.tuple #[.string (namO op), .int .i64 0]) ∧ Below w.heap.size w w' := by
  have hx := idx_any op h0 h1
  have A := Lib.hid shapes_any
  have fd : ∀ w, (Instr.field 81 (.agg #[.bool (hasD op), .bool (hasS op), .bool (hasN op), .bool (hasW op), .int .i64 (cycO op), .string (namO op)]) 5).run Tryd.prog w = .ok (.string (namO op)) w := fun w => by kernel_rfl
  have q1 : decide (op < 0) = false := by simp; omega
  have q2 : decide (31 < op) = false := by simp; omega
  have q3 : (op == 30) = false := by simpa using h3
  generalize hasD op = d at *
  generalize hasS op = s at *
  generalize hasN op = n at *
  generalize hasW op = x at *
  generalize cycO op = c at *
  generalize shC = G at *
  obtain ⟨m, hm⟩ : ∃ m, m = namO op := ⟨_, rfl⟩
  rw [← hm] at hx fd ⊢
  clear hm h0 h1 h3
  go_enter Tryd.func13, Tryd.ntmps13
  go_wp2_with fail
  refine (A.out _).mono ?_
  rintro e w1 ⟨rfl, hb1⟩
  go_wp2
  refine bodyPost_ret (v := .tuple #[.string m, .int .i64 0]) (by simp [results, Tryd.results13, go_sem]) rfl ⟨rfl, ?_⟩
  exact by repeat' (first | (with_reducible first | exact Below.refl _ _ | assumption | refine below_alloc ?_ _ | refine Below.drew ?_ | refine Go.Mq.below_drewN ?_ _ | refine below_then ?_ (by assumption) | refine below_put ?_ (by assumption) (by first | (simp; done) | (simp; omega) | omega) | refine Below.setCell ?_ ?_ _) | (simp; done) | (simp; omega) | omega)
theorem cyc_no (op : Int) (h : op < 0 ∨ 31 < op ∨ op = 30) (w : World) : Calls Tryd.prog 14 #[.int .i64 op] w fun e w' => e = .returned (.tuple #[.int .i64 0, .int .i64 0, .int .i64 5]) ∧ Below w.heap.size w w' := by
  rcases h with h | h | h
  · have q1 : decide (op < 0) = true := by simpa using h
    clear h
    go_enter Tryd.func14, Tryd.ntmps14
    go_wp2
    refine bodyPost_ret (v := .tuple #[.int .i64 0, .int .i64 0, .int .i64 5]) (by simp [results, Tryd.results14, go_sem]) rfl ⟨rfl, ?_⟩
    exact by repeat' (first | (with_reducible first | exact Below.refl _ _ | assumption | refine below_alloc ?_ _ | refine Below.drew ?_ | refine Go.Mq.below_drewN ?_ _ | refine below_then ?_ (by assumption) | refine below_put ?_ (by assumption) (by first | (simp; done) | (simp; omega) | omega) | refine Below.setCell ?_ ?_ _) | (simp; done) | (simp; omega) | omega)
  · have q1 : decide (op < 0) = false := by simp; omega
    have q2 : decide (31 < op) = true := by simpa using h
    clear h
    go_enter Tryd.func14, Tryd.ntmps14
    go_wp2
    refine bodyPost_ret (v := .tuple #[.int .i64 0, .int .i64 0, .int .i64 5]) (by simp [results, Tryd.results14, go_sem]) rfl ⟨rfl, ?_⟩
    exact by repeat' (first | (with_reducible first | exact Below.refl _ _ | assumption | refine below_alloc ?_ _ | refine Below.drew ?_ | refine Go.Mq.below_drewN ?_ _ | refine below_then ?_ (by assumption) | refine below_put ?_ (by assumption) (by first | (simp; done) | (simp; omega) | omega) | refine Below.setCell ?_ ?_ _) | (simp; done) | (simp; omega) | omega)
  · subst h
    go_enter Tryd.func14, Tryd.ntmps14
    go_wp2
    refine bodyPost_ret (v := .tuple #[.int .i64 0, .int .i64 0, .int .i64 5]) (by simp [results, Tryd.results14, go_sem]) rfl ⟨rfl, ?_⟩
    exact by repeat' (first | (with_reducible first | exact Below.refl _ _ | assumption | refine below_alloc ?_ _ | refine Below.drew ?_ | refine Go.Mq.below_drewN ?_ _ | refine below_then ?_ (by assumption) | refine below_put ?_ (by assumption) (by first | (simp; done) | (simp; omega) | omega) | refine Below.setCell ?_ ?_ _) | (simp; done) | (simp; omega) | omega)
theorem cyc_yes (op : Int) (h0 : 0 ≤ op) (h1 : op < 32) (h3 : op ≠ 30) (w : World) : Calls Tryd.prog 14 #[.int .i64 op] w fun e w' => e = .returned (.tuple #[.int .i64 (cycO op), .int .i64 (if hasW op then 2 else 1), .int .i64 0]) ∧ Below w.heap.size w w' := by
  have hx := idx_any op h0 h1
  have A := Lib.hid shapes_any
  have q1 : decide (op < 0) = false := by simp; omega
  have q2 : decide (31 < op) = false := by simp; omega
  have q3 : (op == 30) = false := by simpa using h3
  generalize namO op = m at *
  generalize hasD op = d at *
  generalize hasS op = s at *
  generalize hasN op = n at *
  generalize shC = G at *
  obtain ⟨x, hx1⟩ : ∃ m, m = hasW op := ⟨_, rfl⟩
  obtain ⟨c, hc1⟩ : ∃ m, m = cycO op := ⟨_, rfl⟩
  rw [← hx1, ← hc1] at hx ⊢
  clear hx1 hc1 h0 h1 h3
  cases x
  all_goals (
    go_enter Tryd.func14, Tryd.ntmps14
    go_wp2_with fail
    refine (A.out _).mono ?_
    rintro e w1 ⟨rfl, hb1⟩
    go_wp2)
  · refine bodyPost_ret (v := .tuple #[.int .i64 c, .int .i64 1, .int .i64 0]) (by simp [results, Tryd.results14, go_sem]) rfl ⟨rfl, ?_⟩
    exact by repeat' (first | (with_reducible first | exact Below.refl _ _ | assumption | refine below_alloc ?_ _ | refine Below.drew ?_ | refine Go.Mq.below_drewN ?_ _ | refine below_then ?_ (by assumption) | refine below_put ?_ (by assumption) (by first | (simp; done) | (simp; omega) | omega) | refine Below.setCell ?_ ?_ _) | (simp; done) | (simp; omega) | omega)
  · refine bodyPost_ret (v := .tuple #[.int .i64 c, .int .i64 2, .int .i64 0]) (by simp [results, Tryd.results14, go_sem]) rfl ⟨rfl, ?_⟩
    exact by repeat' (first | (with_reducible first | exact Below.refl _ _ | assumption | refine below_alloc ?_ _ | refine Below.drew ?_ | refine Go.Mq.below_drewN ?_ _ | refine below_then ?_ (by assumption) | refine below_put ?_ (by assumption) (by first | (simp; done) | (simp; omega) | omega) | refine Below.setCell ?_ ?_ _) | (simp; done) | (simp; omega) | omega)
end Go.Proofs.YtmpdoiilakjmbaaDoor
