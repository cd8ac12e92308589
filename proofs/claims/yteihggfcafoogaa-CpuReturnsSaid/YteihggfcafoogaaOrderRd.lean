/- The program's orders: read, and how many cycles they take. Conditions: the words are words, the order is one. -/
import Derived.Test.YteihggfcafoogaaRows
import Derived.Test.YteihggfcafoogaaOrderRA
import Derived.Test.YteihggfcafoogaaOrderRB
namespace Go.Proofs.Yteihggfcafoogaa
open Go.RowKit Go.Mq
set_option linter.unusedVariables false
set_option linter.unusedSimpArgs false
set_option maxHeartbeats 1000000
set_option maxRecDepth 100000
@[ext] structure Od where
  op : Int
  d : Int
  s : Int
  n : Int
  w : Int
def readO (a b : Int) : Od := ⟨if a / 2048 = 30 then 31 else a / 2048, if hasD (a / 2048) then a / 256 % 8 else 0, if hasS (a / 2048) then a / 32 % 8 else 0,
  if hasN (a / 2048) then (if a / 2048 = 12 ∨ a / 2048 = 13 then a % 32 % 16 else if 15 < a % 32 then a % 32 - 32 else a % 32) else 0, if hasW (a / 2048) then b else 0⟩
def readL (a : Int) : Int := if hasW (a / 2048) then 2 else 1

theorem read_no (a b : Int) (ha : U16 a) (hb : U16 b) (w : World) (hop : a / 2048 = 30) : Calls Try.prog 13 #[.int .u16 a, .int .u16 b] w fun e w' => e = .returned (.tuple #[.agg #[.int .i64 31, .int .i64 0, .int .i64 0, .int .i64 0, .int .i64 0], .int .i64 1]) ∧ Below w.heap.size w w' := by
  go_enter Try.func13, Try.ntmps13
  go_wp2
  refine bodyPost_ret (v := .tuple #[.agg #[.int .i64 31, .int .i64 0, .int .i64 0, .int .i64 0, .int .i64 0], .int .i64 1]) (by simp [results, Try.results13, go_sem]) rfl ⟨rfl, ?_⟩
  exact by repeat' (first | (with_reducible first | exact Below.refl _ _ | assumption | refine below_alloc ?_ _ | refine Below.drew ?_ | refine below_drewN ?_ _ | refine below_then ?_ (by assumption) | refine below_put ?_ (by assumption) (by first | (simp; done) | (simp; omega) | omega) | refine Below.setCell ?_ ?_ _) | (simp; done) | (simp; omega) | omega)
theorem read_any (a b : Int) (ha : U16 a) (hb : U16 b) (w : World) :
    Calls Try.prog 13 #[.int .u16 a, .int .u16 b] w fun e w' => e = .returned (.tuple #[.agg #[.int .i64 (readO a b).op, .int .i64 (readO a b).d, .int .i64 (readO a b).s, .int .i64 (readO a b).n, .int .i64 (readO a b).w], .int .i64 (readL a)]) ∧ Below w.heap.size w w' := by
  have h0 : 0 ≤ a / 2048 := by unfold U16 at ha; omega
  have h1 : a / 2048 < 32 := by unfold U16 at ha; omega
  by_cases h30 : a / 2048 = 30
  · have := read_no a b ha hb w h30
    unfold readO readL
    rw [h30]
    exact this
  · have hi := idx_any (a / 2048) h0 h1
    simp only [readO, readL, if_neg h30]
    rcases pat (a / 2048) h0 h1 h30 with ⟨e1, e2, e3, e4⟩ | ⟨e1, e2, e3, e4⟩ | ⟨e1, e2, e3, e4⟩ | ⟨e1, e2, e3, e4⟩ | ⟨e1, e2, e3, e4⟩ | ⟨e1, e2, e3, e4⟩ | ⟨e1, e2, e3, e4, e5, e6⟩ | ⟨e1, e2, e3, e4, e5⟩
    all_goals rw [e1, e2, e3, e4] at hi ⊢
    · exact r0000 a b ha hb w h30 _ _ hi
    · exact r1100 a b ha hb w h30 _ _ hi
    · exact r1001 a b ha hb w h30 _ _ hi
    · exact r0001 a b ha hb w h30 _ _ hi
    · exact r0100 a b ha hb w h30 _ _ hi
    · exact r1000 a b ha hb w h30 _ _ hi
    · by_cases g : 15 < a % 32
      · have := r1110hi a b ha hb w h30 e5 e6 g _ _ hi
        simpa [e5, e6, g] using this
      · have := r1110lo a b ha hb w h30 e5 e6 g _ _ hi
        simpa [e5, e6, g] using this
    · by_cases g12 : a / 2048 = 12
      · have := r1010x a b ha hb w h30 g12 _ _ hi
        simpa [g12] using this
      · by_cases g13 : a / 2048 = 13
        · have := r1010y a b ha hb w h30 g12 g13 _ _ hi
          simpa [g13] using this
        · by_cases g : 15 < a % 32
          · have := r1010hi a b ha hb w h30 g12 g13 g _ _ hi
            simpa [g12, g13, g] using this
          · have := r1010lo a b ha hb w h30 g12 g13 g _ _ hi
            simpa [g12, g13, g] using this
def wordsN (op : Int) : Int := if hasW op then 2 else 1
theorem cycles_any (op : Int) (h0 : 0 ≤ op) (h1 : op < 32) (h30 : op ≠ 30) (w : World) :
    Calls Try.prog 24 #[.int .i64 op] w fun e w' => e = .returned (.tuple #[.int .i64 (cycO op), .int .i64 (wordsN op), .int .i64 0]) ∧ Below w.heap.size w w' := by
  have SH := Lib.hid shapes_any
  have IX := idx_any op h0 h1
  have t30 : (op == 30) = false := beq_eq_false_iff_ne.2 h30
  unfold wordsN
  by_cases hw : hasW op = true
  · rw [hw] at IX ⊢
    generalize cycO op = cy at *
    generalize namO op = na at *
    generalize hasD op = q1 at *
    generalize hasS op = q2 at *
    generalize hasN op = q3 at *
    go_enter Try.func24, Try.ntmps24
    go_wp2_with fail
    refine (SH.out _).mono ?_
    rintro e w1 ⟨rfl, hb1⟩
    have hs1 := hb1.size
    go_wp2
    go_ret3
    exact ⟨rfl, by repeat' (first | (with_reducible first | exact Below.refl _ _ | assumption | refine below_alloc ?_ _ | refine Below.drew ?_ | refine below_drewN ?_ _ | refine below_then ?_ (by assumption) | refine below_put ?_ (by assumption) (by first | (simp; done) | (simp; omega) | omega) | refine Below.setCell ?_ ?_ _) | (simp; done) | (simp; omega) | omega)⟩
  · have hw' : hasW op = false := by simpa using hw
    rw [hw'] at IX ⊢
    generalize cycO op = cy at *
    generalize namO op = na at *
    generalize hasD op = q1 at *
    generalize hasS op = q2 at *
    generalize hasN op = q3 at *
    go_enter Try.func24, Try.ntmps24
    go_wp2_with fail
    refine (SH.out _).mono ?_
    rintro e w1 ⟨rfl, hb1⟩
    have hs1 := hb1.size
    go_wp2
    go_ret3
    exact ⟨rfl, by repeat' (first | (with_reducible first | exact Below.refl _ _ | assumption | refine below_alloc ?_ _ | refine Below.drew ?_ | refine below_drewN ?_ _ | refine below_then ?_ (by assumption) | refine below_put ?_ (by assumption) (by first | (simp; done) | (simp; omega) | omega) | refine Below.setCell ?_ ?_ _) | (simp; done) | (simp; omega) | omega)⟩
end Go.Proofs.Yteihggfcafoogaa
