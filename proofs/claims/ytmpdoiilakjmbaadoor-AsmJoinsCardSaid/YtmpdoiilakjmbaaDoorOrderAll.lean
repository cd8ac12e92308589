/- The program's orders: checked, read, written as words. Conditions: the parts are ints, the words words. -/
import Derived.Test.YtmpdoiilakjmbaaDoorRows
import Derived.Test.YtmpdoiilakjmbaaDoorOrderRA
import Derived.Test.YtmpdoiilakjmbaaDoorOrderRB
import Derived.Test.YtmpdoiilakjmbaaDoorOrderChk
import Derived.Test.YtmpdoiilakjmbaaDoorOrderWrd
namespace Go.Proofs.YtmpdoiilakjmbaaDoor
open Go.RowKit Go.Mq
set_option linter.unusedVariables false
set_option linter.unusedSimpArgs false
set_option maxHeartbeats 1000000
set_option maxRecDepth 100000
@[ext] structure Od where
  op : Int
  d : Int
  s : Int
  n : Int
  w : Int
def lowO (op : Int) : Int := if op = 12 ∨ op = 13 then 0 else -16
def partsO (o : Od) : Bool := partV (hasD o.op) o.d 0 7 && partV (hasS o.op) o.s 0 7 && partV (hasN o.op) o.n (lowO o.op) 15 && partV (hasW o.op) o.w 0 65535
def checkO (o : Od) : Int := if o.op < 0 ∨ 31 < o.op ∨ o.op = 30 then 5 else if partsO o = true then 0 else 3
def wordO (o : Od) : Int := o.op * 2048 + o.d * 256 + o.s * 32 + o.n % 32
def wordsO (o : Od) : List Int := if hasW o.op then [wordO o, o.w] else [wordO o]
def readO (a b : Int) : Od := ⟨if a / 2048 = 30 then 31 else a / 2048, if hasD (a / 2048) then a / 256 % 8 else 0, if hasS (a / 2048) then a / 32 % 8 else 0,
  if hasN (a / 2048) then (if a / 2048 = 12 ∨ a / 2048 = 13 then a % 32 % 16 else if 15 < a % 32 then a % 32 - 32 else a % 32) else 0, if hasW (a / 2048) then b else 0⟩
def readL (a : Int) : Int := if hasW (a / 2048) then 2 else 1

theorem chk_lo (op D S N V : Int) (h : op < 0) (w : World) :
    Calls Tryd.prog 17 #[.agg #[.int .i64 op, .int .i64 D, .int .i64 S, .int .i64 N, .int .i64 V]] w fun e w' => e = .returned (.int .i64 5) ∧ Below w.heap.size w w' := by
  have h2 : (decide (op < 0) || decide (31 < op) || op == 30) = true := by simp; omega
  go_enter Tryd.func17, Tryd.ntmps17
  go_wp2
  go_ret
  exact ⟨rfl, by repeat' (first | (with_reducible first | exact Below.refl _ _ | assumption | refine below_alloc ?_ _ | refine Below.drew ?_ | refine Go.Mq.below_drewN ?_ _ | refine below_then ?_ (by assumption) | refine below_put ?_ (by assumption) (by first | (simp; done) | (simp; omega) | omega) | refine Below.setCell ?_ ?_ _) | (simp; done) | (simp; omega) | omega)⟩
theorem chk_hi (op D S N V : Int) (h : 31 < op) (w : World) :
    Calls Tryd.prog 17 #[.agg #[.int .i64 op, .int .i64 D, .int .i64 S, .int .i64 N, .int .i64 V]] w fun e w' => e = .returned (.int .i64 5) ∧ Below w.heap.size w w' := by
  have h2 : (decide (op < 0) || decide (31 < op) || op == 30) = true := by simp; omega
  go_enter Tryd.func17, Tryd.ntmps17
  go_wp2
  go_ret
  exact ⟨rfl, by repeat' (first | (with_reducible first | exact Below.refl _ _ | assumption | refine below_alloc ?_ _ | refine Below.drew ?_ | refine Go.Mq.below_drewN ?_ _ | refine below_then ?_ (by assumption) | refine below_put ?_ (by assumption) (by first | (simp; done) | (simp; omega) | omega) | refine Below.setCell ?_ ?_ _) | (simp; done) | (simp; omega) | omega)⟩
theorem chk_no (op D S N V : Int) (h : op = 30) (w : World) :
    Calls Tryd.prog 17 #[.agg #[.int .i64 op, .int .i64 D, .int .i64 S, .int .i64 N, .int .i64 V]] w fun e w' => e = .returned (.int .i64 5) ∧ Below w.heap.size w w' := by
  have h2 : (decide (op < 0) || decide (31 < op) || op == 30) = true := by simp; omega
  go_enter Tryd.func17, Tryd.ntmps17
  go_wp2
  go_ret
  exact ⟨rfl, by repeat' (first | (with_reducible first | exact Below.refl _ _ | assumption | refine below_alloc ?_ _ | refine Below.drew ?_ | refine Go.Mq.below_drewN ?_ _ | refine below_then ?_ (by assumption) | refine below_put ?_ (by assumption) (by first | (simp; done) | (simp; omega) | omega) | refine Below.setCell ?_ ?_ _) | (simp; done) | (simp; omega) | omega)⟩
theorem check_any (op D S N V : Int) (w : World) :
    Calls Tryd.prog 17 #[.agg #[.int .i64 op, .int .i64 D, .int .i64 S, .int .i64 N, .int .i64 V]] w fun e w' => e = .returned (.int .i64 (checkO ⟨op, D, S, N, V⟩)) ∧ Below w.heap.size w w' := by
  unfold checkO partsO lowO
  by_cases h : op < 0 ∨ 31 < op ∨ op = 30
  · rw [if_pos h]
    rcases h with h | h | h
    · exact chk_lo op D S N V h w
    · exact chk_hi op D S N V h w
    · exact chk_no op D S N V h w
  · rw [if_neg h]
    have hi := idx_any op (by omega) (by omega)
    by_cases h12 : op = 12
    · rw [if_pos (Or.inl h12)]
      exact chk_x op D S N V w (by omega) (by omega) (by omega) (by simpa using h12) _ _ _ _ _ _ hi
    · by_cases h13 : op = 13
      · rw [if_pos (Or.inr h13)]
        exact chk_y op D S N V w (by omega) (by omega) (by omega) (by simpa using h12) (by simpa using h13) _ _ _ _ _ _ hi
      · rw [if_neg (show ¬ (op = 12 ∨ op = 13) from fun g => g.elim h12 h13)]
        exact chk_z op D S N V w (by omega) (by omega) (by omega) (by simpa using h12) (by simpa using h13) _ _ _ _ _ _ hi
theorem read_no (a b : Int) (ha : U16 a) (hb : U16 b) (w : World) (hop : a / 2048 = 30) : Calls Tryd.prog 26 #[.int .u16 a, .int .u16 b] w fun e w' => e = .returned (.tuple #[.agg #[.int .i64 31, .int .i64 0, .int .i64 0, .int .i64 0, .int .i64 0], .int .i64 1]) ∧ Below w.heap.size w w' := by
  go_enter Tryd.func26, Tryd.ntmps26
  go_wp2
  refine bodyPost_ret (v := .tuple #[.agg #[.int .i64 31, .int .i64 0, .int .i64 0, .int .i64 0, .int .i64 0], .int .i64 1]) (by simp [results, Tryd.results26, go_sem]) rfl ⟨rfl, ?_⟩
  exact by repeat' (first | (with_reducible first | exact Below.refl _ _ | assumption | refine below_alloc ?_ _ | refine Below.drew ?_ | refine Go.Mq.below_drewN ?_ _ | refine below_then ?_ (by assumption) | refine below_put ?_ (by assumption) (by first | (simp; done) | (simp; omega) | omega) | refine Below.setCell ?_ ?_ _) | (simp; done) | (simp; omega) | omega)
theorem read_any (a b : Int) (ha : U16 a) (hb : U16 b) (w : World) :
    Calls Tryd.prog 26 #[.int .u16 a, .int .u16 b] w fun e w' => e = .returned (.tuple #[.agg #[.int .i64 (readO a b).op, .int .i64 (readO a b).d, .int .i64 (readO a b).s, .int .i64 (readO a b).n, .int .i64 (readO a b).w], .int .i64 (readL a)]) ∧ Below w.heap.size w w' := by
  have h0 : 0 ≤ a / 2048 := by unfold U16 at ha; omega
  have h1 : a / 2048 < 32 := by unfold U16 at ha; omega
  by_cases h30 : a / 2048 = 30
  · have := read_no a b ha hb w h30
    unfold readO readL
    rw [h30]
    exact this
  · have hi := idx_any (a / 2048) h0 h1
    simp only [readO, readL, if_neg h30]
    rcases pat (a / 2048) h0 h1 h30 with ⟨e1, e2, e3, e4⟩ | ⟨e1, e2, e3, e4⟩ | ⟨e1, e2, e3, e4⟩ | ⟨e1, e2, e3, e4⟩ | ⟨e1, e2, e3, e4⟩ | ⟨e1, e2, e3, e4⟩ | ⟨e1, e2, e3, e4, e5, e6⟩ | ⟨e1, e2, e3, e4, e5⟩
    all_goals rw [e1, e2, e3, e4] at hi ⊢
    · exact r0000 a b ha hb w h30 _ _ hi
    · exact r1100 a b ha hb w h30 _ _ hi
    · exact r1001 a b ha hb w h30 _ _ hi
    · exact r0001 a b ha hb w h30 _ _ hi
    · exact r0100 a b ha hb w h30 _ _ hi
    · exact r1000 a b ha hb w h30 _ _ hi
    · by_cases g : 15 < a % 32
      · have := r1110hi a b ha hb w h30 e5 e6 g _ _ hi
        simpa [e5, e6, g] using this
      · have := r1110lo a b ha hb w h30 e5 e6 g _ _ hi
        simpa [e5, e6, g] using this
    · by_cases g12 : a / 2048 = 12
      · have := r1010x a b ha hb w h30 g12 _ _ hi
        simpa [g12] using this
      · by_cases g13 : a / 2048 = 13
        · have := r1010y a b ha hb w h30 g12 g13 _ _ hi
          simpa [g13] using this
        · by_cases g : 15 < a % 32
          · have := r1010hi a b ha hb w h30 g12 g13 g _ _ hi
            simpa [g12, g13, g] using this
          · have := r1010lo a b ha hb w h30 g12 g13 g _ _ hi
            simpa [g12, g13, g] using this
/-- What is right lies within these bounds. -/
theorem right_in (o : Od) (h : checkO o = 0) : (0 ≤ o.op ∧ o.op ≤ 31 ∧ o.op ≠ 30) ∧ (0 ≤ o.d ∧ o.d ≤ 7) ∧ (0 ≤ o.s ∧ o.s ≤ 7) ∧ (-16 ≤ o.n ∧ o.n ≤ 15) ∧ (0 ≤ o.w ∧ o.w ≤ 65535) ∧ partsO o = true := by
  unfold checkO at h
  by_cases g : o.op < 0 ∨ 31 < o.op ∨ o.op = 30
  · rw [if_pos g] at h; omega
  · rw [if_neg g] at h
    by_cases p : partsO o = true
    · refine ⟨by omega, ?_⟩
      have p' := p
      unfold partsO partV lowO at p'
      simp only [Bool.and_eq_true] at p'
      obtain ⟨⟨⟨p1, p2⟩, p3⟩, p4⟩ := p'
      refine ⟨?_, ?_, ?_, ?_, p⟩
      · cases hh : hasD o.op <;> rw [hh] at p1 <;> simp at p1 <;> omega
      · cases hh : hasS o.op <;> rw [hh] at p2 <;> simp at p2 <;> omega
      · cases hh : hasN o.op <;> rw [hh] at p3 <;> simp at p3
        · omega
        · split at p3 <;> omega
      · cases hh : hasW o.op <;> rw [hh] at p4 <;> simp at p4 <;> omega
    · rw [if_neg p] at h; omega
theorem words_no (o : Od) (h : checkO o ≠ 0) (w : World) :
    Calls Tryd.prog 12 #[.agg #[.int .i64 o.op, .int .i64 o.d, .int .i64 o.s, .int .i64 o.n, .int .i64 o.w]] w fun e w' => e = .returned (.tuple #[.slice none 0 0, .int .i64 (checkO o)]) ∧ Below w.heap.size w w' :=
  words_bad o.op o.d o.s o.n o.w (checkO o) w h (check_any o.op o.d o.s o.n o.w)
theorem words_any (o : Od) (h : checkO o = 0) (w : World) :
    Calls Tryd.prog 12 #[.agg #[.int .i64 o.op, .int .i64 o.d, .int .i64 o.s, .int .i64 o.n, .int .i64 o.w]] w fun e w' => ∃ v, e = .returned (.tuple #[v, .int .i64 0]) ∧ w'.ownsRow w.heap.size 48 1 v (wordsO o).length ((wordsO o).map (Value.int .u16)) ∧ Below w.heap.size w w' := by
  obtain ⟨⟨h0, h1, h2⟩, ⟨d0, d1⟩, ⟨s0, s1⟩, ⟨n0, n1⟩, ⟨w0, w1⟩, _⟩ := right_in o h
  have hc : ∀ w, Calls Tryd.prog 17 #[.agg #[.int .i64 o.op, .int .i64 o.d, .int .i64 o.s, .int .i64 o.n, .int .i64 o.w]] w fun e w' => e = .returned (.int .i64 0) ∧ Below w.heap.size w w' := by
    intro w
    have := check_any o.op o.d o.s o.n o.w w
    rw [show checkO ⟨o.op, o.d, o.s, o.n, o.w⟩ = 0 from h] at this
    exact this
  have := words_good o.op o.d o.s o.n o.w w h0 h1 d0 d1 s0 s1 n0 n1 w0 w1 hc _ _ _ _ _ _ (idx_any o.op h0 (by omega))
  unfold wordsO wordO
  cases hh : hasW o.op <;> rw [hh] at this <;> simpa using this
/-- What is read is right. -/
theorem read_right (a b : Int) (ha : U16 a) (hb : U16 b) : checkO (readO a b) = 0 := by
  have h0 : 0 ≤ a / 2048 := by unfold U16 at ha; omega
  have h1 : a / 2048 < 32 := by unfold U16 at ha; omega
  unfold U16 at ha hb
  by_cases h30 : a / 2048 = 30
  · unfold readO
    rw [h30]
    show checkO ⟨31, 0, 0, 0, 0⟩ = 0
    decide
  · unfold checkO partsO partV lowO
    simp only [readO, if_neg h30]
    rw [if_neg (by omega), if_pos]
    simp only [Bool.and_eq_true]
    refine ⟨⟨⟨?_, ?_⟩, ?_⟩, ?_⟩
    · cases hasD (a / 2048) <;> simp <;> omega
    · cases hasS (a / 2048) <;> simp <;> omega
    · cases hasN (a / 2048) <;> simp
      split <;> (try split) <;> omega
    · cases hasW (a / 2048) <;> simp <;> omega
/-- What is written is read as it was. -/
theorem read_back (o : Od) (h : checkO o = 0) : readO (wordO o) (if hasW o.op then o.w else 0) = o ∧ readL (wordO o) = (wordsO o).length ∧ U16 (wordO o) ∧ U16 (if hasW o.op then o.w else 0) := by
  obtain ⟨⟨h0, h1, h2⟩, ⟨d0, d1⟩, ⟨s0, s1⟩, ⟨n0, n1⟩, ⟨w0, w1⟩, p⟩ := right_in o h
  have q1 : wordO o / 2048 = o.op := by unfold wordO; omega
  have q2 : wordO o / 256 % 8 = o.d := by unfold wordO; omega
  have q3 : wordO o / 32 % 8 = o.s := by unfold wordO; omega
  have q4 : wordO o % 32 = o.n % 32 := by unfold wordO; omega
  unfold partsO partV lowO at p
  simp only [Bool.and_eq_true] at p
  obtain ⟨⟨⟨p1, p2⟩, p3⟩, p4⟩ := p
  refine ⟨?_, ?_, ?_, ?_⟩
  · unfold readO
    rw [q1, q2, q3, q4]
    apply Od.ext
    · simp [h2]
    · cases hh : hasD o.op <;> rw [hh] at p1 <;> simp at p1 <;> simp <;> omega
    · cases hh : hasS o.op <;> rw [hh] at p2 <;> simp at p2 <;> simp <;> omega
    · cases hh : hasN o.op <;> rw [hh] at p3 <;> simp at p3 <;> simp
      · omega
      · split at p3
        · rename_i g; rw [if_pos g]; omega
        · rename_i g; rw [if_neg g]; split <;> omega
    · cases hh : hasW o.op <;> rw [hh] at p4 <;> simp at p4 <;> simp <;> omega
  · unfold readL wordsO
    rw [q1]
    cases hasW o.op <;> rfl
  · unfold U16 wordO; omega
  · unfold U16; split <;> omega
end Go.Proofs.YtmpdoiilakjmbaaDoor
