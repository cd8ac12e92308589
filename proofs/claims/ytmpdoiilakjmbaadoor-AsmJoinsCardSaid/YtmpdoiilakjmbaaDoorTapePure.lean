/- What was pressed, as texts: plain. Conditions: none; no program in sight. -/
import Derived.Lib.ItoaNum
import Derived.Lib.AtoiAll
import Derived.Lib.Split
import Derived.Lib.IndexMore
import Derived.KernelRfl
namespace Go.Mq
open Go
set_option maxRecDepth 100000
structure Inp where
  ck : Int
  pd : Int
  dn : Int
def chkFrom : Int → List Inp → Int
  | _, [] => 0
  | last, x :: t => if x.ck < last ∨ 400000 < x.ck then 3 else if x.pd ≠ 0 ∧ x.pd ≠ 1 then 5 else chkFrom x.ck t
def chkI (l : List Inp) (from' : Int) : Int := if 40 < l.length then 2 else chkFrom from' l
/-- the buttons' letters -/
def letB : List UInt8 := [117, 100, 108, 114, 97, 98, 115, 116]
def btn (n : Nat) : List UInt8 := (List.range 8).map fun k => if n / 2 ^ (7 - k) % 2 = 1 then letB.getD k 0 else 46
def ofGo : List UInt8 → Nat → List UInt8 → Option Nat
  | [], a, [] => some a
  | c :: cs, a, x :: xs => if x = c then ofGo cs (2 * a + 1) xs else if x = 46 then ofGo cs (2 * a) xs else none
  | _, _, _ => none
def ofBtn (l : List UInt8) : Option Nat := ofGo letB 0 l
def txt (bs : List Bool) (cs : List UInt8) : List UInt8 := List.zipWith (fun b c => if b then c else 46) bs cs
def num (bs : List Bool) (a : Nat) : Nat := bs.foldl (fun a b => 2 * a + if b then 1 else 0) a
theorem ofGo_spec : ∀ (cs : List UInt8) (a : Nat) (l : List UInt8) (n : Nat), ofGo cs a l = some n → ∃ bs : List Bool, bs.length = cs.length ∧ l = txt bs cs ∧ n = num bs a
  | [], a, [], n, h => by
    simp only [ofGo, Option.some.injEq] at h
    exact ⟨[], rfl, rfl, h.symm⟩
  | [], _, _ :: _, _, h => by simp [ofGo] at h
  | _ :: _, _, [], _, h => by simp [ofGo] at h
  | c :: cs, a, x :: xs, n, h => by
    unfold ofGo at h
    by_cases h1 : x = c
    · rw [if_pos h1] at h
      obtain ⟨bs, e1, e2, e3⟩ := ofGo_spec cs _ xs n h
      exact ⟨true :: bs, by simp [e1], by simp [txt, h1, e2], by simp [num, e3]⟩
    · rw [if_neg h1] at h
      by_cases h2 : x = 46
      · rw [if_pos h2] at h
        obtain ⟨bs, e1, e2, e3⟩ := ofGo_spec cs _ xs n h
        exact ⟨false :: bs, by simp [e1], by simp [txt, h2, e2], by simp [num, e3]⟩
      · rw [if_neg h2] at h; cases h
theorem btn_num : ∀ b0 b1 b2 b3 b4 b5 b6 b7 : Bool, num [b0, b1, b2, b3, b4, b5, b6, b7] 0 < 256 ∧ btn (num [b0, b1, b2, b3, b4, b5, b6, b7] 0) = txt [b0, b1, b2, b3, b4, b5, b6, b7] letB := by decide +kernel
theorem of_btn : ∀ n, n < 256 → ofBtn (btn n) = some n := by decide +kernel
theorem btn_of {l : List UInt8} {n : Nat} (h : ofBtn l = some n) : n < 256 ∧ btn n = l := by
  obtain ⟨bs, h1, h2, h3⟩ := ofGo_spec _ _ _ _ h
  match bs, h1 with
  | [b0, b1, b2, b3, b4, b5, b6, b7], _ =>
    have := btn_num b0 b1 b2 b3 b4 b5 b6 b7
    subst h3
    exact ⟨this.1, by rw [h2]; exact this.2⟩
/-- a text cut at each c -/
def sepBy (c : UInt8) : List UInt8 → List (List UInt8)
  | [] => [[]]
  | x :: t => if x = c then [] :: sepBy c t else match sepBy c t with
    | [] => [[x]]
    | y :: r => (x :: y) :: r
theorem sepBy_ne (c : UInt8) (l : List UInt8) : sepBy c l ≠ [] := by
  cases l with
  | nil => simp [sepBy]
  | cons x t =>
    unfold sepBy
    split
    · simp
    · split <;> simp
theorem sepBy_miss (c : UInt8) : ∀ l : List UInt8, c ∉ l → sepBy c l = [l]
  | [], _ => rfl
  | x :: t, h => by
    have h1 : ¬ x = c := fun e => h (by simp [e])
    have h2 : c ∉ t := fun e => h (by simp [e])
    rw [sepBy, if_neg h1, sepBy_miss c t h2]
theorem sepBy_hit (c : UInt8) : ∀ (l r : List UInt8), c ∉ l → sepBy c (l ++ c :: r) = l :: sepBy c r
  | [], r, _ => by rw [List.nil_append, sepBy, if_pos rfl]
  | x :: t, r, h => by
    have h1 : ¬ x = c := fun e => h (by simp [e])
    have h2 : c ∉ t := fun e => h (by simp [e])
    rw [List.cons_append, sepBy, if_neg h1, sepBy_hit c t r h2]
/-- a number that is written as itself -/
def wholeZ (l : List UInt8) : Option Int := match Lib.atoiAll l with
  | .ok v => if Lib.itoa v = l then some v else none
  | _ => none
def item (l : List UInt8) : Option Inp := match sepBy 32 l with
  | [a, b, c] => match wholeZ a, wholeZ b, ofBtn c with
    | some k, some p, some d => some ⟨k, p, d⟩
    | _, _, _ => none
  | _ => none
/-- the line that isn't one, or what was pressed -/
def parseGo : Nat → List Inp → List (List UInt8) → Sum Nat (List Inp)
  | i, _, [] => .inl i
  | i, acc, [t] => if t = [] then .inr acc else .inl i
  | i, acc, t :: u :: r => match item t with
    | none => .inl i
    | some x => parseGo (i + 1) (acc ++ [x]) (u :: r)
def parseV (s : List UInt8) : Sum Nat (List Inp) := parseGo 0 [] (sepBy 10 s)
def lineP (x : Inp) : List UInt8 := Lib.itoa x.ck ++ [32] ++ Lib.itoa x.pd ++ [32] ++ btn x.dn.toNat ++ [10]
def printP (l : List Inp) : List UInt8 := l.flatMap lineP
end Go.Mq
