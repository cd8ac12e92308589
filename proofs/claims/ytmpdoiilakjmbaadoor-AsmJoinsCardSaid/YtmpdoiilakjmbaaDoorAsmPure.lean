/- What the assembler makes of a text, as plain functions. Conditions: none; no program in sight. -/
import Derived.Test.YtmpdoiilakjmbaaDoorSepPure
import Derived.Test.YtmpdoiilakjmbaaDoorOrderAll
namespace Go.Mq
open Go
def nmB (i : Nat) (c : UInt8) : Bool := (decide (97 ≤ c.toNat) && decide (c.toNat ≤ 122)) || c.toNat == 95 || (decide (0 < i) && decide (48 ≤ c.toNat) && decide (c.toNat ≤ 57))
def nmsB : Nat → List UInt8 → Bool
  | _, [] => true
  | i, c :: r => nmB i c && nmsB (i + 1) r
def regF : List UInt8 → Option Int
  | [r, d] => if r.toNat = 114 ∧ 48 ≤ d.toNat ∧ d.toNat ≤ 55 then some ((d.toNat : Int) - 48) else none
  | _ => none
def isNm (s : List UInt8) : Bool := decide (1 ≤ s.length) && decide (s.length ≤ 12) && nmsB 0 s && (regF s).isNone
end Go.Mq
namespace Go.Proofs.YtmpdoiilakjmbaaDoor
open Go Go.Mq
def opGo (s : List UInt8) : List Nat → Option Nat
  | [] => none
  | k :: r => if k ≠ 30 ∧ (namO k).data.toList = s then some k else opGo s r
/-- the number of an order of a name -/
def opF (s : List UInt8) : Option Nat := opGo s (List.range 32)
/-- the parts of an order, as letters -/
def prtL (k : Nat) : List UInt8 := (if hasD k then [100] else []) ++ (if hasS k then [115] else []) ++ (if hasN k then [110] else []) ++ (if hasW k then [119] else [])
structure It where
  ln : Int
  o : Od
  raw : Bool
  nm : List UInt8
structure Bd where
  its : List It
  nms : List (List UInt8 × Int)
  sz : Int
def findN (l : List (List UInt8 × Int)) (k : List UInt8) : Option Int := (l.find? fun e => e.1 == k).map (·.2)
/-- an item is put behind: an error, or the builder then -/
def putI (b : Bd) (it : It) (words : Int) : Int × Bd := if 1024 < b.sz + 2 * words then (2, b) else (0, ⟨b.its ++ [it], b.nms, b.sz + 2 * words⟩)
structure Fl where
  o : Od
  nm : List UInt8
/-- one part of an order: none: it isn't written so -/
def fill1 (q : Fl) (c : UInt8) (a : List UInt8) : Option Fl :=
  if c = 100 then (regF a).map fun n => { q with o := { q.o with d := n } }
  else if c = 115 then (regF a).map fun n => { q with o := { q.o with s := n } }
  else if c = 110 then (wholeZ a).map fun n => { q with o := { q.o with n := n } }
  else if isNm a then some { q with nm := a }
  else (wholeZ a).map fun n => { q with o := { q.o with w := n } }
def fillA : Fl → List UInt8 → List (List UInt8) → Option Fl
  | q, c :: cs, a :: r => match fill1 q c a with
    | none => none
    | some q' => fillA q' cs r
  | q, _, _ => some q
/-- a text cut at each ", " -/
def argsF (rest : List UInt8) : List (List UInt8) := if rest = [] then [] else Lib.splitK [44, 32] 0 (Lib.count rest [44, 32]) rest
/-- a line of a word -/
def wordF (b : Bd) (i : Int) (args : List (List UInt8)) : Int × Bd := match args with
  | [a] => if isNm a then putI b ⟨i, ⟨0, 0, 0, 0, 0⟩, true, a⟩ 1 else match wholeZ a with
    | none => (1, b)
    | some n => if n < 0 ∨ 65535 < n then (3, b) else putI b ⟨i, ⟨0, 0, 0, 0, n⟩, true, []⟩ 1
  | _ => (4, b)
def orderF (b : Bd) (i : Int) (k : Nat) (args : List (List UInt8)) : Int × Bd :=
  if args.length ≠ (prtL k).length then (4, b) else match fillA ⟨⟨k, 0, 0, 0, 0⟩, []⟩ (prtL k) args with
    | none => (1, b)
    | some q => if checkO q.o ≠ 0 then (checkO q.o, b) else putI b ⟨i, q.o, false, q.nm⟩ (if hasW k then 2 else 1)
def ordF (b : Bd) (i : Int) (word : List UInt8) (args : List (List UInt8)) : Int × Bd :=
  if word = [46, 119, 111, 114, 100] then wordF b i args
  else match opF word with
    | none => (5, b)
    | some k => orderF b i k args
def lineF (b : Bd) (i : Int) (s : List UInt8) : Int × Bd :=
  if s.getLast? = some 58 then
    if isNm s.dropLast = false then (1, b) else if (findN b.nms s.dropLast).isSome then (6, b) else (0, { b with nms := b.nms ++ [(s.dropLast, b.sz)] })
  else ordF b i (Lib.cut s [32]).1 (argsF (Lib.cut s [32]).2.1)
/-- the lines one behind the other; the last one is empty -/
def linesGo : Nat → List (List UInt8) → Bd → Sum (Int × Int) Bd
  | _, [], b => .inr b
  | i, [t], b => if t = [] then .inr b else .inl (i, 1)
  | i, t :: u :: r, b => if (lineF b i t).1 ≠ 0 then .inl (i, (lineF b i t).1) else linesGo (i + 1) (u :: r) (lineF b i t).2
def itemW (names : List (List UInt8 × Int)) (it : It) : Option Int := if it.nm = [] then some it.o.w else findN names it.nm
def itemX (it : It) (w : Int) : List Int := if it.raw then [w % 65536] else if checkO { it.o with w := w } = 0 then wordsO { it.o with w := w } else []
def wB (l : List Int) : List Int := l.flatMap fun x => [x / 256, x % 256]
def romGo (names : List (List UInt8 × Int)) : List It → List Int → Sum (Int × Int) (List Int)
  | [], rom => .inr rom
  | it :: r, rom => match itemW names it with
    | none => .inl (it.ln, 5)
    | some w => romGo names r (rom ++ wB (itemX it w))
def buildF (s : List UInt8) : List Int × Int × Int :=
  if 4000 < s.length then ([], 0, 2) else if s = [] then ([], 0, 0) else if 301 < (sepBy 10 s).length then ([], 0, 2)
  else match linesGo 0 (sepBy 10 s) ⟨[], [], 0⟩ with
    | .inl x => ([], x.1, x.2)
    | .inr b => match romGo b.nms b.its [] with
      | .inl x => ([], x.1, x.2)
      | .inr rom => (rom, 0, 0)
end Go.Proofs.YtmpdoiilakjmbaaDoor
