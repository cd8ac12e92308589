/- The document's reading of orders: plain; a range over a text, letter by letter. Conditions: none of its own. -/
import Derived.Test.YtmpdoiilakjmbaaDoorKindsP
import Derived.Lib.OthersKept
namespace Go.Mq
open Go Go.RowKit
set_option maxRecDepth 100000
structure Ao where
  d : Int
  s : Int
  n : Int
  w : Int
  l : Int
def shK (k : Nat) : Bool := nmK k == [115, 104, 108] || nmK k == [115, 104, 114]
def nO (sh : Bool) (a : Int) : Int := if sh then a % 32 % 16 else if 16 ≤ a % 32 then a % 32 - 32 else a % 32
def stepA (sh : Bool) (a b : Int) (q : Ao) (c : UInt8) : Ao :=
  if c = 100 then { q with d := a / 256 % 8 } else if c = 115 then { q with s := a / 32 % 8 } else if c = 110 then { q with n := nO sh a } else if c = 119 then { q with w := b, l := 2 } else q
def foldA (sh : Bool) (a b : Int) (l : List UInt8) : Ao := l.foldl (stepA sh a b) ⟨0, 0, 0, 0, 1⟩
theorem foldA_snoc (sh : Bool) (a b : Int) (p : List UInt8) (c : UInt8) : foldA sh a b (p ++ [c]) = stepA sh a b (foldA sh a b p) c := by simp [foldA]
theorem hs_all : ∀ k, k < 32 → ∀ c ∈ hsK k, c = 100 ∨ c = 115 ∨ c = 110 ∨ c = 119 := by decide +kernel
theorem hs_len : ∀ k, k < 32 → (hsK k).length ≤ 3 := by decide +kernel
theorem mid_at (p r : List UInt8) (c : UInt8) (h : p.length < (⟨(p ++ c :: r).toArray⟩ : ByteArray).size) : (⟨(p ++ c :: r).toArray⟩ : ByteArray)[p.length]'h = c := by
  show (p ++ c :: r).toArray[p.length]'_ = c
  simp
theorem next_mid {P : Program} (w : World) (k : Nat) (p r : List UInt8) (c : UInt8) (ty : TypeId) (hk : w.heap[k]? = some (.stringIter ⟨(p ++ c :: r).toArray⟩ p.length)) (hc : c.toNat < 128) :
    (Instr.next (.pointer (some ⟨k, 0, none⟩)) true ty).run P w = .ok (.tuple #[.bool true, .int .i64 p.length, .int .i32 (c.toNat : Int)]) (w.iterAt k ⟨(p ++ c :: r).toArray⟩ (p.length + 1)) := by
  have h : p.length < (⟨(p ++ c :: r).toArray⟩ : ByteArray).size := by rw [Lib.size_eq]; simp
  have := Lib.run_next_ascii_at (P := P) w k ⟨(p ++ c :: r).toArray⟩ p.length ty hk h (by rw [mid_at]; exact hc)
  rw [mid_at] at this
  exact this
theorem next_end {P : Program} (w : World) (k : Nat) (p : List UInt8) (ty : TypeId) (hk : w.heap[k]? = some (.stringIter ⟨p.toArray⟩ p.length)) :
    (Instr.next (.pointer (some ⟨k, 0, none⟩)) true ty).run P w = .ok (.tuple #[.bool false]) w :=
  Lib.run_next_end_at w k ⟨p.toArray⟩ p.length ty hk (by rw [Lib.size_eq]; simp)
theorem put_iterAt (w : World) (k : Nat) (s : ByteArray) (pos : Nat) : Put k w (w.iterAt k s pos) :=
  ⟨Lib.below_iterAt (Below.refl _ _) (Nat.le_refl _) s pos, Lib.iterAt_size w k s pos, fun j hj => Lib.iterAt_other w k j s pos hj⟩
theorem iterPos_eq {w : World} {k : Nat} {s : ByteArray} {p : Nat} (h : w.heap[k]? = some (.stringIter s p)) : w.iterPos k = p := by simp [World.iterPos, h]
end Go.Mq
