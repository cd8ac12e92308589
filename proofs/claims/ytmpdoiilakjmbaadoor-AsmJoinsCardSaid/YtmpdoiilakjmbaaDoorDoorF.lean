/- What the listed variables of the library hold, carried from world to world. Conditions: none of its own. -/
import Derived.Test.YtmpdoiilakjmbaaDoorRows
import Derived.Test.YtmpdoiilakjmbaaDoorBase
import Derived.Lib.LaidTab
import Derived.Lib.LaidU8
import Derived.Lib.ItoaNum
import Derived.Lib.Space
import Derived.Stop.LaidErr
import Derived.LaidHandle
namespace Go.Mq
open Go.RowKit
theorem cmark {F R : World → Prop} {W : World} (h : R W) (k : ∀ W', R W' → F W') : F W := k W h
/-- what a listed variable holds stays, where its block stays -/
theorem var_below {P : Program} {w w' : World} {n : String} {cs : Array Value} (h : w.var? P n = some cs) (hb : Below w.heap.size w w') : w'.var? P n = some cs := by
  unfold World.var? at h ⊢
  cases hg : P.globalNamed n with
  | none => simp [hg] at h
  | some g =>
    simp only [hg, Option.bind_some] at h ⊢
    have hlt : g < w.heap.size := by
      rcases Nat.lt_or_ge g w.heap.size with h' | h'
      · exact h'
      · simp [Array.getElem?_eq_none h'] at h
    rw [hb.block g hlt]
    exact h
/-- the variables that the library's number texts read -/
structure Lw (P : Program) (gm : Nat) (w : World) : Prop where
  pow : Lib.TabIs P w "internal/strconv.uint64pow10" .u64 Lib.pow10Tab
  syn : ∃ tp p, w.var? P "strconv.ErrSyntax" = some #[.iface tp p]
  rng : ∃ tp p, w.var? P "strconv.ErrRange" = some #[.iface tp p]
  mx : ∃ m, w.cell? ⟨gm, 0, none⟩ = some (.int .i64 m)
theorem Lw.below {P : Program} {gm : Nat} {w w' : World} (h : Lw P gm w) (hb : Below w.heap.size w w') : Lw P gm w' := by
  obtain ⟨h1, ⟨t2, p2, h2⟩, ⟨t3, p3, h3⟩, ⟨m, h4⟩⟩ := h
  exact ⟨var_below h1 hb, ⟨t2, p2, var_below h2 hb⟩, ⟨t3, p3, var_below h3 hb⟩, m, (hb.cell (World.block_lt_of_cell? _ _ h4)).trans h4⟩
end Go.Mq
