/- What append makes of a slice of one's own and any slice of bytes. Conditions: not more than a million bytes. -/
import Derived.Test.YtimccpmdgfneoaaBase
import Derived.Test.YtimccpmdgfneoaaRows
import Derived.LoopN
import Derived.Lib.AppendZeros
namespace Go.Proofs.Ytimccpmdgfneoaa
open Go.RowKit Go.Mq
set_option linter.unusedVariables false
set_option linter.unusedSimpArgs false
set_option maxHeartbeats 1000000
set_option maxRecDepth 100000

theorem infoB : (Try.prog.info? 5).map (fun i => (i.zero, i.size, i.bytes)) = some (some (.int .u8 0), 1, 1) := by kernel_rfl

theorem append_none {P : Program} (w : World) (t ty e : TypeId) (i : TypeInfo) (ht : P.underlying t = some (.slice e)) (hi : P.info? e = some i) (base : Option Addr) (l c cp : Nat) (h : l ≤ c) :
    (Builtin.append_ #[t, t] ty #[.slice base l c, .slice none 0 cp]).run P w = .ok (.slice base l c) w := by
  cases base <;> simp [Builtin.append_, run_underlying ht, sizeOf, typeInfo, hi, Builtin.lenOf, Builtin.firstCells, loadCells, loadCellsFrom, storeCells, h]

theorem own_cap {w : World} {base : Nat} {e : TypeId} {size : Nat} {ao : Option Addr} {l cp n : Nat} {xs : List Value} (h : w.ownsRow base e size (.slice ao l cp) n xs) : l ≤ cp := by
  rcases h.2 with ⟨h1, h2⟩ | ⟨g, cap, cur, h1, -, -, h2, -⟩
  · injection h1 with e1 e2 e3; omega
  · injection h1 with e1 e2 e3; omega

theorem run_append_slice (w : World) (base : Nat) (v : Value) (xs : List Int) (hown : w.ownsRow base 5 1 v xs.length (xs.map (Value.int .u8))) (u : Value) (ys : List Int) (hu : SliceAt w .u8 u ys) (hn : xs.length + ys.length ≤ 1000000) (hbase : base ≤ w.heap.size) (ty : TypeId) :
    ∃ v' w', (Builtin.append_ #[22, 22] ty #[v, u]).run Try.prog w = .ok v' w' ∧ w'.ownsRow base 5 1 v' (xs ++ ys).length ((xs ++ ys).map (Value.int .u8)) ∧ w.grownBy w' v.ownBlock := by
  obtain ⟨i0, hi, hz0, hz1, hz2⟩ := info_parts infoB
  obtain ⟨a, c, rfl, hc1, hc2, hwf, hcs⟩ := hu
  obtain ⟨ao, cp, rfl⟩ := own_shape hown
  cases a with
  | none =>
    have h0 : ys = [] := by
      cases ys with
      | nil => rfl
      | cons y t => obtain ⟨b, off, he, -⟩ := hcs (by simp); cases he
    subst h0
    refine ⟨_, w, append_none w 22 ty 5 i0 Try.underlying22 hi ao xs.length cp c (own_cap hown), by simpa using hown, ⟨rfl, rfl, rfl, Nat.le_refl _, fun _ _ _ => rfl⟩⟩
  | some ad =>
    obtain ⟨v', w', hr, h2, h3, -⟩ := run_append_own (P := Try.prog) w base 22 ty 5 i0 (.int .u8 0) 1 1 Try.underlying22 hi hz0 hz1 hz2 rfl (by decide) _ _ _ hown ad ys.length c (ys.map (Value.int .u8)) (by simp)
      (fun j u hj => by
        rw [List.getElem?_map] at hj
        cases hy : ys[j]? with
        | none => rw [hy] at hj; cases hj
        | some y =>
          rw [hy] at hj
          injection hj with hj
          obtain ⟨hlt, he⟩ := List.getElem?_eq_some_iff.1 hy
          obtain ⟨b, off, hab, -, hcell⟩ := hcs (by omega)
          injection hab with hab
          subst hab
          rw [Addr.add_lit, hcell j hlt, ← hj, List.getD_eq_getElem?_getD, hy]
          rfl)
      (fun u hu => by
        obtain ⟨y, -, rfl⟩ := List.mem_map.1 hu
        rfl)
      (by unfold maxLen; omega) (by omega) hbase
    exact ⟨v', w', hr, by simpa using h2, h3⟩

end Go.Proofs.Ytimccpmdgfneoaa
