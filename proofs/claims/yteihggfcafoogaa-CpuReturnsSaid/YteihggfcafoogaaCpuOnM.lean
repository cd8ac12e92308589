/- The map literal {true: steps} and its look-up; a run whose rings are its last order alone. Conditions: none. -/
import Derived.Test.YteihggfcafoogaaCpuStd
namespace Go.Proofs.Yteihggfcafoogaa
open Go.RowKit Go.Mq
set_option linter.unusedVariables false
set_option linter.unusedSimpArgs false
set_option maxHeartbeats 400000
set_option maxRecDepth 100000
/-- a load of a whole variable behind a guard that holds -/
theorem wpList_loadG {P : Program} {ops : Array Oper} {rest : List Oper} {o : Oper} {a : Act} {w : World} {Q : Exit → Act → World → Prop} (hgd : Region.wanted o (yielded ops a.tmps) = true) (ty : TypeId) (x : Operand) (ho : o.op = .load ty x)
    (g : Nat) (hx : a.eval x = .pointer (some ⟨g, 0, none⟩)) (t : TypeId) (cs : Array Value) (hg : Blk w g cs t) (d : TypeDesc)
    (hu : P.underlying ty = some d) (hd : (match d with | .struct _ | .array _ _ => true | _ => false) = true) (hi : (P.info? ty).map (·.size) = some cs.size)
    (h : wpList P ops Q rest (a.put o.dst (.agg cs)) w) : wpList P ops Q (o :: rest) a w := by
  refine wpList_step fun K hK => ?_
  rw [if_pos hgd]
  unfold Oper.wp execOp
  simp only [ho, hx, Instr.loadAt, Instr.sureAddr, Sem.run_bind, Sem.run_pure, Result.andThen_ok, run_loadVar_at w g 0 cs.size t ty cs cs d hg hu hd hi (by rw [List.drop_zero, List.take_of_length_le (by simp)]) (by simp)]
  exact hK _ _ h
theorem push_set2 {α : Type} (xs : Array α) (a b c : α) : ((xs.push a).push b).setIfInBounds xs.size c = (xs.push c).push b := by
  apply Array.ext_getElem?
  intro i
  rw [Array.getElem?_setIfInBounds, Array.getElem?_push, Array.getElem?_push, Array.getElem?_push, Array.getElem?_push]
  simp only [Array.size_push]
  by_cases h : xs.size = i
  · subst h; simp; omega
  · have h' : ¬ i = xs.size := fun e => h e.symm
    simp [h, h']
theorem two_map (w0 : World) (o o' : Obj) : ((w0.alloc o).alloc o').heap[w0.heap.size]? = some o := by
  rw [(MapKept.heap_alloc (w0.alloc o) o').2 _ (Array.getElem?_eq_some_iff.1 (MapKept.heap_alloc w0 o).1).1, (MapKept.heap_alloc w0 o).1]
theorem put_two (w0 : World) (n : Nat) (hn : n = w0.heap.size) (o : Obj) (v : Value) :
    (Instr.mapUpdate 33 (.map (some n)) (.bool true) v).run Try.prog ((w0.alloc (.map #[] 0)).alloc o) = .ok () ((w0.alloc (.map #[{ key := .bool true, val := v, born := 0 }] 1)).alloc o) := by
  subst hn
  have hb := two_map w0 (.map #[] 0) o
  have hk : MapKept.IsKey .bool (.bool true) := by simp [MapKept.IsKey]
  have hc := MapKept.run_checkKey (P := Try.prog) (w := (w0.alloc (.map #[] 0)).alloc o) Try.underlying4 hk false 9999
  have hfk := MapKept.run_findKey (P := Try.prog) (w := (w0.alloc (.map #[] 0)).alloc o) (k := .bool true) (l := []) (a := none) Try.underlying4 rfl
  simp [Instr.mapUpdate, run_underlying Try.underlying33, MapKept.run_getObj_map hb, hc, hfk, MapKept.run_setObj_map _ hb, Result.andThen]
  unfold World.alloc
  congr 1
  exact push_set2 w0.heap _ _ _
theorem get_two (w0 : World) (n : Nat) (hn : n = w0.heap.size) (o : Obj) (v : Value) (b : Bool) :
    (Instr.lookup 33 (.map (some n)) (.bool b) false).run Try.prog ((w0.alloc (.map #[{ key := .bool true, val := v, born := 0 }] 1)).alloc o) = .ok (if b then v else .slice none 0 0) ((w0.alloc (.map #[{ key := .bool true, val := v, born := 0 }] 1)).alloc o) := by
  subst hn
  have hb := two_map w0 (.map #[{ key := .bool true, val := v, born := 0 }] 1) o
  have hk : MapKept.IsKey .bool (.bool b) := by simp [MapKept.IsKey]
  have hc := MapKept.run_checkKey (P := Try.prog) (w := (w0.alloc (.map #[{ key := .bool true, val := v, born := 0 }] 1)).alloc o) Try.underlying4 hk false 9999
  cases b
  · have hfk := MapKept.run_findKey (P := Try.prog) (w := (w0.alloc (.map #[{ key := .bool true, val := v, born := 0 }] 1)).alloc o) (k := .bool false) (l := [{ key := .bool true, val := v, born := 0 }]) (a := none) Try.underlying4 rfl
    have hz : ∀ w, (zeroValue 32).run Try.prog w = .ok (.slice none 0 0) w := fun w => by kernel_rfl
    simp [Instr.lookup, run_underlying Try.underlying33, MapKept.run_getObj_map hb, hc, hfk, hz, Result.andThen]
  · have hfk := MapKept.run_findKey (P := Try.prog) (w := (w0.alloc (.map #[{ key := .bool true, val := v, born := 0 }] 1)).alloc o) (k := .bool true) (l := [{ key := .bool true, val := v, born := 0 }]) (a := some (0, v)) Try.underlying4 rfl
    simp [Instr.lookup, run_underlying Try.underlying33, MapKept.run_getObj_map hb, hc, hfk, Result.andThen]
theorem runS_last {σ : Type} (b : Bus σ) (m : σ) (k : Nat) : ∀ j, j ≤ k → runS b [(k : Int)] m j = runS b [] m j
  | 0, _ => rfl
  | j + 1, h => by
    show rnStep b (runS b [(k : Int)] m j) _ = rnStep b (runS b [] m j) _
    rw [runS_last b m k j (by omega)]
    congr 1
    simp
    omega
theorem runS_on {σ : Type} (b : Bus σ) (m : σ) (k : Nat) (more : Bool) : runS b (if more then [(k : Int)] else []) m (k + 1) = rnStep b (runS b [] m k) more := by
  cases more
  · show rnStep b (runS b [] m k) _ = _
    congr 1
  · show rnStep b (runS b [(k : Int)] m k) _ = _
    rw [runS_last b m k k (Nat.le_refl _)]
    congr 1
    simp
end Go.Proofs.Yteihggfcafoogaa
