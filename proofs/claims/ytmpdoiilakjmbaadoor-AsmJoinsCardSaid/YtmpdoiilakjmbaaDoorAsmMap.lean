/- The assembler's map of names: what is looked up, what is put; the closure that catches. Conditions: none. -/
import Derived.Test.YtmpdoiilakjmbaaDoorAsmPut
import Derived.Recover
namespace Go.Proofs.YtmpdoiilakjmbaaDoor
open Go.RowKit Go.Mq
set_option linter.unusedVariables false
set_option linter.unusedSimpArgs false
set_option maxHeartbeats 1000000
set_option maxRecDepth 100000
theorem bytes_beq (a b : List UInt8) : ((⟨a.toArray⟩ : ByteArray) == ⟨b.toArray⟩) = (a == b) := by
  show (a.toArray == b.toArray) = _
  simp
theorem find_now (k : List UInt8) : ∀ (es : List MapEntry) (l : List (List UInt8 × Int)) (i : Nat), es.map (fun e => (e.key, e.val)) = l.map (fun e => (Value.string ⟨e.1.toArray⟩, Value.int .i64 e.2)) →
    (findN l k = none → Instr.findNow .string (.string ⟨k.toArray⟩) es i = some none) ∧ (∀ v, findN l k = some v → ∃ j, Instr.findNow .string (.string ⟨k.toArray⟩) es i = some (some (j, .int .i64 v)))
  | [], [], i, _ => ⟨fun _ => rfl, fun v h => by simp [findN] at h⟩
  | e :: es, [], i, h => by simp at h
  | [], e :: l, i, h => by simp at h
  | e :: es, x :: l, i, h => by
    simp only [List.map_cons, List.cons.injEq, Prod.mk.injEq] at h
    obtain ⟨⟨h1, h2⟩, h3⟩ := h
    obtain ⟨r1, r2⟩ := find_now k es l (i + 1) h3
    unfold findN at r1 r2 ⊢
    unfold Instr.findNow
    rw [h1]
    simp only [Instr.sameNow, bytes_beq]
    by_cases hx : x.1 = k
    · subst hx
      simp [h2]
    · have e1 : (x.1 == k) = false := beq_eq_false_iff_ne.2 hx
      have e2 : (k == x.1) = false := beq_eq_false_iff_ne.2 (fun h => hx h.symm)
      rw [List.find?_cons, e1, e2]
      exact ⟨r1, r2⟩
theorem run_look (w : World) (g : Nat) (l : List (List UInt8 × Int)) (k : List UInt8) (h : MapAt w g l) :
    (Instr.lookup 72 (.map (some g)) (.string ⟨k.toArray⟩) true).run Tryd.prog w = .ok (.tuple #[.int .i64 ((findN l k).getD 0), .bool (findN l k).isSome]) w := by
  obtain ⟨es, c, hb, he⟩ := h
  obtain ⟨r1, r2⟩ := find_now k es.toList l 0 he
  have hc := MapKept.run_checkKey (P := Tryd.prog) (w := w) (k := .string ⟨k.toArray⟩) Tryd.underlying9 trivial es.isEmpty 9999
  have hz : (zeroValue 3).run Tryd.prog w = .ok (.int .i64 0) w := by kernel_rfl
  cases hq : findN l k with
  | none =>
    have hfk := MapKept.run_findKey (P := Tryd.prog) (w := w) Tryd.underlying9 (r1 hq)
    simp [Instr.lookup, run_underlying Tryd.underlying72, MapKept.run_getObj_map hb, hc, hfk, hz, Result.andThen]
  | some v =>
    obtain ⟨j, hj⟩ := r2 v hq
    have hfk := MapKept.run_findKey (P := Tryd.prog) (w := w) Tryd.underlying9 hj
    simp [Instr.lookup, run_underlying Tryd.underlying72, MapKept.run_getObj_map hb, hc, hfk, Result.andThen]
theorem put_obj (w : World) (g : Nat) (o : Obj) : Put g w { w with heap := w.heap.setIfInBounds g o } :=
  ⟨⟨rfl, rfl, rfl, by simp, fun k hk => by simp [Array.getElem?_setIfInBounds, show ¬ g = k by omega]⟩, by simp, fun k hk => by simp [Array.getElem?_setIfInBounds, show ¬ g = k from fun h => hk h.symm]⟩
theorem run_putN (w : World) (g : Nat) (l : List (List UInt8 × Int)) (k : List UInt8) (v : Int) (h : MapAt w g l) (hn : findN l k = none) :
    ∃ w', (Instr.mapUpdate 72 (.map (some g)) (.string ⟨k.toArray⟩) (.int .i64 v)).run Tryd.prog w = .ok () w' ∧ Put g w w' ∧ MapAt w' g (l ++ [(k, v)]) := by
  obtain ⟨es, c, hb, he⟩ := h
  obtain ⟨r1, r2⟩ := find_now k es.toList l 0 he
  have hc := MapKept.run_checkKey (P := Tryd.prog) (w := w) (k := .string ⟨k.toArray⟩) Tryd.underlying9 trivial false 9999
  have hfk := MapKept.run_findKey (P := Tryd.prog) (w := w) Tryd.underlying9 (r1 hn)
  refine ⟨_, ?_, put_obj w g (.map (es.push { key := .string ⟨k.toArray⟩, val := .int .i64 v, born := c }) (c + 1)), ⟨_, _, (MapKept.heap_set hb).1, ?_⟩⟩
  · simp [Instr.mapUpdate, run_underlying Tryd.underlying72, MapKept.run_getObj_map hb, hc, hfk, MapKept.run_setObj_map _ hb, Result.andThen]
  · simp [he]
theorem caught_w (p : Nat) (k : Int) (w : World) (o : Obj) (hp : Blk w p #[.int .i64 0] 23) : Blk ((w.setCell ⟨p, 0, none⟩ (.int .i64 k)).alloc o) p #[.int .i64 k] 23 ∧ Below p w ((w.setCell ⟨p, 0, none⟩ (.int .i64 k)).alloc o) ∧ ∀ i, ¬ i = p → i < w.heap.size → ((w.setCell ⟨p, 0, none⟩ (.int .i64 k)).alloc o).heap[i]? = w.heap[i]? :=
  ⟨(hp.set rfl).alloc _, Below.alloc (Below.setCell (Below.refl _ _) (Nat.le_refl p) _) (by have := hp.lt; simp; omega) _, fun i h1 h2 => by
    rw [(MapKept.heap_alloc _ _).2 i (by simpa using h2)]
    exact Below.heap_setCell _ _ _ _ h1⟩
theorem catch_pan (p : Nat) (k : Int) (older : List PanicEntry) (w : World) (hp : Blk w p #[.int .i64 0] 23) :
    CallsD Tryd.prog 55 #[.pointer (some ⟨p, 0, none⟩)] (.panicking ({ v := .iface 101 (.agg #[.int .i64 k]), recovered := false } :: older)) w fun e u' w' =>
      e = .returned (.tuple #[]) ∧ u' = .panicking ({ v := .iface 101 (.agg #[.int .i64 k]), recovered := true } :: older) ∧ (Blk w' p #[.int .i64 k] 23 ∧ Below p w w' ∧ ∀ i, i ≠ p → i < w.heap.size → w'.heap[i]? = w.heap[i]?) := by
  obtain ⟨l, c, f⟩ := hp.use
  have ta : ∀ w, (Instr.typeAssert (.iface 101 (.agg #[.int .i64 k])) 20 101 true).run Tryd.prog w = .ok (.tuple #[.agg #[.int .i64 k], .bool true]) w := fun w => by kernel_rfl
  refine callsD_of_wpS Tryd.func55 rfl fun c₀ cs hu => ?_
  apply wpS_seq
  apply wpS_region
  simp [wpOpsS, go_sem, recoverD, hu, Tryd.ntmps55, Exit.thenS]
  refine wpS_of_wp ?_
  change Code.wp _ _ _ { tmps := #[.pointer (some ⟨p, 0, none⟩), (.iface 101 (.agg #[.int .i64 k])), undef, undef, (.iface 101 (.agg #[.int .i64 k])), undef, undef, undef, undef, undef, undef, undef, undef, undef, undef, undef, undef], defers := [] } _
  go_wp2
  have HF := caught_w p k w (.cells #[.int .i64 k] 101) hp
  cases c₀
  simp [bodyPostS, results, Tryd.results55]
  exact HF
theorem catch_idle (p : Nat) (w : World) :
    CallsD Tryd.prog 55 #[.pointer (some ⟨p, 0, none⟩)] .returning w fun e u' w' => e = .returned (.tuple #[]) ∧ u' = .returning ∧ w' = w := by
  refine callsD_of_wpS Tryd.func55 rfl fun c₀ cs hu => ?_
  apply wpS_seq
  apply wpS_region
  simp [wpOpsS, go_sem, recoverD, hu, Tryd.ntmps55, Exit.thenS]
  refine wpS_of_wp ?_
  change Code.wp _ _ _ { tmps := #[.pointer (some ⟨p, 0, none⟩), .nilIface, undef, undef, .nilIface, undef, undef, undef, undef, undef, undef, undef, undef, undef, undef, undef, undef], defers := [] } _
  go_wp2
  cases c₀
  simp_all [bodyPostS, results, Tryd.results55]
end Go.Proofs.YtmpdoiilakjmbaaDoor
