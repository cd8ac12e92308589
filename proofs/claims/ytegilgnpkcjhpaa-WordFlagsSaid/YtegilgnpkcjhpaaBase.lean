/- Small words that all my texts share: endings by their parts, bounds of integers, worlds that have only drawn. Conditions: none. -/
import Derived.WalkKit
import Derived.WalkSpells
import Derived.WalkLawsBesides
import Derived.BigQuiet
import Derived.Deep.QuietTactic
import Derived.Lib.Hide
namespace Go.Mq
open Go.RowKit

def U8 (a : Int) : Prop := 0 ≤ a ∧ a ≤ 255
/-- a word -/
def U16 (a : Int) : Prop := 0 ≤ a ∧ a ≤ 65535
def I64 (a : Int) : Prop := -9223372036854775808 ≤ a ∧ a ≤ 9223372036854775807

theorem ret1 {u v : Value} (h : u = v) : Ending.returned u = .returned v := by rw [h]
theorem ret2 {a b a' b' : Value} (h : a = a') (h1 : b = b') : Ending.returned (.tuple #[a, b]) = .returned (.tuple #[a', b']) := by rw [h, h1]
theorem ret3 {a b c a' b' c' : Value} (h : a = a') (h1 : b = b') (h2 : c = c') : Ending.returned (.tuple #[a, b, c]) = .returned (.tuple #[a', b', c']) := by rw [h, h1, h2]
theorem vi {k : IntKind} {a b : Int} (h : a = b) : Value.int k a = .int k b := by rw [h]
theorem vb {a b : Bool} (h : a = b) : Value.bool a = .bool b := by rw [h]
theorem wrap16 (n : Int) : IntKind.u16.wrap n = n % 65536 := IntKind.wrap_u16 n
theorem wrap8 (n : Int) : IntKind.u8.wrap n = n % 256 := IntKind.wrap_u8 n

/-- the world has drawn, no more -/
def Drew (w w' : World) : Prop := ∃ d, w' = w.drewN d
theorem Drew.refl (w : World) : Drew w w := ⟨0, rfl⟩
theorem Drew.drewN {w w' : World} (h : Drew w w') (n : Nat) : Drew w (w'.drewN n) := by
  obtain ⟨d, rfl⟩ := h
  exact ⟨d + n, by rw [World.drewN_drewN]⟩
theorem Drew.trans {a b c : World} (h : Drew a b) (h' : Drew b c) : Drew a c := by
  obtain ⟨d, rfl⟩ := h'
  exact h.drewN d
theorem Drew.cell {w w' : World} (h : Drew w w') (a : Addr) : w'.cell? a = w.cell? a := by
  obtain ⟨d, rfl⟩ := h
  rfl
theorem Drew.frozen {w w' : World} (h : Drew w w') (a : Addr) : w'.frozen? a = w.frozen? a := by
  obtain ⟨d, rfl⟩ := h
  rfl
theorem Drew.heap {w w' : World} (h : Drew w w') : w'.heap = w.heap := by
  obtain ⟨d, rfl⟩ := h
  rfl
theorem Drew.below {w w' : World} (h : Drew w w') (B : Nat) : Below B w w' := by
  obtain ⟨d, rfl⟩ := h
  exact ⟨rfl, rfl, rfl, Nat.le_refl _, fun _ _ => rfl⟩

/-- a callee that draws nothing, at a region that reads alone -/
theorem quiet_sym {P : Program} {f : FuncId} {args : Array Value} {w : World} {n : Nat} {v : Value}
    (h : Calls P f args (w.drewN n) fun e w' => e = .returned v ∧ w.drewN n = w') : Calls P f args (w.drewN n) fun e w'' => e = .returned v ∧ ∃ m, w'' = w.drewN m :=
  h.mono fun _ _ ⟨he, hm⟩ => ⟨he, n, hm.symm⟩
theorem quiet_drew {P : Program} {f : FuncId} {args : Array Value} {w : World} {n : Nat} {v : Value}
    (h : Calls P f args (w.drewN n) fun e w' => e = .returned v ∧ Drew (w.drewN n) w') : Calls P f args (w.drewN n) fun e w'' => e = .returned v ∧ ∃ m, w'' = w.drewN m :=
  h.mono fun _ _ ⟨he, hm⟩ => ⟨he, by obtain ⟨d, rfl⟩ := hm; exact ⟨n + d, by rw [World.drewN_drewN]⟩⟩

theorem push_set {α : Type} (xs : Array α) (a b : α) : (xs.push a).setIfInBounds xs.size b = xs.push b := by
  apply Array.ext_getElem?
  intro i
  rw [Array.getElem?_setIfInBounds, Array.getElem?_push, Array.getElem?_push]
  by_cases h : xs.size = i
  · subst h; simp
  · have h' : ¬ i = xs.size := fun e => h e.symm
    simp [h, h']
/-- a store into a map that the call has just made -/
theorem run_put_new {P : Program} (w0 : World) {mty kt et : TypeId} {d : TypeDesc} {es : Array MapEntry} {clock n : Nat} {key val : Value} (hn : n = w0.heap.size)
    (hm : P.underlying mty = some (.map kt et)) (hd : P.underlying kt = some d) (hk : MapKept.IsKey d key) (hf : Instr.findNow d key es.toList 0 = some none) :
    (Instr.mapUpdate mty (.map (some n)) key val).run P (w0.alloc (.map es clock)) = .ok () (w0.alloc (.map (es.push { key := key, val := val, born := clock }) (clock + 1))) := by
  subst hn
  have hb := (MapKept.heap_alloc w0 (.map es clock)).1
  have hc := MapKept.run_checkKey (P := P) (w := w0.alloc (.map es clock)) hd hk false 9999
  have hfk := MapKept.run_findKey (P := P) (w := w0.alloc (.map es clock)) hd hf
  simp [Instr.mapUpdate, run_underlying hm, MapKept.run_getObj_map hb, hc, hfk, MapKept.run_setObj_map _ hb, Result.andThen]
  unfold World.alloc
  congr 1
  exact push_set w0.heap _ _
/-- a look-up that finds -/
theorem run_get_new {P : Program} (w0 : World) {mty kt et : TypeId} {d : TypeDesc} {es : Array MapEntry} {clock n i : Nat} {key v : Value} (hn : n = w0.heap.size)
    (hm : P.underlying mty = some (.map kt et)) (hd : P.underlying kt = some d) (hk : MapKept.IsKey d key) (hf : Instr.findNow d key es.toList 0 = some (some (i, v))) :
    (Instr.lookup mty (.map (some n)) key false).run P (w0.alloc (.map es clock)) = .ok v (w0.alloc (.map es clock)) := by
  subst hn
  have hb := (MapKept.heap_alloc w0 (.map es clock)).1
  have hc := MapKept.run_checkKey (P := P) (w := w0.alloc (.map es clock)) hd hk es.isEmpty 9999
  have hfk := MapKept.run_findKey (P := P) (w := w0.alloc (.map es clock)) hd hf
  simp [Instr.lookup, run_underlying hm, MapKept.run_getObj_map hb, hc, hfk, Result.andThen]
/-- a look-up that finds nothing -/
theorem run_get_none {P : Program} (w0 : World) {mty kt et : TypeId} {d : TypeDesc} {es : Array MapEntry} {clock n : Nat} {key z : Value} (hn : n = w0.heap.size)
    (hm : P.underlying mty = some (.map kt et)) (hd : P.underlying kt = some d) (hk : MapKept.IsKey d key) (hf : Instr.findNow d key es.toList 0 = some none)
    (hz : ∀ w, (zeroValue et).run P w = .ok z w) :
    (Instr.lookup mty (.map (some n)) key false).run P (w0.alloc (.map es clock)) = .ok z (w0.alloc (.map es clock)) := by
  subst hn
  have hb := (MapKept.heap_alloc w0 (.map es clock)).1
  have hc := MapKept.run_checkKey (P := P) (w := w0.alloc (.map es clock)) hd hk es.isEmpty 9999
  have hfk := MapKept.run_findKey (P := P) (w := w0.alloc (.map es clock)) hd hf
  simp [Instr.lookup, run_underlying hm, MapKept.run_getObj_map hb, hc, hfk, hz, Result.andThen]

theorem below_cells {W w1 : World} (hb : Below W.heap.size W w1) : (∀ b o, b < W.heap.size → w1.cell? ⟨b, o, none⟩ = W.cell? ⟨b, o, none⟩) ∧ (∀ b o, b < W.heap.size → w1.frozen? ⟨b, o, none⟩ = W.frozen? ⟨b, o, none⟩) :=
  ⟨fun b o h => hb.cell (p := ⟨b, o, none⟩) h, fun b o h => hb.frozen (p := ⟨b, o, none⟩) h⟩

end Go.Mq
