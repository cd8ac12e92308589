/- What a struct's leaf weighs, within the struct. Conditions: none of its own. -/
import Derived.Test.YtlhjoclclbhjgaaDoorFrame
import Derived.SizedLaws
namespace Go.Mq
open Go.ChangeShapes Go.WideShapes Go.ChangeAt Go.RowKit
variable {H : Type} {enc : TypeId × Value → H} {P : Program}
theorem weights_all {e : TypeId} : ∀ {ds : List (DataW H)} {j : Nat} {d : DataW H}, ds[j]? = some d → ∀ n ∈ d.weights P e, n ∈ DataW.weightsAll P e ds
  | d0 :: ds, 0, d, hd, n, hn => by
    simp only [List.getElem?_cons_zero, Option.some.injEq] at hd
    subst hd
    simp only [DataW.weightsAll, List.mem_append]
    exact Or.inl hn
  | d0 :: ds, j + 1, d, hd, n, hn => by
    simp only [List.getElem?_cons_succ] at hd
    simp only [DataW.weightsAll, List.mem_append]
    exact Or.inr (weights_all hd n hn)
  | [], _, _, hd, _, _ => by simp at hd
theorem leaf_of_w {w : World} {base : Nat} {spare : Nat → Bool} {held : Bool} (cs : List Value) :
    ∀ (n : Nat) (t : TypeId) (off : Nat) (fuel : Nat) (x : DataW H × List MemPlace), leavesOk P n t = true → DataW.trod enc P w base spare held fuel t ((cs.drop off).take (P.cellsOf t)) = some x →
      ∀ q ∈ leaves P n t off, ∃ fuel' y, DataW.trod enc P w base spare held fuel' q.2 ((cs.drop q.1).take (P.cellsOf q.2)) = some y ∧ ∀ k ∈ y.1.weights P q.2, k ∈ x.1.weights P t := by
  intro n
  induction n with
  | zero =>
    intro t off fuel x _ h q hq
    simp only [leaves, List.mem_singleton] at hq
    subst hq
    exact ⟨fuel, x, h, fun k hk => hk⟩
  | succ n ih =>
    intro t off fuel x hok h q hq
    unfold leaves at hq
    unfold leavesOk at hok
    cases hu : P.underlying t with
    | none => rw [hu] at hq; simp only [List.mem_singleton] at hq; subst hq; exact ⟨fuel, x, h, fun k hk => hk⟩
    | some d =>
      rw [hu] at hq hok
      have plain : q ∈ [(off, t)] → ∃ fuel' y, DataW.trod enc P w base spare held fuel' q.2 ((cs.drop q.1).take (P.cellsOf q.2)) = some y ∧ ∀ k ∈ y.1.weights P q.2, k ∈ x.1.weights P t := by
        intro hq
        simp only [List.mem_singleton] at hq
        subst hq
        exact ⟨fuel, x, h, fun k hk => hk⟩
      cases d with
      | struct fs =>
        simp only [List.mem_flatMap] at hq
        obtain ⟨f, hf, hq⟩ := hq
        obtain ⟨i, hi⟩ := List.getElem?_of_mem hf
        have hall := List.all_eq_true.1 hok f hf
        simp only [Bool.and_eq_true, decide_eq_true_eq] at hall
        obtain ⟨xs, m, _, rfl, _, hlen, hfs⟩ := DataW.trod_struct hu h
        have hi' : fs[i]? = some f := by simpa using hi
        have h2 := hfs i f hi'
        rw [drop_take_drop _ _ _ _ _ hall.1] at h2
        have hlt : i < xs.length := by
          rw [hlen]
          have := List.getElem?_eq_some_iff.1 hi
          simpa using this.1
        rw [List.getElem?_eq_getElem hlt] at h2
        obtain ⟨fu, y, hy, hw⟩ := ih f.type _ m _ hall.2 h2 q hq
        refine ⟨fu, y, hy, fun k hk => ?_⟩
        show k ∈ (DataW.agg (xs.map (·.1))).weights P t
        unfold DataW.weights
        rw [hu]
        refine DataW.weights_mem_each (j := i) (t := f.type) (d := (xs[i]'hlt).1) ?_ ?_ k (hw k hk)
        · rw [List.getElem?_map, hi]; rfl
        · rw [List.getElem?_map, List.getElem?_eq_getElem hlt]; rfl
      | array k e =>
        simp only [List.mem_flatMap, List.mem_range] at hq
        obtain ⟨i, hi, hq⟩ := hq
        simp only [Bool.and_eq_true, decide_eq_true_eq] at hok
        obtain ⟨xs, m, _, rfl, _, hlen, hfs⟩ := DataW.trod_array hu h
        have h2 := hfs i hi
        have hle : i * P.cellsOf e + P.cellsOf e ≤ P.cellsOf t := by
          have : (i + 1) * P.cellsOf e ≤ k * P.cellsOf e := Nat.mul_le_mul_right _ hi
          rw [Nat.succ_mul] at this
          omega
        rw [drop_take_drop _ _ _ _ _ hle] at h2
        have hlt : i < xs.length := by omega
        rw [List.getElem?_eq_getElem hlt] at h2
        obtain ⟨fu, y, hy, hw⟩ := ih e _ m _ hok.2 h2 q hq
        refine ⟨fu, y, hy, fun z hz => ?_⟩
        show z ∈ (DataW.agg (xs.map (·.1))).weights P t
        unfold DataW.weights
        rw [hu]
        refine weights_all (j := i) (d := (xs[i]'hlt).1) ?_ z (hw z hz)
        rw [List.getElem?_map, List.getElem?_eq_getElem hlt]; rfl
      | _ => exact plain hq
end Go.Mq
