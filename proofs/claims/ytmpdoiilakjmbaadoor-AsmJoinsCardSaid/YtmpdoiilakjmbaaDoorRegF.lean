/- A region that draws its order, its loads taken first though what they read is written later in it: what a load needs is asked of those operations alone that needn't wait for it. Conditions: none of its own. -/
import Derived.Test.YtmpdoiilakjmbaaDoorBase
import Derived.Deep.RegionHeld3
namespace Go
section
variable {P : Program} {ops : Array Oper} {Q : Exit → Act → World → Prop} {md : Region.Mode} {F : Nat → World → Prop} {ls : List Nat}
/-- operation j needn't wait for k -/
def looseB (md : Region.Mode) (ops : Array Oper) (j k : Nat) : Bool :=
  match ops[j]? with
  | some oj => oj.after.toList.all (fun e => !(Region.binds md e && e.on == k))
  | none => true
/-- what is asked of a world behind operation j: those of ls leave the world alone -/
def Sat (md : Region.Mode) (ops : Array Oper) (F : Nat → World → Prop) (ls : List Nat) (j : Nat) (w w' : World) : Prop := (j ∈ ls → w' = w) ∧ (j ∉ ls → ∀ k ∈ ls, looseB md ops j k = true → F k w')
theorem Sat.none {j : Nat} (h : (!(ls.contains j) && ls.all (fun k => !looseB md ops j k)) = true) (w w' : World) : Sat md ops F ls j w w' := by
  simp only [Bool.and_eq_true, Bool.not_eq_true', List.contains_eq_mem, decide_eq_false_iff_not] at h
  refine ⟨fun hj => absurd hj h.1, fun _ k hk hl => ?_⟩
  have := List.all_eq_true.1 h.2 k hk
  rw [hl] at this
  cases this
theorem Sat.off {j : Nat} (fl : List Nat) (hF : ∀ k w, k ∉ fl → F k w) (h : (!(ls.contains j) && fl.all (fun k => !looseB md ops j k)) = true) (w w' : World) : Sat md ops F ls j w w' := by
  simp only [Bool.and_eq_true, Bool.not_eq_true', List.contains_eq_mem, decide_eq_false_iff_not] at h
  refine ⟨fun hj => absurd hj h.1, fun _ k hk hl => ?_⟩
  by_cases hkf : k ∈ fl
  · have := List.all_eq_true.1 h.2 k hkf
    rw [hl] at this
    cases this
  · exact hF k w' hkf
theorem Sat.all {j : Nat} {w w' : World} (hj : ls.contains j = false) (h : ∀ k, F k w') : Sat md ops F ls j w w' := by
  simp only [List.contains_eq_mem, decide_eq_false_iff_not] at hj
  exact ⟨fun h' => absurd h' hj, fun _ k _ _ => h k⟩
def wpAnyF (P : Program) (md : Region.Mode) (ops : Array Oper) (Q : Exit → Act → World → Prop) (F : Nat → World → Prop) (ls : List Nat) : Nat → Array Bool → Act → World → Prop
  | 0, listed, a, w => Region.ready md ops listed = [] ∧ Q .normal a w
  | fuel + 1, listed, a, w =>
    (Region.ready md ops listed = [] → Q .normal a w) ∧
    ∀ i ∈ Region.ready md ops listed, wpOp P ops Q i (fun a' w' => Sat md ops F ls i w w' ∧ wpAnyF P md ops Q F ls fuel (listed.setIfInBounds i true) a' w') a w
theorem wpAny_of_F : ∀ (fuel : Nat) (listed : Array Bool) (a : Act) (w : World), wpAnyF P md ops Q F ls fuel listed a w → wpAny P md ops Q fuel listed a w
  | 0, _, _, _, h => h
  | fuel + 1, _, _, _, h => ⟨h.1, fun i hi => wpOp_mono (fun a' w' h' => wpAny_of_F fuel _ a' w' h'.2) (h.2 i hi)⟩
theorem loose_of {j i : Nat} {oj : Oper} (hoj : ops[j]? = some oj) (h : ∀ e ∈ oj.after, Region.binds md e = true → e.on ≠ i) : looseB md ops j i = true := by
  unfold looseB
  rw [hoj]
  refine List.all_eq_true.2 fun e he => ?_
  cases hb : Region.binds md e with
  | false => rfl
  | true => simp [h e (by simpa using he) hb]
theorem wpAnyF_first {i : Nat} {oi : Oper} {v : Value} (hi : ops[i]? = some oi) (hsel : ∀ (j : Nat) (o : Oper) cs b, ops[j]? = some o → o.op ≠ .select cs b)
    (hil : i ∈ ls) (hQ : ∀ c a w, Q (.panic c) (a.put oi.dst v) w → Q (.panic c) a w) :
    ∀ (fuel : Nat) (listed : Array Bool) (a : Act) (w : World),
      (∀ j oj, ops[j]? = some oj → j ≠ i → listed.getD j true = false → (∀ e ∈ oj.after, Region.binds md e = true → e.on ≠ i) → oi.apart ops oj = true) →
      i ∈ Region.ready md ops listed → YieldsIf P ops (F i) oi v a → F i w →
      wpAnyF P md ops Q F ls fuel (listed.setIfInBounds i true) (a.put oi.dst v) w → wpAnyF P md ops Q F ls (fuel + 1) listed a w := by
  intro fuel
  induction fuel with
  | zero =>
    intro listed a w _ hr hy hS H
    refine ⟨fun h => (by rw [h] at hr; cases hr), fun j hj => ?_⟩
    by_cases hji : j = i
    · subst hji; exact hy.wpOp hi hS ⟨⟨fun _ => rfl, fun h => absurd hil h⟩, H⟩
    · have := ready_mono hj hji
      rw [H.1] at this
      cases this
  | succ fuel ih =>
    intro listed a w hfree hr hy hS H
    refine ⟨fun h => (by rw [h] at hr; cases hr), fun j hj => ?_⟩
    by_cases hji : j = i
    · subst hji; exact hy.wpOp hi hS ⟨⟨fun _ => rfl, fun h => absurd hil h⟩, H⟩
    · have h1 := H.2 j (ready_mono hj hji)
      obtain ⟨hjun, oj, hoj, hall⟩ := mem_ready.1 hj
      have hnot : ∀ e ∈ oj.after, Region.binds md e = true → e.on ≠ i := fun e he hb heq => by
        have h1 := hall e he hb
        have h0 := (mem_ready.1 hr).1
        rw [heq] at h1
        rcases Nat.lt_or_ge i listed.size with h' | h'
        · simp [h'] at h0 h1; rw [h0] at h1; cases h1
        · simp [Array.getElem?_eq_none h'] at h1
      have h2 := wpOp_putIf hoj (hfree j oj hoj hji hjun hnot) (fun cs b => hsel i oi cs b hi) (fun cs b => hsel j oj cs b hoj) hQ hy h1
      have hfree' : ∀ k ok, ops[k]? = some ok → k ≠ i → (listed.setIfInBounds j true).getD k true = false →
          (∀ e ∈ ok.after, Region.binds md e = true → e.on ≠ i) → oi.apart ops ok = true := fun k ok hk hki hun hno => by
        refine hfree k ok hk hki ?_ hno
        by_cases hjk : j = k
        · subst hjk; exact hjun
        · rw [getD_set_ne true hjk] at hun; exact hun
      refine wpOp_mono (fun a' w' h3 => ⟨h3.2.1, ih (listed.setIfInBounds j true) a' w' hfree' (ready_mono hr (Ne.symm hji)) h3.1 ?_ ?_⟩) h2
      · by_cases hjl : j ∈ ls
        · rw [h3.2.1.1 hjl]; exact hS
        · exact h3.2.1.2 hjl i hil (loose_of hoj hnot)
      · rw [Array.setIfInBounds_comm _ _ hji]
        exact h3.2.2
theorem wpAnyF_take {i : Nat} {oi : Oper} {v : Value} {fuel : Nat} {listed : Array Bool} {a : Act} {w : World} (hi : ops[i]? = some oi)
    (hs : Region.noSelect ops = true) (hf : Region.free md ops listed i = true) (hr : (Region.ready md ops listed).contains i = true) (hil : ls.contains i = true)
    (hQ : ∀ c a w, Q (.panic c) (a.put oi.dst v) w → Q (.panic c) a w) (hy : YieldsIf P ops (F i) oi v a) (hS : F i w)
    (h : wpAnyF P md ops Q F ls fuel (listed.setIfInBounds i true) (a.put oi.dst v) w) : wpAnyF P md ops Q F ls (fuel + 1) listed a w :=
  wpAnyF_first hi (Region.noSelect_spec hs) (by simpa using hil) hQ fuel listed a w (Region.free_spec hi hf) (by simpa using hr) hy hS h
theorem wpAnyF_done {listed : Array Bool} {a : Act} {w : World} (hr : Region.ready md ops listed = []) (h : Q .normal a w) : ∀ fuel, wpAnyF P md ops Q F ls fuel listed a w
  | 0 => ⟨hr, h⟩
  | _ + 1 => ⟨fun _ => h, by rw [hr]; simp⟩
def AllReadyF (P : Program) (md : Region.Mode) (ops : Array Oper) (Q : Exit → Act → World → Prop) (F : Nat → World → Prop) (ls : List Nat) (fuel : Nat) (listed : Array Bool) (a : Act) (w : World) (rs : List Nat) : Prop :=
  ∀ i ∈ rs, wpOp P ops Q i (fun a' w' => Sat md ops F ls i w w' ∧ wpAnyF P md ops Q F ls fuel (listed.setIfInBounds i true) a' w') a w
theorem AllReadyF.nil {fuel : Nat} {listed : Array Bool} {a : Act} {w : World} : AllReadyF P md ops Q F ls fuel listed a w [] := fun _ h => by cases h
theorem AllReadyF.cons {fuel : Nat} {listed : Array Bool} {a : Act} {w : World} {i : Nat} {o : Oper} {rs : List Nat} (ho : ops[i]? = some o)
    (h : ∀ K' : Act → World → Prop, Shut (∀ a w', Sat md ops F ls i w w' → wpAnyF P md ops Q F ls fuel (listed.setIfInBounds i true) a w' → K' a w') → if Region.wanted o (yielded ops a.tmps) = true then Oper.wp P o a w K' Q else K' (a.put o.dst undef) w)
    (hs : AllReadyF P md ops Q F ls fuel listed a w rs) : AllReadyF P md ops Q F ls fuel listed a w (i :: rs) := fun j hj => by
  rcases List.mem_cons.1 hj with rfl | hj
  · exact wpOp_step ho (fun K' hK => h K' (fun a w' hS hW => hK a w' ⟨hS, hW⟩))
  · exact hs j hj
theorem wpAnyF_ready {rs : List Nat} {fuel : Nat} {listed : Array Bool} {a : Act} {w : World} (hr : Region.ready md ops listed = rs) (hne : rs ≠ [])
    (h : AllReadyF P md ops Q F ls fuel listed a w rs) : wpAnyF P md ops Q F ls (fuel + 1) listed a w := ⟨fun h0 => absurd (hr ▸ h0) hne, hr ▸ h⟩
theorem wp_region_F {id : Nat} {a : Act} {w : World} (F : Nat → World → Prop) (ls : List Nat) (hm : P.follows .mixedOrders = true)
    (h : wpAnyF P .any ops Q F ls ops.size (Array.replicate ops.size false) a w.drew) : (Code.region id ops true).wp P Q a w :=
  wp_region_any hm (wpAny_of_F _ _ _ _ h)
end
end Go
