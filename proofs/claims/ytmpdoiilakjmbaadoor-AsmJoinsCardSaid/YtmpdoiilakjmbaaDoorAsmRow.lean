/- The assembler's items and names while a program grows. Conditions: none. -/
import Derived.Test.YtmpdoiilakjmbaaDoorAsmLnB
import Derived.Test.YtmpdoiilakjmbaaDoorRowsP
import Derived.Test.YtmpdoiilakjmbaaDoorBldrW
namespace Go.Proofs.YtmpdoiilakjmbaaDoor
open Go.RowKit Go.Mq
set_option linter.unusedVariables false
set_option linter.unusedSimpArgs false
set_option maxHeartbeats 1000000
theorem own_type {w : World} {b1 b2 s1 s2 n1 n2 : Nat} {e1 e2 : TypeId} {v1 v2 : Value} {xs1 xs2 : List Value} (h1 : w.ownsRow b1 e1 s1 v1 n1 xs1) (h2 : w.ownsRow b2 e2 s2 v2 n2 xs2) (he : e1 ≠ e2) : ∀ r, v1.ownBlock = some r → v2.ownBlock ≠ some r := by
  intro r hr hr2
  rcases h1.2 with ⟨rfl, _⟩ | ⟨q, cap, cur, rfl, _, hq, _⟩
  · simp [Value.ownBlock] at hr
  · rcases h2.2 with ⟨rfl, _⟩ | ⟨q2, cap2, cur2, rfl, _, hq2, _⟩
    · simp [Value.ownBlock] at hr2
    · have a1 : q = r := by simpa [Value.ownBlock] using hr
      have a2 : q2 = r := by simpa [Value.ownBlock] using hr2
      subst a1
      subst a2
      rw [hq] at hq2
      injection hq2 with hq2
      injection hq2 with _ hq2
      exact he hq2
theorem own_same {w w' : World} {b s n : Nat} {e : TypeId} {v : Value} {xs : List Value} (h : w.ownsRow b e s v n xs) (hk : ∀ r, v.ownBlock = some r → w'.heap[r]? = w.heap[r]?) : w'.ownsRow b e s v n xs := by
  refine ⟨h.1, ?_⟩
  rcases h.2 with hn | ⟨g, cap, cur, rfl, hbg, hgg, rest⟩
  · exact .inl hn
  · exact .inr ⟨g, cap, cur, rfl, hbg, by rw [hk g rfl]; exact hgg, rest⟩
theorem blk_type {w : World} {p b s n : Nat} {e t : TypeId} {cs : Array Value} {v : Value} {xs : List Value} (h : Blk w p cs t) (ho : w.ownsRow b e s v n xs) (he : t ≠ e) : some p ≠ v.ownBlock := by
  intro hr
  rcases ho.2 with ⟨rfl, _⟩ | ⟨q, cap, cur, rfl, _, hq, _⟩
  · simp [Value.ownBlock] at hr
  · have a1 : p = q := by simpa [Value.ownBlock] using hr
    subst a1
    unfold Blk at h
    rw [h] at hq
    injection hq with hq
    injection hq with _ hq
    exact he hq
/-- what reading a program's items needs -/
structure Keep (w : World) (g gm : Nat) (v : Value) (b : Bd) : Prop where
  bd : Blk w g #[v, .map (some gm), .int .i64 b.sz] 75
  its : w.ownsRow (g + 1) 78 8 v b.its.length (itsC b.its)
  nms : MapAt w gm b.nms
theorem Keep.below {w w' : World} {g gm : Nat} {v : Value} {b : Bd} (h : Keep w g gm v b) (hb : Below w.heap.size w w') : Keep w' g gm v b :=
  ⟨h.bd.below hb, own_below h.its hb, by
    obtain ⟨es, c, h3, he⟩ := h.nms
    exact ⟨es, c, by rw [hb.block gm (Array.getElem?_eq_some_iff.1 h3).1]; exact h3, he⟩⟩
theorem Keep.grown {w w' : World} {g gm b2 n : Nat} {v rv : Value} {b : Bd} {xs : List Value} (h : Keep w g gm v b) (hg : w.grownBy w' rv.ownBlock) (ho : w.ownsRow b2 5 1 rv n xs) : Keep w' g gm v b := by
  refine ⟨?_, own_same h.its (fun r hr => hg.block r ?_ (fun e => own_type h.its ho (by decide) r hr e.symm)), ?_⟩
  · unfold Blk
    rw [hg.block g h.bd.lt (blk_type h.bd ho (by decide))]
    exact h.bd
  · exact (h.its.lt r hr).2
  · obtain ⟨es, c, h3, he⟩ := h.nms
    refine ⟨es, c, ?_, he⟩
    rw [hg.block gm (Array.getElem?_eq_some_iff.1 h3).1 (fun e => ?_)]
    · exact h3
    · rcases ho.2 with ⟨rfl, _⟩ | ⟨q, cap, cur, rfl, _, hq, _⟩
      · simp [Value.ownBlock] at e
      · have a1 : gm = q := by simpa [Value.ownBlock] using e
        subst a1
        rw [h3] at hq
        cases hq
theorem Keep.drew {w : World} {g gm : Nat} {v : Value} {b : Bd} (h : Keep w g gm v b) : Keep w.drew g gm v b := h.below (Below.refl _ _).drew
theorem Keep.setN {w : World} {g gm r m c p o : Nat} {x : Value} {b : Bd} (h : Keep w g gm (.slice (some ⟨r, 0, none⟩) m c) b) (h1 : g ≠ p) (h2 : gm ≠ p) (h3 : r ≠ p) : Keep (w.setCell ⟨p, o, none⟩ x) g gm (.slice (some ⟨r, 0, none⟩) m c) b :=
  ⟨h.bd.setAt h1, own_setAt h.its (fun q hq => by
    have : r = q := by simpa [Value.ownBlock] using hq
    subst this
    exact h3), by
    obtain ⟨es, c, h4, he⟩ := h.nms
    exact ⟨es, c, by rw [Below.heap_setCell _ _ _ _ (show gm ≠ p from h2)]; exact h4, he⟩⟩
theorem itsC_at : ∀ (l : List It) (i j : Nat) (h : i < l.length), j < 8 → (itsC l)[i * 8 + j]? = (itC l[i])[j]?
  | [], i, j, h, _ => absurd h (Nat.not_lt_zero _)
  | x :: t, 0, j, _, hj => by
    show (itC x ++ itsC t)[0 * 8 + j]? = (itC x)[j]?
    rw [List.getElem?_append_left (by simp [itC]; omega)]
    simp
  | x :: t, i + 1, j, h, hj => by
    have hi : i < t.length := by simpa using h
    show (itC x ++ itsC t)[(i + 1) * 8 + j]? = (itC (t[i]'hi))[j]?
    rw [List.getElem?_append_right (by simp [itC]; omega), ← itsC_at t i j hi hj]
    congr 1
    simp [itC]
    omega
theorem Keep.item {w : World} {g gm : Nat} {v : Value} {b : Bd} (h : Keep w g gm v b) {k : Nat} (hk : k < b.its.length) : ∃ r c, v = .slice (some ⟨r, 0, none⟩) b.its.length c ∧ r < w.heap.size ∧ ∀ j u, (itC b.its[k]).toArray.toList[j]? = some u → w.cell? ((⟨r, k * 8, none⟩ : Addr).add j) = some u := by
  obtain ⟨ao, cp, rfl⟩ := own_shape h.its
  rcases h.its.2 with ⟨hv, hn⟩ | ⟨r, cap, cur, hv, hbg, hgg, _⟩
  · omega
  · injection hv with h1 h2 h3
    subst h1
    refine ⟨r, cp, rfl, (Array.getElem?_eq_some_iff.1 hgg).1, fun j u hu => ?_⟩
    have hj : j < 8 := by
      have := (List.getElem?_eq_some_iff.1 hu).1
      simpa [itC] using this
    have hc := h.its.cells (g := r) rfl (k * 8 + j) u ((itsC_at _ k j hk hj).trans (by simpa using hu))
    have e : (⟨r, k * 8, none⟩ : Addr).add j = (⟨r, 0, none⟩ : Addr).add (k * 8 + j) := by
      rw [Addr.add_lit]
      unfold Addr.add
      split <;> simp_all
    rw [e]
    exact hc
theorem infoB8 : (Tryd.prog.info? 5).map (fun i => (i.zero, i.size, i.bytes)) = some (some (.int .u8 0), 1, 1) := by kernel_rfl
theorem words_u16 (o : Od) (h : checkO o = 0) : ∀ x ∈ wordsO o, U16 x := fun x hx => by
  obtain ⟨⟨b0, b1, b2⟩, ⟨d0, d1⟩, ⟨s0, s1⟩, ⟨n0, n1⟩, ⟨w0, w1⟩, _⟩ := right_in o h
  unfold wordsO wordO at hx
  unfold U16
  split at hx
  · simp at hx
    rcases hx with rfl | rfl <;> omega
  · simp at hx
    subst hx
    omega
theorem words_two (o : Od) : (wordsO o).length ≤ 2 := by unfold wordsO; split <;> simp
theorem wB_snoc (l : List Int) (x : Int) : wB (l ++ [x]) = wB l ++ [x / 256, x % 256] := by simp [wB]
theorem wB_take (l : List Int) (k : Nat) (hk : k < l.length) : wB (l.take (k + 1)) = wB (l.take k) ++ [l[k] / 256, l[k] % 256] := by
  rw [List.take_succ_eq_append_getElem hk, wB_snoc]
theorem wB_len (l : List Int) : (wB l).length = 2 * l.length := by
  induction l with
  | nil => rfl
  | cons x t ih => simp only [wB, List.flatMap_cons, List.length_append, List.length_cons, List.length_nil] at ih ⊢; omega
theorem wB_u8 (l : List Int) (h : ∀ x ∈ l, U16 x) : ∀ x ∈ wB l, U8 x := fun x hx => by
  unfold wB at hx
  rw [List.mem_flatMap] at hx
  obtain ⟨y, hy, hx⟩ := hx
  have := h y hy
  unfold U16 at this
  simp at hx
  unfold U8
  rcases hx with rfl | rfl <;> omega
theorem u8_wf (x : Int) (h : U8 x) : (Lit.int .u8 x).wf = true := by
  unfold U8 at h
  simp only [Lit.wf, Bool.and_eq_true, decide_eq_true_eq]
  exact ⟨h.1, h.2⟩
theorem it_one (x : It) : (itC x).toArray.all (·.oneCell') = true := by simp [itC, Value.oneCell']
end Go.Proofs.YtmpdoiilakjmbaaDoor
