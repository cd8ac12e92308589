/- What is listed of a program is built as it: plain. Conditions: none. -/
import Derived.Test.YtmpdoiilakjmbaaDoorAsmLst
import Derived.Test.YtmpdoiilakjmbaaDoorBackPure
import Derived.Lib.CountLaws
import Derived.Lib.SplitLaws
namespace Go.Proofs.YtmpdoiilakjmbaaDoor
open Go Go.Mq
set_option linter.unusedVariables false
set_option linter.unusedSimpArgs false
set_option maxHeartbeats 1000000
set_option maxRecDepth 100000
/-! ### A text cut at each ", " -/
theorem idx2_miss : ∀ a : List UInt8, (44 : UInt8) ∉ a → Lib.index a [44, 32] = -1
  | [], _ => rfl
  | x :: t, h => by
    have h1 : ¬ (44 : UInt8) = x := fun e => h (by simp [e])
    have h2 : (44 : UInt8) ∉ t := fun e => h (by simp [e])
    rw [Lib.index, idx2_miss t h2]
    simp [List.isPrefixOf, h1]
theorem idx2_hit : ∀ (a r : List UInt8), (44 : UInt8) ∉ a → Lib.index (a ++ 44 :: 32 :: r) [44, 32] = a.length
  | [], r, _ => by rw [List.nil_append, Lib.index]; simp [List.isPrefixOf]
  | x :: t, r, h => by
    have h1 : ¬ (44 : UInt8) = x := fun e => h (by simp [e])
    have h2 : (44 : UInt8) ∉ t := fun e => h (by simp [e])
    rw [List.cons_append, Lib.index, idx2_hit t r h2]
    have e : ((t.length : Int) == -1) = false := by simp
    simp [List.isPrefixOf, h1, e]
theorem join_two (x y : List UInt8) (r : List (List UInt8)) : Lib.join (x :: y :: r) [44, 32] = x ++ 44 :: 32 :: Lib.join (y :: r) [44, 32] := by
  rw [Lib.join_cons, Lib.join_cons]
  simp [Lib.joinTail]
theorem split_join2 : ∀ (ls : List (List UInt8)) (x : List UInt8), (∀ t ∈ x :: ls, (44 : UInt8) ∉ t) → Lib.splitK [44, 32] 0 (Lib.count (Lib.join (x :: ls) [44, 32]) [44, 32]) (Lib.join (x :: ls) [44, 32]) = x :: ls
  | [], x, h => by
    rw [Lib.join_one, Lib.count_miss (idx2_miss x (h x (by simp))), Lib.splitK]
  | y :: r, x, h => by
    have hi := idx2_hit x (Lib.join (y :: r) [44, 32]) (h x (by simp))
    have ih := split_join2 r y (fun t ht => h t (by simp only [List.mem_cons] at ht ⊢; exact .inr ht))
    have hd : (x ++ 44 :: 32 :: Lib.join (y :: r) [44, 32]).drop (x.length + 2) = Lib.join (y :: r) [44, 32] := by
      rw [show x ++ 44 :: 32 :: Lib.join (y :: r) [44, 32] = (x ++ [44, 32]) ++ Lib.join (y :: r) [44, 32] by simp]
      exact List.drop_left' (by simp)
    rw [join_two, Lib.count_hit (by simp) hi, show ([44, 32] : List UInt8).length = 2 from rfl, hd, Nat.add_comm 1, Lib.splitK, hi]
    have e : ((x.length : Int) == -1) = false := by simp
    rw [if_neg (by rw [e]; simp), Int.toNat_natCast, show ([44, 32] : List UInt8).length = 2 from rfl, hd, ih]
    simp
/-! ### Numbers -/
theorem it_ok (v : Int) : ∀ c ∈ Lib.itoa v, c = 45 ∨ (48 ≤ c.toNat ∧ c.toNat ≤ 57) := by
  intro c hc
  unfold Lib.itoa at hc
  split at hc
  · rcases List.mem_cons.1 hc with h | h
    · exact .inl h
    · exact .inr (dec_digits _ c h)
  · exact .inr (dec_digits _ c hc)
theorem it_ne (v : Int) : Lib.itoa v ≠ [] := by
  unfold Lib.itoa
  split
  · simp
  · exact dec_ne _
theorem whole_it (v : Int) (h1 : -16 ≤ v) (h2 : v ≤ 65535) : wholeZ (Lib.itoa v) = some v := by
  by_cases h : 0 ≤ v
  · exact whole_itoa v h (by omega)
  · have : ∀ n : Nat, n < 17 → wholeZ (Lib.itoa (-(n : Int))) = some (-(n : Int)) := by decide +kernel
    have h3 := this v.natAbs (by omega)
    rw [show (-(v.natAbs : Int)) = v from by omega] at h3
    exact h3
theorem reg_it (v : Int) (h1 : 0 ≤ v) (h2 : v ≤ 7) : regF (114 :: Lib.itoa v) = some v := by
  have : ∀ n : Nat, n < 8 → regF (114 :: Lib.itoa (n : Int)) = some (n : Int) := by decide +kernel
  have h3 := this v.toNat (by omega)
  rw [show (v.toNat : Int) = v from by omega] at h3
  exact h3
theorem nm_it (v : Int) (h1 : 0 ≤ v) : isNm (Lib.itoa v) = false := by
  have hc := it_ok v
  have hn := it_ne v
  rw [itoa_nat v h1] at hc hn ⊢
  have hd := dec_digits v.toNat
  cases hl : Lib.decDigits v.toNat with
  | nil => exact absurd hl hn
  | cons c r =>
    rw [hl] at hd
    have h := hd c (by simp)
    have e : nmB 0 c = false := by
      unfold nmB
      have e1 : ¬ 97 ≤ c.toNat := by omega
      have e2 : ¬ c.toNat = 95 := by omega
      have e3 : (c.toNat == 95) = false := by simpa using e2
      simp only [e1, e3, decide_false, Bool.false_and, Bool.false_or, Nat.lt_irrefl]
    unfold isNm
    simp [nmsB, e]
/-! ### An order's text -/
theorem op_nm : ∀ k : Nat, k < 32 → k ≠ 30 → opF (shmL.getD k []) = some k := by decide +kernel
theorem nm_wd : ∀ k : Nat, k < 32 → k ≠ 30 → shmL.getD k [] ≠ [46, 119, 111, 114, 100] ∧ shmL.getD k [] ≠ [] := by decide +kernel
theorem nm_let : ∀ k : Nat, k < 32 → ∀ c ∈ shmL.getD k [], c ≠ 32 ∧ c ≠ 10 ∧ c ≠ 58 := by decide +kernel
theorem prt_has : ∀ k : Nat, k < 32 → ((prtL k).length = if hasD k then (if hasS k then 2 else 1) + (if hasN k then 1 else 0) + (if hasW k then 1 else 0) else (if hasS k then 1 else 0) + (if hasN k then 1 else 0) + (if hasW k then 1 else 0)) := by decide +kernel
theorem fmt_let (o : Od) (c : UInt8) : ∀ x ∈ fmtO o c, x ≠ 44 ∧ x ≠ 32 ∧ x ≠ 10 ∧ x ≠ 58 := by
  intro x hx
  have hi := it_ok (valO o c)
  have hx' : x = 114 ∨ x ∈ Lib.itoa (valO o c) := by
    unfold fmtO at hx
    split at hx
    · rcases List.mem_cons.1 hx with h | h
      · exact .inl h
      · exact .inr h
    · exact .inr hx
  rcases hx' with rfl | h
  · decide
  · rcases hi x h with rfl | h
    · decide
    · refine ⟨?_, ?_, ?_, ?_⟩ <;> (rintro rfl; revert h; decide)
theorem fmt_ne (o : Od) (c : UInt8) : fmtO o c ≠ [] := by
  unfold fmtO
  split
  · simp
  · exact it_ne _
theorem join_let (p : UInt8 → Prop) (h44 : p 44) (h32 : p 32) : ∀ (ls : List (List UInt8)), (∀ t ∈ ls, ∀ c ∈ t, p c) → ∀ c ∈ Lib.join ls [44, 32], p c
  | [], _ => fun c hc => by rw [Lib.join_nil] at hc; simp at hc
  | [x], h => fun c hc => by rw [Lib.join_one] at hc; exact h x (by simp) c hc
  | x :: y :: r, h => fun c hc => by
    rw [join_two] at hc
    rcases List.mem_append.1 hc with hc | hc
    · exact h x (by simp) c hc
    · rcases List.mem_cons.1 hc with rfl | hc
      · exact h44
      · rcases List.mem_cons.1 hc with rfl | hc
        · exact h32
        · exact join_let p h44 h32 (y :: r) (fun t ht => h t (by simp only [List.mem_cons] at ht ⊢; exact .inr ht)) c hc
theorem fill_back (o : Od) (h : checkO o = 0) : fillA ⟨⟨o.op.toNat, 0, 0, 0, 0⟩, []⟩ (prtL o.op.toNat) ((prtL o.op.toNat).map (fmtO o)) = some ⟨o, []⟩ := by
  obtain ⟨⟨b0, b1, b2⟩, ⟨d0, d1⟩, ⟨s0, s1⟩, ⟨n0, n1⟩, ⟨w0, w1⟩, hp⟩ := right_in o h
  have ek : ((o.op.toNat : Nat) : Int) = o.op := by omega
  have rd := reg_it o.d d0 d1
  have rs := reg_it o.s s0 s1
  have wn := whole_it o.n n0 (by omega)
  have ww := whole_it o.w (by omega) w1
  have nw := nm_it o.w w0
  obtain ⟨op, d, s, n, v⟩ := o
  simp only at *
  unfold partsO partV at hp
  simp only [Bool.and_eq_true] at hp
  obtain ⟨⟨⟨p1, p2⟩, p3⟩, p4⟩ := hp
  unfold prtL
  rw [ek]
  cases hD : hasD op <;> rw [hD] at p1 <;> cases hS : hasS op <;> rw [hS] at p2 <;> cases hN : hasN op <;> rw [hN] at p3 <;> cases hW : hasW op <;> rw [hW] at p4 <;> simp at p1 p2 p3 p4 <;>
    simp [fillA, fill1, fmtO, valO, rd, rs, wn, ww, nw] <;> simp_all
theorem line_ord (b : Bd) (i : Int) (o : Od) (h : checkO o = 0) : lineF b i (textO o) = putI b ⟨i, o, false, []⟩ (if hasW o.op then 2 else 1) := by
  have FB := fill_back o h
  obtain ⟨⟨b0, b1, b2⟩, -, -, -, -, -⟩ := right_in o h
  obtain ⟨K, hK⟩ : ∃ K : Nat, o.op = K := ⟨o.op.toNat, by omega⟩
  have hk : K < 32 := by omega
  have h30 : K ≠ 30 := by omega
  rw [hK, Int.toNat_natCast] at FB
  have hnm : (namO o.op).data.toList = shmL.getD K [] := by unfold namO; rw [hK, Int.toNat_natCast]
  have hl := nm_let K hk
  obtain ⟨w1, w2⟩ := nm_wd K hk h30
  have hop := op_nm K hk h30
  have ht : textO o = shmL.getD K [] ++ if prtL K = [] then [] else 32 :: Lib.join ((prtL K).map (fmtO o)) [44, 32] := by
    unfold textO
    rw [hnm, hK, Int.toNat_natCast]
  have hjl : ∀ c ∈ Lib.join ((prtL K).map (fmtO o)) [44, 32], c ≠ 58 := join_let (fun c => c ≠ 58) (by decide) (by decide) _ (fun t htm c hc => by
    obtain ⟨q, -, rfl⟩ := List.mem_map.1 htm
    exact (fmt_let o q c hc).2.2.2)
  have h58 : ¬ (textO o).getLast? = some 58 := fun e => by
    have hm := List.mem_of_getLast? e
    rw [ht] at hm
    rcases List.mem_append.1 hm with hm | hm
    · exact (hl _ hm).2.2 rfl
    · split at hm
      · simp at hm
      · rcases List.mem_cons.1 hm with hm | hm
        · revert hm; decide
        · exact hjl _ hm rfl
  have hw : (if hasW o.op then (2 : Int) else 1) = if hasW (K : Int) then 2 else 1 := by rw [hK]
  unfold lineF
  rw [if_neg h58, hw]
  by_cases hp : prtL K = []
  · rw [ht, if_pos hp, List.append_nil, cut_miss 32 _ (fun hm => (hl _ hm).1 rfl)]
    rw [hp] at FB
    simp only [List.map_nil] at FB
    simp only [argsF, if_true]
    unfold ordF
    rw [if_neg w1, hop]
    simp only
    unfold orderF
    rw [hp, FB]
    simp [h]
  · obtain ⟨p, pr, hpp⟩ : ∃ p pr, prtL K = p :: pr := by
      cases hq : prtL K with
      | nil => exact absurd hq hp
      | cons p pr => exact ⟨p, pr, rfl⟩
    have hne : Lib.join ((prtL K).map (fmtO o)) [44, 32] ≠ [] := fun e => by
      rw [hpp, List.map_cons, Lib.join_cons] at e
      exact fmt_ne o p (List.append_eq_nil_iff.1 e).1
    rw [ht, if_neg hp, cut_hit 32 _ _ (fun hm => (hl _ hm).1 rfl)]
    simp only
    have ha : argsF (Lib.join ((prtL K).map (fmtO o)) [44, 32]) = (prtL K).map (fmtO o) := by
      unfold argsF
      rw [if_neg hne, hpp, List.map_cons]
      exact split_join2 _ _ (fun t htm hc => by
        rw [← List.map_cons] at htm
        obtain ⟨q, -, rfl⟩ := List.mem_map.1 htm
        exact (fmt_let o q _ hc).1 rfl)
    rw [ha]
    unfold ordF
    rw [if_neg w1, hop]
    simp only
    unfold orderF
    rw [if_neg (by simp), FB]
    simp [h]
theorem line_wrd (b : Bd) (i : Int) (a : Int) (h0 : 0 ≤ a) (h1 : a ≤ 65535) : lineF b i ([46, 119, 111, 114, 100, 32] ++ Lib.itoa a) = putI b ⟨i, ⟨0, 0, 0, 0, a⟩, true, []⟩ 1 := by
  have hi := it_ok a
  have hn := it_ne a
  have h58 : ¬ ([46, 119, 111, 114, 100, 32] ++ Lib.itoa a : List UInt8).getLast? = some 58 := fun e => by
    have hm := List.mem_of_getLast? e
    rcases List.mem_append.1 hm with hm | hm
    · revert hm; decide
    · rcases hi _ hm with h | h
      · revert h; decide
      · revert h; decide
  unfold lineF
  rw [if_neg h58, show ([46, 119, 111, 114, 100, 32] ++ Lib.itoa a : List UInt8) = [46, 119, 111, 114, 100] ++ 32 :: Lib.itoa a from rfl, cut_hit 32 _ _ (by decide)]
  have ha : argsF (Lib.itoa a) = [Lib.itoa a] := by
    unfold argsF
    rw [if_neg hn]
    have := split_join2 [] (Lib.itoa a) (fun t ht hc => by
      rw [List.mem_singleton] at ht
      subst ht
      rcases hi _ hc with h | h
      · revert h; decide
      · revert h; decide)
    rw [Lib.join_one] at this
    exact this
  simp only
  rw [ha]
  unfold ordF
  rw [if_pos rfl]
  unfold wordF
  simp only
  rw [nm_it a h0, whole_it a (by omega) h1]
  simp only [Bool.false_eq_true, if_false]
  rw [if_neg (by omega)]
end Go.Proofs.YtmpdoiilakjmbaaDoor
