/- What is listed of programs is built as they are: whole. Conditions: none. -/
import Derived.Test.YtmpdoiilakjmbaaDoorAsmBk
namespace Go.Proofs.YtmpdoiilakjmbaaDoor
open Go Go.Mq
set_option linter.unusedVariables false
set_option linter.unusedSimpArgs false
set_option maxHeartbeats 1000000
set_option maxRecDepth 100000
structure Ck where
  t : List UInt8
  o : Od
  raw : Bool
  wd : Int
  xs : List Int
def Ck.it (c : Ck) (i : Int) : It := ⟨i, c.o, c.raw, []⟩
structure Ck.Ok (c : Ck) : Prop where
  no10 : (10 : UInt8) ∉ c.t
  line : ∀ b i, lineF b i c.t = putI b (c.it i) c.wd
  out : wB (if c.raw then [c.o.w % 65536] else if checkO c.o = 0 then wordsO c.o else []) = c.xs
  len : (c.xs.length : Int) = 2 * c.wd
  pos : 0 ≤ c.wd
def ckT (cs : List Ck) : List UInt8 := cs.flatMap fun c => c.t ++ [10]
def ckX (cs : List Ck) : List Int := cs.flatMap (·.xs)
theorem sep_cks : ∀ cs : List Ck, (∀ c ∈ cs, c.Ok) → sepBy 10 (ckT cs) = cs.map (·.t) ++ [[]]
  | [], _ => rfl
  | c :: r, h => by
    unfold ckT
    rw [List.flatMap_cons, List.append_assoc, List.cons_append, List.nil_append, sepBy_hit 10 _ _ (h c (by simp)).no10]
    have := sep_cks r (fun c hc => h c (by simp [hc]))
    unfold ckT at this
    rw [this]
    rfl
theorem count_cks : ∀ cs : List Ck, (∀ c ∈ cs, c.Ok) → (ckT cs).count 10 = cs.length
  | [], _ => rfl
  | c :: r, h => by
    unfold ckT
    rw [List.flatMap_cons, List.append_assoc, List.count_append, List.count_eq_zero.2 (h c (by simp)).no10, List.cons_append, List.nil_append, List.count_cons_self]
    have := count_cks r (fun c hc => h c (by simp [hc]))
    unfold ckT at this
    rw [this, List.length_cons]
    omega
def itsK : Nat → List Ck → List It
  | _, [] => []
  | i, c :: r => c.it i :: itsK (i + 1) r
theorem lines_cks : ∀ (cs : List Ck) (i : Nat) (b : Bd), (∀ c ∈ cs, c.Ok) → b.sz + (ckX cs).length ≤ 1024 → ∃ b', linesGo i (cs.map (·.t) ++ [[]]) b = .inr b' ∧ b'.its = b.its ++ itsK i cs ∧ b'.nms = b.nms
  | [], i, b, h, hz => ⟨b, by rw [List.map_nil, List.nil_append, linesGo, if_pos rfl], by simp [itsK], rfl⟩
  | c :: r, i, b, h, hz => by
    have hc := h c (by simp)
    obtain ⟨u, q, hu⟩ : ∃ u q, r.map (·.t) ++ [[]] = u :: q := by
      cases hq : r.map (·.t) ++ [[]] with
      | nil => simp at hq
      | cons u q => exact ⟨u, q, rfl⟩
    have hlen : (ckX (c :: r)).length = c.xs.length + (ckX r).length := by unfold ckX; rw [List.flatMap_cons, List.length_append]
    have hl := hc.len
    rw [hlen] at hz
    have hp : putI b (c.it i) c.wd = (0, ⟨b.its ++ [c.it i], b.nms, b.sz + 2 * c.wd⟩) := by
      unfold putI
      rw [if_neg (by omega)]
    obtain ⟨b', h1, h2, h3⟩ := lines_cks r (i + 1) ⟨b.its ++ [c.it i], b.nms, b.sz + 2 * c.wd⟩ (fun c hc => h c (by simp [hc])) (by simp only; omega)
    refine ⟨b', ?_, ?_, h3⟩
    · rw [List.map_cons, List.cons_append, hu, linesGo, hc.line, hp, if_neg (by simp), ← hu]
      exact h1
    · rw [h2]
      simp [itsK]
theorem rom_cks : ∀ (cs : List Ck) (i : Nat) (names : List (List UInt8 × Int)) (rom : List Int), (∀ c ∈ cs, c.Ok) → romGo names (itsK i cs) rom = .inr (rom ++ ckX cs)
  | [], i, names, rom, _ => by simp [itsK, romGo, ckX]
  | c :: r, i, names, rom, h => by
    have hc := h c (by simp)
    have e : itemW names (c.it i) = some c.o.w := by unfold itemW Ck.it; rw [if_pos rfl]
    have e2 : wB (itemX (c.it i) c.o.w) = c.xs := by
      rw [← hc.out]
      unfold itemX Ck.it
      rfl
    rw [itsK, romGo, e]
    simp only
    rw [e2, rom_cks r (i + 1) names _ (fun c hc => h c (by simp [hc]))]
    unfold ckX
    rw [List.flatMap_cons, List.append_assoc]
theorem build_cks (cs : List Ck) (h : ∀ c ∈ cs, c.Ok) (h1 : (ckT cs).length ≤ 4000) (h2 : (ckT cs).count 10 ≤ 300) (h3 : (ckX cs).length ≤ 1024) : buildF (ckT cs) = (ckX cs, 0, 0) := by
  have hs := sep_cks cs h
  rw [count_cks cs h] at h2
  unfold buildF
  rw [if_neg (by omega)]
  by_cases h0 : ckT cs = []
  · rw [if_pos h0]
    cases cs with
    | nil => rfl
    | cons c r =>
      unfold ckT at h0
      rw [List.flatMap_cons] at h0
      simp at h0
  · obtain ⟨b', e1, e2, e3⟩ := lines_cks cs 0 ⟨[], [], 0⟩ h (by simp only; omega)
    rw [if_neg h0, hs, if_neg (by simp; omega)]
    have e1' : linesGo 0 (cs.map (·.t) ++ [[]]) ⟨[], [], 0⟩ = .inr b' := e1
    rw [e1']
    simp only
    rw [e2, e3, List.nil_append, rom_cks cs 0 [] [] h]
    rfl
/-! ### What is listed -/
theorem pair_bytes (xs : List Int) (k : Nat) (hu : ∀ x ∈ xs, U8 x) (hk : k + 1 < xs.length) : wB [pairW xs k] = (xs.drop k).take 2 ∧ 0 ≤ pairW xs k ∧ pairW xs k ≤ 65535 := by
  have h1 := hu _ (List.getElem_mem (l := xs) (n := k) (by omega))
  have h2 := hu _ (List.getElem_mem (l := xs) (n := k + 1) hk)
  have e1 : xs.getD k 0 = xs[k] := by rw [List.getD_eq_getElem?_getD, List.getElem?_eq_getElem (by omega)]; rfl
  have e2 : xs.getD (k + 1) 0 = xs[k + 1] := by rw [List.getD_eq_getElem?_getD, List.getElem?_eq_getElem hk]; rfl
  have hp : pairW xs k = xs[k] * 256 + xs[k + 1] := by unfold pairW; rw [if_pos hk, e1, e2]
  unfold U8 at h1 h2
  refine ⟨?_, by omega, by omega⟩
  rw [List.drop_eq_getElem_cons (by omega), List.drop_eq_getElem_cons hk, hp]
  unfold wB
  simp only [List.flatMap_cons, List.flatMap_nil, List.append_nil, List.take_succ_cons, List.take_zero]
  rw [show (xs[k] * 256 + xs[k + 1]) / 256 = xs[k] from by omega, show (xs[k] * 256 + xs[k + 1]) % 256 = xs[k + 1] from by omega]
theorem take_two (xs : List Int) (k : Nat) (h : k + 3 < xs.length) : (xs.drop k).take 4 = (xs.drop k).take 2 ++ (xs.drop (k + 2)).take 2 := by
  rw [show (4 : Nat) = 2 + 2 from rfl, List.take_add, List.drop_drop]
theorem text_no10 (o : Od) (h : checkO o = 0) : (10 : UInt8) ∉ textO o := fun hm => by
  obtain ⟨⟨b0, b1, b2⟩, -, -, -, -, -⟩ := right_in o h
  have hl := nm_let o.op.toNat (by omega)
  unfold textO at hm
  rcases List.mem_append.1 hm with hm | hm
  · exact (hl _ hm).2.1 rfl
  · split at hm
    · simp at hm
    · rcases List.mem_cons.1 hm with hm | hm
      · revert hm; decide
      · exact join_let (fun c => c ≠ 10) (by decide) (by decide) _ (fun t htm c hc => by
          obtain ⟨q, -, rfl⟩ := List.mem_map.1 htm
          exact (fmt_let o q c hc).2.2.1) _ hm rfl
theorem hasW_read (a b : Int) : hasW (readO a b).op = hasW (a / 2048) := by
  unfold readO
  simp only
  split
  · next h => rw [h]; rfl
  · rfl
theorem lst_cks (xs : List Int) (hu : ∀ x ∈ xs, U8 x) (he : xs.length % 2 = 0) : ∀ (f k : Nat), k % 2 = 0 → xs.length ≤ f + k → ∃ cs : List Ck, (∀ c ∈ cs, c.Ok) ∧ lst f xs k = ckT cs ∧ xs.drop k = ckX cs
  | 0, k, hk, hf => ⟨[], by simp, rfl, by rw [List.drop_eq_nil_of_le (by omega)]; rfl⟩
  | f + 1, k, hk, hf => by
    by_cases hn : k < xs.length
    · obtain ⟨p1, p2, p3⟩ := pair_bytes xs k hu (by omega)
      have hkk : k + 1 < xs.length := by omega
      rw [lst_step f xs k hn]
      by_cases ha : asOrder xs k = true
      · rw [if_pos ha]
        unfold asOrder at ha
        rw [Bool.and_eq_true, beq_iff_eq, decide_eq_true_eq] at ha
        obtain ⟨ha1, ha2⟩ := ha
        have hck := read_right (pairW xs k) (pairW xs (k + 2)) (pairW_u hu k) (pairW_u hu (k + 2))
        have hw := hasW_read (pairW xs k) (pairW xs (k + 2))
        obtain ⟨n, hnn⟩ : ∃ n : Nat, (readL (pairW xs k)).toNat = n := ⟨_, rfl⟩
        obtain ⟨cs, h1, h2, h3⟩ := lst_cks xs hu he f (k + 2 * n) (by omega) (by have := readL_two (pairW xs k); omega)
        have hout : wB (wordsO (readO (pairW xs k) (pairW xs (k + 2)))) = (xs.drop k).take (2 * n) ∧ (xs.drop k).take (2 * n) ++ xs.drop (k + 2 * n) = xs.drop k ∧ ((xs.drop k).take (2 * n)).length = 2 * n ∧ (n : Int) = (if hasW (readO (pairW xs k) (pairW xs (k + 2))).op then 2 else 1) := by
          refine ⟨?_, ?_, ?_, ?_⟩
          · unfold wordsO
            rw [hw, ha1]
            unfold readL at hnn ha2
            cases hh : hasW (pairW xs k / 2048) with
            | false =>
              rw [hh] at hnn
              simp only [Bool.false_eq_true, if_false] at hnn ⊢
              rw [p1, ← hnn]
              rfl
            | true =>
              rw [hh] at hnn ha2
              simp only [if_true] at hnn ha2 ⊢
              have hw2 : (readO (pairW xs k) (pairW xs (k + 2))).w = pairW xs (k + 2) := by unfold readO; simp only; rw [if_pos hh]
              obtain ⟨q1, -, -⟩ := pair_bytes xs (k + 2) hu (by omega)
              rw [hw2, show [pairW xs k, pairW xs (k + 2)] = [pairW xs k] ++ [pairW xs (k + 2)] from rfl]
              have hsplit : wB ([pairW xs k] ++ [pairW xs (k + 2)]) = wB [pairW xs k] ++ wB [pairW xs (k + 2)] := by unfold wB; rw [List.flatMap_append]
              rw [hsplit, p1, q1, ← hnn, show 2 * (2 : Int).toNat = 4 from rfl, take_two xs k (by omega)]
          · rw [← List.drop_drop, List.take_append_drop]
          · rw [List.length_take, List.length_drop]; have := readL_two (pairW xs k); omega
          · rw [hw]
            unfold readL at hnn
            split at hnn <;> rename_i hh <;> simp [hh] <;> omega
        obtain ⟨o1, o2, o3, o4⟩ := hout
        refine ⟨⟨textO (readO (pairW xs k) (pairW xs (k + 2))), readO (pairW xs k) (pairW xs (k + 2)), false, n, (xs.drop k).take (2 * n)⟩ :: cs, ?_, ?_, ?_⟩
        · intro c hc
          rcases List.mem_cons.1 hc with rfl | hc
          · exact ⟨text_no10 _ hck, fun b i => by rw [line_ord b i _ hck, o4]; rfl, by simp only [Bool.false_eq_true, if_false]; rw [if_pos hck, o1], by simp only; rw [o3]; omega, by simp only; omega⟩
          · exact h1 c hc
        · rw [hnn, h2]
          unfold ckT
          rw [List.flatMap_cons]
        · unfold ckX
          rw [List.flatMap_cons]
          unfold ckX at h3
          rw [← h3]
          exact o2.symm
      · rw [if_neg ha]
        obtain ⟨cs, h1, h2, h3⟩ := lst_cks xs hu he f (k + 2) (by omega) (by omega)
        have hwt : wrdT (pairW xs k) = ([46, 119, 111, 114, 100, 32] ++ Lib.itoa (pairW xs k)) ++ [10] := by unfold wrdT; rfl
        refine ⟨⟨[46, 119, 111, 114, 100, 32] ++ Lib.itoa (pairW xs k), ⟨0, 0, 0, 0, pairW xs k⟩, true, 1, (xs.drop k).take 2⟩ :: cs, ?_, ?_, ?_⟩
        · intro c hc
          rcases List.mem_cons.1 hc with rfl | hc
          · refine ⟨fun hm => ?_, fun b i => line_wrd b i _ p2 p3, ?_, ?_, by simp⟩
            · rcases List.mem_append.1 hm with hm | hm
              · revert hm; decide
              · rcases it_ok _ _ hm with h | h
                · revert h; decide
                · revert h; decide
            · simp only [if_true]
              rw [Int.emod_eq_of_lt p2 (by omega), p1]
            · simp only
              rw [List.length_take, List.length_drop]; omega
          · exact h1 c hc
        · rw [h2, hwt]
          unfold ckT
          rw [List.flatMap_cons]
        · unfold ckX
          rw [List.flatMap_cons]
          unfold ckX at h3
          rw [← h3, ← List.drop_drop, List.take_append_drop]
    · exact ⟨[], by simp, by rw [lst_end _ _ _ hn]; rfl, by rw [List.drop_eq_nil_of_le (by omega)]; rfl⟩
theorem list_cks (xs : List Int) (hu : ∀ x ∈ xs, U8 x) (he : xs.length % 2 = 0) : ∃ cs : List Ck, (∀ c ∈ cs, c.Ok) ∧ listF xs = ckT cs ∧ xs = ckX cs := by
  obtain ⟨cs, h1, h2, h3⟩ := lst_cks xs hu he xs.length 0 rfl (by omega)
  exact ⟨cs, h1, h2, h3⟩
theorem back_one (xs : List Int) (hu : ∀ x ∈ xs, U8 x) (he : xs.length % 2 = 0) (h1 : (listF xs).length ≤ 4000) (h2 : (listF xs).count 10 ≤ 300) (h3 : xs.length ≤ 1024) : buildF (listF xs) = (xs, 0, 0) := by
  obtain ⟨cs, ok, e1, e2⟩ := list_cks xs hu he
  rw [e1] at h1 h2 ⊢
  rw [build_cks cs ok h1 h2 (by rw [← e2]; exact h3), ← e2]
theorem back_two (xs ys : List Int) (hu : ∀ x ∈ xs, U8 x) (he : xs.length % 2 = 0) (hv : ∀ x ∈ ys, U8 x) (hf : ys.length % 2 = 0) (h1 : (listF xs ++ listF ys).length ≤ 4000) (h2 : (listF xs ++ listF ys).count 10 ≤ 300) (h3 : (xs ++ ys).length ≤ 1024) : buildF (listF xs ++ listF ys) = (xs ++ ys, 0, 0) := by
  obtain ⟨cs, ok, e1, e2⟩ := list_cks xs hu he
  obtain ⟨ds, ok2, e3, e4⟩ := list_cks ys hv hf
  have et : listF xs ++ listF ys = ckT (cs ++ ds) := by unfold ckT at e1 e3 ⊢; rw [e1, e3, List.flatMap_append]
  have ex : xs ++ ys = ckX (cs ++ ds) := by unfold ckX at e2 e4 ⊢; rw [List.flatMap_append, ← e2, ← e4]
  rw [et] at h1 h2 ⊢
  rw [ex] at h3 ⊢
  exact build_cks _ (fun c hc => by rcases List.mem_append.1 hc with h | h; exact ok c h; exact ok2 c h) h1 h2 h3
end Go.Proofs.YtmpdoiilakjmbaaDoor
