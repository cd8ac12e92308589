/- What was shown, opened: its lines. Conditions: none of its own. -/
import Derived.Test.YtlhjoclclbhjgaaDoorFrameW
import Derived.Test.YtlhjoclclbhjgaaDoorRowsP
import Derived.Deep.Slices
namespace Go.Mq
open Go.ChangeShapes Go.WideShapes Go.ChangeAt Go.RowKit
variable {H : Type} {enc : TypeId × Value → H} {P : Program}
theorem rows_at_w {w : World} {t e : TypeId} {held : Bool} {fuel : Nat} {v : Value} {x : DataW H × List MemPlace} (ht : P.underlying t = some (.slice e)) (hK : 0 < P.cellsOf e) (h : DataW.trod enc P w 0 (fun _ => true) held fuel t [v] = some x)
    (hall : ∀ k ∈ x.1.weights P t, k ≤ reachBytes) :
    ∃ a len cap, ∃ cs : Nat → List Value, v = .slice a len cap ∧ len ≤ cap ∧ cap ≤ maxLen ∧ len * P.bytesOf e ≤ reachBytes ∧ (0 < len → ∃ b off, a = some ⟨b, off, none⟩ ∧ b < w.heap.size ∧ ∀ i, i < len → (cs i).length = P.cellsOf e ∧ (∀ j, j < P.cellsOf e → w.cell? ⟨b, off + i * P.cellsOf e + j, none⟩ = (cs i)[j]?) ∧
      ∃ n y, DataW.trod enc P w 0 (fun _ => true) held n e (cs i) = some y) := by
  rcases Go.Deep.open_slice ht h with ⟨hcs, _⟩ | ⟨a, len, cap, m, n, D, Pl, hcs, _, hl, hm, hmm, hxx, hx⟩
  · simp at hcs
    subst hcs
    exact ⟨none, 0, 0, fun _ => [], rfl, Nat.le_refl _, by simp [maxLen], by simp, fun h0 => absurd h0 (Nat.lt_irrefl _)⟩
  · simp at hcs
    subst hcs
    have hlm : len ≤ m := by rw [hmm]; simp; exact hl
    have hwt : (len + (m - len)) * P.bytesOf e ≤ reachBytes := by
      refine hall _ ?_
      rw [hxx]
      show _ ∈ (DataW.slice ((List.range len).map D) ((List.range (m - len)).map fun j => D (len + j))).weights P t
      unfold DataW.weights
      rw [ht]
      simp
    obtain ⟨cs, hc⟩ := Go.Deep.choose_lt hx
    refine ⟨some a, len, cap, cs, rfl, hl, hm, Nat.le_trans (Nat.mul_le_mul_right _ (Nat.le_add_right _ _)) hwt, fun h0 => ?_⟩
    obtain ⟨b, off, sp⟩ := a
    obtain ⟨h1, h2⟩ := hc 0 (by omega)
    obtain ⟨_, hl0, hc0⟩ := World.cells?_some h1
    have hz := hc0 0 (by omega)
    obtain ⟨v0, hv0⟩ : ∃ v0, (cs 0)[0]? = some v0 := ⟨_, List.getElem?_eq_getElem (by omega)⟩
    rw [hv0] at hz
    have hsp := World.cell?_spot hz
    have hsp' : sp = none := by simpa [Addr.add] using hsp
    subst hsp'
    refine ⟨b, off, rfl, by have := World.block_lt_of_cell? _ _ hz; simpa [Addr.add_lit] using this, fun i hi => ?_⟩
    obtain ⟨k1, k2⟩ := hc i (by omega)
    obtain ⟨_, hli, hci⟩ := World.cells?_some k1
    refine ⟨hli, fun j hj => ?_, n, _, k2⟩
    have := hci j hj
    rw [Addr.add_lit, Addr.add_lit] at this
    exact this
theorem lines_at_w {w : World} {t e ti tb : TypeId} {held : Bool} {fuel : Nat} {v : Value} {x : DataW H × List MemPlace} (ht : P.underlying t = some (.slice e)) (hK : P.cellsOf e = 18) (hB : P.bytesOf e = 32) (hok : leavesOk P 4 e = true)
    (hlv : leaves P 4 e 0 = [(0, ti), (1, ti)] ++ (List.range 16).map (fun j => (2 + j, tb))) (hi : P.underlying ti = some (.int .i64)) (hb : P.underlying tb = some (.int .u8)) (ci : P.cellsOf ti = 1) (cb : P.cellsOf tb = 1)
    (h : DataW.trod enc P w 0 (fun _ => true) held fuel t [v] = some x) (hall : ∀ k ∈ x.1.weights P t, k ≤ reachBytes) : ∃ xs, LinesAt w v xs ∧ xs.length ≤ 4398046511104 := by
  obtain ⟨a, len, cap, cs, rfl, h1, h2, hn, h3⟩ := rows_at_w ht (by omega) h hall
  rw [hB] at hn
  unfold reachBytes at hn
  have hlen : len ≤ 4398046511104 := by omega
  by_cases h0 : 0 < len
  · obtain ⟨b, off, rfl, hbl, hc⟩ := h3 h0
    have hx : ∀ i, i < len → ∃ x : Ln, x.Ok ∧ (cs i)[0]? = some (.int .i64 x.fr) ∧ (cs i)[1]? = some (.int .i64 x.ln) ∧ ∀ j, j < 16 → (cs i)[2 + j]? = some (.int .u8 (x.px.getD j 0)) := fun i hil => by
      obtain ⟨k1, _, n, y, k3⟩ := hc i hil
      obtain ⟨m0, e0, w0⟩ := leaf_int (n := 4) (i := 0) (t' := ti) hok (by rw [hlv]; simp) hi ci k1 k3
      obtain ⟨m1, e1, w1⟩ := leaf_int (n := 4) (i := 1) (t' := ti) hok (by rw [hlv]; simp) hi ci k1 k3
      have hp : ∀ j, j < 16 → ∃ p, (cs i)[2 + j]? = some (.int .u8 p) ∧ U8 p := fun j hj => by
        obtain ⟨m, e, w⟩ := leaf_int (n := 4) (i := 2 + j) (t' := tb) hok (by
          rw [hlv]
          exact List.mem_append_right _ (List.mem_map.2 ⟨j, List.mem_range.2 hj, rfl⟩)) hb cb k1 k3
        exact ⟨m, e, bounds_u8 w⟩
      obtain ⟨p, hp⟩ := Go.Deep.choose_lt hp
      refine ⟨⟨m0, m1, (List.range 16).map p⟩, ⟨bounds_i64 w0, bounds_i64 w1, by simp, fun q hq => ?_⟩, e0, e1, fun j hj => ?_⟩
      · obtain ⟨j, hj, rfl⟩ := List.mem_map.1 hq
        exact (hp j (List.mem_range.1 hj)).2
      · rw [(hp j hj).1]
        show _ = some (Value.int .u8 (((List.range 16).map p).getD j 0))
        rw [List.getD_eq_getElem?_getD, List.getElem?_map, List.getElem?_range hj]
        rfl
    letI : Inhabited Ln := ⟨Ln0⟩
    obtain ⟨f, hf⟩ := Go.Deep.choose_lt hx
    have hg : ∀ i, i < len → ((List.range len).map f).getD i Ln0 = f i := fun i hil => by
      rw [List.getD_eq_getElem?_getD, List.getElem?_map, List.getElem?_range hil]; rfl
    have hl : ((List.range len).map f).length = len := by simp
    refine ⟨(List.range len).map f, ⟨some ⟨b, off, none⟩, cap, by rw [hl], by rw [hl]; exact h1, h2, fun x hx => ?_, fun _ => ⟨b, off, rfl, hbl, fun i hil => ?_⟩⟩, by rw [hl]; exact hlen⟩
    · obtain ⟨i, hi, rfl⟩ := List.mem_map.1 hx
      exact (hf i (List.mem_range.1 hi)).1
    · rw [hl] at hil
      rw [hg i hil]
      obtain ⟨_, f0, f1, f2⟩ := hf i hil
      obtain ⟨_, k2, _⟩ := hc i hil
      rw [hK] at k2
      exact ⟨(k2 0 (by omega)).trans f0, (k2 1 (by omega)).trans f1, fun j hj => (k2 (2 + j) (by omega)).trans (f2 j hj)⟩
  · have : len = 0 := by omega
    subst this
    exact ⟨[], ⟨a, cap, rfl, by simp, h2, by simp, fun h => absurd h (Nat.lt_irrefl _)⟩, by simp⟩
theorem shown_at {w : World} {t tl t2 t3 e ti tb : TypeId} {fs : Array Field} {r : Reach} {b0 : Nat} {held : Bool} {v : Value} {d : DataW H} {ps : List MemPlace} (hu : P.underlying t = some (.struct fs)) (hct : P.cellsOf t = 3) (hokt : leavesOk P 4 t = true) (hlt : leaves P 4 t 0 = [(0, tl), (1, t2), (2, t3)])
    (ht : P.underlying tl = some (.slice e)) (hcl : P.cellsOf tl = 1) (hK : P.cellsOf e = 18) (hB : P.bytesOf e = 32) (hok : leavesOk P 4 e = true)
    (hlv : leaves P 4 e 0 = [(0, ti), (1, ti)] ++ (List.range 16).map (fun j => (2 + j, tb))) (hi : P.underlying ti = some (.int .i64)) (hb : P.underlying tb = some (.int .u8)) (ci : P.cellsOf ti = 1) (cb : P.cellsOf tb = 1)
    (hval : Value.okWide P w r b0 t v) (hd : DataW.Trod enc P w 0 (fun _ => true) held t v d ps) (hall : ∀ k ∈ d.weights P t, k ≤ reachBytes) : ∃ a b c xs, v = .agg #[a, b, c] ∧ LinesAt w a xs ∧ xs.length ≤ 4398046511104 := by
  obtain ⟨cs, rfl, hl, fu, hf⟩ := open_row hu hval hd
  rw [hct] at hl
  obtain ⟨f', y, hy, hw⟩ := leaf_of_w cs.toList 4 t 0 fu (d, ps) hokt (by rw [List.drop_zero, hct, ← hl, List.take_length]; exact hf) (0, tl) (by rw [hlt]; simp)
  rw [hcl] at hy
  match hcs : cs.toList, hl with
  | [a, b, c], _ =>
    rw [hcs] at hy
    obtain ⟨xs, h1, h2⟩ := lines_at_w ht hK hB hok hlv hi hb ci cb (v := a) hy (fun k hk => hall k (hw k hk))
    refine ⟨a, b, c, xs, ?_, h1, h2⟩
    congr 1
    rw [← hcs]
end Go.Mq
