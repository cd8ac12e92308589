/- The assembler's builder in memory; an item put behind its items. Conditions: at most a thousand items. -/
import Derived.Test.YtmpdoiilakjmbaaDoorAsmNm
import Derived.Test.YtmpdoiilakjmbaaDoorRegF
import Derived.Test.YtmpdoiilakjmbaaDoorOwnB
import Derived.Deep.RegionLawGrows
namespace Go.Proofs.YtmpdoiilakjmbaaDoor
open Go.RowKit Go.Mq
set_option linter.unusedVariables false
set_option linter.unusedSimpArgs false
set_option maxHeartbeats 1000000
set_option maxRecDepth 100000
def itC (x : It) : List Value := [.int .i64 x.ln, .int .i64 x.o.op, .int .i64 x.o.d, .int .i64 x.o.s, .int .i64 x.o.n, .int .i64 x.o.w, .bool x.raw, .string ⟨x.nm.toArray⟩]
def itsC (l : List It) : List Value := l.flatMap itC
theorem itsC_snoc (l : List It) (x : It) : itsC (l ++ [x]) = itsC l ++ itC x := by simp [itsC]
/-- a map of names to numbers -/
def MapAt (w : World) (g : Nat) (l : List (List UInt8 × Int)) : Prop := ∃ es c, w.heap[g]? = some (.map es c) ∧ es.toList.map (fun e => (e.key, e.val)) = l.map (fun e => (Value.string ⟨e.1.toArray⟩, Value.int .i64 e.2))
theorem MapAt.lt {w : World} {g : Nat} {l : List (List UInt8 × Int)} (h : MapAt w g l) : g < w.heap.size := by
  obtain ⟨es, c, h, _⟩ := h
  exact (Array.getElem?_eq_some_iff.1 h).1
structure BdAt (w : World) (g gm base : Nat) (b : Bd) : Prop where
  ex : ∃ v, Blk w g #[v, .map (some gm), .int .i64 b.sz] 75 ∧ w.ownsRow base 78 8 v b.its.length (itsC b.its)
  names : MapAt w gm b.nms
  size : 0 ≤ b.sz ∧ b.sz ≤ 1024
  many : b.its.length * 2 ≤ b.sz
theorem BdAt.below {w w' : World} {g gm base : Nat} {b : Bd} (h : BdAt w g gm base b) (hb : Below w.heap.size w w') : BdAt w' g gm base b := by
  obtain ⟨⟨v, h1, h2⟩, h3, h4, h5⟩ := h
  refine ⟨⟨v, h1.below hb, own_below h2 hb⟩, ?_, h4, h5⟩
  obtain ⟨es, c, h, he⟩ := h3
  exact ⟨es, c, by rw [hb.block gm (Array.getElem?_eq_some_iff.1 h).1]; exact h, he⟩
theorem infoIt : (Tryd.prog.info? 78).map (fun i => (i.zero, i.size, i.bytes)) = some (some (.agg #[.int .i64 0, .int .i64 0, .int .i64 0, .int .i64 0, .int .i64 0, .int .i64 0, .bool false, .string ⟨#[]⟩]), 8, 72) := by kernel_rfl
def PutEnd (g gm base : Nat) (b : Bd) (it : It) (k : Int) (n : Nat) (X : World) (e : Ending) (w' : World) : Prop :=
  (if (putI b it k).1 = 0 then e = .returned (.tuple #[]) ∧ BdAt w' g gm base (putI b it k).2 else e = stopE (putI b it k).1) ∧ Below gm X w' ∧ ∀ i, n ≤ i → i < X.heap.size → w'.heap[i]? = X.heap[i]?
theorem it_cells (W : World) (x : It) (t : TypeId) (n : Nat) (hn : n = W.heap.size) : ∀ j u, (itC x)[j]? = some u → (W.alloc (.cells (itC x).toArray t)).cell? ((⟨n, 0, none⟩ : Addr).add j) = some u := by
  intro j u hj
  subst hn
  have h := (Blk.new W (itC x).toArray t).cell j
  have e : (⟨W.heap.size, 0, none⟩ : Addr).add j = ⟨W.heap.size, j, none⟩ := by rw [show (⟨W.heap.size, 0, none⟩ : Addr).add j = ⟨W.heap.size, 0 + j, none⟩ by unfold Addr.add; split <;> simp_all]; simp
  rw [e, h, List.getElem?_toArray]
  exact hj
theorem put_any (g gm base : Nat) (hg : gm < g) (hb : g < base) (b : Bd) (it : It) (k : Int) (hk1 : 1 ≤ k) (hk2 : k ≤ 2) (n : Nat) (w : World) (hB : BdAt w g gm base b) (hn : ∀ v r, Blk w g #[v, .map (some gm), .int .i64 b.sz] 75 → v.ownBlock = some r → r < n) (hgn : g < n) (hnw : n ≤ w.heap.size) (hbw : base ≤ w.heap.size) :
    Calls Tryd.prog 61 #[.pointer (some ⟨g, 0, none⟩), .agg (itC it).toArray, .int .i64 k] w (PutEnd g gm base b it k n w) := by
  obtain ⟨⟨v, h1, h2⟩, h3, h4, h5⟩ := hB
  have F := Lib.hid fail_any
  have HN := Lib.hid (hn v · h1)
  obtain ⟨cl, cc, cf⟩ := h1.use
  have B1 := Lib.hid h1
  have B2 := Lib.hid h2
  have B3 := Lib.hid h3
  have B5 := Lib.hid h5
  have h4a := h4.1
  have h4b := h4.2
  have hs63 : 0 ≤ 2 * k := by omega
  unfold itC
  clear h1 h3 h5 hn h2 h4
  by_cases hs : 1024 < b.sz + 2 * k
  · have HE : Hid ((putI b it k).1 = 2) := Lib.hid (by unfold putI; rw [if_pos hs])
    obtain ⟨z, hz⟩ : ∃ z, z = b.sz := ⟨_, rfl⟩
    rw [← hz] at hs cc h4a h4b
    clear hz
    go_enter Tryd.func61, Tryd.ntmps61
    go_wp2_with fail
    refine (F.out _ _).mono ?_
    rintro e w' ⟨rfl, rfl⟩
    refine ⟨rfl, ?_, Below.alloc (Below.refl _ _) (by omega) _, fun i h1 h2 => (MapKept.heap_alloc w _).2 i h2⟩
    rw [HE.out, if_neg (by decide)]
    rfl
  · have HE : Hid ((putI b it k).1 = 0 ∧ (putI b it k).2 = ⟨b.its ++ [it], b.nms, b.sz + 2 * k⟩) := Lib.hid (by unfold putI; rw [if_neg hs]; exact ⟨rfl, rfl⟩)
    have HM := Lib.hid (by have := B5.out; omega : (b.its.length + 1) * 2 ≤ b.sz + 2 * k ∧ b.its.length ≤ 600)
    obtain ⟨z, hz⟩ : ∃ z, z = b.sz := ⟨_, rfl⟩
    have B1' := B1.out
    rw [← hz] at hs cc h4a h4b B1'
    replace B1' := Lib.hid B1'
    obtain ⟨ao, cp, rfl⟩ := own_shape B2.out
    replace hz := Lib.hid hz
    clear B1
    obtain ⟨i0, hi, hz0, hz1, hz2⟩ := info_parts infoIt
    have HI := Lib.hid (And.intro hi (And.intro hz0 (And.intro hz1 hz2)))
    clear hi hz0 hz1 hz2
    go_enter Tryd.func61, Tryd.ntmps61
    go_wp2_with fail
    have K0 : Hid (Blk (w.alloc (.cells #[.int .i64 it.ln, .int .i64 it.o.op, .int .i64 it.o.d, .int .i64 it.o.s, .int .i64 it.o.n, .int .i64 it.o.w, .bool it.raw, .string ⟨it.nm.toArray⟩] 78)) w.heap.size #[.int .i64 it.ln, .int .i64 it.o.op, .int .i64 it.o.d, .int .i64 it.o.s, .int .i64 it.o.n, .int .i64 it.o.w, .bool it.raw, .string ⟨it.nm.toArray⟩] 78) := Lib.hid (Blk.new _ _ _)
    have G0 := Lib.hid (B1'.out.alloc (.cells #[.int .i64 it.ln, .int .i64 it.o.op, .int .i64 it.o.d, .int .i64 it.o.s, .int .i64 it.o.n, .int .i64 it.o.w, .bool it.raw, .string ⟨it.nm.toArray⟩] 78))
    refine wp_region_F (fun k W => (k = 4 → W.cell? ⟨g, 0, none⟩ = some (.slice ao b.its.length cp)) ∧ (k = 5 → Blk W (w.heap.size) #[.int .i64 it.ln, .int .i64 it.o.op, .int .i64 it.o.d, .int .i64 it.o.s, .int .i64 it.o.n, .int .i64 it.o.w, .bool it.raw, .string ⟨it.nm.toArray⟩] 78)) [0, 1, 2, 3, 4, 5, 8, 9] (by kernel_rfl) ?_
    refine wpAnyF_take (i := 0) (v := ?v0_1) rfl (by kernel_rfl) (by kernel_rfl) (by kernel_rfl) (by kernel_rfl) (fun _ _ _ h => h) (Or.inl ⟨by rfl, ?y0_1⟩) ⟨(fun h => absurd h (by decide)), (fun h => absurd h (by decide))⟩ ?_
    case y0_1 => (intro w hF; clear hF; go_simp; try with_reducible rfl)
    try simp only [List.getElem_toArray, List.getElem_cons_succ, List.getElem_cons_zero, Act.put, List.setIfInBounds_toArray, List.set_cons_zero, List.set_cons_succ]
    refine wpAnyF_take (i := 1) (v := ?v1_1) rfl (by kernel_rfl) (by kernel_rfl) (by kernel_rfl) (by kernel_rfl) (fun _ _ _ h => h) (Or.inl ⟨by rfl, ?y1_1⟩) ⟨(fun h => absurd h (by decide)), (fun h => absurd h (by decide))⟩ ?_
    case y1_1 => (intro w hF; clear hF; go_simp; try with_reducible rfl)
    try simp only [List.getElem_toArray, List.getElem_cons_succ, List.getElem_cons_zero, Act.put, List.setIfInBounds_toArray, List.set_cons_zero, List.set_cons_succ]
    refine wpAnyF_take (i := 2) (v := ?v2_1) rfl (by kernel_rfl) (by kernel_rfl) (by kernel_rfl) (by kernel_rfl) (fun _ _ _ h => h) (Or.inl ⟨by rfl, ?y2_1⟩) ⟨(fun h => absurd h (by decide)), (fun h => absurd h (by decide))⟩ ?_
    case y2_1 => (intro w hF; clear hF; go_simp; try with_reducible rfl)
    try simp only [List.getElem_toArray, List.getElem_cons_succ, List.getElem_cons_zero, Act.put, List.setIfInBounds_toArray, List.set_cons_zero, List.set_cons_succ]
    refine wpAnyF_take (i := 3) (v := ?v3_1) rfl (by kernel_rfl) (by kernel_rfl) (by kernel_rfl) (by kernel_rfl) (fun _ _ _ h => h) (Or.inl ⟨by rfl, ?y3_1⟩) ⟨(fun h => absurd h (by decide)), (fun h => absurd h (by decide))⟩ ?_
    case y3_1 => (intro w hF; clear hF; go_simp; try with_reducible rfl)
    try simp only [List.getElem_toArray, List.getElem_cons_succ, List.getElem_cons_zero, Act.put, List.setIfInBounds_toArray, List.set_cons_zero, List.set_cons_succ]
    refine wpAnyF_take (i := 4) (v := ?v4_1) rfl (by kernel_rfl) (by kernel_rfl) (by kernel_rfl) (by kernel_rfl) (fun _ _ _ h => h) (Or.inl ⟨by rfl, ?y4_1⟩) ⟨(fun _ => (G0.out.drew.cell 0)), (fun h => absurd h (by decide))⟩ ?_
    case y4_1 => (intro w hF; have hF2 := hF.1 rfl; clear hF; go_simp; try with_reducible rfl)
    try simp only [List.getElem_toArray, List.getElem_cons_succ, List.getElem_cons_zero, Act.put, List.setIfInBounds_toArray, List.set_cons_zero, List.set_cons_succ]
    refine wpAnyF_take (i := 5) rfl (by kernel_rfl) (by kernel_rfl) (by kernel_rfl) (by kernel_rfl) (fun _ _ _ h => h) (yields_loadA (by rfl) 78 (.tmp 4) rfl (w.heap.size) 0 8 rfl 78 (#[.int .i64 it.ln, .int .i64 it.o.op, .int .i64 it.o.d, .int .i64 it.o.s, .int .i64 it.o.n, .int .i64 it.o.w, .bool it.raw, .string ⟨it.nm.toArray⟩]) (#[.int .i64 it.ln, .int .i64 it.o.op, .int .i64 it.o.d, .int .i64 it.o.s, .int .i64 it.o.n, .int .i64 it.o.w, .bool it.raw, .string ⟨it.nm.toArray⟩]) (fun W hF => hF.2 rfl) _ Tryd.underlying78 rfl (by kernel_rfl) rfl rfl) ⟨(fun h => absurd h (by decide)), (fun _ => K0.out.drew)⟩ ?_
    try simp only [List.getElem_toArray, List.getElem_cons_succ, List.getElem_cons_zero, Act.put, List.setIfInBounds_toArray, List.set_cons_zero, List.set_cons_succ]
    refine wpAnyF_ready (rs := [6]) (by kernel_rfl) (by simp) (AllReadyF.cons rfl (fun K hK => ?_) AllReadyF.nil)
    go_simp
    refine hK.out _ _ (Sat.all (by kernel_rfl) (fun k => ⟨(fun _ => ((G0.out.drew.alloc _).cell 0)), (fun _ => (K0.out.drew.alloc _))⟩)) ?_
    clear hK K
    try simp only [List.getElem_toArray, List.getElem_cons_succ, List.getElem_cons_zero, Act.put, List.setIfInBounds_toArray, List.set_cons_zero, List.set_cons_succ]
    have N0 : Hid (some g ≠ (Value.slice ao b.its.length cp).ownBlock) := Lib.hid (fun h => by obtain ⟨q1, q2⟩ := B2.out.lt g h.symm; omega)
    have N1 : Hid (some gm ≠ (Value.slice ao b.its.length cp).ownBlock) := Lib.hid (fun h => by obtain ⟨q1, q2⟩ := B2.out.lt gm h.symm; omega)
    have N2 : Hid (some w.heap.size ≠ (Value.slice ao b.its.length cp).ownBlock) := Lib.hid (fun h => by obtain ⟨q1, q2⟩ := B2.out.lt _ h.symm; omega)
    refine wpAnyF_ready (rs := [7]) (by kernel_rfl) (by simp) (AllReadyF.cons rfl (fun K hK => ?_) AllReadyF.nil)
    rw [if_pos (by rfl)]
    refine wp_append_own _ (.tmp 19) (.tmp 21) 73 rfl base 78 i0 (.agg #[.int .i64 0, .int .i64 0, .int .i64 0, .int .i64 0, .int .i64 0, .int .i64 0, .bool false, .string ⟨#[]⟩]) 8 72 Tryd.underlying73 HI.out.1 HI.out.2.1 HI.out.2.2.1 HI.out.2.2.2 rfl (by decide) _ _ _ rfl (World.ownsRow.alloc (World.ownsRow.drew (World.ownsRow.alloc B2.out _)) _) ⟨w.heap.size + 1, 0, none⟩ 1 1 (itC it) rfl rfl ?c1 ?c2 ?c3 ?c4 ?c5 ?c6
    case c1 => exact it_cells _ it _ _ (by simp)
    case c2 => intro u hu; simp [itC] at hu; rcases hu with rfl | rfl | rfl | rfl | rfl | rfl | rfl | rfl <;> rfl
    case c3 => unfold maxLen; have := HM.out.2; omega
    case c4 => have := HM.out.2; omega
    case c5 => simp; omega
    intro v' w5 hown hgrow _
    obtain ⟨a', q', ev'⟩ := own_shape hown
    subst ev'
    have sz5 : w.heap.size + 2 ≤ w5.heap.size := by have := hgrow.size; simpa using this
    have G5 : Hid (Blk w5 g #[.slice ao b.its.length cp, .map (some gm), .int .i64 z] 75) := Lib.hid (by
      unfold Blk
      rw [hgrow.block g (by simp; omega) (fun e => N0.out e)]
      exact (G0.out.drew.alloc _))
    have T5 : Hid (Blk w5 w.heap.size #[.int .i64 it.ln, .int .i64 it.o.op, .int .i64 it.o.d, .int .i64 it.o.s, .int .i64 it.o.n, .int .i64 it.o.w, .bool it.raw, .string ⟨it.nm.toArray⟩] 78) := Lib.hid (by
      unfold Blk
      rw [hgrow.block w.heap.size (by simp; omega) (fun e => N2.out e)]
      exact (K0.out.drew.alloc _))
    have R5 : Hid (∀ i, i < w.heap.size → some i ≠ (Value.slice ao b.its.length cp).ownBlock → w5.heap[i]? = w.heap[i]?) := Lib.hid (fun i h1 h2 => by
      rw [hgrow.block i (by simp; omega) h2]
      show ((w.alloc _).alloc _).heap[i]? = _
      rw [(MapKept.heap_alloc _ _).2 i (by simp; omega)]
      exact (MapKept.heap_alloc w _).2 i h1)
    have H5 : Hid (Below gm w w5) := Lib.hid (below_grown (base := base) (by first | exact ((((Below.refl gm w).alloc (by omega) _).drew).alloc (by simp; omega) _)) (by simp; omega) hgrow (World.ownsRow.alloc (World.ownsRow.drew (World.ownsRow.alloc B2.out _)) _) (by omega))
    have O5 := Lib.hid hown
    have f5 := G5.out.free
    have l5 : g < w5.heap.size := G5.out.lt
    have c50 : w5.cell? ⟨g, 0, none⟩ = some (.slice ao b.its.length cp) := G5.out.cell 0
    refine hK.out _ _ (Sat.all (by kernel_rfl) (fun k => ⟨(fun _ => G5.out.cell 0), (fun _ => T5.out)⟩)) ?_
    clear hK K hown hgrow
    try simp only [List.getElem_toArray, List.getElem_cons_succ, List.getElem_cons_zero, Act.put, List.setIfInBounds_toArray, List.set_cons_zero, List.set_cons_succ]
    refine wpAnyF_take (i := 8) (v := ?v8_2) rfl (by kernel_rfl) (by kernel_rfl) (by kernel_rfl) (by kernel_rfl) (fun _ _ _ h => h) (Or.inl ⟨by rfl, ?y8_2⟩) ⟨(fun h => absurd h (by decide)), (fun h => absurd h (by decide))⟩ ?_
    case y8_2 => (intro w hF; clear hF; go_simp; try with_reducible rfl)
    try simp only [List.getElem_toArray, List.getElem_cons_succ, List.getElem_cons_zero, Act.put, List.setIfInBounds_toArray, List.set_cons_zero, List.set_cons_succ]
    refine wpAnyF_take (i := 9) (v := ?v9_2) rfl (by kernel_rfl) (by kernel_rfl) (by kernel_rfl) (by kernel_rfl) (fun _ _ _ h => h) (Or.inl ⟨by rfl, ?y9_2⟩) ⟨(fun h => absurd h (by decide)), (fun h => absurd h (by decide))⟩ ?_
    case y9_2 => (intro w hF; clear hF; go_simp; try with_reducible rfl)
    try simp only [List.getElem_toArray, List.getElem_cons_succ, List.getElem_cons_zero, Act.put, List.setIfInBounds_toArray, List.set_cons_zero, List.set_cons_succ]
    refine wpAnyF_ready (rs := [10]) (by kernel_rfl) (by simp) (AllReadyF.cons rfl (fun K hK => ?_) AllReadyF.nil)
    go_simp
    refine hK.out _ _ (Sat.off [4, 5] (fun k w hk => by simp only [List.mem_cons, List.not_mem_nil, or_false, not_or] at hk; exact ⟨(fun e => absurd e hk.1), (fun e => absurd e hk.2)⟩) (by kernel_rfl) _ _) ?_
    clear hK K
    try simp only [List.getElem_toArray, List.getElem_cons_succ, List.getElem_cons_zero, Act.put, List.setIfInBounds_toArray, List.set_cons_zero, List.set_cons_succ]
    refine wpAnyF_done (by kernel_rfl) ?_ _
    have G6 := Lib.hid (Blk.set (i := 0) (v := .slice a' (b.its.length + 1) q') G5.out rfl)
    have l6 : g < (w5.setCell ⟨g, 0, none⟩ (.slice a' (b.its.length + 1) q')).heap.size := by simpa using l5
    have c62 : (w5.setCell ⟨g, 0, none⟩ (.slice a' (b.its.length + 1) q')).cell? ⟨g, 2, none⟩ = some (.int .i64 z) := G6.out.cell 2
    have f6 := G6.out.free
    have h6 : gm ≤ g := by omega
    have O6 : Hid ((w5.setCell ⟨g, 0, none⟩ (.slice a' (b.its.length + 1) q')).ownsRow base 78 8 (.slice a' (b.its.length + 1) q') (b.its.length + 1) (itsC b.its ++ itC it)) := Lib.hid (own_setAt O5.out (fun r hr => by have := (O5.out.lt r hr).1; show r ≠ g; omega))
    have R6 : Hid (∀ i, i ≠ g → (w5.setCell ⟨g, 0, none⟩ (.slice a' (b.its.length + 1) q')).heap[i]? = w5.heap[i]?) := Lib.hid (fun i h => Below.heap_setCell _ _ _ _ h)
    have H6 : Hid (Below gm w (w5.setCell ⟨g, 0, none⟩ (.slice a' (b.its.length + 1) q'))) := Lib.hid (Below.setCell H5.out (by show gm ≤ g; omega) _)
    clear G5 f5 l5 c50 O5 H5 cc cf K0 G0
    obtain ⟨w6, hw6⟩ : ∃ w6, w6 = w5.setCell ⟨g, 0, none⟩ (.slice a' (b.its.length + 1) q') := ⟨_, rfl⟩
    rw [← hw6] at l6 c62 f6 O6 R6 H6 G6 ⊢
    clear hw6
    go_wp2
    refine bodyPost_end (results_none rfl _ _ _) rfl ⟨?_, ?_, ?_⟩
    · rw [HE.out.1, if_pos rfl, HE.out.2]
      refine ⟨rfl, ⟨⟨.slice a' (b.its.length + 1) q', ?_, ?_⟩, ?_, ?_, ?_⟩⟩
      · have := Blk.set (i := 2) (v := .int .i64 (z + 2 * k)) G6.out rfl
        rw [← hz.out]
        exact this
      · rw [List.length_append, itsC_snoc]
        exact own_setAt O6.out (fun r hr => by have := (O6.out.lt r hr).1; show r ≠ g; omega)
      · obtain ⟨es, c, h, he⟩ := B3.out
        refine ⟨es, c, ?_, he⟩
        rw [Below.heap_setCell _ _ _ _ (show gm ≠ g by omega), R6.out gm (by omega), R5.out gm (Array.getElem?_eq_some_iff.1 h).1 N1.out]
        exact h
      · show 0 ≤ b.sz + 2 * k ∧ b.sz + 2 * k ≤ 1024
        rw [← hz.out]
        omega
      · show (((b.its ++ [it]).length : Nat) : Int) * 2 ≤ b.sz + 2 * k
        rw [List.length_append]
        exact HM.out.1
    · exact Below.setCell H6.out (by show gm ≤ g; omega) _
    · intro i h1 h2
      rw [Below.heap_setCell _ _ _ _ (show i ≠ g by omega), R6.out i (by omega), R5.out i h2 (fun e => by have := HN.out i e.symm; omega)]
end Go.Proofs.YtmpdoiilakjmbaaDoor
