/- The assembler reads a line that names a place. Conditions: the library's variables hold what they were laid with; a line of at most 4000 bytes. -/
import Derived.Test.YtmpdoiilakjmbaaDoorAsmStr
namespace Go.Proofs.YtmpdoiilakjmbaaDoor
open Go.RowKit Go.Mq
set_option linter.unusedVariables false
set_option linter.unusedSimpArgs false
set_option maxHeartbeats 2000000
set_option maxRecDepth 100000
def LineEnd (g gm base : Nat) (b : Bd) (i : Int) (l : List UInt8) (w : World) (e : Ending) (w' : World) : Prop :=
  e = .returned (.int .i64 (lineF b i l).1) ∧ ((lineF b i l).1 = 0 → BdAt w' g gm base (lineF b i l).2) ∧ Below gm w w'
theorem res_line (p : Nat) (k : Int) (tmps : Array Value) (W : World) (h6 : tmps.getD 6 undef = .pointer (some ⟨p, 0, none⟩)) (hB : Blk W p #[.int .i64 k] 23) : (results Tryd.f35 tmps).run Tryd.prog W = .ok (.int .i64 k) W := by
  have hc := hB.cell 0
  have h6' : tmps[6]?.getD undef = .pointer (some ⟨p, 0, none⟩) := by simpa using h6
  simp [results, Tryd.results35, go_sem, h6', hc]
theorem door_pan (R : Ending → World → Prop) (p : Nat) (k : Int) (tmps : Array Value) (W : World) (h6 : tmps.getD 6 undef = .pointer (some ⟨p, 0, none⟩)) (hB : Blk W p #[.int .i64 0] 23)
    (H : ∀ w', Blk w' p #[.int .i64 k] 23 → Below p W w' → (∀ i, i ≠ p → i < W.heap.size → w'.heap[i]? = W.heap[i]?) → R (.returned (.int .i64 k)) w') :
    bodyPostD Tryd.prog Tryd.f35 R (Exit.panic [{ v := .iface 101 (.agg #[.int .i64 k]), recovered := false }]) { tmps := tmps, defers := [{ target := Target.fn (Fn.func 55) #[Value.pointer (some ⟨p, 0, none⟩)], args := #[] }] } W := by
  refine leaves_cons (f := 55) (args := #[.pointer (some ⟨p, 0, none⟩)]) (by simp) (by simp [go_sem]) ?_
  refine (catch_pan p k [] W hB).mono ?_
  rintro e u' w'' ⟨rfl, rfl, h1, h2, h3⟩
  exact ⟨.int .i64 k, res_line p k tmps w'' h6 h1, H w'' h1 h2 h3⟩
theorem door_ret (R : Ending → World → Prop) (p : Nat) (k : Int) (tmps : Array Value) (W : World) (h6 : tmps.getD 6 undef = .pointer (some ⟨p, 0, none⟩)) (hB : Blk W p #[.int .i64 k] 23) (H : R (.returned (.int .i64 k)) W) :
    bodyPostD Tryd.prog Tryd.f35 R Exit.ret { tmps := tmps, defers := [{ target := Target.fn (Fn.func 55) #[Value.pointer (some ⟨p, 0, none⟩)], args := #[] }] } W := by
  refine leaves_cons (f := 55) (args := #[.pointer (some ⟨p, 0, none⟩)]) (by simp) (by simp [go_sem]) ?_
  refine (catch_idle p W).mono ?_
  rintro e u' w'' ⟨rfl, rfl, rfl⟩
  exact ⟨.int .i64 k, res_line p k tmps _ h6 hB, H⟩
/-- a piece that never panics -/
def noPan (Q : Exit → Act → World → Prop) : Exit → Act → World → Prop
  | .panic _, _, _ => False
  | e, a, w => Q e a w
theorem wp_noPan {P : Program} {c : Code} {Q : Exit → Act → World → Prop} {a : Act} {w : World} (h : c.wp P (noPan Q) a w) : c.wp P Q a w := fun b k cs => by
  obtain ⟨e, a', w', q, r⟩ := h b k cs
  refine ⟨e, a', w', ?_, r⟩
  cases e <;> first | exact q | exact False.elim q
theorem noPan_norm {Q : Exit → Act → World → Prop} {a : Act} {w : World} (h : Q .normal a w) : noPan Q .normal a w := h
theorem line_err {g gm base : Nat} {b : Bd} {i : Int} {l : List UInt8} {w w' : World} {k : Int} (hk : (lineF b i l).1 = k) (h0 : k ≠ 0) (hb : Below gm w w') : LineEnd g gm base b i l w (.returned (.int .i64 k)) w' :=
  ⟨by rw [hk], fun h => absurd (hk.symm.trans h) h0, hb⟩
theorem alloc_door {w w' : World} {o : Obj} {gm : Nat} (h : Below w.heap.size (w.alloc o) w') (hg : gm ≤ w.heap.size) : Below gm w w' :=
  ((Below.alloc (Below.refl _ _) (Nat.le_refl _) o).trans h).mono hg
theorem lab_F (b : Bd) (i : Int) (l : List UInt8) (h58 : l.getLast? = some 58) : lineF b i l = if isNm l.dropLast = false then (1, b) else if (findN b.nms l.dropLast).isSome then (6, b) else (0, { b with nms := b.nms ++ [(l.dropLast, b.sz)] }) := by
  unfold lineF
  rw [if_pos h58]
theorem lab_bad (g gm base : Nat) (hg : gm < g) (hb : g < base) (b : Bd) (i : Int) (l : List UInt8) (hl : l.length ≤ 4000) (h58 : l.getLast? = some 58) (hn : isNm l.dropLast = false) (w : World) (hB : BdAt w g gm base b) (hbw : base ≤ w.heap.size) :
    Calls Tryd.prog 35 #[.pointer (some ⟨g, 0, none⟩), .int .i64 i, .string ⟨l.toArray⟩] w (LineEnd g gm base b i l w) := by
  have S := Lib.hid (cutsuf_y l hl h58)
  have N := Lib.hid (name_any l.dropLast)
  have F := Lib.hid fail_any
  have E : Hid ((lineF b i l).1 = 1) := Lib.hid (by rw [lab_F b i l h58, if_pos hn])
  rw [hn] at N
  have hmf : ∀ (fn : Fn) (first cap : Array Value) (w : World), (Instr.makeFunc fn first cap).run Tryd.prog w = .ok (.func fn first cap) w := fun _ _ _ _ => rfl
  clear h58 hn
  go_enter_defers Tryd.func35, Tryd.ntmps35
  go_wp2_with fail
  refine (S.out _).mono ?_
  rintro e w1 ⟨rfl, rfl⟩
  go_wp2_with fail
  refine (N.out _).mono ?_
  rintro e w1 ⟨rfl, rfl⟩
  go_wp2_with fail
  refine (F.out _ _).mono ?_
  rintro e w1 ⟨rfl, rfl⟩
  exact door_pan _ w.heap.size 1 _ _ rfl (Blk.new _ _ _) (fun w' h1 h2 h3 => line_err E.out (by decide) (alloc_door h2 (by omega)))
theorem lab_twice (g gm base : Nat) (hg : gm < g) (hb : g < base) (b : Bd) (i : Int) (l : List UInt8) (hl : l.length ≤ 4000) (h58 : l.getLast? = some 58) (hn : isNm l.dropLast = true) (hf : (findN b.nms l.dropLast).isSome = true) (w : World) (hB : BdAt w g gm base b) (hbw : base ≤ w.heap.size) :
    Calls Tryd.prog 35 #[.pointer (some ⟨g, 0, none⟩), .int .i64 i, .string ⟨l.toArray⟩] w (LineEnd g gm base b i l w) := by
  have S := Lib.hid (cutsuf_y l hl h58)
  have N := Lib.hid (name_any l.dropLast)
  have F := Lib.hid fail_any
  have E : Hid ((lineF b i l).1 = 6) := Lib.hid (by rw [lab_F b i l h58, if_neg (by simp [hn]), if_pos hf])
  rw [hn] at N
  obtain ⟨⟨v, h1, h2⟩, h3, h4, h5⟩ := hB
  have MP := Lib.hid (fun X (hX : Below w.heap.size w X) => run_look X gm b.nms l.dropLast (by obtain ⟨es, c, h, he⟩ := h3; exact ⟨es, c, by rw [hX.block gm (Array.getElem?_eq_some_iff.1 h).1]; exact h, he⟩))
  rw [hf] at MP
  have hlk := MP.out (w.alloc (.cells #[.int .i64 0] 23)) (below_alloc (Below.refl _ _) _)
  obtain ⟨d, hd⟩ : ∃ d, d = (findN b.nms l.dropLast).getD 0 := ⟨_, rfl⟩
  rw [← hd] at hlk
  clear hd MP
  obtain ⟨cl, cc, cf⟩ := (h1.alloc (.cells #[.int .i64 0] 23)).use
  have hmf : ∀ (fn : Fn) (first cap : Array Value) (w : World), (Instr.makeFunc fn first cap).run Tryd.prog w = .ok (.func fn first cap) w := fun _ _ _ _ => rfl
  clear h58 hn hf h1 h2 h3 h5
  go_enter_defers Tryd.func35, Tryd.ntmps35
  go_wp2_with fail
  refine (S.out _).mono ?_
  rintro e w1 ⟨rfl, rfl⟩
  go_wp2_with fail
  refine (N.out _).mono ?_
  rintro e w1 ⟨rfl, rfl⟩
  go_wp2_with fail
  refine (F.out _ _).mono ?_
  rintro e w1 ⟨rfl, rfl⟩
  exact door_pan _ w.heap.size 6 _ _ rfl (Blk.new _ _ _) (fun w' h1 h2 h3 => line_err E.out (by decide) (alloc_door h2 (by omega)))
theorem lab_ok (g gm base : Nat) (hg : gm < g) (hb : g < base) (b : Bd) (i : Int) (l : List UInt8) (hl : l.length ≤ 4000) (h58 : l.getLast? = some 58) (hn : isNm l.dropLast = true) (hf : findN b.nms l.dropLast = none) (w : World) (hB : BdAt w g gm base b) (hbw : base ≤ w.heap.size) :
    Calls Tryd.prog 35 #[.pointer (some ⟨g, 0, none⟩), .int .i64 i, .string ⟨l.toArray⟩] w (LineEnd g gm base b i l w) := by
  have S := Lib.hid (cutsuf_y l hl h58)
  have N := Lib.hid (name_any l.dropLast)
  have E : Hid (lineF b i l = (0, { b with nms := b.nms ++ [(l.dropLast, b.sz)] })) := Lib.hid (by rw [lab_F b i l h58, if_neg (by simp [hn]), if_neg (by simp [hf])])
  rw [hn] at N
  obtain ⟨⟨v, h1, h2⟩, h3, h4, h5⟩ := hB
  have M0 : MapAt (w.alloc (.cells #[.int .i64 0] 23)) gm b.nms := by
    obtain ⟨es, c, h, he⟩ := h3
    exact ⟨es, c, by rw [(MapKept.heap_alloc _ _).2 gm (Array.getElem?_eq_some_iff.1 h).1]; exact h, he⟩
  have hlk := run_look _ gm b.nms l.dropLast M0
  rw [hf] at hlk
  simp only [Option.getD_none, Option.isSome_none] at hlk
  obtain ⟨X', hput, hpp, hpm⟩ := run_putN (w.alloc (.cells #[.int .i64 0] 23)).drew gm b.nms l.dropLast b.sz M0 hf
  have B1 := Lib.hid (h1.alloc (.cells #[.int .i64 0] 23))
  have B2 := Lib.hid h2
  have B45 := Lib.hid (And.intro h4 h5)
  obtain ⟨cl, cc, cf⟩ := (h1.alloc (.cells #[.int .i64 0] 23)).use
  have hmf : ∀ (fn : Fn) (first cap : Array Value) (w : World), (Instr.makeFunc fn first cap).run Tryd.prog w = .ok (.func fn first cap) w := fun _ _ _ _ => rfl
  have PP := Lib.hid hpp
  have PM := Lib.hid hpm
  clear h58 hn hf h1 h2 h3 h4 h5 hpp hpm
  go_enter_defers Tryd.func35, Tryd.ntmps35
  go_wp2_with fail
  refine (S.out _).mono ?_
  rintro e w1 ⟨rfl, rfl⟩
  go_wp2_with fail
  refine (N.out _).mono ?_
  rintro e w1 ⟨rfl, rfl⟩
  go_wp2_with fail
  refine wp_noPan ?_
  refine wp_region_F (fun k W => (k = 3 → W.cell? ⟨g, 1, none⟩ = some (.map (some gm))) ∧ (k = 8 → W.cell? ⟨g, 2, none⟩ = some (.int .i64 b.sz))) [0, 1, 2, 3, 4, 5, 6, 7, 8] (by kernel_rfl) ?_
  refine wpAnyF_take (i := 0) (v := ?v0_1) rfl (by kernel_rfl) (by kernel_rfl) (by kernel_rfl) (by kernel_rfl) (fun _ _ _ h => h) (Or.inl ⟨by rfl, ?y0_1⟩) ⟨(fun h => absurd h (by decide)), (fun h => absurd h (by decide))⟩ ?_
  case y0_1 => (intro w hF; clear hF; go_simp; try with_reducible rfl)
  try simp only [List.getElem_toArray, List.getElem_cons_succ, List.getElem_cons_zero, Act.put, List.setIfInBounds_toArray, List.set_cons_zero, List.set_cons_succ]
  refine wpAnyF_take (i := 1) (v := ?v1_1) rfl (by kernel_rfl) (by kernel_rfl) (by kernel_rfl) (by kernel_rfl) (fun _ _ _ h => h) (Or.inl ⟨by rfl, ?y1_1⟩) ⟨(fun h => absurd h (by decide)), (fun h => absurd h (by decide))⟩ ?_
  case y1_1 => (intro w hF; clear hF; go_simp; try with_reducible rfl)
  try simp only [List.getElem_toArray, List.getElem_cons_succ, List.getElem_cons_zero, Act.put, List.setIfInBounds_toArray, List.set_cons_zero, List.set_cons_succ]
  refine wpAnyF_take (i := 2) (v := ?v2_1) rfl (by kernel_rfl) (by kernel_rfl) (by kernel_rfl) (by kernel_rfl) (fun _ _ _ h => h) (Or.inl ⟨by rfl, ?y2_1⟩) ⟨(fun h => absurd h (by decide)), (fun h => absurd h (by decide))⟩ ?_
  case y2_1 => (intro w hF; clear hF; go_simp; try with_reducible rfl)
  try simp only [List.getElem_toArray, List.getElem_cons_succ, List.getElem_cons_zero, Act.put, List.setIfInBounds_toArray, List.set_cons_zero, List.set_cons_succ]
  refine wpAnyF_take (i := 3) (v := ?v3_1) rfl (by kernel_rfl) (by kernel_rfl) (by kernel_rfl) (by kernel_rfl) (fun _ _ _ h => h) (Or.inl ⟨by rfl, ?y3_1⟩) ⟨(fun _ => (B1.out.drew.cell 1)), (fun h => absurd h (by decide))⟩ ?_
  case y3_1 => (intro w hF; have hF2 := hF.1 rfl; clear hF; go_simp; try with_reducible rfl)
  try simp only [List.getElem_toArray, List.getElem_cons_succ, List.getElem_cons_zero, Act.put, List.setIfInBounds_toArray, List.set_cons_zero, List.set_cons_succ]
  refine wpAnyF_take (i := 4) (v := ?v4_1) rfl (by kernel_rfl) (by kernel_rfl) (by kernel_rfl) (by kernel_rfl) (fun _ _ _ h => h) (Or.inl ⟨by rfl, ?y4_1⟩) ⟨(fun h => absurd h (by decide)), (fun h => absurd h (by decide))⟩ ?_
  case y4_1 => (intro w hF; clear hF; go_simp; try with_reducible rfl)
  try simp only [List.getElem_toArray, List.getElem_cons_succ, List.getElem_cons_zero, Act.put, List.setIfInBounds_toArray, List.set_cons_zero, List.set_cons_succ]
  refine wpAnyF_take (i := 5) (v := ?v5_1) rfl (by kernel_rfl) (by kernel_rfl) (by kernel_rfl) (by kernel_rfl) (fun _ _ _ h => h) (Or.inl ⟨by rfl, ?y5_1⟩) ⟨(fun h => absurd h (by decide)), (fun h => absurd h (by decide))⟩ ?_
  case y5_1 => (intro w hF; clear hF; go_simp; try with_reducible rfl)
  try simp only [List.getElem_toArray, List.getElem_cons_succ, List.getElem_cons_zero, Act.put, List.setIfInBounds_toArray, List.set_cons_zero, List.set_cons_succ]
  refine wpAnyF_take (i := 6) (v := ?v6_1) rfl (by kernel_rfl) (by kernel_rfl) (by kernel_rfl) (by kernel_rfl) (fun _ _ _ h => h) (Or.inl ⟨by rfl, ?y6_1⟩) ⟨(fun h => absurd h (by decide)), (fun h => absurd h (by decide))⟩ ?_
  case y6_1 => (intro w hF; clear hF; go_simp; try with_reducible rfl)
  try simp only [List.getElem_toArray, List.getElem_cons_succ, List.getElem_cons_zero, Act.put, List.setIfInBounds_toArray, List.set_cons_zero, List.set_cons_succ]
  refine wpAnyF_take (i := 7) (v := ?v7_1) rfl (by kernel_rfl) (by kernel_rfl) (by kernel_rfl) (by kernel_rfl) (fun _ _ _ h => h) (Or.inl ⟨by rfl, ?y7_1⟩) ⟨(fun h => absurd h (by decide)), (fun h => absurd h (by decide))⟩ ?_
  case y7_1 => (intro w hF; clear hF; go_simp; try with_reducible rfl)
  try simp only [List.getElem_toArray, List.getElem_cons_succ, List.getElem_cons_zero, Act.put, List.setIfInBounds_toArray, List.set_cons_zero, List.set_cons_succ]
  refine wpAnyF_take (i := 8) (v := ?v8_1) rfl (by kernel_rfl) (by kernel_rfl) (by kernel_rfl) (by kernel_rfl) (fun _ _ _ h => h) (Or.inl ⟨by rfl, ?y8_1⟩) ⟨(fun h => absurd h (by decide)), (fun _ => (B1.out.drew.cell 2))⟩ ?_
  case y8_1 => (intro w hF; have hF2 := hF.2 rfl; clear hF; go_simp; try with_reducible rfl)
  try simp only [List.getElem_toArray, List.getElem_cons_succ, List.getElem_cons_zero, Act.put, List.setIfInBounds_toArray, List.set_cons_zero, List.set_cons_succ]
  refine wpAnyF_ready (rs := [9]) (by kernel_rfl) (by simp) (AllReadyF.cons rfl (fun K hK => ?_) AllReadyF.nil)
  go_simp
  refine hK.out _ _ (Sat.off [3, 8] (fun k w hk => by simp only [List.mem_cons, List.not_mem_nil, or_false, not_or] at hk; exact ⟨(fun e => absurd e hk.1), (fun e => absurd e hk.2)⟩) (by kernel_rfl) _ _) ?_
  clear hK K
  try simp only [List.getElem_toArray, List.getElem_cons_succ, List.getElem_cons_zero, Act.put, List.setIfInBounds_toArray, List.set_cons_zero, List.set_cons_succ]
  refine wpAnyF_done (by kernel_rfl) ?_ _
  refine noPan_norm ?_
  have PB : Hid (Blk X' w.heap.size #[.int .i64 0] 23) := Lib.hid ((Blk.new w _ _).drew.put PP.out (by omega))
  obtain ⟨pl, pc, pf⟩ := PB.out.use
  clear hput hlk
  go_wp2
  refine door_ret _ w.heap.size 0 _ _ rfl (Blk.set PB.out rfl) ⟨by rw [E.out], fun _ => ?_, ?_⟩
  · rw [E.out]
    refine ⟨⟨v, ?_, ?_⟩, ?_, B45.out.1, B45.out.2⟩
    · exact (B1.out.drew.put PP.out (by omega)).setAt (by show g ≠ w.heap.size; omega)
    · refine own_setAt ?_ (fun r hr => by have := (B2.out.lt r hr).2; show r ≠ w.heap.size; omega)
      exact own_put (base := base) (World.ownsRow.drew (B2.out.alloc _)) PP.out (by omega)
    · obtain ⟨es, c, h, he⟩ := PM.out
      exact ⟨es, c, by rw [Below.heap_setCell _ _ _ _ (show gm ≠ w.heap.size by omega)]; exact h, he⟩
  · refine Below.setCell ?_ (by show gm ≤ w.heap.size; omega) _
    exact (((Below.refl gm w).alloc (by omega) _).drew).trans PP.out.below
theorem lab_any (g gm base : Nat) (hg : gm < g) (hb : g < base) (b : Bd) (i : Int) (l : List UInt8) (hl : l.length ≤ 4000) (h58 : l.getLast? = some 58) (w : World) (hB : BdAt w g gm base b) (hbw : base ≤ w.heap.size) :
    Calls Tryd.prog 35 #[.pointer (some ⟨g, 0, none⟩), .int .i64 i, .string ⟨l.toArray⟩] w (LineEnd g gm base b i l w) := by
  cases hn : isNm l.dropLast with
  | false => exact lab_bad g gm base hg hb b i l hl h58 hn w hB hbw
  | true =>
    cases hf : findN b.nms l.dropLast with
    | none => exact lab_ok g gm base hg hb b i l hl h58 hn hf w hB hbw
    | some d => exact lab_twice g gm base hg hb b i l hl h58 hn (by rw [hf]; rfl) w hB hbw
end Go.Proofs.YtmpdoiilakjmbaaDoor
