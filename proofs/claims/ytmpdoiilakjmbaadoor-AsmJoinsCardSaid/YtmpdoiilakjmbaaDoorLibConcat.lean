/- slices.Grow of the nil slice; slices.Concat of two slices of bytes: a new slice that holds the first's bytes and then the second's. Conditions: at most 40000 bytes. -/
import Derived.Test.YtmpdoiilakjmbaaDoorBase
import Derived.Test.YtmpdoiilakjmbaaDoorRows
import Derived.LoopN
import Derived.Lib.AppendZeros
namespace Go.Proofs.YtmpdoiilakjmbaaDoor
open Go.RowKit Go.Mq
set_option linter.unusedVariables false
set_option linter.unusedSimpArgs false
set_option maxHeartbeats 1000000
set_option maxRecDepth 100000

theorem infoB : (Tryd.prog.info? 5).map (fun i => (i.zero, i.size, i.bytes)) = some (some (.int .u8 0), 1, 1) := by kernel_rfl

theorem growNil (n : Nat) (hn : n ≤ 1000000) (w : World) :
    Calls Tryd.prog 42 #[.slice none 0 0, .int .i64 n] w fun e w' => ∃ ao cp, e = .returned (.slice ao 0 cp) ∧ w'.ownsRow w.heap.size 5 1 (.slice ao 0 cp) 0 [] ∧ Below w.heap.size w w' := by
  obtain ⟨i0, hi, hz0, hz1, hz2⟩ := info_parts infoB
  by_cases h0 : n = 0
  · subst h0
    go_enter Tryd.func42, Tryd.ntmps42
    go_wp2
    go_ret
    exact ⟨none, 0, rfl, World.ownsRow_nil _ _ _ _, Below.refl _ _⟩
  · have hr : ∀ ty, (Builtin.append_ #[22, 3] ty #[.slice none 0 0, .int .i64 n]).run Tryd.prog w = .ok (.slice (some ⟨w.heap.size, 0, none⟩) n (grownCap w n 0 5)) (w.drew.alloc (.cells (Builtin.zeroCells (Value.int .u8 0).cells n ++ Builtin.zeroCells (Value.int .u8 0).cells (grownCap w n 0 5 - n)) 5)) := fun ty =>
      Lib.run_append_nil_zeros w 22 3 ty 5 i0 (.int .u8 0) .i64 .i64 Tryd.underlying22 Tryd.underlying3 hi hz0 n (by omega) (by rw [hz1]; decide) (by omega) (by rw [hz2]; omega)
    have hG : n ≤ grownCap w n 0 5 := grownCap_ge w _ _ _
    have hM : grownCap w n 0 5 ≤ maxLen := grownCap_le_maxLen w n 0 5 (by unfold maxLen; omega)
    generalize grownCap w n 0 5 = G at *
    have h1 : (1 : Int) ≤ n := by omega
    have h2 : (n : Int) ≤ 1000000 := by omega
    have hG1 : (n : Int) ≤ (G : Int) := Int.ofNat_le.2 hG
    have hG2 : (G : Int) ≤ 9223372036854775807 := by unfold maxLen at hM; omega
    obtain ⟨C, hC⟩ : ∃ C, C = Builtin.zeroCells (Value.int .u8 0).cells n ++ Builtin.zeroCells (Value.int .u8 0).cells (G - n) := ⟨_, rfl⟩
    have hCs : Hid (C.size = G) := Lib.hid (by rw [hC]; simp [size_zeroCells, Value.cells]; omega)
    rw [← hC] at hr
    have HM := Lib.hid hM
    clear hC hM hz0 hz1 hz2 hi
    go_enter Tryd.func42, Tryd.ntmps42
    go_wp2_with (at_builtin; refine Lib.wpList_append_run _ rfl _ _ _ _ rfl _ _ rfl rfl _ _ (hr _) ?_)
    go_ret
    exact ⟨some ⟨w.heap.size, 0, none⟩, G, rfl, ⟨rfl, .inr ⟨w.heap.size, G, C, rfl, Nat.le_refl _, Blk.new _ _ _, by omega, HM.out, by rw [hCs.out]; simp, by simp⟩⟩, by repeat' (first | (with_reducible first | exact Below.refl _ _ | assumption | refine below_alloc ?_ _ | refine Below.drew ?_ | refine Go.Mq.below_drewN ?_ _ | refine below_then ?_ (by assumption) | refine below_put ?_ (by assumption) (by first | (simp; done) | (simp; omega) | omega) | refine Below.setCell ?_ ?_ _) | (simp; done) | (simp; omega) | omega)⟩

theorem append_none {P : Program} (w : World) (t ty e : TypeId) (i : TypeInfo) (ht : P.underlying t = some (.slice e)) (hi : P.info? e = some i) (base : Option Addr) (l c cp : Nat) (h : l ≤ c) :
    (Builtin.append_ #[t, t] ty #[.slice base l c, .slice none 0 cp]).run P w = .ok (.slice base l c) w := by
  cases base <;> simp [Builtin.append_, run_underlying ht, sizeOf, typeInfo, hi, Builtin.lenOf, Builtin.firstCells, loadCells, loadCellsFrom, storeCells, h]

theorem own_cap {w : World} {base : Nat} {e : TypeId} {size : Nat} {ao : Option Addr} {l cp n : Nat} {xs : List Value} (h : w.ownsRow base e size (.slice ao l cp) n xs) : l ≤ cp := by
  rcases h.2 with ⟨h1, h2⟩ | ⟨g, cap, cur, h1, -, -, h2, -⟩
  · injection h1 with e1 e2 e3; omega
  · injection h1 with e1 e2 e3; omega

theorem run_append_slice (w : World) (base : Nat) (v : Value) (xs : List Int) (hown : w.ownsRow base 5 1 v xs.length (xs.map (Value.int .u8))) (u : Value) (ys : List Int) (hu : SliceAt w .u8 u ys) (hn : xs.length + ys.length ≤ 1000000) (hbase : base ≤ w.heap.size) (ty : TypeId) :
    ∃ v' w', (Builtin.append_ #[22, 22] ty #[v, u]).run Tryd.prog w = .ok v' w' ∧ w'.ownsRow base 5 1 v' (xs ++ ys).length ((xs ++ ys).map (Value.int .u8)) ∧ w.grownBy w' v.ownBlock := by
  obtain ⟨i0, hi, hz0, hz1, hz2⟩ := info_parts infoB
  obtain ⟨a, c, rfl, hc1, hc2, hwf, hcs⟩ := hu
  obtain ⟨ao, cp, rfl⟩ := own_shape hown
  cases a with
  | none =>
    have h0 : ys = [] := by
      cases ys with
      | nil => rfl
      | cons y t => obtain ⟨b, off, he, -⟩ := hcs (by simp); cases he
    subst h0
    refine ⟨_, w, append_none w 22 ty 5 i0 Tryd.underlying22 hi ao xs.length cp c (own_cap hown), by simpa using hown, ⟨rfl, rfl, rfl, Nat.le_refl _, fun _ _ _ => rfl⟩⟩
  | some ad =>
    obtain ⟨v', w', hr, h2, h3, -⟩ := run_append_own (P := Tryd.prog) w base 22 ty 5 i0 (.int .u8 0) 1 1 Tryd.underlying22 hi hz0 hz1 hz2 rfl (by decide) _ _ _ hown ad ys.length c (ys.map (Value.int .u8)) (by simp)
      (fun j u hj => by
        rw [List.getElem?_map] at hj
        cases hy : ys[j]? with
        | none => rw [hy] at hj; cases hj
        | some y =>
          rw [hy] at hj
          injection hj with hj
          obtain ⟨hlt, he⟩ := List.getElem?_eq_some_iff.1 hy
          obtain ⟨b, off, hab, -, hcell⟩ := hcs (by omega)
          injection hab with hab
          subst hab
          rw [Addr.add_lit, hcell j hlt, ← hj, List.getD_eq_getElem?_getD, hy]
          rfl)
      (fun u hu => by
        obtain ⟨y, -, rfl⟩ := List.mem_map.1 hu
        rfl)
      (by unfold maxLen; omega) (by omega) hbase
    exact ⟨v', w', hr, by simpa using h2, h3⟩

theorem concat2 (w : World) (B : Nat) (t : TypeId) (v1 v2 : Value) (xs ys : List Int) (h1 : SliceAt w .u8 v1 xs) (h2 : SliceAt w .u8 v2 ys) (hB : Blk w B #[v1, v2] t) (hx : xs.length ≤ 20000) (hy : ys.length ≤ 20000) :
    Calls Tryd.prog 23 #[.slice (some ⟨B, 0, none⟩) 2 2] w fun e w' => ∃ ao cp, e = .returned (.slice ao (xs ++ ys).length cp) ∧ w'.ownsRow w.heap.size 5 1 (.slice ao (xs ++ ys).length cp) (xs ++ ys).length ((xs ++ ys).map (Value.int .u8)) ∧ Below w.heap.size w w' := by
  have S1 := Lib.hid h1
  have S2 := Lib.hid h2
  obtain ⟨a1, c1, rfl, l1, m1, -, -⟩ := h1
  obtain ⟨a2, c2, rfl, l2, m2, -, -⟩ := h2
  obtain ⟨i0, hi, hz0, hz1, hz2⟩ := info_parts infoB
  have HI := Lib.hid (And.intro hi (And.intro hz0 (And.intro hz1 hz2)))
  have gr := growNil (xs.length + ys.length) (by omega)
  simp only [Int.natCast_add] at gr
  have GR := Lib.hid gr
  clear gr
  have KB := Lib.hid hB
  obtain ⟨lB, cB, fB⟩ := hB.use
  have b1 : (xs.length : Int) ≤ 20000 := by omega
  have b2 : (ys.length : Int) ≤ 20000 := by omega
  have d1 : (0 : Int) ≤ xs.length := by omega
  have d2 : (0 : Int) ≤ ys.length := by omega
  clear hi hz0 hz1 hz2
  go_enter Tryd.func23, Tryd.ntmps23
  go_wp2_with fail
  refine wp_loop_rounds 3 ?_
  rw [rounds_succ]
  go_wp2_with fail
  rw [rounds_succ]
  go_wp2_with fail
  rw [rounds_succ]
  go_wp2_with fail
  refine (GR.out _).mono ?_
  rintro e w1 ⟨ao, cp, rfl, hown, hb1⟩
  have HO := Lib.hid hown
  have KB1 := Lib.hid (KB.out.below hb1)
  have S1' := Lib.hid (S1.out.below hb1)
  have S2' := Lib.hid (S2.out.below hb1)
  obtain ⟨lB1, cB1, fB1⟩ := KB1.out.use
  clear hown cB fB
  go_wp2_with fail
  refine wp_loop_rounds 3 ?_
  obtain ⟨v2, w2, hr2, ho2, hg2⟩ := run_append_slice w1 w.heap.size (.slice ao 0 cp) [] HO.out _ xs S1' (by simp; omega) hb1.size 22
  obtain ⟨a3, c3, rfl⟩ := own_shape ho2
  have KB2 := Lib.hid (Blk.grown KB1.out hg2 HO.out lB)
  have hb2 : Below w.heap.size w w2 := below_grown hb1 hb1.size hg2 HO.out (Nat.le_refl _)
  have S2'' := Lib.hid (S2.out.below hb2)
  obtain ⟨v3, w3, hr3, ho3, hg3⟩ := run_append_slice w2 w.heap.size _ ([] ++ xs) ho2 _ ys S2'' (by simp; omega) hb2.size 22
  obtain ⟨a4, c4, rfl⟩ := own_shape ho3
  have KB3 := Lib.hid (Blk.grown KB2.out hg3 ho2 lB)
  have hb3 : Below w.heap.size w w3 := below_grown hb2 hb2.size hg3 ho2 (Nat.le_refl _)
  obtain ⟨lB2, cB2, fB2⟩ := KB2.out.use
  obtain ⟨lB3, cB3, fB3⟩ := KB3.out.use
  rw [List.nil_append] at *
  have R2 := Lib.hid hr2
  have R3 := Lib.hid hr3
  have HO3 := Lib.hid ho3
  clear hr2 hr3 ho2 ho3 hg2 hg3
  rw [rounds_succ]
  go_wp2_with (at_builtin; first | refine Lib.wpList_append_run _ rfl _ _ _ _ rfl _ _ rfl rfl _ _ R2.out ?_ | refine Lib.wpList_append_run _ rfl _ _ _ _ rfl _ _ rfl rfl _ _ R3.out ?_)
  rw [rounds_succ]
  go_wp2_with (at_builtin; first | refine Lib.wpList_append_run _ rfl _ _ _ _ rfl _ _ rfl rfl _ _ R2.out ?_ | refine Lib.wpList_append_run _ rfl _ _ _ _ rfl _ _ rfl rfl _ _ R3.out ?_)
  rw [rounds_succ]
  go_wp2
  go_ret
  exact ⟨a4, c4, by simp, HO3.out, hb3⟩
end Go.Proofs.YtmpdoiilakjmbaaDoor
