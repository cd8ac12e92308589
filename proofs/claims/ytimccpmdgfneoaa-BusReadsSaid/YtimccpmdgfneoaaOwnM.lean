/- The document's machine copied: memories of one's own. Conditions: its memories are bytes. -/
import Derived.Test.YtimccpmdgfneoaaBusCopy
namespace Go.Proofs.Ytimccpmdgfneoaa
open Go.RowKit Go.Mq
set_option linter.unusedVariables false
set_option linter.unusedSimpArgs false
set_option maxHeartbeats 2000000
set_option maxRecDepth 100000
theorem run_append_sliceW (w : World) (base : Nat) (v : Value) (xs : List Int) (hown : w.ownsRow base 5 1 v xs.length (xs.map (Value.int .u8))) (u : Value) (ys : List Int) (hu : SliceAt w .u8 u ys) (hn : xs.length + ys.length ≤ 140737488355328) (hbase : base ≤ w.heap.size) (ty : TypeId) :
    ∃ v' w', (Builtin.append_ #[22, 22] ty #[v, u]).run Try.prog w = .ok v' w' ∧ w'.ownsRow base 5 1 v' (xs ++ ys).length ((xs ++ ys).map (Value.int .u8)) ∧ w.grownBy w' v.ownBlock := by
  obtain ⟨i0, hi, hz0, hz1, hz2⟩ := info_parts infoB
  obtain ⟨a, c, rfl, hc1, hc2, hwf, hcs⟩ := hu
  obtain ⟨ao, cp, rfl⟩ := own_shape hown
  cases a with
  | none =>
    have h0 : ys = [] := by
      cases ys with
      | nil => rfl
      | cons y t => obtain ⟨b, off, he, -⟩ := hcs (by simp); cases he
    subst h0
    refine ⟨_, w, append_none w 22 ty 5 i0 Try.underlying22 hi ao xs.length cp c (own_cap hown), by simpa using hown, ⟨rfl, rfl, rfl, Nat.le_refl _, fun _ _ _ => rfl⟩⟩
  | some ad =>
    obtain ⟨v', w', hr, h2, h3, -⟩ := run_append_own (P := Try.prog) w base 22 ty 5 i0 (.int .u8 0) 1 1 Try.underlying22 hi hz0 hz1 hz2 rfl (by decide) _ _ _ hown ad ys.length c (ys.map (Value.int .u8)) (by simp)
      (fun j u hj => by
        rw [List.getElem?_map] at hj
        cases hy : ys[j]? with
        | none => rw [hy] at hj; cases hj
        | some y =>
          rw [hy] at hj
          injection hj with hj
          obtain ⟨hlt, he⟩ := List.getElem?_eq_some_iff.1 hy
          obtain ⟨b, off, hab, -, hcell⟩ := hcs (by omega)
          injection hab with hab
          subst hab
          rw [Addr.add_lit, hcell j hlt, ← hj, List.getD_eq_getElem?_getD, hy]
          rfl)
      (fun u hu => by
        obtain ⟨y, -, rfl⟩ := List.mem_map.1 hu
        rfl)
      (by unfold maxLen; omega) (by omega) hbase
    exact ⟨v', w', hr, by simpa using h2, h3⟩

theorem own1_any (w : World) (v : Value) (xs : List Int) (h : SliceAt w .u8 v xs) (hl : xs.length ≤ 140737488355327) :
    Calls Try.prog 28 #[v] w fun e w' => ∃ u, e = .returned u ∧ w'.ownsRow w.heap.size 5 1 u xs.length (xs.map (Value.int .u8)) ∧ Below w.heap.size w w' := by
  have ho : (w.alloc (.cells #[] 5)).ownsRow w.heap.size 5 1 (.slice (some ⟨w.heap.size, 0, none⟩) 0 0) ([] : List Int).length (([] : List Int).map (Value.int .u8)) :=
    ⟨rfl, .inr ⟨w.heap.size, 0, #[], rfl, Nat.le_refl _, Blk.new _ _ _, Nat.le_refl _, by decide, rfl, rfl⟩⟩
  obtain ⟨v2, w2, hr2, ho2, hg2⟩ := run_append_sliceW _ w.heap.size _ [] ho _ xs (h.below ((Below.refl _ _).alloc (Nat.le_refl _) _)) (by simp; omega) (by simp) 22
  have hb2 : Below w.heap.size w w2 := below_grown ((Below.refl w.heap.size w).alloc (Nat.le_refl _) _) (by simp) hg2 ho (Nat.le_refl _)
  rw [List.nil_append] at ho2
  have R2 := Lib.hid hr2
  have HO := Lib.hid ho2
  clear hr2 ho2 hg2 ho h
  go_enter Try.func28, Try.ntmps28
  go_wp2_with (at_builtin; refine Lib.wpList_append_run _ rfl _ _ _ _ rfl _ _ rfl rfl _ _ R2.out ?_)
  go_ret
  exact ⟨_, rfl, HO.out, hb2⟩
theorem ownm_any (V : Nat → Value) (m : Mach) (w : World) (hm : MV w V m) (hl : ∀ i, i < 5 → (m.mem i).length ≤ 140737488355327) :
    Calls Try.prog 15 #[.agg (machC V m)] w fun e w' => ∃ U, e = .returned (.agg (machC U m)) ∧ Fresh w w' U m := by
  have C0 := Lib.hid (fun W (k : Below w.heap.size w W) => own1_any W (V 0) (m.mem 0) ((hm 0 (by omega)).below k) (hl 0 (by omega)))
  have C1 := Lib.hid (fun W (k : Below w.heap.size w W) => own1_any W (V 1) (m.mem 1) ((hm 1 (by omega)).below k) (hl 1 (by omega)))
  have C2 := Lib.hid (fun W (k : Below w.heap.size w W) => own1_any W (V 2) (m.mem 2) ((hm 2 (by omega)).below k) (hl 2 (by omega)))
  have C3 := Lib.hid (fun W (k : Below w.heap.size w W) => own1_any W (V 3) (m.mem 3) ((hm 3 (by omega)).below k) (hl 3 (by omega)))
  have C4 := Lib.hid (fun W (k : Below w.heap.size w W) => own1_any W (V 4) (m.mem 4) ((hm 4 (by omega)).below k) (hl 4 (by omega)))
  have ON := Lib.hid (fun i hi => hm.one i hi)
  clear hm hl
  go_enter Try.func15, Try.ntmps15
  go_wp2_with fail
  refine wp_mark (R := fun W => Below w.heap.size w W ∧ Hid (Blk W w.heap.size (machC V m) 41) ∧ ∃ Z, Hid (Blk W (w.heap.size + 1) Z 41) ∧ Z.size = 75) ⟨by repeat' (first | (with_reducible first | exact Below.refl _ _ | assumption | refine below_alloc ?_ _ | refine Below.drew ?_ | refine below_drewN ?_ _ | refine below_then ?_ (by assumption) | refine below_put ?_ (by assumption) (by first | (simp; done) | (simp; omega) | omega) | refine Below.setCell ?_ ?_ _) | (simp; done) | (simp; omega) | omega), Lib.hid (by repeat' (first | (with_reducible first | exact Hid.out (by assumption) | exact Blk.new _ _ _ | (refine Blk.new_at _ _ _ _ ?_; simp; done) | refine Blk.alloc ?_ _ | refine Blk.drewN ?_ _ | refine Blk.drew ?_ | apply Blk.set | refine Blk.put ?_ (by assumption) (by first | (simp; done) | (simp; omega) | omega) | refine Blk.below ?_ (by assumption)) | (refine Blk.setAt ?_ (by first | (simp; done) | (simp; omega))) | rfl)), _, Lib.hid (by repeat' (first | (with_reducible first | exact Hid.out (by assumption) | exact Blk.new _ _ _ | (refine Blk.new_at _ _ _ _ ?_; simp; done) | refine Blk.alloc ?_ _ | refine Blk.drewN ?_ _ | refine Blk.drew ?_ | apply Blk.set | refine Blk.put ?_ (by assumption) (by first | (simp; done) | (simp; omega) | omega) | refine Blk.below ?_ (by assumption)) | (refine Blk.setAt ?_ (by first | (simp; done) | (simp; omega))) | rfl)), rfl⟩ ?_
  intro w1 ⟨B1, K1, Z, KZ, hZ⟩
  have sz := KZ.out.lt
  refine wp_region_F (fun k W => (k = 2 → W.cell? ⟨w.heap.size, 30, none⟩ = some (V 0)) ∧ (k = 6 → W.cell? ⟨w.heap.size, 31, none⟩ = some (V 1)) ∧ (k = 10 → W.cell? ⟨w.heap.size, 32, none⟩ = some (V 2)) ∧ (k = 14 → W.cell? ⟨w.heap.size, 33, none⟩ = some (V 3)) ∧ (k = 18 → W.cell? ⟨w.heap.size, 34, none⟩ = some (V 4))) [0, 1, 2, 4, 5, 6, 8, 9, 10, 12, 13, 14, 16, 17, 18, 20, 22, 24, 26, 28] (by kernel_rfl) ?_
  refine wpAnyF_take (i := 0) (v := ?v0_1) rfl (by kernel_rfl) (by kernel_rfl) (by kernel_rfl) (by kernel_rfl) (fun _ _ _ h => h) (Or.inl ⟨by rfl, ?y0_1⟩) ⟨(fun h => absurd h (by decide)), (fun h => absurd h (by decide)), (fun h => absurd h (by decide)), (fun h => absurd h (by decide)), (fun h => absurd h (by decide))⟩ ?_
  case y0_1 => (intro w hF; clear hF; go_simp; try with_reducible rfl)
  try simp only [List.getElem_toArray, List.getElem_cons_succ, List.getElem_cons_zero, Act.put, List.setIfInBounds_toArray, List.set_cons_zero, List.set_cons_succ]
  refine wpAnyF_take (i := 1) (v := ?v1_1) rfl (by kernel_rfl) (by kernel_rfl) (by kernel_rfl) (by kernel_rfl) (fun _ _ _ h => h) (Or.inl ⟨by rfl, ?y1_1⟩) ⟨(fun h => absurd h (by decide)), (fun h => absurd h (by decide)), (fun h => absurd h (by decide)), (fun h => absurd h (by decide)), (fun h => absurd h (by decide))⟩ ?_
  case y1_1 => (intro w hF; clear hF; go_simp; try with_reducible rfl)
  try simp only [List.getElem_toArray, List.getElem_cons_succ, List.getElem_cons_zero, Act.put, List.setIfInBounds_toArray, List.set_cons_zero, List.set_cons_succ]
  refine wpAnyF_take (i := 2) (v := ?v2_1) rfl (by kernel_rfl) (by kernel_rfl) (by kernel_rfl) (by kernel_rfl) (fun _ _ _ h => h) (Or.inl ⟨by rfl, ?y2_1⟩) ⟨(fun _ => ((K1.out.drew.cell 30).trans (mx30 ..))), (fun h => absurd h (by decide)), (fun h => absurd h (by decide)), (fun h => absurd h (by decide)), (fun h => absurd h (by decide))⟩ ?_
  case y2_1 => (intro w hF; have hF2 := hF.1 rfl; clear hF; go_simp; try with_reducible rfl)
  try simp only [List.getElem_toArray, List.getElem_cons_succ, List.getElem_cons_zero, Act.put, List.setIfInBounds_toArray, List.set_cons_zero, List.set_cons_succ]
  refine wpAnyF_take (i := 4) (v := ?v4_1) rfl (by kernel_rfl) (by kernel_rfl) (by kernel_rfl) (by kernel_rfl) (fun _ _ _ h => h) (Or.inl ⟨by rfl, ?y4_1⟩) ⟨(fun h => absurd h (by decide)), (fun h => absurd h (by decide)), (fun h => absurd h (by decide)), (fun h => absurd h (by decide)), (fun h => absurd h (by decide))⟩ ?_
  case y4_1 => (intro w hF; clear hF; go_simp; try with_reducible rfl)
  try simp only [List.getElem_toArray, List.getElem_cons_succ, List.getElem_cons_zero, Act.put, List.setIfInBounds_toArray, List.set_cons_zero, List.set_cons_succ]
  refine wpAnyF_take (i := 5) (v := ?v5_1) rfl (by kernel_rfl) (by kernel_rfl) (by kernel_rfl) (by kernel_rfl) (fun _ _ _ h => h) (Or.inl ⟨by rfl, ?y5_1⟩) ⟨(fun h => absurd h (by decide)), (fun h => absurd h (by decide)), (fun h => absurd h (by decide)), (fun h => absurd h (by decide)), (fun h => absurd h (by decide))⟩ ?_
  case y5_1 => (intro w hF; clear hF; go_simp; try with_reducible rfl)
  try simp only [List.getElem_toArray, List.getElem_cons_succ, List.getElem_cons_zero, Act.put, List.setIfInBounds_toArray, List.set_cons_zero, List.set_cons_succ]
  refine wpAnyF_take (i := 6) (v := ?v6_1) rfl (by kernel_rfl) (by kernel_rfl) (by kernel_rfl) (by kernel_rfl) (fun _ _ _ h => h) (Or.inl ⟨by rfl, ?y6_1⟩) ⟨(fun h => absurd h (by decide)), (fun _ => ((K1.out.drew.cell 31).trans (mx31 ..))), (fun h => absurd h (by decide)), (fun h => absurd h (by decide)), (fun h => absurd h (by decide))⟩ ?_
  case y6_1 => (intro w hF; have hF2 := hF.2.1 rfl; clear hF; go_simp; try with_reducible rfl)
  try simp only [List.getElem_toArray, List.getElem_cons_succ, List.getElem_cons_zero, Act.put, List.setIfInBounds_toArray, List.set_cons_zero, List.set_cons_succ]
  refine wpAnyF_take (i := 8) (v := ?v8_1) rfl (by kernel_rfl) (by kernel_rfl) (by kernel_rfl) (by kernel_rfl) (fun _ _ _ h => h) (Or.inl ⟨by rfl, ?y8_1⟩) ⟨(fun h => absurd h (by decide)), (fun h => absurd h (by decide)), (fun h => absurd h (by decide)), (fun h => absurd h (by decide)), (fun h => absurd h (by decide))⟩ ?_
  case y8_1 => (intro w hF; clear hF; go_simp; try with_reducible rfl)
  try simp only [List.getElem_toArray, List.getElem_cons_succ, List.getElem_cons_zero, Act.put, List.setIfInBounds_toArray, List.set_cons_zero, List.set_cons_succ]
  refine wpAnyF_take (i := 9) (v := ?v9_1) rfl (by kernel_rfl) (by kernel_rfl) (by kernel_rfl) (by kernel_rfl) (fun _ _ _ h => h) (Or.inl ⟨by rfl, ?y9_1⟩) ⟨(fun h => absurd h (by decide)), (fun h => absurd h (by decide)), (fun h => absurd h (by decide)), (fun h => absurd h (by decide)), (fun h => absurd h (by decide))⟩ ?_
  case y9_1 => (intro w hF; clear hF; go_simp; try with_reducible rfl)
  try simp only [List.getElem_toArray, List.getElem_cons_succ, List.getElem_cons_zero, Act.put, List.setIfInBounds_toArray, List.set_cons_zero, List.set_cons_succ]
  refine wpAnyF_take (i := 10) (v := ?v10_1) rfl (by kernel_rfl) (by kernel_rfl) (by kernel_rfl) (by kernel_rfl) (fun _ _ _ h => h) (Or.inl ⟨by rfl, ?y10_1⟩) ⟨(fun h => absurd h (by decide)), (fun h => absurd h (by decide)), (fun _ => ((K1.out.drew.cell 32).trans (mx32 ..))), (fun h => absurd h (by decide)), (fun h => absurd h (by decide))⟩ ?_
  case y10_1 => (intro w hF; have hF2 := hF.2.2.1 rfl; clear hF; go_simp; try with_reducible rfl)
  try simp only [List.getElem_toArray, List.getElem_cons_succ, List.getElem_cons_zero, Act.put, List.setIfInBounds_toArray, List.set_cons_zero, List.set_cons_succ]
  refine wpAnyF_take (i := 12) (v := ?v12_1) rfl (by kernel_rfl) (by kernel_rfl) (by kernel_rfl) (by kernel_rfl) (fun _ _ _ h => h) (Or.inl ⟨by rfl, ?y12_1⟩) ⟨(fun h => absurd h (by decide)), (fun h => absurd h (by decide)), (fun h => absurd h (by decide)), (fun h => absurd h (by decide)), (fun h => absurd h (by decide))⟩ ?_
  case y12_1 => (intro w hF; clear hF; go_simp; try with_reducible rfl)
  try simp only [List.getElem_toArray, List.getElem_cons_succ, List.getElem_cons_zero, Act.put, List.setIfInBounds_toArray, List.set_cons_zero, List.set_cons_succ]
  refine wpAnyF_take (i := 13) (v := ?v13_1) rfl (by kernel_rfl) (by kernel_rfl) (by kernel_rfl) (by kernel_rfl) (fun _ _ _ h => h) (Or.inl ⟨by rfl, ?y13_1⟩) ⟨(fun h => absurd h (by decide)), (fun h => absurd h (by decide)), (fun h => absurd h (by decide)), (fun h => absurd h (by decide)), (fun h => absurd h (by decide))⟩ ?_
  case y13_1 => (intro w hF; clear hF; go_simp; try with_reducible rfl)
  try simp only [List.getElem_toArray, List.getElem_cons_succ, List.getElem_cons_zero, Act.put, List.setIfInBounds_toArray, List.set_cons_zero, List.set_cons_succ]
  refine wpAnyF_take (i := 14) (v := ?v14_1) rfl (by kernel_rfl) (by kernel_rfl) (by kernel_rfl) (by kernel_rfl) (fun _ _ _ h => h) (Or.inl ⟨by rfl, ?y14_1⟩) ⟨(fun h => absurd h (by decide)), (fun h => absurd h (by decide)), (fun h => absurd h (by decide)), (fun _ => ((K1.out.drew.cell 33).trans (mx33 ..))), (fun h => absurd h (by decide))⟩ ?_
  case y14_1 => (intro w hF; have hF2 := hF.2.2.2.1 rfl; clear hF; go_simp; try with_reducible rfl)
  try simp only [List.getElem_toArray, List.getElem_cons_succ, List.getElem_cons_zero, Act.put, List.setIfInBounds_toArray, List.set_cons_zero, List.set_cons_succ]
  refine wpAnyF_take (i := 16) (v := ?v16_1) rfl (by kernel_rfl) (by kernel_rfl) (by kernel_rfl) (by kernel_rfl) (fun _ _ _ h => h) (Or.inl ⟨by rfl, ?y16_1⟩) ⟨(fun h => absurd h (by decide)), (fun h => absurd h (by decide)), (fun h => absurd h (by decide)), (fun h => absurd h (by decide)), (fun h => absurd h (by decide))⟩ ?_
  case y16_1 => (intro w hF; clear hF; go_simp; try with_reducible rfl)
  try simp only [List.getElem_toArray, List.getElem_cons_succ, List.getElem_cons_zero, Act.put, List.setIfInBounds_toArray, List.set_cons_zero, List.set_cons_succ]
  refine wpAnyF_take (i := 17) (v := ?v17_1) rfl (by kernel_rfl) (by kernel_rfl) (by kernel_rfl) (by kernel_rfl) (fun _ _ _ h => h) (Or.inl ⟨by rfl, ?y17_1⟩) ⟨(fun h => absurd h (by decide)), (fun h => absurd h (by decide)), (fun h => absurd h (by decide)), (fun h => absurd h (by decide)), (fun h => absurd h (by decide))⟩ ?_
  case y17_1 => (intro w hF; clear hF; go_simp; try with_reducible rfl)
  try simp only [List.getElem_toArray, List.getElem_cons_succ, List.getElem_cons_zero, Act.put, List.setIfInBounds_toArray, List.set_cons_zero, List.set_cons_succ]
  refine wpAnyF_take (i := 18) (v := ?v18_1) rfl (by kernel_rfl) (by kernel_rfl) (by kernel_rfl) (by kernel_rfl) (fun _ _ _ h => h) (Or.inl ⟨by rfl, ?y18_1⟩) ⟨(fun h => absurd h (by decide)), (fun h => absurd h (by decide)), (fun h => absurd h (by decide)), (fun h => absurd h (by decide)), (fun _ => ((K1.out.drew.cell 34).trans (mx34 ..)))⟩ ?_
  case y18_1 => (intro w hF; have hF2 := hF.2.2.2.2 rfl; clear hF; go_simp; try with_reducible rfl)
  try simp only [List.getElem_toArray, List.getElem_cons_succ, List.getElem_cons_zero, Act.put, List.setIfInBounds_toArray, List.set_cons_zero, List.set_cons_succ]
  refine wpAnyF_ready (rs := [3]) (by kernel_rfl) (by simp) (AllReadyF.cons rfl (fun K hK => ?_) AllReadyF.nil)
  go_simp
  refine (C0.out _ B1.drew).mono ?_
  rintro e w2 ⟨u0, rfl, ho0, hb2⟩
  try go_wp2_with fail
  refine hK.out _ _ (Sat.all (by kernel_rfl) (fun k => ⟨(fun _ => (((K1.out.drew.below hb2).cell 30).trans (mx30 ..))), (fun _ => (((K1.out.drew.below hb2).cell 31).trans (mx31 ..))), (fun _ => (((K1.out.drew.below hb2).cell 32).trans (mx32 ..))), (fun _ => (((K1.out.drew.below hb2).cell 33).trans (mx33 ..))), (fun _ => (((K1.out.drew.below hb2).cell 34).trans (mx34 ..)))⟩)) ?_
  clear hK K
  try simp only [List.getElem_toArray, List.getElem_cons_succ, List.getElem_cons_zero, Act.put, List.setIfInBounds_toArray, List.set_cons_zero, List.set_cons_succ]
  have s2 := hb2.size
  have K2 := Lib.hid (K1.out.drew.below hb2)
  have KZ2 := Lib.hid (KZ.out.drew.below hb2)
  have B2 : Below w.heap.size w w2 := below_then B1.drew hb2
  have O0 := Lib.hid ho0
  have N0 := Lib.hid (fun g hg => (ho0.lt g hg).2)
  clear hb2 ho0
  obtain ⟨a0, q0, eu0⟩ := own_shape O0.out
  subst eu0
  refine wpAnyF_take (i := 20) (v := ?v20_3) rfl (by kernel_rfl) (by kernel_rfl) (by kernel_rfl) (by kernel_rfl) (fun _ _ _ h => h) (Or.inl ⟨by rfl, ?y20_3⟩) ⟨(fun h => absurd h (by decide)), (fun h => absurd h (by decide)), (fun h => absurd h (by decide)), (fun h => absurd h (by decide)), (fun h => absurd h (by decide))⟩ ?_
  case y20_3 => (intro w hF; clear hF; go_simp; try with_reducible rfl)
  try simp only [List.getElem_toArray, List.getElem_cons_succ, List.getElem_cons_zero, Act.put, List.setIfInBounds_toArray, List.set_cons_zero, List.set_cons_succ]
  refine wpAnyF_ready (rs := [7]) (by kernel_rfl) (by simp) (AllReadyF.cons rfl (fun K hK => ?_) AllReadyF.nil)
  go_simp
  refine (C1.out _ B2).mono ?_
  rintro e w3 ⟨u1, rfl, ho1, hb3⟩
  try go_wp2_with fail
  refine hK.out _ _ (Sat.all (by kernel_rfl) (fun k => ⟨(fun _ => (((K2.out.below hb3).cell 30).trans (mx30 ..))), (fun _ => (((K2.out.below hb3).cell 31).trans (mx31 ..))), (fun _ => (((K2.out.below hb3).cell 32).trans (mx32 ..))), (fun _ => (((K2.out.below hb3).cell 33).trans (mx33 ..))), (fun _ => (((K2.out.below hb3).cell 34).trans (mx34 ..)))⟩)) ?_
  clear hK K
  try simp only [List.getElem_toArray, List.getElem_cons_succ, List.getElem_cons_zero, Act.put, List.setIfInBounds_toArray, List.set_cons_zero, List.set_cons_succ]
  have s3 := hb3.size
  have K3 := Lib.hid (K2.out.below hb3)
  have KZ3 := Lib.hid (KZ2.out.below hb3)
  have B3 : Below w.heap.size w w3 := below_then B2 hb3
  replace O0 := Lib.hid (own_below O0.out hb3)
  have O1 := Lib.hid ho1
  have N1 := Lib.hid (fun g hg => (ho1.lt g hg).2)
  clear hb3 ho1
  obtain ⟨a1, q1, eu1⟩ := own_shape O1.out
  subst eu1
  refine wpAnyF_ready (rs := [11]) (by kernel_rfl) (by simp) (AllReadyF.cons rfl (fun K hK => ?_) AllReadyF.nil)
  go_simp
  refine (C2.out _ B3).mono ?_
  rintro e w4 ⟨u2, rfl, ho2, hb4⟩
  try go_wp2_with fail
  refine hK.out _ _ (Sat.all (by kernel_rfl) (fun k => ⟨(fun _ => (((K3.out.below hb4).cell 30).trans (mx30 ..))), (fun _ => (((K3.out.below hb4).cell 31).trans (mx31 ..))), (fun _ => (((K3.out.below hb4).cell 32).trans (mx32 ..))), (fun _ => (((K3.out.below hb4).cell 33).trans (mx33 ..))), (fun _ => (((K3.out.below hb4).cell 34).trans (mx34 ..)))⟩)) ?_
  clear hK K
  try simp only [List.getElem_toArray, List.getElem_cons_succ, List.getElem_cons_zero, Act.put, List.setIfInBounds_toArray, List.set_cons_zero, List.set_cons_succ]
  have s4 := hb4.size
  have K4 := Lib.hid (K3.out.below hb4)
  have KZ4 := Lib.hid (KZ3.out.below hb4)
  have B4 : Below w.heap.size w w4 := below_then B3 hb4
  replace O0 := Lib.hid (own_below O0.out hb4)
  replace O1 := Lib.hid (own_below O1.out hb4)
  have O2 := Lib.hid ho2
  have N2 := Lib.hid (fun g hg => (ho2.lt g hg).2)
  clear hb4 ho2
  obtain ⟨a2, q2, eu2⟩ := own_shape O2.out
  subst eu2
  refine wpAnyF_ready (rs := [15]) (by kernel_rfl) (by simp) (AllReadyF.cons rfl (fun K hK => ?_) AllReadyF.nil)
  go_simp
  refine (C3.out _ B4).mono ?_
  rintro e w5 ⟨u3, rfl, ho3, hb5⟩
  try go_wp2_with fail
  refine hK.out _ _ (Sat.all (by kernel_rfl) (fun k => ⟨(fun _ => (((K4.out.below hb5).cell 30).trans (mx30 ..))), (fun _ => (((K4.out.below hb5).cell 31).trans (mx31 ..))), (fun _ => (((K4.out.below hb5).cell 32).trans (mx32 ..))), (fun _ => (((K4.out.below hb5).cell 33).trans (mx33 ..))), (fun _ => (((K4.out.below hb5).cell 34).trans (mx34 ..)))⟩)) ?_
  clear hK K
  try simp only [List.getElem_toArray, List.getElem_cons_succ, List.getElem_cons_zero, Act.put, List.setIfInBounds_toArray, List.set_cons_zero, List.set_cons_succ]
  have s5 := hb5.size
  have K5 := Lib.hid (K4.out.below hb5)
  have KZ5 := Lib.hid (KZ4.out.below hb5)
  have B5 : Below w.heap.size w w5 := below_then B4 hb5
  replace O0 := Lib.hid (own_below O0.out hb5)
  replace O1 := Lib.hid (own_below O1.out hb5)
  replace O2 := Lib.hid (own_below O2.out hb5)
  have O3 := Lib.hid ho3
  have N3 := Lib.hid (fun g hg => (ho3.lt g hg).2)
  clear hb5 ho3
  obtain ⟨a3, q3, eu3⟩ := own_shape O3.out
  subst eu3
  refine wpAnyF_ready (rs := [19]) (by kernel_rfl) (by simp) (AllReadyF.cons rfl (fun K hK => ?_) AllReadyF.nil)
  go_simp
  refine (C4.out _ B5).mono ?_
  rintro e w6 ⟨u4, rfl, ho4, hb6⟩
  try go_wp2_with fail
  refine hK.out _ _ (Sat.all (by kernel_rfl) (fun k => ⟨(fun _ => (((K5.out.below hb6).cell 30).trans (mx30 ..))), (fun _ => (((K5.out.below hb6).cell 31).trans (mx31 ..))), (fun _ => (((K5.out.below hb6).cell 32).trans (mx32 ..))), (fun _ => (((K5.out.below hb6).cell 33).trans (mx33 ..))), (fun _ => (((K5.out.below hb6).cell 34).trans (mx34 ..)))⟩)) ?_
  clear hK K
  try simp only [List.getElem_toArray, List.getElem_cons_succ, List.getElem_cons_zero, Act.put, List.setIfInBounds_toArray, List.set_cons_zero, List.set_cons_succ]
  have s6 := hb6.size
  have K6 := Lib.hid (K5.out.below hb6)
  have KZ6 := Lib.hid (KZ5.out.below hb6)
  have B6 : Below w.heap.size w w6 := below_then B5 hb6
  replace O0 := Lib.hid (own_below O0.out hb6)
  replace O1 := Lib.hid (own_below O1.out hb6)
  replace O2 := Lib.hid (own_below O2.out hb6)
  replace O3 := Lib.hid (own_below O3.out hb6)
  have O4 := Lib.hid ho4
  have N4 := Lib.hid (fun g hg => (ho4.lt g hg).2)
  clear hb6 ho4
  obtain ⟨a4, q4, eu4⟩ := own_shape O4.out
  subst eu4
  have sd1 : w1.drew.heap.size = w1.heap.size := rfl
  clear K1 KZ B1 K2 K3 K4 K5 KZ2 KZ3 KZ4 KZ5 B2 B3 B4 B5 C0 C1 C2 C3 C4
  have l6 := K6.out.lt
  have f6 := K6.out.free
  have c30 := (K6.out.cell 30).trans (mx30 ..)
  refine wpAnyF_ready (rs := [21]) (by kernel_rfl) (by simp) (AllReadyF.cons rfl (fun K hK => ?_) AllReadyF.nil)
  go_simp
  refine hK.out _ _ (Sat.off [2, 6, 10, 14, 18] (fun k w hk => by simp only [List.mem_cons, List.not_mem_nil, or_false, not_or] at hk; exact ⟨(fun e => absurd e hk.1), (fun e => absurd e hk.2.1), (fun e => absurd e hk.2.2.1), (fun e => absurd e hk.2.2.2.1), (fun e => absurd e hk.2.2.2.2)⟩) (by kernel_rfl) _ _) ?_
  clear hK K
  try simp only [List.getElem_toArray, List.getElem_cons_succ, List.getElem_cons_zero, Act.put, List.setIfInBounds_toArray, List.set_cons_zero, List.set_cons_succ]
  have L0 := Lib.hid (Blk.set K6.out (msV30 _ m (.slice a0 (m.mem 0).length q0)))
  have m0 := L0.out.lt
  have g0 := L0.out.free
  have d0 := (L0.out.cell 31).trans (mx31 ..)
  refine wpAnyF_take (i := 22) (v := ?v22_9) rfl (by kernel_rfl) (by kernel_rfl) (by kernel_rfl) (by kernel_rfl) (fun _ _ _ h => h) (Or.inl ⟨by rfl, ?y22_9⟩) ⟨(fun h => absurd h (by decide)), (fun h => absurd h (by decide)), (fun h => absurd h (by decide)), (fun h => absurd h (by decide)), (fun h => absurd h (by decide))⟩ ?_
  case y22_9 => (intro w hF; clear hF; go_simp; try with_reducible rfl)
  try simp only [List.getElem_toArray, List.getElem_cons_succ, List.getElem_cons_zero, Act.put, List.setIfInBounds_toArray, List.set_cons_zero, List.set_cons_succ]
  refine wpAnyF_ready (rs := [23]) (by kernel_rfl) (by simp) (AllReadyF.cons rfl (fun K hK => ?_) AllReadyF.nil)
  go_simp
  refine hK.out _ _ (Sat.off [2, 6, 10, 14, 18] (fun k w hk => by simp only [List.mem_cons, List.not_mem_nil, or_false, not_or] at hk; exact ⟨(fun e => absurd e hk.1), (fun e => absurd e hk.2.1), (fun e => absurd e hk.2.2.1), (fun e => absurd e hk.2.2.2.1), (fun e => absurd e hk.2.2.2.2)⟩) (by kernel_rfl) _ _) ?_
  clear hK K
  try simp only [List.getElem_toArray, List.getElem_cons_succ, List.getElem_cons_zero, Act.put, List.setIfInBounds_toArray, List.set_cons_zero, List.set_cons_succ]
  have L1 := Lib.hid (Blk.set L0.out (msV31 _ m (.slice a1 (m.mem 1).length q1)))
  have m1 := L1.out.lt
  have g1 := L1.out.free
  have d1 := (L1.out.cell 32).trans (mx32 ..)
  refine wpAnyF_take (i := 24) (v := ?v24_11) rfl (by kernel_rfl) (by kernel_rfl) (by kernel_rfl) (by kernel_rfl) (fun _ _ _ h => h) (Or.inl ⟨by rfl, ?y24_11⟩) ⟨(fun h => absurd h (by decide)), (fun h => absurd h (by decide)), (fun h => absurd h (by decide)), (fun h => absurd h (by decide)), (fun h => absurd h (by decide))⟩ ?_
  case y24_11 => (intro w hF; clear hF; go_simp; try with_reducible rfl)
  try simp only [List.getElem_toArray, List.getElem_cons_succ, List.getElem_cons_zero, Act.put, List.setIfInBounds_toArray, List.set_cons_zero, List.set_cons_succ]
  refine wpAnyF_ready (rs := [25]) (by kernel_rfl) (by simp) (AllReadyF.cons rfl (fun K hK => ?_) AllReadyF.nil)
  go_simp
  refine hK.out _ _ (Sat.off [2, 6, 10, 14, 18] (fun k w hk => by simp only [List.mem_cons, List.not_mem_nil, or_false, not_or] at hk; exact ⟨(fun e => absurd e hk.1), (fun e => absurd e hk.2.1), (fun e => absurd e hk.2.2.1), (fun e => absurd e hk.2.2.2.1), (fun e => absurd e hk.2.2.2.2)⟩) (by kernel_rfl) _ _) ?_
  clear hK K
  try simp only [List.getElem_toArray, List.getElem_cons_succ, List.getElem_cons_zero, Act.put, List.setIfInBounds_toArray, List.set_cons_zero, List.set_cons_succ]
  have L2 := Lib.hid (Blk.set L1.out (msV32 _ m (.slice a2 (m.mem 2).length q2)))
  have m2 := L2.out.lt
  have g2 := L2.out.free
  have d2 := (L2.out.cell 33).trans (mx33 ..)
  refine wpAnyF_take (i := 26) (v := ?v26_13) rfl (by kernel_rfl) (by kernel_rfl) (by kernel_rfl) (by kernel_rfl) (fun _ _ _ h => h) (Or.inl ⟨by rfl, ?y26_13⟩) ⟨(fun h => absurd h (by decide)), (fun h => absurd h (by decide)), (fun h => absurd h (by decide)), (fun h => absurd h (by decide)), (fun h => absurd h (by decide))⟩ ?_
  case y26_13 => (intro w hF; clear hF; go_simp; try with_reducible rfl)
  try simp only [List.getElem_toArray, List.getElem_cons_succ, List.getElem_cons_zero, Act.put, List.setIfInBounds_toArray, List.set_cons_zero, List.set_cons_succ]
  refine wpAnyF_ready (rs := [27]) (by kernel_rfl) (by simp) (AllReadyF.cons rfl (fun K hK => ?_) AllReadyF.nil)
  go_simp
  refine hK.out _ _ (Sat.off [2, 6, 10, 14, 18] (fun k w hk => by simp only [List.mem_cons, List.not_mem_nil, or_false, not_or] at hk; exact ⟨(fun e => absurd e hk.1), (fun e => absurd e hk.2.1), (fun e => absurd e hk.2.2.1), (fun e => absurd e hk.2.2.2.1), (fun e => absurd e hk.2.2.2.2)⟩) (by kernel_rfl) _ _) ?_
  clear hK K
  try simp only [List.getElem_toArray, List.getElem_cons_succ, List.getElem_cons_zero, Act.put, List.setIfInBounds_toArray, List.set_cons_zero, List.set_cons_succ]
  have L3 := Lib.hid (Blk.set L2.out (msV33 _ m (.slice a3 (m.mem 3).length q3)))
  have m3 := L3.out.lt
  have g3 := L3.out.free
  have d3 := (L3.out.cell 34).trans (mx34 ..)
  refine wpAnyF_take (i := 28) (v := ?v28_15) rfl (by kernel_rfl) (by kernel_rfl) (by kernel_rfl) (by kernel_rfl) (fun _ _ _ h => h) (Or.inl ⟨by rfl, ?y28_15⟩) ⟨(fun h => absurd h (by decide)), (fun h => absurd h (by decide)), (fun h => absurd h (by decide)), (fun h => absurd h (by decide)), (fun h => absurd h (by decide))⟩ ?_
  case y28_15 => (intro w hF; clear hF; go_simp; try with_reducible rfl)
  try simp only [List.getElem_toArray, List.getElem_cons_succ, List.getElem_cons_zero, Act.put, List.setIfInBounds_toArray, List.set_cons_zero, List.set_cons_succ]
  refine wpAnyF_ready (rs := [29]) (by kernel_rfl) (by simp) (AllReadyF.cons rfl (fun K hK => ?_) AllReadyF.nil)
  go_simp
  refine hK.out _ _ (Sat.off [2, 6, 10, 14, 18] (fun k w hk => by simp only [List.mem_cons, List.not_mem_nil, or_false, not_or] at hk; exact ⟨(fun e => absurd e hk.1), (fun e => absurd e hk.2.1), (fun e => absurd e hk.2.2.1), (fun e => absurd e hk.2.2.2.1), (fun e => absurd e hk.2.2.2.2)⟩) (by kernel_rfl) _ _) ?_
  clear hK K
  try simp only [List.getElem_toArray, List.getElem_cons_succ, List.getElem_cons_zero, Act.put, List.setIfInBounds_toArray, List.set_cons_zero, List.set_cons_succ]
  refine wpAnyF_done (by kernel_rfl) ?_ _
  have L4 := Lib.hid (Blk.set L3.out (msV34 _ m (.slice a4 (m.mem 4).length q4)))
  obtain ⟨w8, hw8⟩ : ∃ W, W = (((((w6.setCell ⟨w.heap.size, 30, none⟩ (.slice a0 (m.mem 0).length q0)).setCell ⟨w.heap.size, 31, none⟩ (.slice a1 (m.mem 1).length q1)).setCell ⟨w.heap.size, 32, none⟩ (.slice a2 (m.mem 2).length q2)).setCell ⟨w.heap.size, 33, none⟩ (.slice a3 (m.mem 3).length q3)).setCell ⟨w.heap.size, 34, none⟩ (.slice a4 (m.mem 4).length q4)) := ⟨_, rfl⟩
  obtain ⟨U, hU⟩ : ∃ U, U = (updV (updV (updV (updV (updV V 0 (.slice a0 (m.mem 0).length q0)) 1 (.slice a1 (m.mem 1).length q1)) 2 (.slice a2 (m.mem 2).length q2)) 3 (.slice a3 (m.mem 3).length q3)) 4 (.slice a4 (m.mem 4).length q4)) := ⟨_, rfl⟩
  have B8 : Below w.heap.size w w8 := by rw [hw8]; exact ((((B6.setCell (Nat.le_refl _) _).setCell (Nat.le_refl _) _).setCell (Nat.le_refl _) _).setCell (Nat.le_refl _) _).setCell (Nat.le_refl _) _
  have KZ8 : Hid (Blk w8 (w.heap.size + 1) Z 41) := Lib.hid (by
    rw [hw8]
    have e : w.heap.size + 1 ≠ w.heap.size := by omega
    exact Blk.setAt (Blk.setAt (Blk.setAt (Blk.setAt (Blk.setAt KZ6.out e) e) e) e) e)
  have OW : ∀ {lo n : Nat} {v : Value} {xs : List Value}, w.heap.size < lo → w6.ownsRow lo 5 1 v n xs → w8.ownsRow lo 5 1 v n xs := fun hlo h => by
    rw [hw8]
    have hne : ∀ g, _ = some g → g ≠ w.heap.size := fun g hg => by have := (h.lt g hg).1; omega
    exact own_setAt (own_setAt (own_setAt (own_setAt (own_setAt h hne) hne) hne) hne) hne
  rw [← hw8, ← hU] at L4
  rw [← hw8]
  have e0 : U 0 = .slice a0 (m.mem 0).length q0 := by rw [hU]; rfl
  have e1 : U 1 = .slice a1 (m.mem 1).length q1 := by rw [hU]; rfl
  have e2 : U 2 = .slice a2 (m.mem 2).length q2 := by rw [hU]; rfl
  have e3 : U 3 = .slice a3 (m.mem 3).length q3 := by rw [hU]; rfl
  have e4 : U 4 = .slice a4 (m.mem 4).length q4 := by rw [hU]; rfl
  have Y0 := OW (by first | omega | (show w.heap.size < w1.heap.size; omega)) O0.out
  rw [← e0] at Y0 N0
  have Y1 := OW (by first | omega | (show w.heap.size < w1.heap.size; omega)) O1.out
  rw [← e1] at Y1 N1
  have Y2 := OW (by first | omega | (show w.heap.size < w1.heap.size; omega)) O2.out
  rw [← e2] at Y2 N2
  have Y3 := OW (by first | omega | (show w.heap.size < w1.heap.size; omega)) O3.out
  rw [← e3] at Y3 N3
  have Y4 := OW (by first | omega | (show w.heap.size < w1.heap.size; omega)) O4.out
  rw [← e4] at Y4 N4
  have FR : Hid ((∀ i, i < 5 → w8.ownsRow w1.heap.size 5 1 (U i) (m.mem i).length ((m.mem i).map (Value.int .u8))) ∧ (∀ i j g, i < 5 → j < 5 → i ≠ j → (U i).ownBlock = some g → (U j).ownBlock ≠ some g)) := Lib.hid (by
    have b1 : ∀ g, (U 1).ownBlock = some g → w2.heap.size ≤ g := fun g hg => (Y1.lt g hg).1
    have b2 : ∀ g, (U 2).ownBlock = some g → w3.heap.size ≤ g := fun g hg => (Y2.lt g hg).1
    have b3 : ∀ g, (U 3).ownBlock = some g → w4.heap.size ≤ g := fun g hg => (Y3.lt g hg).1
    have b4 : ∀ g, (U 4).ownBlock = some g → w5.heap.size ≤ g := fun g hg => (Y4.lt g hg).1
    have a01 := ap_lt N0.out b1 (Nat.le_refl _)
    have a02 := ap_lt N0.out b2 (by omega)
    have a03 := ap_lt N0.out b3 (by omega)
    have a04 := ap_lt N0.out b4 (by omega)
    have a12 := ap_lt N1.out b2 (by omega)
    have a13 := ap_lt N1.out b3 (by omega)
    have a14 := ap_lt N1.out b4 (by omega)
    have a23 := ap_lt N2.out b3 (by omega)
    have a24 := ap_lt N2.out b4 (by omega)
    have a34 := ap_lt N3.out b4 (by omega)
    refine ⟨fun i hi => ?_, fun i j g hi hj hne h1 h2 => ?_⟩
    · match i, hi with
      | 0, _ => exact own_base Y0 (show w1.heap.size ≤ w1.heap.size from Nat.le_refl _)
      | 1, _ => exact own_base Y1 (by omega)
      | 2, _ => exact own_base Y2 (by omega)
      | 3, _ => exact own_base Y3 (by omega)
      | 4, _ => exact own_base Y4 (by omega)
    · match i, hi, j, hj, hne, h1, h2 with
      | 0, _, 1, _, _, h1, h2 => exact a01 g h1 h2
      | 0, _, 2, _, _, h1, h2 => exact a02 g h1 h2
      | 0, _, 3, _, _, h1, h2 => exact a03 g h1 h2
      | 0, _, 4, _, _, h1, h2 => exact a04 g h1 h2
      | 1, _, 2, _, _, h1, h2 => exact a12 g h1 h2
      | 1, _, 3, _, _, h1, h2 => exact a13 g h1 h2
      | 1, _, 4, _, _, h1, h2 => exact a14 g h1 h2
      | 2, _, 3, _, _, h1, h2 => exact a23 g h1 h2
      | 2, _, 4, _, _, h1, h2 => exact a24 g h1 h2
      | 3, _, 4, _, _, h1, h2 => exact a34 g h1 h2
      | 1, _, 0, _, _, h1, h2 => exact a01 g h2 h1
      | 2, _, 0, _, _, h1, h2 => exact a02 g h2 h1
      | 3, _, 0, _, _, h1, h2 => exact a03 g h2 h1
      | 4, _, 0, _, _, h1, h2 => exact a04 g h2 h1
      | 2, _, 1, _, _, h1, h2 => exact a12 g h2 h1
      | 3, _, 1, _, _, h1, h2 => exact a13 g h2 h1
      | 4, _, 1, _, _, h1, h2 => exact a14 g h2 h1
      | 3, _, 2, _, _, h1, h2 => exact a23 g h2 h1
      | 4, _, 2, _, _, h1, h2 => exact a24 g h2 h1
      | 4, _, 3, _, _, h1, h2 => exact a34 g h2 h1
      | 0, _, 0, _, hne, _, _ => exact absurd rfl hne
      | 1, _, 1, _, hne, _, _ => exact absurd rfl hne
      | 2, _, 2, _, hne, _, _ => exact absurd rfl hne
      | 3, _, 3, _, hne, _, _ => exact absurd rfl hne
      | 4, _, 4, _, hne, _, _ => exact absurd rfl hne)
  have ONE : (machC U m).all (·.oneCell') = true := machC_one m (fun i hi => by
    obtain ⟨a, c, h⟩ := own_shape (FR.out.1 i hi)
    rw [h]
    rfl)
  clear Y0 Y1 Y2 Y3 Y4 e0 e1 e2 e3 e4 OW N0 N1 N2 N3 N4 O0 O1 O2 O3 O4 hU hw8 K6 KZ6 L0 L1 L2 L3 m0 m1 m2 m3 g0 g1 g2 g3 d0 d1 d2 d3 c30 l6 f6
  have KB := L4
  go_wp2_with (first | ((with_reducible show wpList _ _ _ _ _ _); refine wpList_loadW rfl 41 (.tmp 1) rfl (w.heap.size) rfl 41 (machC U m) (show Blk _ (w.heap.size) (machC U m) 41 from (by repeat' (first | (with_reducible first | exact Hid.out (by assumption) | exact Blk.new _ _ _ | (refine Blk.new_at _ _ _ _ ?_; simp; done) | refine Blk.alloc ?_ _ | refine Blk.drewN ?_ _ | refine Blk.drew ?_ | apply Blk.set | refine Blk.put ?_ (by assumption) (by first | (simp; done) | (simp; omega) | omega) | refine Blk.below ?_ (by assumption)) | (refine Blk.setAt ?_ (by first | (simp; done) | (simp; omega))) | rfl))) _ Try.underlying41 rfl (by kernel_rfl) ?_) | ((with_reducible show wpList _ _ _ _ _ _); refine wpList_storeW rfl 41 (.tmp 2) (.tmp 29) rfl (w.heap.size + 1) (machC U m) rfl rfl 41 _ (show Blk _ (w.heap.size + 1) Z 41 from (by repeat' (first | (with_reducible first | exact Hid.out (by assumption) | exact Blk.new _ _ _ | (refine Blk.new_at _ _ _ _ ?_; simp; done) | refine Blk.alloc ?_ _ | refine Blk.drewN ?_ _ | refine Blk.drew ?_ | apply Blk.set | refine Blk.put ?_ (by assumption) (by first | (simp; done) | (simp; omega) | omega) | refine Blk.below ?_ (by assumption)) | (refine Blk.setAt ?_ (by first | (simp; done) | (simp; omega))) | rfl))) (by kernel_rfl) (by rw [hZ]; rfl) ONE ?_; intro w9 hp_w9 K_w9))
  have Y9 : ∀ i, i < 5 → w9.ownsRow w.heap.size 5 1 (U i) (m.mem i).length ((m.mem i).map (Value.int .u8)) := fun i hi => own_base (own_put (FR.out.1 i hi) hp_w9 (by omega)) (by omega)
  exact bodyPost_ret (results_cell_row Try.results15 _ _ (w.heap.size + 1) 41 _ (0, 0) _ rfl K_w9.out Try.underlying41 rfl (by kernel_rfl)) rfl ⟨U, rfl, ⟨by repeat' (first | (with_reducible first | exact Below.refl _ _ | assumption | refine below_alloc ?_ _ | refine Below.drew ?_ | refine below_drewN ?_ _ | refine below_then ?_ (by assumption) | refine below_put ?_ (by assumption) (by first | (simp; done) | (simp; omega) | omega) | refine Below.setCell ?_ ?_ _) | (simp; done) | (simp; omega) | omega), Y9, FR.out.2⟩⟩
end Go.Proofs.Ytimccpmdgfneoaa
