/- The document's dots, and where sprites lie. Conditions: a memory of 256 bytes. -/
import Derived.Test.YtcgigpglpbhakaaRows
import Derived.Test.YtcgigpglpbhakaaPicFact
set_option linter.unusedVariables false
set_option linter.unusedSimpArgs false
namespace Go.Mq
def liesV (xs : List Int) (k y : Int) : Int := if 0 ≤ y - bt xs (128 + 4 * k) ∧ y - bt xs (128 + 4 * k) ≤ 3 then y - bt xs (128 + 4 * k) else -1
end Go.Mq
namespace Go.Proofs.Ytcgigpglpbhakaa
open Go.RowKit Go.Mq
set_option maxHeartbeats 400000
set_option maxRecDepth 100000
theorem lies_any (xs : List Int) (v : Value) (k y : Int) (w : World) (h : Vid w v xs) (k0 : 0 ≤ k) (k1 : k ≤ 7) (y0 : 0 ≤ y) (y1 : y ≤ 7) :
    Calls Try.prog 54 #[v, .int .i64 k, .int .i64 y] w fun e w' => e = .returned (.int .i64 (liesV xs k y)) ∧ Below w.heap.size w w' := by
  have hu := h.2.2
  obtain ⟨b, off, cap, rfl, hc1, hc2, hb, hc⟩ := Vid.open' h
  obtain ⟨K, hK⟩ : ∃ K : Nat, 128 + 4 * k = K := ⟨(128 + 4 * k).toNat, by omega⟩
  have c := Lib.hid (And.intro hb (hc K (by omega)))
  have hz := bt_in xs hu K
  have hv : Hid (liesV xs k y = if 0 ≤ y - bt xs K ∧ y - bt xs K ≤ 3 then y - bt xs K else -1) := Lib.hid (by unfold liesV; rw [hK])
  generalize bt xs K = z at *
  have W1 : wrap64 (4 * k) = 4 * k := by unfold wrap64; omega
  have W2 : wrap64 (128 + 4 * k) = (K : Int) := by unfold wrap64; omega
  have W3 : wrap64 z = z := by unfold wrap64; omega
  have hKi : (K : Int) < 256 := by omega
  clear h hu hc hc1 hc2 hb hK k0 k1
  go_enter Try.func54, Try.ntmps54
  go_wp2
  go_loopw [8] (fun i wr => ∃ j : Nat, j ≤ 4 ∧ i = .int .i64 j ∧ Hid (∀ r : Nat, r < j → ¬ z + r = y) ∧ Below w.heap.size w wr) (fun i _ => (4 - intOf i).toNat)
  case atStart => exact ⟨0, by omega, rfl, Lib.hid (fun r hr => by omega), Below.refl _ _⟩
  case round =>
    obtain ⟨j, hj, rfl, HJ, hbr⟩ := hrel
    by_cases hj4 : j < 4
    · have hji : (j : Int) < 4 := by omega
      have q := (hbr.cell (p := ⟨b, off + K, none⟩) c.out.1).trans c.out.2
      have W4 : wrap64 (z + j) = z + j := by unfold wrap64; omega
      by_cases e : z + j = y
      · have E : liesV xs k y = j := by rw [hv.out, if_pos (by omega)]; omega
        have e' : (z + (j : Int) == y) = true := by simpa using e
        clear e
        have HE := Lib.hid E
        clear E
        go_wp2
        go_ret
        exact ⟨by rw [HE.out]; rfl, hbr⟩
      · have e' : (z + (j : Int) == y) = false := by simpa using e
        have HN : Hid (∀ r : Nat, r < j + 1 → ¬ z + r = y) := Lib.hid (fun r hr => by
          by_cases h : r = j
          · subst h; exact e
          · exact HJ.out r (by omega))
        clear e
        go_wp2
        go_roundw
        case rel => exact ⟨j + 1, by omega, by go_num, HN, hbr⟩
        case measure => simp [intOf]; omega
    · have hj' : j = 4 := by omega
      subst hj'
      have E : liesV xs k y = -1 := by
        rw [hv.out, if_neg]
        intro hq
        have := HJ.out (y - z).toNat (by omega)
        omega
      have HE := Lib.hid E
      clear E
      go_wp2
      go_ret
      exact ⟨by rw [HE.out]; rfl, hbr⟩
theorem tile_0 (z t y : Int) (b off cap K : Nat) (w : World) (c : w.cell? ⟨b, off + K, none⟩ = some (.int .u8 z)) (hb : b < w.heap.size) (hz : 0 ≤ z ∧ z ≤ 255) (hK : 16 + t * 4 + y = K) (hKi : (K : Int) < 256) (t0 : 0 ≤ t) (t1 : t ≤ 15) (y0 : 0 ≤ y) (y1 : y ≤ 3) :
    Calls Try.prog 53 #[.slice (some ⟨b, off, none⟩) 256 cap, .int .i64 t, .int .i64 0, .int .i64 y] w fun e w' => e = .returned (.int .i64 (z / 64 % 4)) ∧ Below w.heap.size w w' := by
  have J1 : IntKind.i64.wrap (t * 4) = t * 4 := by rw [IntKind.wrap_i64]; omega
  have J2 : IntKind.i64.wrap (16 + t * 4) = 16 + t * 4 := by rw [IntKind.wrap_i64]; omega
  have J3 : IntKind.i64.wrap (16 + t * 4 + y) = (K : Int) := by rw [IntKind.wrap_i64]; omega
  have J4 : IntKind.i64.wrap z = z := by rw [IntKind.wrap_i64]; omega
  have J5 : Int.tdiv z 64 = z / 64 := Int.tdiv_eq_ediv_of_nonneg hz.1
  have J6 : IntKind.i64.wrap (z / 64) = z / 64 := by rw [IntKind.wrap_i64]; omega
  have J7 : Int.tmod (z / 64) 4 = z / 64 % 4 := Int.tmod_eq_emod_of_nonneg (by omega)
  have J8 : IntKind.i64.wrap (z / 64 % 4) = z / 64 % 4 := by rw [IntKind.wrap_i64]; omega
  have D := Lib.hid (And.intro hb c)
  clear t0 t1 y0 y1 hK hb c hz
  go_enter Try.func53, Try.ntmps53
  go_wp2_with fail
  refine wp_region_held_drew (S := fun X => Below w.heap.size w X) (by kernel_rfl) (Below.refl _ _).drew (fun hS => ?_)
  refine wpAnyH_take (i := 0) (v := ?v0) rfl (by kernel_rfl) (by kernel_rfl) (by kernel_rfl) (fun _ _ _ h => h) (Or.inl ⟨by rfl, ?y0⟩) hS ?_
  case y0 => (intro X hSw; go_simp; try with_reducible rfl)
  try simp only [List.getElem_toArray, List.getElem_cons_succ, List.getElem_cons_zero, Act.put, List.setIfInBounds_toArray, List.set_cons_zero, List.set_cons_succ]
  try simp only [J1, J2, J3, J4]
  refine wpAnyH_take (i := 1) (v := ?v1) rfl (by kernel_rfl) (by kernel_rfl) (by kernel_rfl) (fun _ _ _ h => h) (Or.inl ⟨by rfl, ?y1⟩) hS ?_
  case y1 => (intro X hSw; go_simp; try with_reducible rfl)
  try simp only [List.getElem_toArray, List.getElem_cons_succ, List.getElem_cons_zero, Act.put, List.setIfInBounds_toArray, List.set_cons_zero, List.set_cons_succ]
  try simp only [J1, J2, J3, J4]
  refine wpAnyH_take (i := 2) (v := ?v2) rfl (by kernel_rfl) (by kernel_rfl) (by kernel_rfl) (fun _ _ _ h => h) (Or.inl ⟨by rfl, ?y2⟩) hS ?_
  case y2 => (intro X hSw; go_simp; try with_reducible rfl)
  try simp only [List.getElem_toArray, List.getElem_cons_succ, List.getElem_cons_zero, Act.put, List.setIfInBounds_toArray, List.set_cons_zero, List.set_cons_succ]
  try simp only [J1, J2, J3, J4]
  refine wpAnyH_take (i := 3) (v := ?v3) rfl (by kernel_rfl) (by kernel_rfl) (by kernel_rfl) (fun _ _ _ h => h) (Or.inl ⟨by rfl, ?y3⟩) hS ?_
  case y3 => (intro X hSw; go_simp; try with_reducible rfl)
  try simp only [List.getElem_toArray, List.getElem_cons_succ, List.getElem_cons_zero, Act.put, List.setIfInBounds_toArray, List.set_cons_zero, List.set_cons_succ]
  try simp only [J1, J2, J3, J4]
  refine wpAnyH_take (i := 4) (v := ?v4) rfl (by kernel_rfl) (by kernel_rfl) (by kernel_rfl) (fun _ _ _ h => h) (Or.inl ⟨by rfl, ?y4⟩) hS ?_
  case y4 => (intro X hSw; go_simp; try with_reducible rfl)
  try simp only [List.getElem_toArray, List.getElem_cons_succ, List.getElem_cons_zero, Act.put, List.setIfInBounds_toArray, List.set_cons_zero, List.set_cons_succ]
  try simp only [J1, J2, J3, J4]
  refine wpAnyH_take (i := 5) (v := ?v5) rfl (by kernel_rfl) (by kernel_rfl) (by kernel_rfl) (fun _ _ _ h => h) (Or.inl ⟨by rfl, ?y5⟩) hS ?_
  case y5 => (intro X hSw; go_simp; try with_reducible rfl)
  try simp only [List.getElem_toArray, List.getElem_cons_succ, List.getElem_cons_zero, Act.put, List.setIfInBounds_toArray, List.set_cons_zero, List.set_cons_succ]
  try simp only [J1, J2, J3, J4]
  refine wpAnyH_take (i := 6) (v := ?v6) rfl (by kernel_rfl) (by kernel_rfl) (by kernel_rfl) (fun _ _ _ h => h) (Or.inl ⟨by rfl, ?y6⟩) hS ?_
  case y6 => (intro X hSw; go_simp; try with_reducible rfl)
  try simp only [List.getElem_toArray, List.getElem_cons_succ, List.getElem_cons_zero, Act.put, List.setIfInBounds_toArray, List.set_cons_zero, List.set_cons_succ]
  try simp only [J1, J2, J3, J4]
  refine wpAnyH_take (i := 7) (v := ?v7) rfl (by kernel_rfl) (by kernel_rfl) (by kernel_rfl) (fun _ _ _ h => h) (Or.inl ⟨by rfl, ?y7⟩) hS ?_
  case y7 => (intro X hSw; have q : X.cell? ⟨b, off + K, none⟩ = some (.int .u8 z) := (hSw.cell (p := ⟨b, off + K, none⟩) D.out.1).trans D.out.2; go_simp; try with_reducible rfl)
  try simp only [List.getElem_toArray, List.getElem_cons_succ, List.getElem_cons_zero, Act.put, List.setIfInBounds_toArray, List.set_cons_zero, List.set_cons_succ]
  try simp only [J1, J2, J3, J4]
  refine wpAnyH_take (i := 8) (v := ?v8) rfl (by kernel_rfl) (by kernel_rfl) (by kernel_rfl) (fun _ _ _ h => h) (Or.inl ⟨by rfl, ?y8⟩) hS ?_
  case y8 => (intro X hSw; go_simp; try with_reducible rfl)
  try simp only [List.getElem_toArray, List.getElem_cons_succ, List.getElem_cons_zero, Act.put, List.setIfInBounds_toArray, List.set_cons_zero, List.set_cons_succ]
  try simp only [J1, J2, J3, J4]
  refine wpAnyH_take (i := 10) (v := ?v10) rfl (by kernel_rfl) (by kernel_rfl) (by kernel_rfl) (fun _ _ _ h => h) (Or.inl ⟨by rfl, ?y10⟩) hS ?_
  case y10 => (intro X hSw; go_simp; try with_reducible rfl)
  try simp only [List.getElem_toArray, List.getElem_cons_succ, List.getElem_cons_zero, Act.put, List.setIfInBounds_toArray, List.set_cons_zero, List.set_cons_succ]
  try simp only [J1, J2, J3, J4]
  refine wpAnyH_ready (rs := [9]) (by kernel_rfl) (by simp) (AllReadyH.cons rfl (fun K hK => ?_) AllReadyH.nil)
  go_simp
  refine hK.out _ _ ((Below.refl _ _).drew.alloc (by simp) _) (fun hS => ?_)
  clear hK K
  try simp only [List.getElem_toArray, List.getElem_cons_succ, List.getElem_cons_zero, Act.put, List.setIfInBounds_toArray, List.set_cons_zero, List.set_cons_succ]
  refine wpAnyH_take (i := 11) (v := ?v11) rfl (by kernel_rfl) (by kernel_rfl) (by kernel_rfl) (fun _ _ _ h => h) (Or.inl ⟨by rfl, ?y11⟩) hS ?_
  case y11 => (intro X hSw; go_simp; try with_reducible rfl)
  try simp only [List.getElem_toArray, List.getElem_cons_succ, List.getElem_cons_zero, Act.put, List.setIfInBounds_toArray, List.set_cons_zero, List.set_cons_succ]
  refine wpAnyH_ready (rs := [12]) (by kernel_rfl) (by simp) (AllReadyH.cons rfl (fun K hK => ?_) AllReadyH.nil)
  go_simp
  refine hK.out _ _ hS (fun hS => ?_)
  clear hK K
  try simp only [List.getElem_toArray, List.getElem_cons_succ, List.getElem_cons_zero, Act.put, List.setIfInBounds_toArray, List.set_cons_zero, List.set_cons_succ]
  refine wpAnyH_take (i := 13) (v := ?v13) rfl (by kernel_rfl) (by kernel_rfl) (by kernel_rfl) (fun _ _ _ h => h) (Or.inl ⟨by rfl, ?y13⟩) hS ?_
  case y13 => (intro X hSw; go_simp; try with_reducible rfl)
  try simp only [List.getElem_toArray, List.getElem_cons_succ, List.getElem_cons_zero, Act.put, List.setIfInBounds_toArray, List.set_cons_zero, List.set_cons_succ]
  try simp only [J5, J6]
  refine wpAnyH_take (i := 14) (v := ?v14) rfl (by kernel_rfl) (by kernel_rfl) (by kernel_rfl) (fun _ _ _ h => h) (Or.inl ⟨by rfl, ?y14⟩) hS ?_
  case y14 => (intro X hSw; go_simp; try with_reducible rfl)
  try simp only [List.getElem_toArray, List.getElem_cons_succ, List.getElem_cons_zero, Act.put, List.setIfInBounds_toArray, List.set_cons_zero, List.set_cons_succ]
  try simp only [J7, J8]
  refine wpAnyH_take (i := 15) (v := ?v15) rfl (by kernel_rfl) (by kernel_rfl) (by kernel_rfl) (fun _ _ _ h => h) (Or.inl ⟨by rfl, ?y15⟩) hS ?_
  case y15 => (intro X hSw; go_simp; try with_reducible rfl)
  try simp only [List.getElem_toArray, List.getElem_cons_succ, List.getElem_cons_zero, Act.put, List.setIfInBounds_toArray, List.set_cons_zero, List.set_cons_succ]
  refine wpAnyH_done (by kernel_rfl) ?_ _
  go_wp2
  go_ret
  exact ⟨rfl, hS⟩
theorem tile_1 (z t y : Int) (b off cap K : Nat) (w : World) (c : w.cell? ⟨b, off + K, none⟩ = some (.int .u8 z)) (hb : b < w.heap.size) (hz : 0 ≤ z ∧ z ≤ 255) (hK : 16 + t * 4 + y = K) (hKi : (K : Int) < 256) (t0 : 0 ≤ t) (t1 : t ≤ 15) (y0 : 0 ≤ y) (y1 : y ≤ 3) :
    Calls Try.prog 53 #[.slice (some ⟨b, off, none⟩) 256 cap, .int .i64 t, .int .i64 1, .int .i64 y] w fun e w' => e = .returned (.int .i64 (z / 16 % 4)) ∧ Below w.heap.size w w' := by
  have J1 : IntKind.i64.wrap (t * 4) = t * 4 := by rw [IntKind.wrap_i64]; omega
  have J2 : IntKind.i64.wrap (16 + t * 4) = 16 + t * 4 := by rw [IntKind.wrap_i64]; omega
  have J3 : IntKind.i64.wrap (16 + t * 4 + y) = (K : Int) := by rw [IntKind.wrap_i64]; omega
  have J4 : IntKind.i64.wrap z = z := by rw [IntKind.wrap_i64]; omega
  have J5 : Int.tdiv z 16 = z / 16 := Int.tdiv_eq_ediv_of_nonneg hz.1
  have J6 : IntKind.i64.wrap (z / 16) = z / 16 := by rw [IntKind.wrap_i64]; omega
  have J7 : Int.tmod (z / 16) 4 = z / 16 % 4 := Int.tmod_eq_emod_of_nonneg (by omega)
  have J8 : IntKind.i64.wrap (z / 16 % 4) = z / 16 % 4 := by rw [IntKind.wrap_i64]; omega
  have D := Lib.hid (And.intro hb c)
  clear t0 t1 y0 y1 hK hb c hz
  go_enter Try.func53, Try.ntmps53
  go_wp2_with fail
  refine wp_region_held_drew (S := fun X => Below w.heap.size w X) (by kernel_rfl) (Below.refl _ _).drew (fun hS => ?_)
  refine wpAnyH_take (i := 0) (v := ?v0) rfl (by kernel_rfl) (by kernel_rfl) (by kernel_rfl) (fun _ _ _ h => h) (Or.inl ⟨by rfl, ?y0⟩) hS ?_
  case y0 => (intro X hSw; go_simp; try with_reducible rfl)
  try simp only [List.getElem_toArray, List.getElem_cons_succ, List.getElem_cons_zero, Act.put, List.setIfInBounds_toArray, List.set_cons_zero, List.set_cons_succ]
  try simp only [J1, J2, J3, J4]
  refine wpAnyH_take (i := 1) (v := ?v1) rfl (by kernel_rfl) (by kernel_rfl) (by kernel_rfl) (fun _ _ _ h => h) (Or.inl ⟨by rfl, ?y1⟩) hS ?_
  case y1 => (intro X hSw; go_simp; try with_reducible rfl)
  try simp only [List.getElem_toArray, List.getElem_cons_succ, List.getElem_cons_zero, Act.put, List.setIfInBounds_toArray, List.set_cons_zero, List.set_cons_succ]
  try simp only [J1, J2, J3, J4]
  refine wpAnyH_take (i := 2) (v := ?v2) rfl (by kernel_rfl) (by kernel_rfl) (by kernel_rfl) (fun _ _ _ h => h) (Or.inl ⟨by rfl, ?y2⟩) hS ?_
  case y2 => (intro X hSw; go_simp; try with_reducible rfl)
  try simp only [List.getElem_toArray, List.getElem_cons_succ, List.getElem_cons_zero, Act.put, List.setIfInBounds_toArray, List.set_cons_zero, List.set_cons_succ]
  try simp only [J1, J2, J3, J4]
  refine wpAnyH_take (i := 3) (v := ?v3) rfl (by kernel_rfl) (by kernel_rfl) (by kernel_rfl) (fun _ _ _ h => h) (Or.inl ⟨by rfl, ?y3⟩) hS ?_
  case y3 => (intro X hSw; go_simp; try with_reducible rfl)
  try simp only [List.getElem_toArray, List.getElem_cons_succ, List.getElem_cons_zero, Act.put, List.setIfInBounds_toArray, List.set_cons_zero, List.set_cons_succ]
  try simp only [J1, J2, J3, J4]
  refine wpAnyH_take (i := 4) (v := ?v4) rfl (by kernel_rfl) (by kernel_rfl) (by kernel_rfl) (fun _ _ _ h => h) (Or.inl ⟨by rfl, ?y4⟩) hS ?_
  case y4 => (intro X hSw; go_simp; try with_reducible rfl)
  try simp only [List.getElem_toArray, List.getElem_cons_succ, List.getElem_cons_zero, Act.put, List.setIfInBounds_toArray, List.set_cons_zero, List.set_cons_succ]
  try simp only [J1, J2, J3, J4]
  refine wpAnyH_take (i := 5) (v := ?v5) rfl (by kernel_rfl) (by kernel_rfl) (by kernel_rfl) (fun _ _ _ h => h) (Or.inl ⟨by rfl, ?y5⟩) hS ?_
  case y5 => (intro X hSw; go_simp; try with_reducible rfl)
  try simp only [List.getElem_toArray, List.getElem_cons_succ, List.getElem_cons_zero, Act.put, List.setIfInBounds_toArray, List.set_cons_zero, List.set_cons_succ]
  try simp only [J1, J2, J3, J4]
  refine wpAnyH_take (i := 6) (v := ?v6) rfl (by kernel_rfl) (by kernel_rfl) (by kernel_rfl) (fun _ _ _ h => h) (Or.inl ⟨by rfl, ?y6⟩) hS ?_
  case y6 => (intro X hSw; go_simp; try with_reducible rfl)
  try simp only [List.getElem_toArray, List.getElem_cons_succ, List.getElem_cons_zero, Act.put, List.setIfInBounds_toArray, List.set_cons_zero, List.set_cons_succ]
  try simp only [J1, J2, J3, J4]
  refine wpAnyH_take (i := 7) (v := ?v7) rfl (by kernel_rfl) (by kernel_rfl) (by kernel_rfl) (fun _ _ _ h => h) (Or.inl ⟨by rfl, ?y7⟩) hS ?_
  case y7 => (intro X hSw; have q : X.cell? ⟨b, off + K, none⟩ = some (.int .u8 z) := (hSw.cell (p := ⟨b, off + K, none⟩) D.out.1).trans D.out.2; go_simp; try with_reducible rfl)
  try simp only [List.getElem_toArray, List.getElem_cons_succ, List.getElem_cons_zero, Act.put, List.setIfInBounds_toArray, List.set_cons_zero, List.set_cons_succ]
  try simp only [J1, J2, J3, J4]
  refine wpAnyH_take (i := 8) (v := ?v8) rfl (by kernel_rfl) (by kernel_rfl) (by kernel_rfl) (fun _ _ _ h => h) (Or.inl ⟨by rfl, ?y8⟩) hS ?_
  case y8 => (intro X hSw; go_simp; try with_reducible rfl)
  try simp only [List.getElem_toArray, List.getElem_cons_succ, List.getElem_cons_zero, Act.put, List.setIfInBounds_toArray, List.set_cons_zero, List.set_cons_succ]
  try simp only [J1, J2, J3, J4]
  refine wpAnyH_take (i := 10) (v := ?v10) rfl (by kernel_rfl) (by kernel_rfl) (by kernel_rfl) (fun _ _ _ h => h) (Or.inl ⟨by rfl, ?y10⟩) hS ?_
  case y10 => (intro X hSw; go_simp; try with_reducible rfl)
  try simp only [List.getElem_toArray, List.getElem_cons_succ, List.getElem_cons_zero, Act.put, List.setIfInBounds_toArray, List.set_cons_zero, List.set_cons_succ]
  try simp only [J1, J2, J3, J4]
  refine wpAnyH_ready (rs := [9]) (by kernel_rfl) (by simp) (AllReadyH.cons rfl (fun K hK => ?_) AllReadyH.nil)
  go_simp
  refine hK.out _ _ ((Below.refl _ _).drew.alloc (by simp) _) (fun hS => ?_)
  clear hK K
  try simp only [List.getElem_toArray, List.getElem_cons_succ, List.getElem_cons_zero, Act.put, List.setIfInBounds_toArray, List.set_cons_zero, List.set_cons_succ]
  refine wpAnyH_take (i := 11) (v := ?v11) rfl (by kernel_rfl) (by kernel_rfl) (by kernel_rfl) (fun _ _ _ h => h) (Or.inl ⟨by rfl, ?y11⟩) hS ?_
  case y11 => (intro X hSw; go_simp; try with_reducible rfl)
  try simp only [List.getElem_toArray, List.getElem_cons_succ, List.getElem_cons_zero, Act.put, List.setIfInBounds_toArray, List.set_cons_zero, List.set_cons_succ]
  refine wpAnyH_ready (rs := [12]) (by kernel_rfl) (by simp) (AllReadyH.cons rfl (fun K hK => ?_) AllReadyH.nil)
  go_simp
  refine hK.out _ _ hS (fun hS => ?_)
  clear hK K
  try simp only [List.getElem_toArray, List.getElem_cons_succ, List.getElem_cons_zero, Act.put, List.setIfInBounds_toArray, List.set_cons_zero, List.set_cons_succ]
  refine wpAnyH_take (i := 13) (v := ?v13) rfl (by kernel_rfl) (by kernel_rfl) (by kernel_rfl) (fun _ _ _ h => h) (Or.inl ⟨by rfl, ?y13⟩) hS ?_
  case y13 => (intro X hSw; go_simp; try with_reducible rfl)
  try simp only [List.getElem_toArray, List.getElem_cons_succ, List.getElem_cons_zero, Act.put, List.setIfInBounds_toArray, List.set_cons_zero, List.set_cons_succ]
  try simp only [J5, J6]
  refine wpAnyH_take (i := 14) (v := ?v14) rfl (by kernel_rfl) (by kernel_rfl) (by kernel_rfl) (fun _ _ _ h => h) (Or.inl ⟨by rfl, ?y14⟩) hS ?_
  case y14 => (intro X hSw; go_simp; try with_reducible rfl)
  try simp only [List.getElem_toArray, List.getElem_cons_succ, List.getElem_cons_zero, Act.put, List.setIfInBounds_toArray, List.set_cons_zero, List.set_cons_succ]
  try simp only [J7, J8]
  refine wpAnyH_take (i := 15) (v := ?v15) rfl (by kernel_rfl) (by kernel_rfl) (by kernel_rfl) (fun _ _ _ h => h) (Or.inl ⟨by rfl, ?y15⟩) hS ?_
  case y15 => (intro X hSw; go_simp; try with_reducible rfl)
  try simp only [List.getElem_toArray, List.getElem_cons_succ, List.getElem_cons_zero, Act.put, List.setIfInBounds_toArray, List.set_cons_zero, List.set_cons_succ]
  refine wpAnyH_done (by kernel_rfl) ?_ _
  go_wp2
  go_ret
  exact ⟨rfl, hS⟩
theorem tile_2 (z t y : Int) (b off cap K : Nat) (w : World) (c : w.cell? ⟨b, off + K, none⟩ = some (.int .u8 z)) (hb : b < w.heap.size) (hz : 0 ≤ z ∧ z ≤ 255) (hK : 16 + t * 4 + y = K) (hKi : (K : Int) < 256) (t0 : 0 ≤ t) (t1 : t ≤ 15) (y0 : 0 ≤ y) (y1 : y ≤ 3) :
    Calls Try.prog 53 #[.slice (some ⟨b, off, none⟩) 256 cap, .int .i64 t, .int .i64 2, .int .i64 y] w fun e w' => e = .returned (.int .i64 (z / 4 % 4)) ∧ Below w.heap.size w w' := by
  have J1 : IntKind.i64.wrap (t * 4) = t * 4 := by rw [IntKind.wrap_i64]; omega
  have J2 : IntKind.i64.wrap (16 + t * 4) = 16 + t * 4 := by rw [IntKind.wrap_i64]; omega
  have J3 : IntKind.i64.wrap (16 + t * 4 + y) = (K : Int) := by rw [IntKind.wrap_i64]; omega
  have J4 : IntKind.i64.wrap z = z := by rw [IntKind.wrap_i64]; omega
  have J5 : Int.tdiv z 4 = z / 4 := Int.tdiv_eq_ediv_of_nonneg hz.1
  have J6 : IntKind.i64.wrap (z / 4) = z / 4 := by rw [IntKind.wrap_i64]; omega
  have J7 : Int.tmod (z / 4) 4 = z / 4 % 4 := Int.tmod_eq_emod_of_nonneg (by omega)
  have J8 : IntKind.i64.wrap (z / 4 % 4) = z / 4 % 4 := by rw [IntKind.wrap_i64]; omega
  have D := Lib.hid (And.intro hb c)
  clear t0 t1 y0 y1 hK hb c hz
  go_enter Try.func53, Try.ntmps53
  go_wp2_with fail
  refine wp_region_held_drew (S := fun X => Below w.heap.size w X) (by kernel_rfl) (Below.refl _ _).drew (fun hS => ?_)
  refine wpAnyH_take (i := 0) (v := ?v0) rfl (by kernel_rfl) (by kernel_rfl) (by kernel_rfl) (fun _ _ _ h => h) (Or.inl ⟨by rfl, ?y0⟩) hS ?_
  case y0 => (intro X hSw; go_simp; try with_reducible rfl)
  try simp only [List.getElem_toArray, List.getElem_cons_succ, List.getElem_cons_zero, Act.put, List.setIfInBounds_toArray, List.set_cons_zero, List.set_cons_succ]
  try simp only [J1, J2, J3, J4]
  refine wpAnyH_take (i := 1) (v := ?v1) rfl (by kernel_rfl) (by kernel_rfl) (by kernel_rfl) (fun _ _ _ h => h) (Or.inl ⟨by rfl, ?y1⟩) hS ?_
  case y1 => (intro X hSw; go_simp; try with_reducible rfl)
  try simp only [List.getElem_toArray, List.getElem_cons_succ, List.getElem_cons_zero, Act.put, List.setIfInBounds_toArray, List.set_cons_zero, List.set_cons_succ]
  try simp only [J1, J2, J3, J4]
  refine wpAnyH_take (i := 2) (v := ?v2) rfl (by kernel_rfl) (by kernel_rfl) (by kernel_rfl) (fun _ _ _ h => h) (Or.inl ⟨by rfl, ?y2⟩) hS ?_
  case y2 => (intro X hSw; go_simp; try with_reducible rfl)
  try simp only [List.getElem_toArray, List.getElem_cons_succ, List.getElem_cons_zero, Act.put, List.setIfInBounds_toArray, List.set_cons_zero, List.set_cons_succ]
  try simp only [J1, J2, J3, J4]
  refine wpAnyH_take (i := 3) (v := ?v3) rfl (by kernel_rfl) (by kernel_rfl) (by kernel_rfl) (fun _ _ _ h => h) (Or.inl ⟨by rfl, ?y3⟩) hS ?_
  case y3 => (intro X hSw; go_simp; try with_reducible rfl)
  try simp only [List.getElem_toArray, List.getElem_cons_succ, List.getElem_cons_zero, Act.put, List.setIfInBounds_toArray, List.set_cons_zero, List.set_cons_succ]
  try simp only [J1, J2, J3, J4]
  refine wpAnyH_take (i := 4) (v := ?v4) rfl (by kernel_rfl) (by kernel_rfl) (by kernel_rfl) (fun _ _ _ h => h) (Or.inl ⟨by rfl, ?y4⟩) hS ?_
  case y4 => (intro X hSw; go_simp; try with_reducible rfl)
  try simp only [List.getElem_toArray, List.getElem_cons_succ, List.getElem_cons_zero, Act.put, List.setIfInBounds_toArray, List.set_cons_zero, List.set_cons_succ]
  try simp only [J1, J2, J3, J4]
  refine wpAnyH_take (i := 5) (v := ?v5) rfl (by kernel_rfl) (by kernel_rfl) (by kernel_rfl) (fun _ _ _ h => h) (Or.inl ⟨by rfl, ?y5⟩) hS ?_
  case y5 => (intro X hSw; go_simp; try with_reducible rfl)
  try simp only [List.getElem_toArray, List.getElem_cons_succ, List.getElem_cons_zero, Act.put, List.setIfInBounds_toArray, List.set_cons_zero, List.set_cons_succ]
  try simp only [J1, J2, J3, J4]
  refine wpAnyH_take (i := 6) (v := ?v6) rfl (by kernel_rfl) (by kernel_rfl) (by kernel_rfl) (fun _ _ _ h => h) (Or.inl ⟨by rfl, ?y6⟩) hS ?_
  case y6 => (intro X hSw; go_simp; try with_reducible rfl)
  try simp only [List.getElem_toArray, List.getElem_cons_succ, List.getElem_cons_zero, Act.put, List.setIfInBounds_toArray, List.set_cons_zero, List.set_cons_succ]
  try simp only [J1, J2, J3, J4]
  refine wpAnyH_take (i := 7) (v := ?v7) rfl (by kernel_rfl) (by kernel_rfl) (by kernel_rfl) (fun _ _ _ h => h) (Or.inl ⟨by rfl, ?y7⟩) hS ?_
  case y7 => (intro X hSw; have q : X.cell? ⟨b, off + K, none⟩ = some (.int .u8 z) := (hSw.cell (p := ⟨b, off + K, none⟩) D.out.1).trans D.out.2; go_simp; try with_reducible rfl)
  try simp only [List.getElem_toArray, List.getElem_cons_succ, List.getElem_cons_zero, Act.put, List.setIfInBounds_toArray, List.set_cons_zero, List.set_cons_succ]
  try simp only [J1, J2, J3, J4]
  refine wpAnyH_take (i := 8) (v := ?v8) rfl (by kernel_rfl) (by kernel_rfl) (by kernel_rfl) (fun _ _ _ h => h) (Or.inl ⟨by rfl, ?y8⟩) hS ?_
  case y8 => (intro X hSw; go_simp; try with_reducible rfl)
  try simp only [List.getElem_toArray, List.getElem_cons_succ, List.getElem_cons_zero, Act.put, List.setIfInBounds_toArray, List.set_cons_zero, List.set_cons_succ]
  try simp only [J1, J2, J3, J4]
  refine wpAnyH_take (i := 10) (v := ?v10) rfl (by kernel_rfl) (by kernel_rfl) (by kernel_rfl) (fun _ _ _ h => h) (Or.inl ⟨by rfl, ?y10⟩) hS ?_
  case y10 => (intro X hSw; go_simp; try with_reducible rfl)
  try simp only [List.getElem_toArray, List.getElem_cons_succ, List.getElem_cons_zero, Act.put, List.setIfInBounds_toArray, List.set_cons_zero, List.set_cons_succ]
  try simp only [J1, J2, J3, J4]
  refine wpAnyH_ready (rs := [9]) (by kernel_rfl) (by simp) (AllReadyH.cons rfl (fun K hK => ?_) AllReadyH.nil)
  go_simp
  refine hK.out _ _ ((Below.refl _ _).drew.alloc (by simp) _) (fun hS => ?_)
  clear hK K
  try simp only [List.getElem_toArray, List.getElem_cons_succ, List.getElem_cons_zero, Act.put, List.setIfInBounds_toArray, List.set_cons_zero, List.set_cons_succ]
  refine wpAnyH_take (i := 11) (v := ?v11) rfl (by kernel_rfl) (by kernel_rfl) (by kernel_rfl) (fun _ _ _ h => h) (Or.inl ⟨by rfl, ?y11⟩) hS ?_
  case y11 => (intro X hSw; go_simp; try with_reducible rfl)
  try simp only [List.getElem_toArray, List.getElem_cons_succ, List.getElem_cons_zero, Act.put, List.setIfInBounds_toArray, List.set_cons_zero, List.set_cons_succ]
  refine wpAnyH_ready (rs := [12]) (by kernel_rfl) (by simp) (AllReadyH.cons rfl (fun K hK => ?_) AllReadyH.nil)
  go_simp
  refine hK.out _ _ hS (fun hS => ?_)
  clear hK K
  try simp only [List.getElem_toArray, List.getElem_cons_succ, List.getElem_cons_zero, Act.put, List.setIfInBounds_toArray, List.set_cons_zero, List.set_cons_succ]
  refine wpAnyH_take (i := 13) (v := ?v13) rfl (by kernel_rfl) (by kernel_rfl) (by kernel_rfl) (fun _ _ _ h => h) (Or.inl ⟨by rfl, ?y13⟩) hS ?_
  case y13 => (intro X hSw; go_simp; try with_reducible rfl)
  try simp only [List.getElem_toArray, List.getElem_cons_succ, List.getElem_cons_zero, Act.put, List.setIfInBounds_toArray, List.set_cons_zero, List.set_cons_succ]
  try simp only [J5, J6]
  refine wpAnyH_take (i := 14) (v := ?v14) rfl (by kernel_rfl) (by kernel_rfl) (by kernel_rfl) (fun _ _ _ h => h) (Or.inl ⟨by rfl, ?y14⟩) hS ?_
  case y14 => (intro X hSw; go_simp; try with_reducible rfl)
  try simp only [List.getElem_toArray, List.getElem_cons_succ, List.getElem_cons_zero, Act.put, List.setIfInBounds_toArray, List.set_cons_zero, List.set_cons_succ]
  try simp only [J7, J8]
  refine wpAnyH_take (i := 15) (v := ?v15) rfl (by kernel_rfl) (by kernel_rfl) (by kernel_rfl) (fun _ _ _ h => h) (Or.inl ⟨by rfl, ?y15⟩) hS ?_
  case y15 => (intro X hSw; go_simp; try with_reducible rfl)
  try simp only [List.getElem_toArray, List.getElem_cons_succ, List.getElem_cons_zero, Act.put, List.setIfInBounds_toArray, List.set_cons_zero, List.set_cons_succ]
  refine wpAnyH_done (by kernel_rfl) ?_ _
  go_wp2
  go_ret
  exact ⟨rfl, hS⟩
theorem tile_3 (z t y : Int) (b off cap K : Nat) (w : World) (c : w.cell? ⟨b, off + K, none⟩ = some (.int .u8 z)) (hb : b < w.heap.size) (hz : 0 ≤ z ∧ z ≤ 255) (hK : 16 + t * 4 + y = K) (hKi : (K : Int) < 256) (t0 : 0 ≤ t) (t1 : t ≤ 15) (y0 : 0 ≤ y) (y1 : y ≤ 3) :
    Calls Try.prog 53 #[.slice (some ⟨b, off, none⟩) 256 cap, .int .i64 t, .int .i64 3, .int .i64 y] w fun e w' => e = .returned (.int .i64 (z % 4)) ∧ Below w.heap.size w w' := by
  have J1 : IntKind.i64.wrap (t * 4) = t * 4 := by rw [IntKind.wrap_i64]; omega
  have J2 : IntKind.i64.wrap (16 + t * 4) = 16 + t * 4 := by rw [IntKind.wrap_i64]; omega
  have J3 : IntKind.i64.wrap (16 + t * 4 + y) = (K : Int) := by rw [IntKind.wrap_i64]; omega
  have J4 : IntKind.i64.wrap z = z := by rw [IntKind.wrap_i64]; omega
  have J5 : Int.tdiv z 1 = z := Int.tdiv_one z
  have J6 : IntKind.i64.wrap (z) = z := by rw [IntKind.wrap_i64]; omega
  have J7 : Int.tmod (z) 4 = z % 4 := Int.tmod_eq_emod_of_nonneg (by omega)
  have J8 : IntKind.i64.wrap (z % 4) = z % 4 := by rw [IntKind.wrap_i64]; omega
  have D := Lib.hid (And.intro hb c)
  clear t0 t1 y0 y1 hK hb c hz
  go_enter Try.func53, Try.ntmps53
  go_wp2_with fail
  refine wp_region_held_drew (S := fun X => Below w.heap.size w X) (by kernel_rfl) (Below.refl _ _).drew (fun hS => ?_)
  refine wpAnyH_take (i := 0) (v := ?v0) rfl (by kernel_rfl) (by kernel_rfl) (by kernel_rfl) (fun _ _ _ h => h) (Or.inl ⟨by rfl, ?y0⟩) hS ?_
  case y0 => (intro X hSw; go_simp; try with_reducible rfl)
  try simp only [List.getElem_toArray, List.getElem_cons_succ, List.getElem_cons_zero, Act.put, List.setIfInBounds_toArray, List.set_cons_zero, List.set_cons_succ]
  try simp only [J1, J2, J3, J4]
  refine wpAnyH_take (i := 1) (v := ?v1) rfl (by kernel_rfl) (by kernel_rfl) (by kernel_rfl) (fun _ _ _ h => h) (Or.inl ⟨by rfl, ?y1⟩) hS ?_
  case y1 => (intro X hSw; go_simp; try with_reducible rfl)
  try simp only [List.getElem_toArray, List.getElem_cons_succ, List.getElem_cons_zero, Act.put, List.setIfInBounds_toArray, List.set_cons_zero, List.set_cons_succ]
  try simp only [J1, J2, J3, J4]
  refine wpAnyH_take (i := 2) (v := ?v2) rfl (by kernel_rfl) (by kernel_rfl) (by kernel_rfl) (fun _ _ _ h => h) (Or.inl ⟨by rfl, ?y2⟩) hS ?_
  case y2 => (intro X hSw; go_simp; try with_reducible rfl)
  try simp only [List.getElem_toArray, List.getElem_cons_succ, List.getElem_cons_zero, Act.put, List.setIfInBounds_toArray, List.set_cons_zero, List.set_cons_succ]
  try simp only [J1, J2, J3, J4]
  refine wpAnyH_take (i := 3) (v := ?v3) rfl (by kernel_rfl) (by kernel_rfl) (by kernel_rfl) (fun _ _ _ h => h) (Or.inl ⟨by rfl, ?y3⟩) hS ?_
  case y3 => (intro X hSw; go_simp; try with_reducible rfl)
  try simp only [List.getElem_toArray, List.getElem_cons_succ, List.getElem_cons_zero, Act.put, List.setIfInBounds_toArray, List.set_cons_zero, List.set_cons_succ]
  try simp only [J1, J2, J3, J4]
  refine wpAnyH_take (i := 4) (v := ?v4) rfl (by kernel_rfl) (by kernel_rfl) (by kernel_rfl) (fun _ _ _ h => h) (Or.inl ⟨by rfl, ?y4⟩) hS ?_
  case y4 => (intro X hSw; go_simp; try with_reducible rfl)
  try simp only [List.getElem_toArray, List.getElem_cons_succ, List.getElem_cons_zero, Act.put, List.setIfInBounds_toArray, List.set_cons_zero, List.set_cons_succ]
  try simp only [J1, J2, J3, J4]
  refine wpAnyH_take (i := 5) (v := ?v5) rfl (by kernel_rfl) (by kernel_rfl) (by kernel_rfl) (fun _ _ _ h => h) (Or.inl ⟨by rfl, ?y5⟩) hS ?_
  case y5 => (intro X hSw; go_simp; try with_reducible rfl)
  try simp only [List.getElem_toArray, List.getElem_cons_succ, List.getElem_cons_zero, Act.put, List.setIfInBounds_toArray, List.set_cons_zero, List.set_cons_succ]
  try simp only [J1, J2, J3, J4]
  refine wpAnyH_take (i := 6) (v := ?v6) rfl (by kernel_rfl) (by kernel_rfl) (by kernel_rfl) (fun _ _ _ h => h) (Or.inl ⟨by rfl, ?y6⟩) hS ?_
  case y6 => (intro X hSw; go_simp; try with_reducible rfl)
  try simp only [List.getElem_toArray, List.getElem_cons_succ, List.getElem_cons_zero, Act.put, List.setIfInBounds_toArray, List.set_cons_zero, List.set_cons_succ]
  try simp only [J1, J2, J3, J4]
  refine wpAnyH_take (i := 7) (v := ?v7) rfl (by kernel_rfl) (by kernel_rfl) (by kernel_rfl) (fun _ _ _ h => h) (Or.inl ⟨by rfl, ?y7⟩) hS ?_
  case y7 => (intro X hSw; have q : X.cell? ⟨b, off + K, none⟩ = some (.int .u8 z) := (hSw.cell (p := ⟨b, off + K, none⟩) D.out.1).trans D.out.2; go_simp; try with_reducible rfl)
  try simp only [List.getElem_toArray, List.getElem_cons_succ, List.getElem_cons_zero, Act.put, List.setIfInBounds_toArray, List.set_cons_zero, List.set_cons_succ]
  try simp only [J1, J2, J3, J4]
  refine wpAnyH_take (i := 8) (v := ?v8) rfl (by kernel_rfl) (by kernel_rfl) (by kernel_rfl) (fun _ _ _ h => h) (Or.inl ⟨by rfl, ?y8⟩) hS ?_
  case y8 => (intro X hSw; go_simp; try with_reducible rfl)
  try simp only [List.getElem_toArray, List.getElem_cons_succ, List.getElem_cons_zero, Act.put, List.setIfInBounds_toArray, List.set_cons_zero, List.set_cons_succ]
  try simp only [J1, J2, J3, J4]
  refine wpAnyH_take (i := 10) (v := ?v10) rfl (by kernel_rfl) (by kernel_rfl) (by kernel_rfl) (fun _ _ _ h => h) (Or.inl ⟨by rfl, ?y10⟩) hS ?_
  case y10 => (intro X hSw; go_simp; try with_reducible rfl)
  try simp only [List.getElem_toArray, List.getElem_cons_succ, List.getElem_cons_zero, Act.put, List.setIfInBounds_toArray, List.set_cons_zero, List.set_cons_succ]
  try simp only [J1, J2, J3, J4]
  refine wpAnyH_ready (rs := [9]) (by kernel_rfl) (by simp) (AllReadyH.cons rfl (fun K hK => ?_) AllReadyH.nil)
  go_simp
  refine hK.out _ _ ((Below.refl _ _).drew.alloc (by simp) _) (fun hS => ?_)
  clear hK K
  try simp only [List.getElem_toArray, List.getElem_cons_succ, List.getElem_cons_zero, Act.put, List.setIfInBounds_toArray, List.set_cons_zero, List.set_cons_succ]
  refine wpAnyH_take (i := 11) (v := ?v11) rfl (by kernel_rfl) (by kernel_rfl) (by kernel_rfl) (fun _ _ _ h => h) (Or.inl ⟨by rfl, ?y11⟩) hS ?_
  case y11 => (intro X hSw; go_simp; try with_reducible rfl)
  try simp only [List.getElem_toArray, List.getElem_cons_succ, List.getElem_cons_zero, Act.put, List.setIfInBounds_toArray, List.set_cons_zero, List.set_cons_succ]
  refine wpAnyH_ready (rs := [12]) (by kernel_rfl) (by simp) (AllReadyH.cons rfl (fun K hK => ?_) AllReadyH.nil)
  go_simp
  refine hK.out _ _ hS (fun hS => ?_)
  clear hK K
  try simp only [List.getElem_toArray, List.getElem_cons_succ, List.getElem_cons_zero, Act.put, List.setIfInBounds_toArray, List.set_cons_zero, List.set_cons_succ]
  refine wpAnyH_take (i := 13) (v := ?v13) rfl (by kernel_rfl) (by kernel_rfl) (by kernel_rfl) (fun _ _ _ h => h) (Or.inl ⟨by rfl, ?y13⟩) hS ?_
  case y13 => (intro X hSw; go_simp; try with_reducible rfl)
  try simp only [List.getElem_toArray, List.getElem_cons_succ, List.getElem_cons_zero, Act.put, List.setIfInBounds_toArray, List.set_cons_zero, List.set_cons_succ]
  try simp only [J5, J6]
  refine wpAnyH_take (i := 14) (v := ?v14) rfl (by kernel_rfl) (by kernel_rfl) (by kernel_rfl) (fun _ _ _ h => h) (Or.inl ⟨by rfl, ?y14⟩) hS ?_
  case y14 => (intro X hSw; go_simp; try with_reducible rfl)
  try simp only [List.getElem_toArray, List.getElem_cons_succ, List.getElem_cons_zero, Act.put, List.setIfInBounds_toArray, List.set_cons_zero, List.set_cons_succ]
  try simp only [J7, J8]
  refine wpAnyH_take (i := 15) (v := ?v15) rfl (by kernel_rfl) (by kernel_rfl) (by kernel_rfl) (fun _ _ _ h => h) (Or.inl ⟨by rfl, ?y15⟩) hS ?_
  case y15 => (intro X hSw; go_simp; try with_reducible rfl)
  try simp only [List.getElem_toArray, List.getElem_cons_succ, List.getElem_cons_zero, Act.put, List.setIfInBounds_toArray, List.set_cons_zero, List.set_cons_succ]
  refine wpAnyH_done (by kernel_rfl) ?_ _
  go_wp2
  go_ret
  exact ⟨rfl, hS⟩
theorem tileDot_any (xs : List Int) (v : Value) (t x y : Int) (w : World) (h : Vid w v xs) (t0 : 0 ≤ t) (t1 : t ≤ 15) (x0 : 0 ≤ x) (x1 : x ≤ 3) (y0 : 0 ≤ y) (y1 : y ≤ 3) :
    Calls Try.prog 53 #[v, .int .i64 t, .int .i64 x, .int .i64 y] w fun e w' => e = .returned (.int .i64 (dotV xs t x y)) ∧ Below w.heap.size w w' := by
  have hu := h.2.2
  obtain ⟨b, off, cap, rfl, hc1, hc2, hb, hc⟩ := Vid.open' h
  obtain ⟨K, hK⟩ : ∃ K : Nat, 16 + 4 * t + y = K := ⟨(16 + 4 * t + y).toNat, by omega⟩
  have c := hc K (by omega)
  have hz := bt_in xs hu K
  have hK' : 16 + t * 4 + y = K := by omega
  unfold dotV
  rw [hK]
  rcases (by omega : x = 0 ∨ x = 1 ∨ x = 2 ∨ x = 3) with rfl | rfl | rfl | rfl
  · exact tile_0 _ t y b off cap K w c hb hz hK' (by omega) t0 t1 y0 y1
  · exact tile_1 _ t y b off cap K w c hb hz hK' (by omega) t0 t1 y0 y1
  · exact tile_2 _ t y b off cap K w c hb hz hK' (by omega) t0 t1 y0 y1
  · have := tile_3 _ t y b off cap K w c hb hz hK' (by omega) t0 t1 y0 y1
    rw [show (6 - 2 * (3 : Int)).toNat = 0 from rfl, Int.pow_zero, Int.ediv_one]
    exact this
end Go.Proofs.Ytcgigpglpbhakaa
