/- The document's line of a picture: it is the program's. Conditions: a memory of 256 bytes, a line of 0 to 7. -/
import Derived.Test.YtcgigpglpbhakaaRows
import Derived.Test.YtcgigpglpbhakaaPicDrawn
set_option linter.unusedVariables false
set_option linter.unusedSimpArgs false
namespace Go.Mq
open Go
def pixR (xs : List Int) (x y b d : Int) : List Int → Int
  | [] => b
  | k :: r => if x - bt xs (128 + 4 * k + 1) < 0 ∨ 3 < x - bt xs (128 + 4 * k + 1) then pixR xs x y b d r else
      if dotV xs (bt xs (128 + 4 * k + 2) % 16) (if bt xs (128 + 4 * k + 3) % 2 = 1 then 3 - (x - bt xs (128 + 4 * k + 1)) else x - bt xs (128 + 4 * k + 1)) (if bt xs (128 + 4 * k + 3) / 2 % 2 = 1 then 3 - liesV xs k y else liesV xs k y) = 0 then pixR xs x y b d r else
      if bt xs (128 + 4 * k + 3) < 128 ∨ d = 0 then bt xs (164 + dotV xs (bt xs (128 + 4 * k + 2) % 16) (if bt xs (128 + 4 * k + 3) % 2 = 1 then 3 - (x - bt xs (128 + 4 * k + 1)) else x - bt xs (128 + 4 * k + 1)) (if bt xs (128 + 4 * k + 3) / 2 % 2 = 1 then 3 - liesV xs k y else liesV xs k y)) else b
theorem drF_in (xs : List Int) (y : Int) : ∀ k, k ≤ 8 → ∀ j ∈ drF xs y k, 0 ≤ j ∧ j < k ∧ 0 ≤ liesV xs j y
  | 0, _ => by simp [drF]
  | k + 1, hk => by
    have ih := drF_in xs y k (by omega)
    unfold drF
    split
    · rename_i h
      intro j hj
      rcases List.mem_append.1 hj with q | q
      · have := ih j q; omega
      · have : j = k := by simpa using q
        subst this
        exact ⟨by omega, by omega, h⟩
    · intro j hj
      have := ih j hj; omega
theorem on_drawn (xs : List Int) (y : Int) : ∀ k, onF xs y k = ((drF xs y k).take 2).map (fun j => spK xs y j.toNat)
  | 0 => rfl
  | k + 1 => by
    have ih := on_drawn xs y k
    have hlen : (onF xs y k).length = min 2 (drF xs y k).length := by rw [ih]; simp
    unfold onF drF
    have hl : (0 ≤ liesV xs k y) ↔ ¬ (y - bt xs (128 + 4 * k) < 0 ∨ 3 < y - bt xs (128 + 4 * k)) := by
      unfold liesV
      split <;> omega
    by_cases h : 0 ≤ liesV xs k y
    · rw [if_pos h]
      by_cases h2 : 2 ≤ (drF xs y k).length
      · rw [if_pos (Or.inr (Or.inr (by rw [hlen]; omega))), ih, List.take_append_of_le_length h2]
      · rw [if_neg (by rw [hlen]; have := hl.1 h; omega), ih, List.take_append, List.take_of_length_le (by omega), List.take_of_length_le (l := [(k : Int)]) (by simp; omega)]
        simp
    · rw [if_neg h, if_pos (by
        have : y - bt xs (128 + 4 * k) < 0 ∨ 3 < y - bt xs (128 + 4 * k) := Classical.not_not.1 (fun q => h (hl.2 q))
        rcases this with q | q
        · exact Or.inl q
        · exact Or.inr (Or.inl q)), ih]
theorem pix_same (xs : List Int) (hx : ∀ x ∈ xs, U8 x) (x y b d : Int) : ∀ L : List Int, (∀ j ∈ L, 0 ≤ j ∧ 0 ≤ liesV xs j y) → pixL xs x b d (L.map (fun j => spK xs y j.toNat)) = pixR xs x y b d L
  | [], _ => rfl
  | k :: r, h => by
    have ih := pix_same xs hx x y b d r (fun q hq => h q (List.mem_cons_of_mem _ hq))
    obtain ⟨h0, h1⟩ := h k List.mem_cons_self
    have hk : ((k.toNat : Nat) : Int) = k := by omega
    have hl : liesV xs k y = y - bt xs (128 + 4 * k) := by
      unfold liesV at h1 ⊢
      split
      · rfl
      · rename_i q; rw [if_neg q] at h1; omega
    have hb := bt_in xs hx (128 + 4 * k + 3)
    have e128 : (bt xs (128 + 4 * k + 3) / 128 % 2 = 0) = (bt xs (128 + 4 * k + 3) < 128) := by apply propext; omega
    rw [List.map_cons, pixL, pixR, ih, hl]
    simp only [spK, hk, e128]
theorem line_same (xs : List Int) (hx : ∀ x ∈ xs, U8 x) (y x : Int) : lineV xs y x = pixR xs x y (bt xs (160 + gndV xs x y)) (gndV xs x y) ((drF xs y 8).take 2) := by
  unfold lineV
  rw [on_drawn xs y 8]
  exact pix_same xs hx x y _ _ _ (fun j hj => by have := drF_in xs y 8 (by omega) j (List.mem_of_mem_take hj); omega)
end Go.Mq
namespace Go.Proofs.Ytcgigpglpbhakaa
open Go.RowKit Go.Mq
set_option maxHeartbeats 4000000
set_option maxRecDepth 100000

/-- The numbers of sprites in memory, from a block on. -/
def IL (w : World) (B : Nat) (a : Option Addr) (L : List Int) : Prop :=
  ∀ j : Nat, j < L.length → ∃ g k, a = some ⟨g, 0, none⟩ ∧ B ≤ g ∧ g < w.heap.size ∧ L.drop j = k :: L.drop (j + 1) ∧ k ∈ L ∧ w.cell? ⟨g, j, none⟩ = some (.int .i64 k)
theorem IL.below {w w' : World} {B : Nat} {a : Option Addr} {L : List Int} (h : IL w B a L) (hb : Below w.heap.size w w') : IL w' B a L := by
  intro j hj
  obtain ⟨g, k, ha, hB, hg, hd, hm, hc⟩ := h j hj
  exact ⟨g, k, ha, hB, Nat.lt_of_lt_of_le hg hb.size, hd, hm, by rw [hb.cell (p := ⟨g, j, none⟩) hg]; exact hc⟩
theorem IL.set {w : World} {B b o : Nat} {v : Value} {a : Option Addr} {L : List Int} (h : IL w B a L) (hb : b < B) : IL (w.setCell ⟨b, o, none⟩ v) B a L := by
  intro j hj
  obtain ⟨g, k, ha, hB, hg, hd, hm, hc⟩ := h j hj
  exact ⟨g, k, ha, hB, by simpa using hg, hd, hm, by rw [World.cell?_setCell_other _ _ _ _ (by intro e; injection e with e1 e2; omega)]; exact hc⟩
theorem il_own {w : World} {base : Nat} {v : Value} {e : TypeId} {D : List Int} (h : w.ownsRow base e 1 v D.length (D.map (Value.int .i64))) :
    ∃ a cap, v = .slice a D.length cap ∧ D.length ≤ cap ∧ IL w base a (D.take 2) := by
  obtain ⟨h0, h | ⟨g, cap, cur, rfl, hb, hc, hn, hm, hs, ht⟩⟩ := h
  · obtain ⟨rfl, hn⟩ := h
    exact ⟨none, 0, by rw [hn], by omega, fun j hj => by simp at hj; omega⟩
  · clear hm hs
    refine ⟨some ⟨g, 0, none⟩, cap, rfl, hn, ?_⟩
    intro j hj
    have hj2 : j < D.length := by simp at hj; omega
    have hg : g < w.heap.size := (Array.getElem?_eq_some_iff.1 hc).1
    refine ⟨g, (D.take 2)[j]'hj, rfl, hb, hg, List.drop_eq_getElem_cons hj, List.getElem_mem hj, ?_⟩
    have e1 : w.cell? ⟨g, j, none⟩ = cur[j]? := by simp [World.cell?, hc]
    have e2 : cur[j]? = cur.toList[j]? := by simp
    have e3 : cur.toList[j]? = (cur.toList.take (D.length * 1))[j]? := (List.getElem?_take_of_lt (by omega)).symm
    rw [e1, e2, e3, ht, List.getElem?_map, List.getElem?_eq_getElem hj2, List.getElem_take]
    rfl
theorem lineOf_any (xs : List Int) (v : Value) (y : Int) (w : World) (h : Vid w v xs) (y0 : 0 ≤ y) (y1 : y ≤ 7) :
    Calls Try.prog 34 #[v, .int .i64 y] w fun e w' => e = .returned (.agg (lnC xs y 16)) ∧ Below w.heap.size w w' := by
  have HV := Lib.hid h
  have U := Lib.hid h.2.2
  obtain ⟨b, off, cap, rfl, hc1, hc2, hb, hc⟩ := Vid.open' h
  have H := Lib.hid (And.intro hb hc)
  unfold maxLen at hc2
  clear h hb hc
  go_enter Try.func34, Try.ntmps34
  go_wp2_with fail
  refine (drawnOn_any xs _ y _ (HV.out.below (show Below w.heap.size w (w.alloc _) from by repeat' (first | (with_reducible first | exact Below.refl _ _ | assumption | refine below_alloc ?_ _ | refine Below.drew ?_ | refine below_drewN ?_ _ | refine below_then ?_ (by assumption) | refine below_put ?_ (by assumption) (by first | (simp; done) | (simp; omega) | omega) | refine Below.setCell ?_ ?_ _) | (simp; done) | (simp; omega) | omega))) y0 y1).mono ?_
  rintro e w1 ⟨u, rfl, ho, hb1⟩
  obtain ⟨a, cp, rfl, hn, hs⟩ := il_own ho
  have hS : Hid (IL w1 (w.heap.size + 1) a ((drF xs y 8).take 2)) := Lib.hid (by simpa using hs)
  have hin := Lib.hid (drF_in xs y 8 (by omega))
  have hB1 : Hid (Blk w1 w.heap.size (lnC xs y 0) 24) := Lib.hid (Blk.below (Blk.new _ _ _) hb1)
  have hb1' : Below w.heap.size w w1 := by repeat' (first | (with_reducible first | exact Below.refl _ _ | assumption | refine below_alloc ?_ _ | refine Below.drew ?_ | refine below_drewN ?_ _ | refine below_then ?_ (by assumption) | refine below_put ?_ (by assumption) (by first | (simp; done) | (simp; omega) | omega) | refine Below.setCell ?_ ?_ _) | (simp; done) | (simp; omega) | omega)
  have hsame := Lib.hid (fun x => line_same xs U.out y x)
  have hD8 := drF_len xs y 8
  clear ho hs hb1
  obtain ⟨D, hD⟩ : ∃ D, D = drF xs y 8 := ⟨_, rfl⟩
  rw [← hD] at hS hin hn hsame hD8
  rw [← hD]
  clear hD
  obtain ⟨m, hm⟩ : ∃ m : Nat, (D.take 2).length = m := ⟨_, rfl⟩
  have hm' : m = min 2 D.length := by rw [← hm]; simp
  obtain ⟨N, hN⟩ : ∃ N : Nat, N = D.length := ⟨_, rfl⟩
  rw [← hN] at hn hD8 hm'
  rw [← hN]
  have hmm : (if (N : Int) < 2 then (N : Int) else 2) = m := by split <;> omega
  have hm2 : (m : Int) ≤ cp := by omega
  have hm3 : (m : Int) ≤ 2 := by omega
  have HM := Lib.hid hm
  clear hN hm hm'
  go_wp2_with fail
  go_loopw [24] (fun i wr => ∃ k : Nat, k ≤ 16 ∧ i = .int .i64 k ∧ Below w.heap.size w wr ∧ Hid (Blk wr w.heap.size (lnC xs y k) 24) ∧ Hid (IL wr (w.heap.size + 1) a (D.take 2))) (fun i _ => (16 - intOf i).toNat)
  case atStart => exact ⟨0, by omega, rfl, hb1', hB1, hS⟩
  case round =>
    clear hB1 hS hb1' hmm
    obtain ⟨k, hk, rfl, hbr, KB, KS⟩ := hrel
    by_cases hk16 : k < 16
    · have hP := hsame.out (k : Int)
      have b1 := bt_in xs U.out 168
      have b2 := bt_in xs U.out 169
      have gx : gndX xs k = (k + bt xs 168) % 16 := rfl
      have gy : gndY xs y = (y + bt xs 169) % 16 := rfl
      have gt : gndT xs k y = bt xs (gndY xs y / 4 * 4 + gndX xs k / 4) % 16 := rfl
      have gv : gndV xs k y = dotV xs (gndT xs k y) (gndX xs k % 4) (gndY xs y % 4) := rfl
      have Ds1 : Hid (w.cell? ⟨b, off + 168, none⟩ = some (.int .u8 (bt xs 168))) := Lib.hid (H.out.2 168 (by omega))
      have Ds2 : Hid (w.cell? ⟨b, off + 169, none⟩ = some (.int .u8 (bt xs 169))) := Lib.hid (H.out.2 169 (by omega))
      generalize gndX xs k = gX at *
      generalize gndY xs y = gY at *
      obtain ⟨K0, hK0⟩ : ∃ K : Nat, gY / 4 * 4 + gX / 4 = K := ⟨(gY / 4 * 4 + gX / 4).toNat, by omega⟩
      have c3 := H.out.2 K0 (by omega)
      have b3 := bt_in xs U.out K0
      rw [hK0] at gt
      generalize gndT xs k y = gT at *
      have hd := dotV_in xs gT (gX % 4) (gY % 4)
      have TD := Lib.hid (fun w' (h : Vid w' (.slice (some ⟨b, off, none⟩) 256 cap) xs) => tileDot_any xs _ gT (gX % 4) (gY % 4) w' h (by omega) (by omega) (by omega) (by omega) (by omega) (by omega))
      rw [← gv] at hd TD
      generalize gndV xs k y = d at *
      obtain ⟨K1, hK1⟩ : ∃ K : Nat, 160 + d = K := ⟨(160 + d).toNat, by omega⟩
      have c4 := H.out.2 K1 (by omega)
      have hz := bt_in xs U.out K1
      rw [hK1] at hP
      generalize bt xs 168 = s1 at *
      generalize bt xs 169 = s2 at *
      generalize bt xs K0 = s3 at *
      generalize bt xs K1 = z at *
      have hki : (k : Int) < 16 := Int.ofNat_lt.2 hk16
      have hK0i : (K0 : Int) < 256 := by omega
      have hK1i : (K1 : Int) < 256 := by omega
      have J1 : IntKind.i64.wrap s1 = s1 := by rw [IntKind.wrap_i64]; omega
      have J2 : IntKind.i64.wrap ((k : Int) + s1) = k + s1 := by rw [IntKind.wrap_i64]; omega
      have J3 : Int.tmod ((k : Int) + s1) 16 = gX := by rw [Int.tmod_eq_emod_of_nonneg (by omega)]; omega
      have J4 : IntKind.i64.wrap s2 = s2 := by rw [IntKind.wrap_i64]; omega
      have J5 : IntKind.i64.wrap (y + s2) = y + s2 := by rw [IntKind.wrap_i64]; omega
      have J6 : Int.tmod (y + s2) 16 = gY := by rw [Int.tmod_eq_emod_of_nonneg (by omega)]; omega
      have q1 : Int.tdiv gX 4 = gX / 4 := Int.tdiv_eq_ediv_of_nonneg (by omega)
      have q2 : Int.tdiv gY 4 = gY / 4 := Int.tdiv_eq_ediv_of_nonneg (by omega)
      have q3 : Int.tmod gX 4 = gX % 4 := Int.tmod_eq_emod_of_nonneg (by omega)
      have q4 : Int.tmod gY 4 = gY % 4 := Int.tmod_eq_emod_of_nonneg (by omega)
      have q5 : Int.tmod s3 16 = gT := by rw [Int.tmod_eq_emod_of_nonneg (by omega)]; omega
      have w1' : wrap64 (gX / 4) = gX / 4 := by unfold wrap64; omega
      have w2' : wrap64 (gY / 4) = gY / 4 := by unfold wrap64; omega
      have w3' : wrap64 (gY / 4 * 4) = gY / 4 * 4 := by unfold wrap64; omega
      have w4' : wrap64 (gY / 4 * 4 + gX / 4) = (K0 : Int) := by unfold wrap64; omega
      have w5' : wrap64 s3 = s3 := by unfold wrap64; omega
      have w6' : wrap64 (160 + d) = (K1 : Int) := by unfold wrap64; omega
      have t6 : (160 + d).toNat = K1 := by omega
      have w7' : wrap64 (gX % 4) = gX % 4 := by unfold wrap64; omega
      have w8' : wrap64 (gY % 4) = gY % 4 := by unfold wrap64; omega
      clear gx gy gt gv hK0 hK1 b1 b2 b3
      go_wp2_with fail
      refine wp_region_held_drew (S := fun X => Below w.heap.size w X) (by kernel_rfl) hbr.drew (fun hS => ?_)
      refine wpAnyH_take (i := 0) (v := ?v0) rfl (by kernel_rfl) (by kernel_rfl) (by kernel_rfl) (fun _ _ _ h => h) (Or.inl ⟨by rfl, ?y0⟩) hS ?_
      case y0 => (intro X hSw; go_simp; try with_reducible rfl)
      try simp only [List.getElem_toArray, List.getElem_cons_succ, List.getElem_cons_zero, Act.put, List.setIfInBounds_toArray, List.set_cons_zero, List.set_cons_succ]
      try simp only [J1, J2, J3, J4, J5, J6]
      refine wpAnyH_take (i := 1) (v := ?v1) rfl (by kernel_rfl) (by kernel_rfl) (by kernel_rfl) (fun _ _ _ h => h) (Or.inl ⟨by rfl, ?y1⟩) hS ?_
      case y1 => (intro X hSw; go_simp; try with_reducible rfl)
      try simp only [List.getElem_toArray, List.getElem_cons_succ, List.getElem_cons_zero, Act.put, List.setIfInBounds_toArray, List.set_cons_zero, List.set_cons_succ]
      try simp only [J1, J2, J3, J4, J5, J6]
      refine wpAnyH_take (i := 2) (v := ?v2) rfl (by kernel_rfl) (by kernel_rfl) (by kernel_rfl) (fun _ _ _ h => h) (Or.inl ⟨by rfl, ?y2⟩) hS ?_
      case y2 => (intro X hSw; go_simp; try with_reducible rfl)
      try simp only [List.getElem_toArray, List.getElem_cons_succ, List.getElem_cons_zero, Act.put, List.setIfInBounds_toArray, List.set_cons_zero, List.set_cons_succ]
      try simp only [J1, J2, J3, J4, J5, J6]
      refine wpAnyH_take (i := 3) (v := ?v3) rfl (by kernel_rfl) (by kernel_rfl) (by kernel_rfl) (fun _ _ _ h => h) (Or.inl ⟨by rfl, ?y3⟩) hS ?_
      case y3 => (intro X hSw; have q : X.cell? ⟨b, off + 168, none⟩ = some (.int .u8 s1) := (hSw.cell (p := ⟨b, off + 168, none⟩) H.out.1).trans Ds1.out; go_simp; try with_reducible rfl)
      try simp only [List.getElem_toArray, List.getElem_cons_succ, List.getElem_cons_zero, Act.put, List.setIfInBounds_toArray, List.set_cons_zero, List.set_cons_succ]
      try simp only [J1, J2, J3, J4, J5, J6]
      refine wpAnyH_take (i := 4) (v := ?v4) rfl (by kernel_rfl) (by kernel_rfl) (by kernel_rfl) (fun _ _ _ h => h) (Or.inl ⟨by rfl, ?y4⟩) hS ?_
      case y4 => (intro X hSw; go_simp; try with_reducible rfl)
      try simp only [List.getElem_toArray, List.getElem_cons_succ, List.getElem_cons_zero, Act.put, List.setIfInBounds_toArray, List.set_cons_zero, List.set_cons_succ]
      try simp only [J1, J2, J3, J4, J5, J6]
      refine wpAnyH_take (i := 5) (v := ?v5) rfl (by kernel_rfl) (by kernel_rfl) (by kernel_rfl) (fun _ _ _ h => h) (Or.inl ⟨by rfl, ?y5⟩) hS ?_
      case y5 => (intro X hSw; go_simp; try with_reducible rfl)
      try simp only [List.getElem_toArray, List.getElem_cons_succ, List.getElem_cons_zero, Act.put, List.setIfInBounds_toArray, List.set_cons_zero, List.set_cons_succ]
      try simp only [J1, J2, J3, J4, J5, J6]
      refine wpAnyH_take (i := 6) (v := ?v6) rfl (by kernel_rfl) (by kernel_rfl) (by kernel_rfl) (fun _ _ _ h => h) (Or.inl ⟨by rfl, ?y6⟩) hS ?_
      case y6 => (intro X hSw; go_simp; try with_reducible rfl)
      try simp only [List.getElem_toArray, List.getElem_cons_succ, List.getElem_cons_zero, Act.put, List.setIfInBounds_toArray, List.set_cons_zero, List.set_cons_succ]
      try simp only [J1, J2, J3, J4, J5, J6]
      refine wpAnyH_take (i := 7) (v := ?v7) rfl (by kernel_rfl) (by kernel_rfl) (by kernel_rfl) (fun _ _ _ h => h) (Or.inl ⟨by rfl, ?y7⟩) hS ?_
      case y7 => (intro X hSw; go_simp; try with_reducible rfl)
      try simp only [List.getElem_toArray, List.getElem_cons_succ, List.getElem_cons_zero, Act.put, List.setIfInBounds_toArray, List.set_cons_zero, List.set_cons_succ]
      try simp only [J1, J2, J3, J4, J5, J6]
      refine wpAnyH_take (i := 8) (v := ?v8) rfl (by kernel_rfl) (by kernel_rfl) (by kernel_rfl) (fun _ _ _ h => h) (Or.inl ⟨by rfl, ?y8⟩) hS ?_
      case y8 => (intro X hSw; go_simp; try with_reducible rfl)
      try simp only [List.getElem_toArray, List.getElem_cons_succ, List.getElem_cons_zero, Act.put, List.setIfInBounds_toArray, List.set_cons_zero, List.set_cons_succ]
      try simp only [J1, J2, J3, J4, J5, J6]
      refine wpAnyH_take (i := 9) (v := ?v9) rfl (by kernel_rfl) (by kernel_rfl) (by kernel_rfl) (fun _ _ _ h => h) (Or.inl ⟨by rfl, ?y9⟩) hS ?_
      case y9 => (intro X hSw; go_simp; try with_reducible rfl)
      try simp only [List.getElem_toArray, List.getElem_cons_succ, List.getElem_cons_zero, Act.put, List.setIfInBounds_toArray, List.set_cons_zero, List.set_cons_succ]
      try simp only [J1, J2, J3, J4, J5, J6]
      refine wpAnyH_take (i := 10) (v := ?v10) rfl (by kernel_rfl) (by kernel_rfl) (by kernel_rfl) (fun _ _ _ h => h) (Or.inl ⟨by rfl, ?y10⟩) hS ?_
      case y10 => (intro X hSw; have q : X.cell? ⟨b, off + 169, none⟩ = some (.int .u8 s2) := (hSw.cell (p := ⟨b, off + 169, none⟩) H.out.1).trans Ds2.out; go_simp; try with_reducible rfl)
      try simp only [List.getElem_toArray, List.getElem_cons_succ, List.getElem_cons_zero, Act.put, List.setIfInBounds_toArray, List.set_cons_zero, List.set_cons_succ]
      try simp only [J1, J2, J3, J4, J5, J6]
      refine wpAnyH_take (i := 11) (v := ?v11) rfl (by kernel_rfl) (by kernel_rfl) (by kernel_rfl) (fun _ _ _ h => h) (Or.inl ⟨by rfl, ?y11⟩) hS ?_
      case y11 => (intro X hSw; go_simp; try with_reducible rfl)
      try simp only [List.getElem_toArray, List.getElem_cons_succ, List.getElem_cons_zero, Act.put, List.setIfInBounds_toArray, List.set_cons_zero, List.set_cons_succ]
      try simp only [J1, J2, J3, J4, J5, J6]
      refine wpAnyH_take (i := 12) (v := ?v12) rfl (by kernel_rfl) (by kernel_rfl) (by kernel_rfl) (fun _ _ _ h => h) (Or.inl ⟨by rfl, ?y12⟩) hS ?_
      case y12 => (intro X hSw; go_simp; try with_reducible rfl)
      try simp only [List.getElem_toArray, List.getElem_cons_succ, List.getElem_cons_zero, Act.put, List.setIfInBounds_toArray, List.set_cons_zero, List.set_cons_succ]
      try simp only [J1, J2, J3, J4, J5, J6]
      refine wpAnyH_take (i := 13) (v := ?v13) rfl (by kernel_rfl) (by kernel_rfl) (by kernel_rfl) (fun _ _ _ h => h) (Or.inl ⟨by rfl, ?y13⟩) hS ?_
      case y13 => (intro X hSw; go_simp; try with_reducible rfl)
      try simp only [List.getElem_toArray, List.getElem_cons_succ, List.getElem_cons_zero, Act.put, List.setIfInBounds_toArray, List.set_cons_zero, List.set_cons_succ]
      try simp only [J1, J2, J3, J4, J5, J6]
      refine wpAnyH_take (i := 14) (v := ?v14) rfl (by kernel_rfl) (by kernel_rfl) (by kernel_rfl) (fun _ _ _ h => h) (Or.inl ⟨by rfl, ?y14⟩) hS ?_
      case y14 => (intro X hSw; go_simp; try with_reducible rfl)
      try simp only [List.getElem_toArray, List.getElem_cons_succ, List.getElem_cons_zero, Act.put, List.setIfInBounds_toArray, List.set_cons_zero, List.set_cons_succ]
      try simp only [J1, J2, J3, J4, J5, J6]
      refine wpAnyH_take (i := 15) (v := ?v15) rfl (by kernel_rfl) (by kernel_rfl) (by kernel_rfl) (fun _ _ _ h => h) (Or.inl ⟨by rfl, ?y15⟩) hS ?_
      case y15 => (intro X hSw; go_simp; try with_reducible rfl)
      try simp only [List.getElem_toArray, List.getElem_cons_succ, List.getElem_cons_zero, Act.put, List.setIfInBounds_toArray, List.set_cons_zero, List.set_cons_succ]
      try simp only [J1, J2, J3, J4, J5, J6]
      refine wpAnyH_done (by kernel_rfl) ?_ _
      have k3 := (hS.cell (p := ⟨b, off + K0, none⟩) H.out.1).trans c3
      have KB' := Lib.hid (Blk.drew KB.out)
      have KS' := Lib.hid (KS.out.below (Below.refl _ _).drew)
      clear c3 KB KS hbr
      go_wp2_with fail
      refine (TD.out _ (HV.out.below hS)).mono ?_
      rintro e w3 ⟨rfl, hb3⟩
      have hbr3 : Below w.heap.size w w3 := below_then hS hb3
      have KB3 := Lib.hid (KB'.out.below hb3)
      have KS3 := Lib.hid (KS'.out.below hb3)
      have k4 := (hbr3.cell (p := ⟨b, off + K1, none⟩) H.out.1).trans c4
      have cK : w3.cell? ⟨w.heap.size, k, none⟩ = some (.int .u8 0) := by rw [KB3.out.cell, lnC_at _ _ _ hk16]
      have fK := KB3.out.free k
      clear hS hb3 KB' KS' c4 k3 TD Ds1 Ds2 J1 J2 J3 J4 J5 J6
      go_wp2_with fail
      refine wp_mark (R := fun W => Below w.heap.size w W ∧ Hid (Blk W w.heap.size ((lnC xs y k).setIfInBounds k (.int .u8 z)) 24) ∧ Hid (IL W (w.heap.size + 1) a (D.take 2))) ⟨by repeat' (first | (with_reducible first | exact Below.refl _ _ | assumption | refine below_alloc ?_ _ | refine Below.drew ?_ | refine below_drewN ?_ _ | refine below_then ?_ (by assumption) | refine below_put ?_ (by assumption) (by first | (simp; done) | (simp; omega) | omega) | refine Below.setCell ?_ ?_ _) | (simp; done) | (simp; omega) | omega), Lib.hid (Blk.set KB3.out rfl), Lib.hid (IL.set KS3.out (by omega))⟩ ?_
      intro w4 ⟨hb4, KB4, KS4⟩
      clear KB3 KS3 cK fK k4 hbr3 q1 q2 q3 q4 q5 w1' w2' w3' w4' w5' w6' w7' w8' t6
      have HP := Lib.hid hP
      clear hP
      go_loopw [67] (fun i wr => ∃ j : Nat, j ≤ m ∧ i = .int .i64 j ∧ Below w.heap.size w wr ∧ Hid (Blk wr w.heap.size ((lnC xs y k).setIfInBounds k (.int .u8 z)) 24) ∧ Hid (IL wr (w.heap.size + 1) a (D.take 2)) ∧ Hid (pixR xs k y z d ((D.take 2).drop j) = lineV xs y k)) (fun i _ => (m - intOf i).toNat)
      case atStart => exact ⟨0, by omega, rfl, hb4, KB4, KS4, Lib.hid (by rw [List.drop_zero]; exact HP.out.symm)⟩
      case round =>
        clear hb4 KB4 KS4 HP
        obtain ⟨j, hj, rfl, hbr, KB, KS, HX⟩ := hrel
        by_cases hjm : j < m
        · obtain ⟨g, q, rfl, hg1, hg2, hdr, hmem, hcl⟩ := KS.out j (by rw [HM.out]; exact hjm)
          obtain ⟨p0, p1, p2⟩ := hin.out q (List.mem_of_mem_take hmem)
          have hx := HX.out
          rw [hdr, pixR] at hx
          clear hdr hmem HX
          have hji : (j : Int) < m := Int.ofNat_lt.2 hjm
          obtain ⟨K, hK⟩ : ∃ K : Nat, 128 + 4 * q = K := ⟨(128 + 4 * q).toNat, by omega⟩
          rw [hK] at hx
          have hbw : b < wr.heap.size := Nat.lt_of_lt_of_le H.out.1 hbr.size
          have c1 : wr.cell? ⟨b, off + K + 1, none⟩ = some (.int .u8 (bt xs (K + 1))) := (hbr.cell (p := ⟨b, off + K + 1, none⟩) H.out.1).trans (H.out.2 (K + 1) (by omega))
          have c2 : wr.cell? ⟨b, off + K + 2, none⟩ = some (.int .u8 (bt xs (K + 2))) := (hbr.cell (p := ⟨b, off + K + 2, none⟩) H.out.1).trans (H.out.2 (K + 2) (by omega))
          have c3 : wr.cell? ⟨b, off + K + 3, none⟩ = some (.int .u8 (bt xs (K + 3))) := (hbr.cell (p := ⟨b, off + K + 3, none⟩) H.out.1).trans (H.out.2 (K + 3) (by omega))
          have g1 := bt_in xs U.out (K + 1)
          have g2 := bt_in xs U.out (K + 2)
          have g3 := bt_in xs U.out (K + 3)
          have LI := Lib.hid (fun w' (h : Below wr.heap.size wr w') => lies_any xs (.slice (some ⟨b, off, none⟩) 256 cap) q y w' ((HV.out.below hbr).below h) p0 (by omega) y0 y1)
          have hl3 : liesV xs q y ≤ 3 := by unfold liesV; split <;> omega
          have hKi : (K : Int) ≤ 256 - 4 := by omega
          have hKc : ¬ cap = K := by omega
          have hKn : K + 3 < 256 := by omega
          have B1 : (1 : Int) < ((256 - K : Nat) : Int) := by omega
          have B2 : (2 : Int) < ((256 - K : Nat) : Int) := by omega
          have B3 : (3 : Int) < ((256 - K : Nat) : Int) := by omega
          generalize liesV xs q y = rw' at *
          generalize bt xs (K + 1) = z1 at *
          generalize bt xs (K + 2) = z2 at *
          generalize bt xs (K + 3) = z3 at *
          have V1 : wrap64 (4 * q) = 4 * q := by unfold wrap64; omega
          have V2 : wrap64 (128 + 4 * q) = (K : Int) := by unfold wrap64; omega
          have I1 : IntKind.i64.wrap z1 = z1 := by rw [IntKind.wrap_i64]; omega
          have I2 : IntKind.i64.wrap ((k : Int) - z1) = k - z1 := by rw [IntKind.wrap_i64]; omega
          go_wp2_with fail
          refine wp_region_held_drew (S := fun X => Below wr.heap.size wr X) (by kernel_rfl) (Below.refl _ _).drew (fun hS => ?_)
          refine wpAnyH_take (i := 0) (v := ?v0b) rfl (by kernel_rfl) (by kernel_rfl) (by kernel_rfl) (fun _ _ _ h => h) (Or.inl ⟨by rfl, ?y0b⟩) hS ?_
          case y0b => (intro X hSw; go_simp; try with_reducible rfl)
          try simp only [List.getElem_toArray, List.getElem_cons_succ, List.getElem_cons_zero, Act.put, List.setIfInBounds_toArray, List.set_cons_zero, List.set_cons_succ]
          try simp only [I1, I2]
          refine wpAnyH_take (i := 1) (v := ?v1b) rfl (by kernel_rfl) (by kernel_rfl) (by kernel_rfl) (fun _ _ _ h => h) (Or.inl ⟨by rfl, ?y1b⟩) hS ?_
          case y1b => (intro X hSw; go_simp; try with_reducible rfl)
          try simp only [List.getElem_toArray, List.getElem_cons_succ, List.getElem_cons_zero, Act.put, List.setIfInBounds_toArray, List.set_cons_zero, List.set_cons_succ]
          try simp only [I1, I2]
          refine wpAnyH_take (i := 2) (v := ?v2b) rfl (by kernel_rfl) (by kernel_rfl) (by kernel_rfl) (fun _ _ _ h => h) (Or.inl ⟨by rfl, ?y2b⟩) hS ?_
          case y2b => (intro X hSw; go_simp; try with_reducible rfl)
          try simp only [List.getElem_toArray, List.getElem_cons_succ, List.getElem_cons_zero, Act.put, List.setIfInBounds_toArray, List.set_cons_zero, List.set_cons_succ]
          try simp only [I1, I2]
          refine wpAnyH_take (i := 3) (v := ?v3b) rfl (by kernel_rfl) (by kernel_rfl) (by kernel_rfl) (fun _ _ _ h => h) (Or.inl ⟨by rfl, ?y3b⟩) hS ?_
          case y3b => (intro X hSw; have q : X.cell? ⟨b, off + K + 1, none⟩ = some (.int .u8 z1) := (hSw.cell (p := ⟨b, off + K + 1, none⟩) hbw).trans c1; go_simp; try with_reducible rfl)
          try simp only [List.getElem_toArray, List.getElem_cons_succ, List.getElem_cons_zero, Act.put, List.setIfInBounds_toArray, List.set_cons_zero, List.set_cons_succ]
          try simp only [I1, I2]
          refine wpAnyH_take (i := 4) (v := ?v4b) rfl (by kernel_rfl) (by kernel_rfl) (by kernel_rfl) (fun _ _ _ h => h) (Or.inl ⟨by rfl, ?y4b⟩) hS ?_
          case y4b => (intro X hSw; go_simp; try with_reducible rfl)
          try simp only [List.getElem_toArray, List.getElem_cons_succ, List.getElem_cons_zero, Act.put, List.setIfInBounds_toArray, List.set_cons_zero, List.set_cons_succ]
          try simp only [I1, I2]
          refine wpAnyH_take (i := 5) (v := ?v5b) rfl (by kernel_rfl) (by kernel_rfl) (by kernel_rfl) (fun _ _ _ h => h) (Or.inl ⟨by rfl, ?y5b⟩) hS ?_
          case y5b => (intro X hSw; go_simp; try with_reducible rfl)
          try simp only [List.getElem_toArray, List.getElem_cons_succ, List.getElem_cons_zero, Act.put, List.setIfInBounds_toArray, List.set_cons_zero, List.set_cons_succ]
          try simp only [I1, I2]
          refine wpAnyH_take (i := 6) (v := ?v6b) rfl (by kernel_rfl) (by kernel_rfl) (by kernel_rfl) (fun _ _ _ h => h) (Or.inl ⟨by rfl, ?y6b⟩) hS ?_
          case y6b => (intro X hSw; go_simp; try with_reducible rfl)
          try simp only [List.getElem_toArray, List.getElem_cons_succ, List.getElem_cons_zero, Act.put, List.setIfInBounds_toArray, List.set_cons_zero, List.set_cons_succ]
          try simp only [I1, I2]
          refine wpAnyH_take (i := 7) (v := ?v7b) rfl (by kernel_rfl) (by kernel_rfl) (by kernel_rfl) (fun _ _ _ h => h) (Or.inl ⟨by rfl, ?y7b⟩) hS ?_
          case y7b => (intro X hSw; go_simp; try with_reducible rfl)
          try simp only [List.getElem_toArray, List.getElem_cons_succ, List.getElem_cons_zero, Act.put, List.setIfInBounds_toArray, List.set_cons_zero, List.set_cons_succ]
          try simp only [I1, I2]
          refine wpAnyH_take (i := 8) (v := ?v8b) rfl (by kernel_rfl) (by kernel_rfl) (by kernel_rfl) (fun _ _ _ h => h) (Or.inl ⟨by rfl, ?y8b⟩) hS ?_
          case y8b => (intro X hSw; go_simp; try with_reducible rfl)
          try simp only [List.getElem_toArray, List.getElem_cons_succ, List.getElem_cons_zero, Act.put, List.setIfInBounds_toArray, List.set_cons_zero, List.set_cons_succ]
          try simp only [I1, I2]
          refine wpAnyH_ready (rs := [9]) (by kernel_rfl) (by simp) (AllReadyH.cons rfl (fun K hK => ?_) AllReadyH.nil)
          go_simp
          refine (LI.out _ hS).mono ?_
          rintro e w5 ⟨rfl, hb5⟩
          try go_wp2_with fail
          refine hK.out _ _ (below_then hS hb5) (fun hS => ?_)
          clear hK K
          try simp only [List.getElem_toArray, List.getElem_cons_succ, List.getElem_cons_zero, Act.put, List.setIfInBounds_toArray, List.set_cons_zero, List.set_cons_succ]
          refine wpAnyH_take (i := 10) (v := ?v10b) rfl (by kernel_rfl) (by kernel_rfl) (by kernel_rfl) (fun _ _ _ h => h) (Or.inl ⟨by rfl, ?y10b⟩) hS ?_
          case y10b => (intro X hSw; go_simp; try with_reducible rfl)
          try simp only [List.getElem_toArray, List.getElem_cons_succ, List.getElem_cons_zero, Act.put, List.setIfInBounds_toArray, List.set_cons_zero, List.set_cons_succ]
          refine wpAnyH_take (i := 11) (v := ?v11b) rfl (by kernel_rfl) (by kernel_rfl) (by kernel_rfl) (fun _ _ _ h => h) (Or.inl ⟨by rfl, ?y11b⟩) hS ?_
          case y11b => (intro X hSw; go_simp; try with_reducible rfl)
          try simp only [List.getElem_toArray, List.getElem_cons_succ, List.getElem_cons_zero, Act.put, List.setIfInBounds_toArray, List.set_cons_zero, List.set_cons_succ]
          refine wpAnyH_done (by kernel_rfl) ?_ _
          have hS5 : Below wr.heap.size wr w5 := hS
          have hbr5 : Below w.heap.size w w5 := hbr.trans (hS5.mono hbr.size)
          have KB5 := Lib.hid (KB.out.below hS5)
          have KS5 := Lib.hid (KS.out.below hS5)
          have C3 := Lib.hid c3
          have r2 := (hS5.cell (p := ⟨b, off + K + 2, none⟩) hbw).trans c2
          have r3' := (hS5.cell (p := ⟨b, off + K + 3, none⟩) hbw).trans c3
          clear hS hb5 c1 c2 c3 V1 V2 I1 I2 LI
          by_cases hA : (k : Int) - z1 < 0
          · rw [if_pos (Or.inl hA)] at hx
            have HE := Lib.hid hx
            clear hx
            go_wp2
            go_roundw
            case rel => exact ⟨j + 1, by omega, by go_num, hbr5, KB5, KS5, HE⟩
            case measure => simp [intOf]; omega
          · by_cases hB : 3 < (k : Int) - z1
            · rw [if_pos (Or.inr hB)] at hx
              have HE := Lib.hid hx
              clear hx
              go_wp2
              go_roundw
              case rel => exact ⟨j + 1, by omega, by go_num, hbr5, KB5, KS5, HE⟩
              case measure => simp [intOf]; omega
            · rw [if_neg (by omega)] at hx
              obtain ⟨R, eR⟩ : ∃ R : Int, R = if z3 % 2 = 1 then 3 - ((k : Int) - z1) else k - z1 := ⟨_, rfl⟩
              obtain ⟨Q, eQ⟩ : ∃ R : Int, R = if z3 / 2 % 2 = 1 then 3 - rw' else rw' := ⟨_, rfl⟩
              rw [← eR, ← eQ] at hx
              have hR : 0 ≤ R ∧ R ≤ 3 := by rw [eR]; split <;> omega
              have hQ : 0 ≤ Q ∧ Q ≤ 3 := by rw [eQ]; split <;> omega
              have hc := dotV_in xs (z2 % 16) R Q
              have TC := Lib.hid (fun w' (h : Vid w' (.slice (some ⟨b, off, none⟩) 256 cap) xs) => tileDot_any xs _ (z2 % 16) R Q w' h (by omega) (by omega) hR.1 hR.2 hQ.1 hQ.2)
              generalize dotV xs (z2 % 16) R Q = cc at *
              obtain ⟨K2, hK2⟩ : ∃ K : Nat, 164 + cc = K := ⟨(164 + cc).toNat, by omega⟩
              rw [hK2] at hx
              have V2 : wrap64 (164 + cc) = (K2 : Int) := by unfold wrap64; omega
              have t7 : (164 + cc).toNat = K2 := by omega
              have hK2i : (K2 : Int) < 256 := by omega
              have HX2 := Lib.hid hx
              have HK2 := Lib.hid (H.out.2 K2 (by omega))
              generalize bt xs K2 = v2 at *
              have M1 : Int.tmod z3 2 = z3 % 2 := Int.tmod_eq_emod_of_nonneg (by omega)
              have M2 : Int.tdiv z3 2 = z3 / 2 := Int.tdiv_eq_ediv_of_nonneg (by omega)
              have M3 : Int.tmod (z3 / 2) 2 = z3 / 2 % 2 := Int.tmod_eq_emod_of_nonneg (by omega)
              have M4 : Int.tmod z2 16 = z2 % 16 := Int.tmod_eq_emod_of_nonneg (by omega)
              have X1 : wrap64 z2 = z2 := by unfold wrap64; omega
              have X2 : wrap64 (3 - ((k : Int) - z1)) = 3 - (k - z1) := by unfold wrap64; omega
              have X3 : wrap64 (3 - rw') = 3 - rw' := by unfold wrap64; omega
              have X4 : wrap64 (z2 % 16) = z2 % 16 := by unfold wrap64; omega
              have X5 : IntKind.u8.wrap (z3 / 2) = z3 / 2 := by rw [wrap8]; omega
              have X6 : IntKind.u8.wrap (z3 / 2 % 2) = z3 / 2 % 2 := by rw [wrap8]; omega
              have X7 : IntKind.u8.wrap (z3 % 2) = z3 % 2 := by rw [wrap8]; omega
              clear hx hK2
              by_cases F1 : z3 % 2 = 1
              · rw [if_pos F1] at eR
                by_cases F2 : z3 / 2 % 2 = 1
                · rw [if_pos F2] at eQ
                  subst eR eQ
                  go_wp2_with fail
                  refine (TC.out _ (HV.out.below hbr5)).mono ?_
                  rintro e w6 ⟨rfl, hb6⟩
                  have hw6 : Below wr.heap.size wr w6 := below_then hS5 hb6
                  have hbr6 : Below w.heap.size w w6 := below_then hbr5 hb6
                  have KB6 := Lib.hid (KB5.out.below hb6)
                  have KS6 := Lib.hid (KS5.out.below hb6)
                  have cK6 : w6.cell? ⟨w.heap.size, k, none⟩ = some (.int .u8 z) := by rw [KB6.out.cell]; simp [lnC_size, hk16]
                  have fK6 := KB6.out.free k
                  have r3 := (hw6.cell (p := ⟨b, off + K + 3, none⟩) hbw).trans C3.out
                  have cz2 := (hbr6.cell (p := ⟨b, off + K2, none⟩) H.out.1).trans HK2.out
                  clear hw6 hb6 hS5 KB KS hbr KB5 KS5 hbr5 r2 r3' TC
                  have hx2 := HX2.out
                  by_cases h0 : cc = 0
                  · rw [if_pos h0] at hx2
                    have HE := Lib.hid hx2
                    have h0' : (cc == 0) = true := by simpa using h0
                    clear hx2 h0
                    go_wp2
                    go_roundw
                    case rel => exact ⟨j + 1, by omega, by go_num, hbr6, KB6, KS6, HE⟩
                    case measure => simp [intOf]; omega
                  · rw [if_neg h0] at hx2
                    have h0' : (cc == 0) = false := by simpa using h0
                    by_cases hq : z3 < 128 ∨ d = 0
                    · rw [if_pos hq] at hx2
                      have E : ((lnC xs y k).setIfInBounds k (.int .u8 z)).setIfInBounds k (.int .u8 v2) = lnC xs y (k + 1) := by rw [Array.setIfInBounds_setIfInBounds, ← lnC_set xs y k hk16, ← hx2]
                      have HE := Lib.hid E
                      clear E hx2 h0
                      by_cases hq1 : z3 < 128
                      · clear hq
                        go_wp2
                        go_roundw
                        case rel => exact ⟨k + 1, by omega, by go_num, by repeat' (first | (with_reducible first | exact Below.refl _ _ | assumption | refine below_alloc ?_ _ | refine Below.drew ?_ | refine below_drewN ?_ _ | refine below_then ?_ (by assumption) | refine below_put ?_ (by assumption) (by first | (simp; done) | (simp; omega) | omega) | refine Below.setCell ?_ ?_ _) | (simp; done) | (simp; omega) | omega), Lib.hid (Blk.set KB6.out HE.out), Lib.hid (IL.set KS6.out (by omega))⟩
                        case measure => simp [intOf]; omega
                      · have hd0 : (d == 0) = true := by simpa using hq.resolve_left hq1
                        clear hq
                        go_wp2
                        go_roundw
                        case rel => exact ⟨k + 1, by omega, by go_num, by repeat' (first | (with_reducible first | exact Below.refl _ _ | assumption | refine below_alloc ?_ _ | refine Below.drew ?_ | refine below_drewN ?_ _ | refine below_then ?_ (by assumption) | refine below_put ?_ (by assumption) (by first | (simp; done) | (simp; omega) | omega) | refine Below.setCell ?_ ?_ _) | (simp; done) | (simp; omega) | omega), Lib.hid (Blk.set KB6.out HE.out), Lib.hid (IL.set KS6.out (by omega))⟩
                        case measure => simp [intOf]; omega
                    · rw [if_neg hq] at hx2
                      have E : (lnC xs y k).setIfInBounds k (.int .u8 z) = lnC xs y (k + 1) := by rw [← lnC_set xs y k hk16, ← hx2]
                      have HE := Lib.hid E
                      have hq1 : ¬ z3 < 128 := fun q => hq (Or.inl q)
                      have hd0 : (d == 0) = false := by simpa using fun q => hq (Or.inr q)
                      clear E hx2 hq h0
                      go_wp2
                      go_roundw
                      case rel => exact ⟨k + 1, by omega, by go_num, hbr6, Lib.hid (by rw [← HE.out]; exact KB6.out), KS6⟩
                      case measure => simp [intOf]; omega
                · rw [if_neg F2] at eQ
                  have F2 : z3 / 2 % 2 = 0 := by omega
                  subst eR eQ
                  go_wp2_with fail
                  refine (TC.out _ (HV.out.below hbr5)).mono ?_
                  rintro e w6 ⟨rfl, hb6⟩
                  have hw6 : Below wr.heap.size wr w6 := below_then hS5 hb6
                  have hbr6 : Below w.heap.size w w6 := below_then hbr5 hb6
                  have KB6 := Lib.hid (KB5.out.below hb6)
                  have KS6 := Lib.hid (KS5.out.below hb6)
                  have cK6 : w6.cell? ⟨w.heap.size, k, none⟩ = some (.int .u8 z) := by rw [KB6.out.cell]; simp [lnC_size, hk16]
                  have fK6 := KB6.out.free k
                  have r3 := (hw6.cell (p := ⟨b, off + K + 3, none⟩) hbw).trans C3.out
                  have cz2 := (hbr6.cell (p := ⟨b, off + K2, none⟩) H.out.1).trans HK2.out
                  clear hw6 hb6 hS5 KB KS hbr KB5 KS5 hbr5 r2 r3' TC
                  have hx2 := HX2.out
                  by_cases h0 : cc = 0
                  · rw [if_pos h0] at hx2
                    have HE := Lib.hid hx2
                    have h0' : (cc == 0) = true := by simpa using h0
                    clear hx2 h0
                    go_wp2
                    go_roundw
                    case rel => exact ⟨j + 1, by omega, by go_num, hbr6, KB6, KS6, HE⟩
                    case measure => simp [intOf]; omega
                  · rw [if_neg h0] at hx2
                    have h0' : (cc == 0) = false := by simpa using h0
                    by_cases hq : z3 < 128 ∨ d = 0
                    · rw [if_pos hq] at hx2
                      have E : ((lnC xs y k).setIfInBounds k (.int .u8 z)).setIfInBounds k (.int .u8 v2) = lnC xs y (k + 1) := by rw [Array.setIfInBounds_setIfInBounds, ← lnC_set xs y k hk16, ← hx2]
                      have HE := Lib.hid E
                      clear E hx2 h0
                      by_cases hq1 : z3 < 128
                      · clear hq
                        go_wp2
                        go_roundw
                        case rel => exact ⟨k + 1, by omega, by go_num, by repeat' (first | (with_reducible first | exact Below.refl _ _ | assumption | refine below_alloc ?_ _ | refine Below.drew ?_ | refine below_drewN ?_ _ | refine below_then ?_ (by assumption) | refine below_put ?_ (by assumption) (by first | (simp; done) | (simp; omega) | omega) | refine Below.setCell ?_ ?_ _) | (simp; done) | (simp; omega) | omega), Lib.hid (Blk.set KB6.out HE.out), Lib.hid (IL.set KS6.out (by omega))⟩
                        case measure => simp [intOf]; omega
                      · have hd0 : (d == 0) = true := by simpa using hq.resolve_left hq1
                        clear hq
                        go_wp2
                        go_roundw
                        case rel => exact ⟨k + 1, by omega, by go_num, by repeat' (first | (with_reducible first | exact Below.refl _ _ | assumption | refine below_alloc ?_ _ | refine Below.drew ?_ | refine below_drewN ?_ _ | refine below_then ?_ (by assumption) | refine below_put ?_ (by assumption) (by first | (simp; done) | (simp; omega) | omega) | refine Below.setCell ?_ ?_ _) | (simp; done) | (simp; omega) | omega), Lib.hid (Blk.set KB6.out HE.out), Lib.hid (IL.set KS6.out (by omega))⟩
                        case measure => simp [intOf]; omega
                    · rw [if_neg hq] at hx2
                      have E : (lnC xs y k).setIfInBounds k (.int .u8 z) = lnC xs y (k + 1) := by rw [← lnC_set xs y k hk16, ← hx2]
                      have HE := Lib.hid E
                      have hq1 : ¬ z3 < 128 := fun q => hq (Or.inl q)
                      have hd0 : (d == 0) = false := by simpa using fun q => hq (Or.inr q)
                      clear E hx2 hq h0
                      go_wp2
                      go_roundw
                      case rel => exact ⟨k + 1, by omega, by go_num, hbr6, Lib.hid (by rw [← HE.out]; exact KB6.out), KS6⟩
                      case measure => simp [intOf]; omega
              · rw [if_neg F1] at eR
                have F1 : z3 % 2 = 0 := by omega
                by_cases F2 : z3 / 2 % 2 = 1
                · rw [if_pos F2] at eQ
                  subst eR eQ
                  go_wp2_with fail
                  refine (TC.out _ (HV.out.below hbr5)).mono ?_
                  rintro e w6 ⟨rfl, hb6⟩
                  have hw6 : Below wr.heap.size wr w6 := below_then hS5 hb6
                  have hbr6 : Below w.heap.size w w6 := below_then hbr5 hb6
                  have KB6 := Lib.hid (KB5.out.below hb6)
                  have KS6 := Lib.hid (KS5.out.below hb6)
                  have cK6 : w6.cell? ⟨w.heap.size, k, none⟩ = some (.int .u8 z) := by rw [KB6.out.cell]; simp [lnC_size, hk16]
                  have fK6 := KB6.out.free k
                  have r3 := (hw6.cell (p := ⟨b, off + K + 3, none⟩) hbw).trans C3.out
                  have cz2 := (hbr6.cell (p := ⟨b, off + K2, none⟩) H.out.1).trans HK2.out
                  clear hw6 hb6 hS5 KB KS hbr KB5 KS5 hbr5 r2 r3' TC
                  have hx2 := HX2.out
                  by_cases h0 : cc = 0
                  · rw [if_pos h0] at hx2
                    have HE := Lib.hid hx2
                    have h0' : (cc == 0) = true := by simpa using h0
                    clear hx2 h0
                    go_wp2
                    go_roundw
                    case rel => exact ⟨j + 1, by omega, by go_num, hbr6, KB6, KS6, HE⟩
                    case measure => simp [intOf]; omega
                  · rw [if_neg h0] at hx2
                    have h0' : (cc == 0) = false := by simpa using h0
                    by_cases hq : z3 < 128 ∨ d = 0
                    · rw [if_pos hq] at hx2
                      have E : ((lnC xs y k).setIfInBounds k (.int .u8 z)).setIfInBounds k (.int .u8 v2) = lnC xs y (k + 1) := by rw [Array.setIfInBounds_setIfInBounds, ← lnC_set xs y k hk16, ← hx2]
                      have HE := Lib.hid E
                      clear E hx2 h0
                      by_cases hq1 : z3 < 128
                      · clear hq
                        go_wp2
                        go_roundw
                        case rel => exact ⟨k + 1, by omega, by go_num, by repeat' (first | (with_reducible first | exact Below.refl _ _ | assumption | refine below_alloc ?_ _ | refine Below.drew ?_ | refine below_drewN ?_ _ | refine below_then ?_ (by assumption) | refine below_put ?_ (by assumption) (by first | (simp; done) | (simp; omega) | omega) | refine Below.setCell ?_ ?_ _) | (simp; done) | (simp; omega) | omega), Lib.hid (Blk.set KB6.out HE.out), Lib.hid (IL.set KS6.out (by omega))⟩
                        case measure => simp [intOf]; omega
                      · have hd0 : (d == 0) = true := by simpa using hq.resolve_left hq1
                        clear hq
                        go_wp2
                        go_roundw
                        case rel => exact ⟨k + 1, by omega, by go_num, by repeat' (first | (with_reducible first | exact Below.refl _ _ | assumption | refine below_alloc ?_ _ | refine Below.drew ?_ | refine below_drewN ?_ _ | refine below_then ?_ (by assumption) | refine below_put ?_ (by assumption) (by first | (simp; done) | (simp; omega) | omega) | refine Below.setCell ?_ ?_ _) | (simp; done) | (simp; omega) | omega), Lib.hid (Blk.set KB6.out HE.out), Lib.hid (IL.set KS6.out (by omega))⟩
                        case measure => simp [intOf]; omega
                    · rw [if_neg hq] at hx2
                      have E : (lnC xs y k).setIfInBounds k (.int .u8 z) = lnC xs y (k + 1) := by rw [← lnC_set xs y k hk16, ← hx2]
                      have HE := Lib.hid E
                      have hq1 : ¬ z3 < 128 := fun q => hq (Or.inl q)
                      have hd0 : (d == 0) = false := by simpa using fun q => hq (Or.inr q)
                      clear E hx2 hq h0
                      go_wp2
                      go_roundw
                      case rel => exact ⟨k + 1, by omega, by go_num, hbr6, Lib.hid (by rw [← HE.out]; exact KB6.out), KS6⟩
                      case measure => simp [intOf]; omega
                · rw [if_neg F2] at eQ
                  have F2 : z3 / 2 % 2 = 0 := by omega
                  subst eR eQ
                  go_wp2_with fail
                  refine (TC.out _ (HV.out.below hbr5)).mono ?_
                  rintro e w6 ⟨rfl, hb6⟩
                  have hw6 : Below wr.heap.size wr w6 := below_then hS5 hb6
                  have hbr6 : Below w.heap.size w w6 := below_then hbr5 hb6
                  have KB6 := Lib.hid (KB5.out.below hb6)
                  have KS6 := Lib.hid (KS5.out.below hb6)
                  have cK6 : w6.cell? ⟨w.heap.size, k, none⟩ = some (.int .u8 z) := by rw [KB6.out.cell]; simp [lnC_size, hk16]
                  have fK6 := KB6.out.free k
                  have r3 := (hw6.cell (p := ⟨b, off + K + 3, none⟩) hbw).trans C3.out
                  have cz2 := (hbr6.cell (p := ⟨b, off + K2, none⟩) H.out.1).trans HK2.out
                  clear hw6 hb6 hS5 KB KS hbr KB5 KS5 hbr5 r2 r3' TC
                  have hx2 := HX2.out
                  by_cases h0 : cc = 0
                  · rw [if_pos h0] at hx2
                    have HE := Lib.hid hx2
                    have h0' : (cc == 0) = true := by simpa using h0
                    clear hx2 h0
                    go_wp2
                    go_roundw
                    case rel => exact ⟨j + 1, by omega, by go_num, hbr6, KB6, KS6, HE⟩
                    case measure => simp [intOf]; omega
                  · rw [if_neg h0] at hx2
                    have h0' : (cc == 0) = false := by simpa using h0
                    by_cases hq : z3 < 128 ∨ d = 0
                    · rw [if_pos hq] at hx2
                      have E : ((lnC xs y k).setIfInBounds k (.int .u8 z)).setIfInBounds k (.int .u8 v2) = lnC xs y (k + 1) := by rw [Array.setIfInBounds_setIfInBounds, ← lnC_set xs y k hk16, ← hx2]
                      have HE := Lib.hid E
                      clear E hx2 h0
                      by_cases hq1 : z3 < 128
                      · clear hq
                        go_wp2
                        go_roundw
                        case rel => exact ⟨k + 1, by omega, by go_num, by repeat' (first | (with_reducible first | exact Below.refl _ _ | assumption | refine below_alloc ?_ _ | refine Below.drew ?_ | refine below_drewN ?_ _ | refine below_then ?_ (by assumption) | refine below_put ?_ (by assumption) (by first | (simp; done) | (simp; omega) | omega) | refine Below.setCell ?_ ?_ _) | (simp; done) | (simp; omega) | omega), Lib.hid (Blk.set KB6.out HE.out), Lib.hid (IL.set KS6.out (by omega))⟩
                        case measure => simp [intOf]; omega
                      · have hd0 : (d == 0) = true := by simpa using hq.resolve_left hq1
                        clear hq
                        go_wp2
                        go_roundw
                        case rel => exact ⟨k + 1, by omega, by go_num, by repeat' (first | (with_reducible first | exact Below.refl _ _ | assumption | refine below_alloc ?_ _ | refine Below.drew ?_ | refine below_drewN ?_ _ | refine below_then ?_ (by assumption) | refine below_put ?_ (by assumption) (by first | (simp; done) | (simp; omega) | omega) | refine Below.setCell ?_ ?_ _) | (simp; done) | (simp; omega) | omega), Lib.hid (Blk.set KB6.out HE.out), Lib.hid (IL.set KS6.out (by omega))⟩
                        case measure => simp [intOf]; omega
                    · rw [if_neg hq] at hx2
                      have E : (lnC xs y k).setIfInBounds k (.int .u8 z) = lnC xs y (k + 1) := by rw [← lnC_set xs y k hk16, ← hx2]
                      have HE := Lib.hid E
                      have hq1 : ¬ z3 < 128 := fun q => hq (Or.inl q)
                      have hd0 : (d == 0) = false := by simpa using fun q => hq (Or.inr q)
                      clear E hx2 hq h0
                      go_wp2
                      go_roundw
                      case rel => exact ⟨k + 1, by omega, by go_num, hbr6, Lib.hid (by rw [← HE.out]; exact KB6.out), KS6⟩
                      case measure => simp [intOf]; omega
        · have hj' : j = m := by omega
          subst hj'
          have hx := HX.out
          rw [List.drop_of_length_le (by rw [HM.out]; exact Nat.le_refl _)] at hx
          have E : (lnC xs y k).setIfInBounds k (.int .u8 z) = lnC xs y (k + 1) := by rw [← lnC_set xs y k hk16, ← hx]; rfl
          have HE := Lib.hid E
          clear E hx HX
          go_wp2
          go_roundw
          case rel => exact ⟨k + 1, by omega, by go_num, hbr, Lib.hid (by rw [← HE.out]; exact KB.out), KS⟩
          case measure => simp [intOf]; omega
    · have hk' : k = 16 := by omega
      subst hk'
      have hsz := lnC_size xs y 16
      have hone : (lnC xs y 16).all (·.oneCell') = true := by simp [lnC, Value.oneCell']
      have HO := Lib.hid hone
      clear hone
      obtain ⟨Z, hZ⟩ : ∃ Z, Z = lnC xs y 16 := ⟨_, rfl⟩
      rw [← hZ] at HO hsz KB
      have HZ := Lib.hid hZ
      clear hZ
      go_wp2_with (first
        | (refine wpList_loadW rfl 24 (.tmp 4) rfl (w.heap.size) rfl 24 Z KB.out _ Try.underlying24 rfl (by rw [hsz]; kernel_rfl) ?_)
        | (refine wpList_storeW rfl 24 (.tmp 4) (.tmp 135) rfl (w.heap.size) Z rfl rfl 24 _ KB.out (by rw [hsz]; kernel_rfl) rfl HO.out ?_; intro w7 hp7 K7)
        | fail)
      exact bodyPost_ret (results_cell_row Try.results34 _ _ (w.heap.size) 24 Z (0, 0) _ rfl K7.out Try.underlying24 rfl (by rw [hsz]; kernel_rfl)) rfl ⟨by rw [HZ.out], below_put hbr hp7 (Nat.le_refl _)⟩
end Go.Proofs.Ytcgigpglpbhakaa
