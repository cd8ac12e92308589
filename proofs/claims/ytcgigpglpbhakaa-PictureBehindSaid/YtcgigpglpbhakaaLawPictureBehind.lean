/- PictureBehind: for every memory and line the law answers true. Conditions: none. -/
import Derived.Test.YtcgigpglpbhakaaLawPictureMoves
set_option linter.unusedVariables false
set_option linter.unusedSimpArgs false
namespace Go.Mq
open Go Go.RowKit
def orK (xs : List Int) : Nat → List Int
  | 0 => xs
  | k + 1 => (orK xs k).set (131 + 4 * k) (bt (orK xs k) (131 + 4 * k) % 128 + 128)
theorem orK_len (xs : List Int) : ∀ k, (orK xs k).length = xs.length
  | 0 => rfl
  | k + 1 => by simp [orK, orK_len xs k]
theorem orK_at (xs : List Int) (h : xs.length = 256) : ∀ k, k ≤ 8 → ∀ j : Nat, j < k → bt (orK xs k) (131 + 4 * j) / 128 % 2 = 1
  | 0, _, j, hj => by omega
  | k + 1, hk, j, hj => by
    show bt ((orK xs k).set (131 + 4 * k) (bt (orK xs k) (131 + 4 * k) % 128 + 128)) (131 + 4 * j) / 128 % 2 = 1
    rw [bt_set _ _ _ (by rw [orK_len]; omega) _ (by omega)]
    by_cases e : (131 + 4 * (j : Int)) = ((131 + 4 * k : Nat) : Int)
    · rw [if_pos e]; omega
    · rw [if_neg e]
      exact orK_at xs h k (by omega) j (by omega)
set_option maxRecDepth 100000 in
theorem or128_nat : ∀ n : Fin 256, (n.val ||| 128) = n.val % 128 + 128 := by decide
theorem or128 (n : Int) (h : U8 n) : bits .or .u8 n 128 = n % 128 + 128 := by
  unfold U8 at h
  have := or128_nat ⟨n.toNat, by omega⟩
  rw [show n = ((n.toNat : Nat) : Int) from by omega, show (128 : Int) = ((128 : Nat) : Int) from rfl, u8_or_nat _ _ (by omega) (by omega)]
  simp only at this
  rw [this]
  omega
theorem onF_how (xs : List Int) (y : Int) : ∀ k, k ≤ 8 → ∀ s ∈ onF xs y k, ∃ j : Nat, j < 8 ∧ s.how = bt xs (131 + 4 * j)
  | 0, _ => by simp [onF]
  | k + 1, hk => by
    have ih := onF_how xs y k (by omega)
    unfold onF
    split
    · exact ih
    · intro s hs
      rcases List.mem_append.1 hs with h | h
      · exact ih s h
      · have : s = spK xs y k := by simpa using h
        subst this
        exact ⟨k, by omega, by unfold spK; simp only; congr 1; omega⟩
theorem pixL_behind (xs : List Int) (x b d : Int) (hd : d ≠ 0) : ∀ L : List Sp, (∀ s ∈ L, s.how / 128 % 2 = 1) → pixL xs x b d L = b
  | [], _ => rfl
  | s :: r, h => by
    have ih := pixL_behind xs x b d hd r (fun q hq => h q (List.mem_cons_of_mem _ hq))
    have hs := h s (List.mem_cons_self)
    rw [pixL]
    generalize dotV xs s.tile (if s.how % 2 = 1 then 3 - (x - s.x) else x - s.x) s.row = c
    split
    · exact ih
    · split
      · exact ih
      · rw [if_neg (by omega)]
theorem gnd_same (xs zs : List Int) (x y : Int) (h : ∀ i : Int, 0 ≤ i → (i < 128 ∨ 160 ≤ i) → bt zs i = bt xs i) : gndV zs x y = gndV xs x y := by
  have hX : gndX zs x = gndX xs x := by unfold gndX; rw [h 168 (by omega) (by omega)]
  have hY : gndY zs y = gndY xs y := by unfold gndY; rw [h 169 (by omega) (by omega)]
  have a1 : 0 ≤ gndX xs x ∧ gndX xs x ≤ 15 := by unfold gndX; omega
  have a2 : 0 ≤ gndY xs y ∧ gndY xs y ≤ 15 := by unfold gndY; omega
  have hT : gndT zs x y = gndT xs x y := by
    unfold gndT
    rw [hX, hY, h _ (by omega) (by omega)]
  have b : 0 ≤ gndT xs x y ∧ gndT xs x y ≤ 15 := by unfold gndT; omega
  unfold gndV dotV
  rw [hX, hY, hT, h _ (by omega) (by omega)]
theorem behind_all (xs av : List Int) (y : Int) (k : Nat) (hl : xs.length = 256) (hy : y ≤ 7) (ha : av = ((((orK xs 8).set 160 0).set 161 1).set 162 2).set 163 3) :
    ∃ d : Int, 0 ≤ d ∧ d ≤ 3 ∧ lineV (setK 128 200 av 8) y k = d ∧ (d ≠ 0 → lineV av y k = d) := by
  have la : av.length = 256 := by rw [ha]; simp [orK_len, hl]
  have hz : ∀ i : Int, 0 ≤ i → (i < 128 ∨ 160 ≤ i) → bt (setK 128 200 av 8) i = bt av i := fun i h0 h1 => by rw [setK_at 128 200 av la (by omega) 8 (by omega) i h0, if_neg (by omega)]
  have h200 : ∀ j : Nat, j < 8 → bt (setK 128 200 av 8) (128 + 4 * j) = 200 := fun j hj => by rw [setK_at 128 200 av la (by omega) 8 (by omega) _ (by omega), if_pos (by omega)]
  have L1 : (orK xs 8).length = 256 := by rw [orK_len, hl]
  have at' : ∀ i : Int, 0 ≤ i → bt av i = if i = 163 then 3 else if i = 162 then 2 else if i = 161 then 1 else if i = 160 then 0 else bt (orK xs 8) i := fun i hi => by
    rw [ha, bt_set _ _ _ (by simp [L1]) i hi, bt_set _ _ _ (by simp [L1]) i hi, bt_set _ _ _ (by simp [L1]) i hi, bt_set _ _ _ (by simp [L1]) i hi]
    rfl
  have hd : 0 ≤ gndV av k y ∧ gndV av k y ≤ 3 := dotV_in _ _ _ _
  have hc : bt av (160 + gndV av k y) = gndV av k y := by
    rw [at' _ (by omega)]
    split
    · omega
    · split
      · omega
      · split
        · omega
        · split <;> omega
  refine ⟨gndV av k y, hd.1, hd.2, ?_, fun hne => ?_⟩
  · rw [line_plain _ y k hy h200, gnd_same av _ k y hz, hz _ (by omega) (by omega), hc]
  · unfold lineV
    rw [hc]
    refine pixL_behind av k _ _ hne _ fun s hs => ?_
    obtain ⟨j, hj, e⟩ := onF_how av y 8 (by omega) s hs
    rw [e, at' _ (by omega), if_neg (by omega), if_neg (by omega), if_neg (by omega), if_neg (by omega)]
    exact orK_at xs hl 8 (by omega) j hj
end Go.Mq
namespace Go.Proofs.Ytcgigpglpbhakaa.pictureBehind
open Go.RowKit Go.Mq Go.Proofs.Ytcgigpglpbhakaa.pictureMoves
set_option maxHeartbeats 400000
set_option maxRecDepth 100000
theorem bad_len (v : Value) (xs : List Int) (y : Int) (w : World) (h : SliceAt w .u8 v xs) (hq : ¬ ((xs.length : Int) = 256)) :
    Calls Try.prog 3 #[v, .int .i64 y] w fun e w' => e = .returned (.bool true) ∧ Below w.heap.size w w' := by
  obtain ⟨a, cap, rfl, h1, h2, hwf, h3⟩ := h
  clear h1 h2 hwf h3
  skip
  go_enter Try.func3, Try.ntmps3
  go_wp2_with fail
  refine (drawn_any _).mono ?_
  rintro e w1 ⟨rfl, hb1⟩
  go_wp2
  go_ret
  exact ⟨rfl, by repeat' (first | (with_reducible first | exact Below.refl _ _ | assumption | refine below_alloc ?_ _ | refine Below.drew ?_ | refine below_drewN ?_ _ | refine below_then ?_ (by assumption) | refine below_put ?_ (by assumption) (by first | (simp; done) | (simp; omega) | omega) | refine Below.setCell ?_ ?_ _) | (simp; done) | (simp; omega) | omega)⟩
theorem bad_lo (v : Value) (xs : List Int) (y : Int) (w : World) (h : SliceAt w .u8 v xs) (hq : xs.length = 256 ∧ y < 0) :
    Calls Try.prog 3 #[v, .int .i64 y] w fun e w' => e = .returned (.bool true) ∧ Below w.heap.size w w' := by
  obtain ⟨a, cap, rfl, h1, h2, hwf, h3⟩ := h
  clear h1 h2 hwf h3
  (rw [hq.1]; replace hq := hq.2)
  go_enter Try.func3, Try.ntmps3
  go_wp2_with fail
  refine (drawn_any _).mono ?_
  rintro e w1 ⟨rfl, hb1⟩
  go_wp2
  go_ret
  exact ⟨rfl, by repeat' (first | (with_reducible first | exact Below.refl _ _ | assumption | refine below_alloc ?_ _ | refine Below.drew ?_ | refine below_drewN ?_ _ | refine below_then ?_ (by assumption) | refine below_put ?_ (by assumption) (by first | (simp; done) | (simp; omega) | omega) | refine Below.setCell ?_ ?_ _) | (simp; done) | (simp; omega) | omega)⟩
theorem bad_hi (v : Value) (xs : List Int) (y : Int) (w : World) (h : SliceAt w .u8 v xs) (hq : xs.length = 256 ∧ ¬ y < 0 ∧ 8 ≤ y) :
    Calls Try.prog 3 #[v, .int .i64 y] w fun e w' => e = .returned (.bool true) ∧ Below w.heap.size w w' := by
  obtain ⟨a, cap, rfl, h1, h2, hwf, h3⟩ := h
  clear h1 h2 hwf h3
  (rw [hq.1]; replace hq := hq.2)
  go_enter Try.func3, Try.ntmps3
  go_wp2_with fail
  refine (drawn_any _).mono ?_
  rintro e w1 ⟨rfl, hb1⟩
  go_wp2
  go_ret
  exact ⟨rfl, by repeat' (first | (with_reducible first | exact Below.refl _ _ | assumption | refine below_alloc ?_ _ | refine Below.drew ?_ | refine below_drewN ?_ _ | refine below_then ?_ (by assumption) | refine below_put ?_ (by assumption) (by first | (simp; done) | (simp; omega) | omega) | refine Below.setCell ?_ ?_ _) | (simp; done) | (simp; omega) | omega)⟩
theorem own_empty' {w : World} {e : TypeId} {g : Nat} (hg : g = w.heap.size) : (w.alloc (.cells #[] e)).ownsRow g e 1 (.slice (some ⟨g, 0, none⟩) 0 0) 0 [] := by
  subst hg
  exact own_empty
theorem good (v : Value) (xs : List Int) (y : Int) (w : World) (h : Vid w v xs) (y0 : 0 ≤ y) (y1 : y ≤ 7) :
    Calls Try.prog 3 #[v, .int .i64 y] w fun e w' => e = .returned (.bool true) ∧ Below w.heap.size w w' := by
  have hu := h.2.2
  have hlen := h.2.1
  obtain ⟨b, off, cap, rfl, hc1, hc2, hb, hc⟩ := Vid.open' h
  have U := Lib.hid (And.intro hu hlen)
  have N0 := Lib.hid (src_len (k := .u8) hlen)
  have N1 := Lib.hid (src_at (e := 5) hlen hc)
  have N2 := Lib.hid (src_one xs)
  clear h hb hc hc1 hc2 hu hlen
  have y2 : ¬ y < 0 := by omega
  have y3 : ¬ 8 ≤ y := by omega
  obtain ⟨i0, hi, hz0, hz1, hz2⟩ := info_parts infoB
  have HI := Lib.hid (And.intro hi (And.intro hz0 (And.intro hz1 hz2)))
  clear hi hz0 hz1 hz2
  go_enter Try.func3, Try.ntmps3
  go_wp2_with (first
    | (at_builtin; refine wpList_append_own _ rfl (.tmp 26) (.tmp 27) 22 rfl (w.heap.size) 5 i0 (.int .u8 0) 1 1 Try.underlying22 HI.out.1 HI.out.2.1 HI.out.2.2.1 HI.out.2.2.2 rfl (by decide) _ _ _ rfl own_empty ⟨b, off, none⟩ 256 cap (xs.map (Value.int .u8)) rfl N0.out N1.out N2.out (by unfold maxLen; omega) (by omega) (by simp) ?_)
    | fail)
  intro v' w5 hown hgrow _
  obtain ⟨g, cp, rfl, hg, hB⟩ := Buf.of_own (xs := xs) (by simpa using hown) U.out.1
  have hb5 : Below w.heap.size w w5 := below_grown (below_alloc (Below.refl _ _) _) (by simp) hgrow own_empty (by simp)
  have KB := Lib.hid hB
  clear hown hgrow hB
  go_wp2
  go_loopw [29] (fun i wr => ∃ k : Nat, k ≤ 8 ∧ i = .int .i64 k ∧ Below w.heap.size w wr ∧ Hid (Buf 5 wr g cp (orK xs k))) (fun i _ => (8 - intOf i).toNat)
  case atStart => exact ⟨0, by omega, rfl, hb5, KB⟩
  case round =>
    clear hb5 KB
    obtain ⟨k, hk, rfl, hbr, KB⟩ := hrel
    by_cases hk8 : k < 8
    · have hki : (k : Int) < 8 := by omega
      obtain ⟨K, hK⟩ : ∃ K : Nat, 131 + 4 * k = K := ⟨_, rfl⟩
      have hK8 : (K : Int) < 256 := by omega
      have W1 : wrap64 (4 * (k : Int)) = 4 * k := by unfold wrap64; omega
      have W2 : wrap64 (131 + 4 * (k : Int)) = K := by unfold wrap64; omega
      have c := KB.out.cell K (by omega)
      have f := KB.out.free K
      have hu := bt_in (orK xs k) KB.out.2.2.2.1 K
      have ho := or128 (bt (orK xs k) K) hu
      have S := Lib.hid (KB.out.set K (by omega) (bt (orK xs k) K % 128 + 128) (by unfold U8; omega))
      have E : (orK xs k).set K (bt (orK xs k) K % 128 + 128) = orK xs (k + 1) := by
        rw [← hK]
        show _ = (orK xs k).set (131 + 4 * k) (bt (orK xs k) (131 + 4 * k) % 128 + 128)
        rw [show ((131 + 4 * k : Nat) : Int) = 131 + 4 * (k : Int) by omega]
      rw [E] at S
      clear E
      generalize bt (orK xs k) K = u at *
      go_wp2
      go_roundw
      case rel => exact ⟨k + 1, by omega, by go_num, by repeat' (first | (with_reducible first | exact Below.refl _ _ | assumption | refine below_alloc ?_ _ | refine Below.drew ?_ | refine below_drewN ?_ _ | refine below_then ?_ (by assumption) | refine below_put ?_ (by assumption) (by first | (simp; done) | (simp; omega) | omega) | refine Below.setCell ?_ ?_ _) | (simp; done) | (simp; omega) | omega), S⟩
      case measure => simp [intOf]; omega
    · have hk' : k = 8 := by omega
      subst hk'
      obtain ⟨ys, hys⟩ : ∃ ys, ys = orK xs 8 := ⟨_, rfl⟩
      rw [← hys] at KB
      obtain ⟨av, has⟩ : ∃ av, av = (((ys.set 160 0).set 161 1).set 162 2).set 163 3 := ⟨_, rfl⟩
      have PL : Hid (∀ k : Nat, ∃ d : Int, 0 ≤ d ∧ d ≤ 3 ∧ lineV (setK 128 200 av 8) y k = d ∧ (d ≠ 0 → lineV av y k = d)) := Lib.hid (fun k => behind_all xs av y k U.out.2 y1 (by rw [has, hys]))
      have c0 := KB.out.cell 160 (by omega)
      have c1 := KB.out.cell 161 (by omega)
      have c2 := KB.out.cell 162 (by omega)
      have c3 := KB.out.cell 163 (by omega)
      have f0 := KB.out.free 160
      have f1 := KB.out.free 161
      have f2 := KB.out.free 162
      have f3 := KB.out.free 163
      have S := Lib.hid ((((KB.out.set 160 (by omega) 0 (by unfold U8; omega)).set 161 (by omega) 1 (by unfold U8; omega)).set 162 (by omega) 2 (by unfold U8; omega)).set 163 (by omega) 3 (by unfold U8; omega))
      rw [← has] at S
      clear has hys N0 N1 N2
      have hgw : g < wr.heap.size := KB.out.lt
      have hb6 : Below w.heap.size w ((((wr.setCell ⟨g, 160, none⟩ (.int .u8 0)).setCell ⟨g, 161, none⟩ (.int .u8 1)).setCell ⟨g, 162, none⟩ (.int .u8 2)).setCell ⟨g, 163, none⟩ (.int .u8 3)) := by repeat' (first | (with_reducible first | exact Below.refl _ _ | assumption | refine below_alloc ?_ _ | refine Below.drew ?_ | refine below_drewN ?_ _ | refine below_then ?_ (by assumption) | refine below_put ?_ (by assumption) (by first | (simp; done) | (simp; omega) | omega) | refine Below.setCell ?_ ?_ _) | (simp; done) | (simp; omega) | omega)
      have M0 := Lib.hid (src_len (k := .u8) S.out.len)
      have M1 := Lib.hid (src_at (e := 5) (off := 0) S.out.len (fun i hi => by rw [Nat.zero_add]; exact S.out.cell i hi))
      have M2 := Lib.hid (src_one av)
      go_wp2_with (first
        | (at_builtin; refine wpList_append_own _ rfl (.tmp 49) (.tmp 50) 22 rfl (wr.heap.size) 5 i0 (.int .u8 0) 1 1 Try.underlying22 HI.out.1 HI.out.2.1 HI.out.2.2.1 HI.out.2.2.2 rfl (by decide) _ _ _ rfl (own_empty' (by simp)) ⟨g, 0, none⟩ 256 cp (av.map (Value.int .u8)) rfl M0.out M1.out M2.out (by unfold maxLen; omega) (by omega) (by simp) ?_)
        | fail)
      intro v' w6 hown hgrow _
      obtain ⟨g2, cp2, rfl, hg2, hB2⟩ := Buf.of_own (xs := av) (by simpa using hown) S.out.2.2.2.1
      have hb7 : Below w.heap.size w w6 := below_grown (below_alloc hb6 _) (by have := hbr.size; simp; omega) hgrow (own_empty' (g := wr.heap.size) (by simp)) hbr.size
      have KA := Lib.hid (Buf.grown (S.out.alloc _) hgrow (own_empty' (g := wr.heap.size) (by simp)) hgw)
      have KC := Lib.hid hB2
      have hgg : g < g2 := Nat.lt_of_lt_of_le hgw hg2
      have hgw2 : w.heap.size ≤ g2 := by omega
      clear hown hgrow hB2 M0 M1 M2 HI S hb6 c0 c1 c2 c3 f0 f1 f2 f3 hbr hg2 hgw
      go_wp2
      go_loopw [52] (fun i wr => ∃ k : Nat, k ≤ 8 ∧ i = .int .i64 k ∧ Below w.heap.size w wr ∧ Hid (Buf 5 wr g cp av) ∧ Hid (Buf 5 wr g2 cp2 (setK 128 200 av k))) (fun i _ => (8 - intOf i).toNat)
      case atStart => exact ⟨0, by omega, rfl, hb7, KA, KC⟩
      case round =>
        clear hb7 KA KC
        obtain ⟨k, hk, rfl, hbr, KA, KB⟩ := hrel
        by_cases hk8 : k < 8
        · have hki : (k : Int) < 8 := by omega
          obtain ⟨K, hK⟩ : ∃ K : Nat, 128 + 4 * k = K := ⟨_, rfl⟩
          have hK8 : (K : Int) < 256 := by omega
          have W1 : wrap64 (4 * (k : Int)) = 4 * k := by unfold wrap64; omega
          have W2 : wrap64 (128 + 4 * (k : Int)) = K := by unfold wrap64; omega
          have c := KB.out.cell K (by omega)
          have f := KB.out.free K
          have S := Lib.hid (KB.out.set K (by omega) 200 (by unfold U8; omega))
          have E : (setK 128 200 av k).set K 200 = setK 128 200 av (k + 1) := by rw [← hK]; rfl
          rw [E] at S
          clear E
          have S2 := Lib.hid (KA.out.other (a := ⟨g2, K, none⟩) (v := .int .u8 200) (show g ≠ g2 by omega))
          generalize bt (setK 128 200 av k) K = u at *
          go_wp2
          go_roundw
          case rel => exact ⟨k + 1, by omega, by go_num, by repeat' (first | (with_reducible first | exact Below.refl _ _ | assumption | refine below_alloc ?_ _ | refine Below.drew ?_ | refine below_drewN ?_ _ | refine below_then ?_ (by assumption) | refine below_put ?_ (by assumption) (by first | (simp; done) | (simp; omega) | omega) | refine Below.setCell ?_ ?_ _) | (simp; done) | (simp; omega) | omega), S2, S⟩
          case measure => simp [intOf]; omega
        · have hk' : k = 8 := by omega
          subst hk'
          obtain ⟨zs, hzs⟩ : ∃ zs, zs = setK 128 200 av 8 := ⟨_, rfl⟩
          rw [← hzs] at KB
          obtain ⟨X, hX⟩ : ∃ X, X = lnC av y 16 := ⟨_, rfl⟩
          obtain ⟨Z, hZ⟩ : ∃ Z, Z = lnC zs y 16 := ⟨_, rfl⟩
          have LX : Hid (∀ w v, Vid w v av → Calls Try.prog 12 #[v, .int .i64 y] w fun e w' => e = .returned (.tuple #[.agg X, .int .i64 0]) ∧ Below w.heap.size w w') := Lib.hid (fun w v h => by rw [hX]; exact line_any av v y w h y0 y1)
          have LZ : Hid (∀ w v, Vid w v zs → Calls Try.prog 12 #[v, .int .i64 y] w fun e w' => e = .returned (.tuple #[.agg Z, .int .i64 0]) ∧ Below w.heap.size w w') := Lib.hid (fun w v h => by rw [hZ]; exact line_any zs v y w h y0 y1)
          have sX : X.size = 16 := by rw [hX, lnC_size]
          have sZ : Z.size = 16 := by rw [hZ, lnC_size]
          have oX : Hid (X.all (·.oneCell') = true) := Lib.hid (by rw [hX]; simp [lnC, Value.oneCell'])
          have oZ : Hid (Z.all (·.oneCell') = true) := Lib.hid (by rw [hZ]; simp [lnC, Value.oneCell'])
          have aX : Hid (∀ k : Nat, k < 16 → X[k]? = some (.int .u8 (lineV av y k))) := Lib.hid (fun k hk => by rw [hX]; simp [lnC, lnL, hk])
          have aZ : Hid (∀ k : Nat, k < 16 → Z[k]? = some (.int .u8 (lineV zs y k))) := Lib.hid (fun k hk => by rw [hZ]; simp [lnC, lnL, hk])
          rw [← hzs] at PL
          clear hX hZ hzs
          go_wp2_with fail
          refine (LX.out _ _ KA.out.vid).mono ?_
          rintro e w7 ⟨rfl, hb7⟩
          have KZ7 := Lib.hid (KB.out.below hb7)
          have hb7' : Below w.heap.size w w7 := by repeat' (first | (with_reducible first | exact Below.refl _ _ | assumption | refine below_alloc ?_ _ | refine Below.drew ?_ | refine below_drewN ?_ _ | refine below_then ?_ (by assumption) | refine below_put ?_ (by assumption) (by first | (simp; done) | (simp; omega) | omega) | refine Below.setCell ?_ ?_ _) | (simp; done) | (simp; omega) | omega)
          clear KA KB hb7 hbr
          go_wp2_with (first
            | (refine wpList_storeW rfl 24 (.tmp 9) (.tmp 65) rfl (w7.heap.size) X rfl rfl 24 _ (Blk.new _ _ _) (by rw [sX]; kernel_rfl) (by rw [sX]; rfl) oX.out ?_; intro w8 hp8 K8)
            | fail)
          have hs8 := hp8.size
          have KZ8 := Lib.hid ((KZ7.out.alloc _).put hp8 (by have := KZ7.out.lt; omega))
          have hb8 : Below w.heap.size w w8 := below_put (below_alloc hb7' _) hp8 hb7'.size
          clear KZ7 hb7' hp8
          refine (LZ.out _ _ KZ8.out.vid).mono ?_
          rintro e w9 ⟨rfl, hb9⟩
          have K9 := Lib.hid (K8.out.below hb9)
          have hb9' : Below w.heap.size w w9 := by repeat' (first | (with_reducible first | exact Below.refl _ _ | assumption | refine below_alloc ?_ _ | refine Below.drew ?_ | refine below_drewN ?_ _ | refine below_then ?_ (by assumption) | refine below_put ?_ (by assumption) (by first | (simp; done) | (simp; omega) | omega) | refine Below.setCell ?_ ?_ _) | (simp; done) | (simp; omega) | omega)
          clear KZ8 hb8 hb9 K8
          go_wp2_with (first
            | (refine wpList_storeW rfl 24 (.tmp 11) (.tmp 71) rfl (w9.heap.size) Z rfl rfl 24 _ (Blk.new _ _ _) (by rw [sZ]; kernel_rfl) (by rw [sZ]; rfl) oZ.out ?_; intro w10 hp10 K10)
            | fail)
          have KX10 := Lib.hid ((K9.out.alloc _).put hp10 (by have := K9.out.lt; omega))
          have hb10 : Below w.heap.size w w10 := below_put (below_alloc hb9' _) hp10 hb9'.size
          clear K9 hb9' hp10
          refine (drawn_any _).mono ?_
          rintro e w11 ⟨rfl, hb11⟩
          have KX11 := Lib.hid (KX10.out.below hb11)
          have KZ11 := Lib.hid (K10.out.below hb11)
          have hb11' : Below w.heap.size w w11 := by repeat' (first | (with_reducible first | exact Below.refl _ _ | assumption | refine below_alloc ?_ _ | refine Below.drew ?_ | refine below_drewN ?_ _ | refine below_then ?_ (by assumption) | refine below_put ?_ (by assumption) (by first | (simp; done) | (simp; omega) | omega) | refine Below.setCell ?_ ?_ _) | (simp; done) | (simp; omega) | omega)
          clear KX10 K10 hb10 hb11
          generalize w7.heap.size = px at *
          generalize w9.heap.size = pz at *
          go_wp2
          go_loopw [83] (fun i wr => ∃ k : Nat, k ≤ 16 ∧ i = .int .i64 k ∧ Below w11.heap.size w11 wr) (fun i _ => (16 - intOf i).toNat)
          case atStart => exact ⟨0, by omega, rfl, Below.refl _ _⟩
          case round =>
            obtain ⟨k, hk, rfl, hbr⟩ := hrel
            by_cases hk16 : k < 16
            · have hki : (k : Int) < 16 := by omega
              obtain ⟨d, d0, d3, e1, e2⟩ := PL.out k
              have c1 : wr.cell? ⟨pz, k, none⟩ = some (.int .u8 d) := by rw [hbr.cell (p := ⟨pz, k, none⟩) KZ11.out.lt, KZ11.out.cell, aZ.out k hk16, e1]
              have c2 : wr.cell? ⟨px, k, none⟩ = some (.int .u8 (lineV av y k)) := by rw [hbr.cell (p := ⟨px, k, none⟩) KX11.out.lt, KX11.out.cell, aX.out k hk16]
              have hd3 : ¬ 3 < d := by omega
              clear e1
              by_cases hd : d = 0
              · subst hd
                generalize lineV av y k = xk at *
                go_wp2_with fail
                go_quiet (fail)
                go_wp2
                go_roundw
                case rel => exact ⟨k + 1, by omega, by go_num, by repeat' (first | (with_reducible first | exact Below.refl _ _ | assumption | refine below_alloc ?_ _ | refine Below.drew ?_ | refine below_drewN ?_ _ | refine below_then ?_ (by assumption) | refine below_put ?_ (by assumption) (by first | (simp; done) | (simp; omega) | omega) | refine Below.setCell ?_ ?_ _) | (simp; done) | (simp; omega) | omega)⟩
                case measure => simp [intOf]; omega
              · rw [e2 hd] at c2
                have hd' : (d != 0) = true := by simpa using hd
                clear e2 hd
                go_wp2_with fail
                go_quiet (fail)
                go_wp2
                go_roundw
                case rel => exact ⟨k + 1, by omega, by go_num, by repeat' (first | (with_reducible first | exact Below.refl _ _ | assumption | refine below_alloc ?_ _ | refine Below.drew ?_ | refine below_drewN ?_ _ | refine below_then ?_ (by assumption) | refine below_put ?_ (by assumption) (by first | (simp; done) | (simp; omega) | omega) | refine Below.setCell ?_ ?_ _) | (simp; done) | (simp; omega) | omega)⟩
                case measure => simp [intOf]; omega
            · have hk' : k = 16 := by omega
              subst hk'
              go_wp2
              go_ret
              exact ⟨rfl, by repeat' (first | (with_reducible first | exact Below.refl _ _ | assumption | refine below_alloc ?_ _ | refine Below.drew ?_ | refine below_drewN ?_ _ | refine below_then ?_ (by assumption) | refine below_put ?_ (by assumption) (by first | (simp; done) | (simp; omega) | omega) | refine Below.setCell ?_ ?_ _) | (simp; done) | (simp; omega) | omega)⟩
theorem walk (v : Value) (xs : List Int) (y : Int) (w : World) (hx : SliceAt w .u8 v xs) (hy : I64 y) :
    Calls Try.prog 3 #[v, .int .i64 y] w fun e w' => e = .returned (.bool true) ∧ Below w.heap.size w w' := by
  by_cases hl : xs.length = 256
  · by_cases h0 : y < 0
    · exact bad_lo v xs y w hx ⟨hl, h0⟩
    · by_cases h1 : 8 ≤ y
      · exact bad_hi v xs y w hx ⟨hl, h0, h1⟩
      · exact good v xs y w (vid_of hx hl) (by omega) (by omega)
  · exact bad_len v xs y w hx (by omega)
end Go.Proofs.Ytcgigpglpbhakaa.pictureBehind
