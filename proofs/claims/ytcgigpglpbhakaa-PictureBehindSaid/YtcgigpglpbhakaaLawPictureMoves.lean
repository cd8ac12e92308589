/- PictureMoves: for every memory, line and byte the law answers true. Conditions: none. -/
import Derived.Test.YtcgigpglpbhakaaPicFact
set_option linter.unusedVariables false
set_option linter.unusedSimpArgs false
namespace Go.Mq
theorem line_plain (xs : List Int) (y x : Int) (hy : y ≤ 7) (h : ∀ k : Nat, k < 8 → bt xs (128 + 4 * k) = 200) : lineV xs y x = bt xs (160 + gndV xs x y) := by
  unfold lineV
  rw [onF_none xs y hy h 8 (by omega)]
  rfl
theorem moved (ys zs : List Int) (y n k : Int) (hu : ∀ x ∈ ys, U8 x) (hn : 0 ≤ n ∧ n ≤ 255) (hk : 0 ≤ k ∧ k ≤ 15) (h : ∀ i : Int, 0 ≤ i → bt zs i = if i = 168 then (bt ys 168 + n) % 256 else bt ys i) :
    gndV zs k y = gndV ys ((k + n) % 16) y := by
  have hX : gndX zs k = gndX ys ((k + n) % 16) := by
    unfold gndX
    rw [h 168 (by omega), if_pos rfl]
    have := bt_in ys hu 168
    omega
  have hY : gndY zs y = gndY ys y := by
    unfold gndY
    rw [h 169 (by omega), if_neg (by omega)]
  have hT : gndT zs k y = gndT ys ((k + n) % 16) y := by
    unfold gndT
    rw [hX, hY]
    have a1 : 0 ≤ gndX ys ((k + n) % 16) ∧ gndX ys ((k + n) % 16) ≤ 15 := by unfold gndX; omega
    have a2 : 0 ≤ gndY ys y ∧ gndY ys y ≤ 15 := by unfold gndY; omega
    rw [h _ (by omega), if_neg (by omega)]
  have b : 0 ≤ gndT ys ((k + n) % 16) y ∧ gndT ys ((k + n) % 16) y ≤ 15 := by unfold gndT; omega
  unfold gndV dotV
  rw [hX, hY, hT, h _ (by omega), if_neg (by omega)]
open Go Go.RowKit
theorem Buf.grown {t e : TypeId} {w w' : World} {g cap base size n : Nat} {xs : List Int} {v : Value} {vs : List Value} (h : Buf t w g cap xs) (hg : w.grownBy w' v.ownBlock) (ho : w.ownsRow base e size v n vs) (hb : g < base) : Buf t w' g cap xs := by
  obtain ⟨h1, h2, h3, h4, cur, h5, h6, h7⟩ := h
  exact ⟨h1, h2, h3, h4, cur, h5.grown hg ho hb, h6, h7⟩
theorem Buf.alloc {t : TypeId} {w : World} {g cap : Nat} {xs : List Int} (h : Buf t w g cap xs) (o : Obj) : Buf t (w.alloc o) g cap xs := by
  obtain ⟨h1, h2, h3, h4, cur, h5, h6, h7⟩ := h
  exact ⟨h1, h2, h3, h4, cur, h5.alloc o, h6, h7⟩
theorem Buf.put {t : TypeId} {w w' : World} {g q cap : Nat} {xs : List Int} (h : Buf t w g cap xs) (hp : Put q w w') (hne : g ≠ q) : Buf t w' g cap xs := by
  obtain ⟨h1, h2, h3, h4, cur, h5, h6, h7⟩ := h
  exact ⟨h1, h2, h3, h4, cur, h5.put hp hne, h6, h7⟩
theorem Buf.len {t : TypeId} {w : World} {g cap : Nat} {xs : List Int} (h : Buf t w g cap xs) : xs.length = 256 := h.2.2.1
theorem moved_all (ys zs : List Int) (y q n : Int) (k : Nat) (hu : ∀ x ∈ ys, U8 x) (hy : y ≤ 7) (hn : U8 n) (hk : k < 16) (h0 : ∀ j : Nat, j < 8 → bt ys (128 + 4 * j) = 200) (h : ∀ i : Int, 0 ≤ i → bt zs i = if i = 168 then (bt ys 168 + n) % 256 else bt ys i) :
    lineV zs y k = lineV ys y ((k + n) % 16) ∧ ∃ d : Nat, d < 4 ∧ lineV ys y k = bt ys (160 + d) := by
  have hz0 : ∀ j : Nat, j < 8 → bt zs (128 + 4 * j) = 200 := fun j hj => by rw [h _ (by omega), if_neg (by omega)]; exact h0 j hj
  have d1 : 0 ≤ gndV ys ((k + n) % 16) y ∧ gndV ys ((k + n) % 16) y ≤ 3 := dotV_in _ _ _ _
  have d2 : 0 ≤ gndV ys k y ∧ gndV ys k y ≤ 3 := dotV_in _ _ _ _
  refine ⟨?_, (gndV ys k y).toNat, by omega, ?_⟩
  · rw [line_plain zs y k hy hz0, line_plain ys y _ hy h0, moved ys zs y n k hu hn ⟨by omega, by omega⟩ h, h _ (by omega), if_neg (by omega)]
  · rw [line_plain ys y k hy h0, show ((gndV ys k y).toNat : Int) = gndV ys k y by omega]
theorem four_at {t : TypeId} {w : World} {g cap : Nat} {xs : List Int} (h : Buf t w g cap xs) : SliceAt w .u8 (.slice (some ⟨g, 160, none⟩) 4 (cap - 160)) [bt xs 160, bt xs 161, bt xs 162, bt xs 163] := by
  have h' := h
  obtain ⟨h1, h2, h3, h4, _⟩ := h
  refine ⟨some ⟨g, 160, none⟩, cap - 160, rfl, by simp; omega, by omega, fun x hx => ?_, fun _ => ⟨g, 160, rfl, h'.lt, fun i hi => ?_⟩⟩
  · simp only [List.mem_cons, List.not_mem_nil, or_false] at hx
    have := bt_in xs h4
    rcases hx with rfl | rfl | rfl | rfl <;> exact u8_wf _ (this _)
  · have hi' : i < 4 := by simpa using hi
    rw [h'.cell (160 + i) (by omega)]
    match i, hi' with
    | 0, _ => rfl
    | 1, _ => rfl
    | 2, _ => rfl
    | 3, _ => rfl
end Go.Mq
namespace Go.Proofs.Ytcgigpglpbhakaa.pictureMoves
open Go.RowKit Go.Mq
set_option maxHeartbeats 400000
set_option maxRecDepth 100000
theorem bad_len (v : Value) (xs : List Int) (y n : Int) (w : World) (h : SliceAt w .u8 v xs) (hq : ¬ ((xs.length : Int) = 256)) :
    Calls Try.prog 4 #[v, .int .i64 y, .int .u8 n] w fun e w' => e = .returned (.bool true) ∧ Below w.heap.size w w' := by
  obtain ⟨a, cap, rfl, h1, h2, hwf, h3⟩ := h
  clear h1 h2 hwf h3
  skip
  go_enter Try.func4, Try.ntmps4
  go_wp2_with fail
  refine (drawn_any _).mono ?_
  rintro e w1 ⟨rfl, hb1⟩
  go_wp2
  go_ret
  exact ⟨rfl, by repeat' (first | (with_reducible first | exact Below.refl _ _ | assumption | refine below_alloc ?_ _ | refine Below.drew ?_ | refine below_drewN ?_ _ | refine below_then ?_ (by assumption) | refine below_put ?_ (by assumption) (by first | (simp; done) | (simp; omega) | omega) | refine Below.setCell ?_ ?_ _) | (simp; done) | (simp; omega) | omega)⟩
theorem bad_lo (v : Value) (xs : List Int) (y n : Int) (w : World) (h : SliceAt w .u8 v xs) (hq : xs.length = 256 ∧ y < 0) :
    Calls Try.prog 4 #[v, .int .i64 y, .int .u8 n] w fun e w' => e = .returned (.bool true) ∧ Below w.heap.size w w' := by
  obtain ⟨a, cap, rfl, h1, h2, hwf, h3⟩ := h
  clear h1 h2 hwf h3
  (rw [hq.1]; replace hq := hq.2)
  go_enter Try.func4, Try.ntmps4
  go_wp2_with fail
  refine (drawn_any _).mono ?_
  rintro e w1 ⟨rfl, hb1⟩
  go_wp2
  go_ret
  exact ⟨rfl, by repeat' (first | (with_reducible first | exact Below.refl _ _ | assumption | refine below_alloc ?_ _ | refine Below.drew ?_ | refine below_drewN ?_ _ | refine below_then ?_ (by assumption) | refine below_put ?_ (by assumption) (by first | (simp; done) | (simp; omega) | omega) | refine Below.setCell ?_ ?_ _) | (simp; done) | (simp; omega) | omega)⟩
theorem bad_hi (v : Value) (xs : List Int) (y n : Int) (w : World) (h : SliceAt w .u8 v xs) (hq : xs.length = 256 ∧ ¬ y < 0 ∧ 8 ≤ y) :
    Calls Try.prog 4 #[v, .int .i64 y, .int .u8 n] w fun e w' => e = .returned (.bool true) ∧ Below w.heap.size w w' := by
  obtain ⟨a, cap, rfl, h1, h2, hwf, h3⟩ := h
  clear h1 h2 hwf h3
  (rw [hq.1]; replace hq := hq.2)
  go_enter Try.func4, Try.ntmps4
  go_wp2_with fail
  refine (drawn_any _).mono ?_
  rintro e w1 ⟨rfl, hb1⟩
  go_wp2
  go_ret
  exact ⟨rfl, by repeat' (first | (with_reducible first | exact Below.refl _ _ | assumption | refine below_alloc ?_ _ | refine Below.drew ?_ | refine below_drewN ?_ _ | refine below_then ?_ (by assumption) | refine below_put ?_ (by assumption) (by first | (simp; done) | (simp; omega) | omega) | refine Below.setCell ?_ ?_ _) | (simp; done) | (simp; omega) | omega)⟩
theorem src_len {k : IntKind} {xs : List Int} (h : xs.length = 256) : (xs.map (Value.int k)).length = 256 * 1 := by rw [List.length_map, h]
theorem src_one (xs : List Int) : ∀ u ∈ xs.map (Value.int .u8), u.oneCell' = true := by
  intro u hu
  obtain ⟨q, _, rfl⟩ := List.mem_map.1 hu
  rfl
theorem src_at {w : World} {b off : Nat} {e : TypeId} {xs : List Int} (h : xs.length = 256) (hc : ∀ i : Nat, i < 256 → w.cell? ⟨b, off + i, none⟩ = some (.int .u8 (bt xs i))) :
    ∀ j u, (xs.map (Value.int .u8))[j]? = some u → (w.alloc (.cells #[] e)).cell? ((⟨b, off, none⟩ : Addr).add j) = some u := by
  intro j u hj
  have hj' : j < 256 := by
    have := (List.getElem?_eq_some_iff.1 hj).1
    rw [List.length_map, h] at this
    exact this
  have q := hc j hj'
  rw [List.getElem?_map, List.getElem?_eq_getElem (by omega)] at hj
  simp only [Option.map_some, Option.some.injEq] at hj
  subst hj
  have e1 : (⟨b, off, none⟩ : Addr).add j = ⟨b, off + j, none⟩ := by simp [Addr.add]
  rw [e1, World.cell?_alloc_some _ _ _ (by rw [q]; rfl), q]
  simp [bt, List.getElem?_eq_getElem (show j < xs.length by omega)]
theorem vid_of {w : World} {v : Value} {xs : List Int} (h : SliceAt w .u8 v xs) (hl : xs.length = 256) : Vid w v xs := by
  refine ⟨h, hl, fun x hx => ?_⟩
  obtain ⟨_, _, _, _, _, hwf, _⟩ := h
  have := hwf x hx
  simp only [Lit.wf, Bool.and_eq_true, decide_eq_true_eq] at this
  exact this
theorem own_empty {w : World} {e : TypeId} : (w.alloc (.cells #[] e)).ownsRow w.heap.size e 1 (.slice (some ⟨w.heap.size, 0, none⟩) 0 0) 0 [] :=
  ⟨rfl, Or.inr ⟨w.heap.size, 0, #[], rfl, Nat.le_refl _, Blk.new _ _ _, Nat.le_refl _, Nat.zero_le _, rfl, rfl⟩⟩
/-- Two memories: the first one's sprites lie nowhere, the second one is it, moved. -/
theorem good (v : Value) (xs : List Int) (y n : Int) (w : World) (h : Vid w v xs) (y0 : 0 ≤ y) (y1 : y ≤ 7) (hn : U8 n) :
    Calls Try.prog 4 #[v, .int .i64 y, .int .u8 n] w fun e w' => e = .returned (.bool true) ∧ Below w.heap.size w w' := by
  have hu := h.2.2
  have hlen := h.2.1
  obtain ⟨b, off, cap, rfl, hc1, hc2, hb, hc⟩ := Vid.open' h
  have H := Lib.hid (And.intro hb hc)
  have U := Lib.hid (And.intro hu hlen)
  have N0 := Lib.hid (src_len (k := .u8) hlen)
  have N1 := Lib.hid (src_at (e := 5) hlen hc)
  have N2 := Lib.hid (src_one xs)
  clear h hb hc hc1 hc2 hu hlen
  have y2 : ¬ y < 0 := by omega
  have y3 : ¬ 8 ≤ y := by omega
  obtain ⟨i0, hi, hz0, hz1, hz2⟩ := info_parts infoB
  have HI := Lib.hid (And.intro hi (And.intro hz0 (And.intro hz1 hz2)))
  clear hi hz0 hz1 hz2
  go_enter Try.func4, Try.ntmps4
  go_wp2_with (first
    | (at_builtin; refine wpList_append_own _ rfl (.tmp 27) (.tmp 28) 22 rfl (w.heap.size) 5 i0 (.int .u8 0) 1 1 Try.underlying22 HI.out.1 HI.out.2.1 HI.out.2.2.1 HI.out.2.2.2 rfl (by decide) _ _ _ rfl own_empty ⟨b, off, none⟩ 256 cap (xs.map (Value.int .u8)) rfl N0.out N1.out N2.out (by unfold maxLen; omega) (by omega) (by simp) ?_)
    | fail)
  intro v' w5 hown hgrow _
  obtain ⟨g, cp, rfl, hg, hB⟩ := Buf.of_own (xs := xs) (by simpa using hown) U.out.1
  have hb5 : Below w.heap.size w w5 := below_grown (below_alloc (Below.refl _ _) _) (by simp) hgrow own_empty (by simp)
  have KB := Lib.hid hB
  clear hown hgrow hB
  go_wp2
  go_loopw [30] (fun i wr => ∃ k : Nat, k ≤ 8 ∧ i = .int .i64 k ∧ Below w.heap.size w wr ∧ Hid (Buf 5 wr g cp (setK 128 200 xs k))) (fun i _ => (8 - intOf i).toNat)
  case atStart => exact ⟨0, by omega, rfl, hb5, KB⟩
  case round =>
    clear hb5 KB
    obtain ⟨k, hk, rfl, hbr, KB⟩ := hrel
    by_cases hk8 : k < 8
    · have hki : (k : Int) < 8 := by omega
      obtain ⟨K, hK⟩ : ∃ K : Nat, 128 + 4 * k = K := ⟨_, rfl⟩
      have hK8 : (K : Int) < 256 := by omega
      have W1 : wrap64 (4 * (k : Int)) = 4 * k := by unfold wrap64; omega
      have W2 : wrap64 (128 + 4 * (k : Int)) = K := by unfold wrap64; omega
      have c := KB.out.cell K (by omega)
      have f := KB.out.free K
      have S := Lib.hid (KB.out.set K (by omega) 200 (by unfold U8; omega))
      have E : (setK 128 200 xs k).set K 200 = setK 128 200 xs (k + 1) := by rw [← hK]; rfl
      rw [E] at S
      clear E
      generalize bt (setK 128 200 xs k) K = u at *
      go_wp2
      go_roundw
      case rel => exact ⟨k + 1, by omega, by go_num, by repeat' (first | (with_reducible first | exact Below.refl _ _ | assumption | refine below_alloc ?_ _ | refine Below.drew ?_ | refine below_drewN ?_ _ | refine below_then ?_ (by assumption) | refine below_put ?_ (by assumption) (by first | (simp; done) | (simp; omega) | omega) | refine Below.setCell ?_ ?_ _) | (simp; done) | (simp; omega) | omega), S⟩
      case measure => simp [intOf]; omega
    · have hk' : k = 8 := by omega
      subst hk'
      have hY : Hid (∀ j : Nat, j < 8 → bt (setK 128 200 xs 8) (128 + 4 * j) = 200) := Lib.hid (fun j hj => by rw [setK_at 128 200 xs U.out.2 (by omega) 8 (by omega) _ (by omega), if_pos (by omega)])
      generalize setK 128 200 xs 8 = ys at *
      have M0 := Lib.hid (src_len (k := .u8) KB.out.len)
      have M1 := Lib.hid (src_at (e := 5) (off := 0) KB.out.len (fun i hi => by rw [Nat.zero_add]; exact KB.out.cell i hi))
      have M2 := Lib.hid (src_one ys)
      have hgw : g < wr.heap.size := KB.out.lt
      clear N0 N1 N2
      go_wp2_with (first
        | (at_builtin; refine wpList_append_own _ rfl (.tmp 39) (.tmp 40) 22 rfl (wr.heap.size) 5 i0 (.int .u8 0) 1 1 Try.underlying22 HI.out.1 HI.out.2.1 HI.out.2.2.1 HI.out.2.2.2 rfl (by decide) _ _ _ rfl own_empty ⟨g, 0, none⟩ 256 cp (ys.map (Value.int .u8)) rfl M0.out M1.out M2.out (by unfold maxLen; omega) (by omega) (by simp) ?_)
        | fail)
      intro v' w6 hown hgrow _
      obtain ⟨g2, cp2, rfl, hg2, hB2⟩ := Buf.of_own (xs := ys) (by simpa using hown) KB.out.2.2.2.1
      have hb6 : Below w.heap.size w w6 := below_grown (below_alloc hbr _) (by have := hbr.size; simp; omega) hgrow own_empty (by have := hbr.size; omega)
      have KA := Lib.hid (Buf.grown (KB.out.alloc _) hgrow own_empty hgw)
      have KC := Lib.hid hB2
      clear hown hgrow hB2 KB M0 M1 M2 HI
      have c8 := KC.out.cell 168 (by omega)
      have f8 := KC.out.free 168
      have z8 := bt_in ys KC.out.2.2.2.1 168
      have hz := KC.out.set 168 (by omega) ((bt ys 168 + n) % 256) (by unfold U8; omega)
      have HZ : Hid (∀ i : Int, 0 ≤ i → bt (ys.set 168 ((bt ys 168 + n) % 256)) i = if i = 168 then (bt ys 168 + n) % 256 else bt ys i) := Lib.hid (fun i hi => by rw [bt_set _ _ _ (by rw [KC.out.len]; omega) _ hi]; rfl)
      have KZ := Lib.hid hz
      clear hz
      generalize ys.set 168 ((bt ys 168 + n) % 256) = zs at *
      have e8 : ((168 : Nat) : Int) = 168 := rfl
      rw [e8] at c8
      have HZ' := HZ.out
      obtain ⟨q8, hq8⟩ : ∃ q, q = bt ys 168 := ⟨_, rfl⟩
      rw [← hq8] at c8 z8 KZ
      have HQ := Lib.hid hq8
      clear hq8 HZ'
      have hw8 : IntKind.u8.wrap (q8 + n) = (q8 + n) % 256 := wrap8 _
      have hgg : g < g2 := by omega
      obtain ⟨X, hX⟩ : ∃ X, X = lnC ys y 16 := ⟨_, rfl⟩
      obtain ⟨Z, hZ⟩ : ∃ Z, Z = lnC zs y 16 := ⟨_, rfl⟩
      have LX : Hid (∀ w v, Vid w v ys → Calls Try.prog 12 #[v, .int .i64 y] w fun e w' => e = .returned (.tuple #[.agg X, .int .i64 0]) ∧ Below w.heap.size w w') := Lib.hid (fun w v h => by rw [hX]; exact line_any ys v y w h y0 y1)
      have LZ : Hid (∀ w v, Vid w v zs → Calls Try.prog 12 #[v, .int .i64 y] w fun e w' => e = .returned (.tuple #[.agg Z, .int .i64 0]) ∧ Below w.heap.size w w') := Lib.hid (fun w v h => by rw [hZ]; exact line_any zs v y w h y0 y1)
      have sX : X.size = 16 := by rw [hX, lnC_size]
      have sZ : Z.size = 16 := by rw [hZ, lnC_size]
      have oX : Hid (X.all (·.oneCell') = true) := Lib.hid (by rw [hX]; simp [lnC, Value.oneCell'])
      have oZ : Hid (Z.all (·.oneCell') = true) := Lib.hid (by rw [hZ]; simp [lnC, Value.oneCell'])
      have aX : Hid (∀ k : Nat, k < 16 → X[k]? = some (.int .u8 (lineV ys y k))) := Lib.hid (fun k hk => by rw [hX]; simp [lnC, lnL, hk])
      have aZ : Hid (∀ k : Nat, k < 16 → Z[k]? = some (.int .u8 (lineV zs y k))) := Lib.hid (fun k hk => by rw [hZ]; simp [lnC, lnL, hk])
      have PL : Hid (∀ k : Nat, k < 16 → lineV zs y k = lineV ys y ((k + n) % 16) ∧ ∃ d : Nat, d < 4 ∧ lineV ys y k = bt ys (160 + d)) := Lib.hid (fun k hk => moved_all ys zs y 0 n k KA.out.2.2.2.1 y1 hn hk hY.out HZ.out)
      clear hX hZ z8 hg2
      go_wp2_with fail
      refine (LX.out _ _ (KA.out.other (a := ⟨g2, 168, none⟩) (v := .int .u8 ((q8 + n) % 256)) (show g ≠ g2 by omega)).vid).mono ?_
      rintro e w7 ⟨rfl, hb7⟩
      have KA7 := Lib.hid ((KA.out.other (a := ⟨g2, 168, none⟩) (v := .int .u8 ((q8 + n) % 256)) (show g ≠ g2 by omega)).below hb7)
      have KZ7 := Lib.hid (KZ.out.below hb7)
      have hb7' : Below w.heap.size w w7 := by repeat' (first | (with_reducible first | exact Below.refl _ _ | assumption | refine below_alloc ?_ _ | refine Below.drew ?_ | refine below_drewN ?_ _ | refine below_then ?_ (by assumption) | refine below_put ?_ (by assumption) (by first | (simp; done) | (simp; omega) | omega) | refine Below.setCell ?_ ?_ _) | (simp; done) | (simp; omega) | omega)
      clear KA KZ KC hb6 hb7 hbr c8 f8 hw8
      go_wp2_with (first
        | (refine wpList_storeW rfl 24 (.tmp 10) (.tmp 52) rfl (w7.heap.size) X rfl rfl 24 _ (Blk.new _ _ _) (by rw [sX]; kernel_rfl) (by rw [sX]; rfl) oX.out ?_; intro w8 hp8 K8)
        | fail)
      have hs8 := hp8.size
      have KA8 := Lib.hid ((KA7.out.alloc _).put hp8 (by have := KA7.out.lt; omega))
      have KZ8 := Lib.hid ((KZ7.out.alloc _).put hp8 (by have := KZ7.out.lt; omega))
      have hb8 : Below w.heap.size w w8 := below_put (below_alloc hb7' _) hp8 hb7'.size
      clear KA7 KZ7 hb7' hp8
      refine (LZ.out _ _ KZ8.out.vid).mono ?_
      rintro e w9 ⟨rfl, hb9⟩
      have KA9 := Lib.hid (KA8.out.below hb9)
      have K9 := Lib.hid (K8.out.below hb9)
      have hb9' : Below w.heap.size w w9 := by repeat' (first | (with_reducible first | exact Below.refl _ _ | assumption | refine below_alloc ?_ _ | refine Below.drew ?_ | refine below_drewN ?_ _ | refine below_then ?_ (by assumption) | refine below_put ?_ (by assumption) (by first | (simp; done) | (simp; omega) | omega) | refine Below.setCell ?_ ?_ _) | (simp; done) | (simp; omega) | omega)
      clear KA8 KZ8 hb8 hb9 K8
      go_wp2_with (first
        | (refine wpList_storeW rfl 24 (.tmp 12) (.tmp 58) rfl (w9.heap.size) Z rfl rfl 24 _ (Blk.new _ _ _) (by rw [sZ]; kernel_rfl) (by rw [sZ]; rfl) oZ.out ?_; intro w10 hp10 K10)
        | fail)
      have KA10 := Lib.hid ((KA9.out.alloc _).put hp10 (by have := KA9.out.lt; omega))
      have KX10 := Lib.hid ((K9.out.alloc _).put hp10 (by have := K9.out.lt; omega))
      have hb10 : Below w.heap.size w w10 := below_put (below_alloc hb9' _) hp10 hb9'.size
      clear KA9 K9 hb9' hp10
      refine (drawn_any _).mono ?_
      rintro e w11 ⟨rfl, hb11⟩
      have KA11 := Lib.hid (KA10.out.below hb11)
      have KX11 := Lib.hid (KX10.out.below hb11)
      have KZ11 := Lib.hid (K10.out.below hb11)
      have hb11' : Below w.heap.size w w11 := by repeat' (first | (with_reducible first | exact Below.refl _ _ | assumption | refine below_alloc ?_ _ | refine Below.drew ?_ | refine below_drewN ?_ _ | refine below_then ?_ (by assumption) | refine below_put ?_ (by assumption) (by first | (simp; done) | (simp; omega) | omega) | refine Below.setCell ?_ ?_ _) | (simp; done) | (simp; omega) | omega)
      clear KA10 KX10 K10 hb10 hb11
      generalize w7.heap.size = px at *
      generalize w9.heap.size = pz at *
      go_wp2
      go_loopw [70] (fun i wr => ∃ k : Nat, k ≤ 16 ∧ i = .int .i64 k ∧ Below w11.heap.size w11 wr) (fun i _ => (16 - intOf i).toNat)
      case atStart => exact ⟨0, by omega, rfl, Below.refl _ _⟩
      case round =>
        obtain ⟨k, hk, rfl, hbr⟩ := hrel
        by_cases hk16 : k < 16
        · have hki : (k : Int) < 16 := by omega
          obtain ⟨hz1, d, hd, hx1⟩ := PL.out k hk16
          unfold U8 at hn
          obtain ⟨m, hm⟩ : ∃ m : Nat, ((k : Int) + n) % 16 = m := ⟨(((k : Int) + n) % 16).toNat, by omega⟩
          have hm16 : m < 16 := by omega
          have hmi : (m : Int) < 16 := Int.ofNat_lt.2 hm16
          rw [hm] at hz1
          have W1 : wrap64 n = n := by unfold wrap64; omega
          have W2 : wrap64 ((k : Int) + n) = k + n := by unfold wrap64; omega
          have W3 : Int.tmod ((k : Int) + n) 16 = m := by rw [Int.tmod_eq_emod_of_nonneg (by omega)]; exact hm
          have J1 : IntKind.i64.wrap n = n := by rw [IntKind.wrap_i64]; omega
          have J2 : IntKind.i64.wrap ((k : Int) + n) = k + n := by rw [IntKind.wrap_i64]; omega
          have W4 : wrap64 (m : Int) = m := by unfold wrap64; omega
          have DZ : Hid (w11.cell? ⟨pz, k, none⟩ = some (.int .u8 (lineV ys y m)) ∧ pz < w11.heap.size) := Lib.hid ⟨by rw [KZ11.out.cell, aZ.out k hk16, hz1], KZ11.out.lt⟩
          have DX : Hid (w11.cell? ⟨px, m, none⟩ = some (.int .u8 (lineV ys y m)) ∧ px < w11.heap.size) := Lib.hid ⟨by rw [KX11.out.cell, aX.out m hm16], KX11.out.lt⟩
          have DY : Hid (w11.cell? ⟨px, k, none⟩ = some (.int .u8 (bt ys (160 + d))) ∧ px < w11.heap.size) := Lib.hid ⟨by rw [KX11.out.cell, aX.out k hk16, hx1], KX11.out.lt⟩
          have CT : Hid (∀ w', Below w11.heap.size w11 w' → Calls Try.prog 13 #[.slice (some ⟨g, 160, none⟩) 4 (cp - 160), .int .u8 (bt ys (160 + d))] w' fun e w'' => e = .returned (.bool true) ∧ Below w'.heap.size w' w'') :=
            Lib.hid (fun w' h => contains_found _ [bt ys 160, bt ys 161, bt ys 162, bt ys 163] _ w' (four_at (KA11.out.below h)) (by
              rcases (by omega : d = 0 ∨ d = 1 ∨ d = 2 ∨ d = 3) with rfl | rfl | rfl | rfl
              · exact ⟨0, by simp, rfl⟩
              · exact ⟨1, by simp, rfl⟩
              · exact ⟨2, by simp, rfl⟩
              · exact ⟨3, by simp, rfl⟩))
          generalize lineV ys y m = va at *
          generalize bt ys (160 + d) = vb at *
          have hcp : 256 ≤ cp := KA11.out.1
          have hcp1 : (164 : Int) ≤ (cp : Int) := Int.ofNat_le.2 (Nat.le_trans (by decide) hcp)
          have hcp2 : ¬ cp = 160 := Nat.ne_of_gt (Nat.lt_of_lt_of_le (by decide) hcp)
          clear hz1 hx1 hm hd
          go_wp2_with fail
          refine wp_region_held_drew (S := fun X => Below w11.heap.size w11 X) (by kernel_rfl) hbr.drew (fun hS => ?_)
          refine wpAnyH_take (i := 0) (v := ?v0) rfl (by kernel_rfl) (by kernel_rfl) (by kernel_rfl) (fun _ _ _ h => h) (Or.inl ⟨by rfl, ?y0⟩) hS ?_
          case y0 => (intro X hSw; go_simp; try with_reducible rfl)
          try simp only [List.getElem_toArray, List.getElem_cons_succ, List.getElem_cons_zero, Act.put, List.setIfInBounds_toArray, List.set_cons_zero, List.set_cons_succ]
          try simp only [J1, J2, W3]
          refine wpAnyH_take (i := 1) (v := ?v1) rfl (by kernel_rfl) (by kernel_rfl) (by kernel_rfl) (fun _ _ _ h => h) (Or.inl ⟨by rfl, ?y1⟩) hS ?_
          case y1 => (intro X hSw; go_simp; try with_reducible rfl)
          try simp only [List.getElem_toArray, List.getElem_cons_succ, List.getElem_cons_zero, Act.put, List.setIfInBounds_toArray, List.set_cons_zero, List.set_cons_succ]
          try simp only [J1, J2, W3]
          refine wpAnyH_take (i := 2) (v := ?v2) rfl (by kernel_rfl) (by kernel_rfl) (by kernel_rfl) (fun _ _ _ h => h) (Or.inl ⟨by rfl, ?y2⟩) hS ?_
          case y2 => (intro X hSw; have q : X.cell? ⟨pz, k, none⟩ = some (.int .u8 va) := (hSw.cell (p := ⟨pz, k, none⟩) DZ.out.2).trans DZ.out.1; go_simp; try with_reducible rfl)
          try simp only [List.getElem_toArray, List.getElem_cons_succ, List.getElem_cons_zero, Act.put, List.setIfInBounds_toArray, List.set_cons_zero, List.set_cons_succ]
          try simp only [J1, J2, W3]
          refine wpAnyH_take (i := 3) (v := ?v3) rfl (by kernel_rfl) (by kernel_rfl) (by kernel_rfl) (fun _ _ _ h => h) (Or.inl ⟨by rfl, ?y3⟩) hS ?_
          case y3 => (intro X hSw; go_simp; try with_reducible rfl)
          try simp only [List.getElem_toArray, List.getElem_cons_succ, List.getElem_cons_zero, Act.put, List.setIfInBounds_toArray, List.set_cons_zero, List.set_cons_succ]
          try simp only [J1, J2, W3]
          refine wpAnyH_take (i := 4) (v := ?v4) rfl (by kernel_rfl) (by kernel_rfl) (by kernel_rfl) (fun _ _ _ h => h) (Or.inl ⟨by rfl, ?y4⟩) hS ?_
          case y4 => (intro X hSw; go_simp; try with_reducible rfl)
          try simp only [List.getElem_toArray, List.getElem_cons_succ, List.getElem_cons_zero, Act.put, List.setIfInBounds_toArray, List.set_cons_zero, List.set_cons_succ]
          try simp only [J1, J2, W3]
          refine wpAnyH_take (i := 5) (v := ?v5) rfl (by kernel_rfl) (by kernel_rfl) (by kernel_rfl) (fun _ _ _ h => h) (Or.inl ⟨by rfl, ?y5⟩) hS ?_
          case y5 => (intro X hSw; go_simp; try with_reducible rfl)
          try simp only [List.getElem_toArray, List.getElem_cons_succ, List.getElem_cons_zero, Act.put, List.setIfInBounds_toArray, List.set_cons_zero, List.set_cons_succ]
          try simp only [J1, J2, W3]
          refine wpAnyH_take (i := 6) (v := ?v6) rfl (by kernel_rfl) (by kernel_rfl) (by kernel_rfl) (fun _ _ _ h => h) (Or.inl ⟨by rfl, ?y6⟩) hS ?_
          case y6 => (intro X hSw; go_simp; try with_reducible rfl)
          try simp only [List.getElem_toArray, List.getElem_cons_succ, List.getElem_cons_zero, Act.put, List.setIfInBounds_toArray, List.set_cons_zero, List.set_cons_succ]
          try simp only [J1, J2, W3]
          refine wpAnyH_take (i := 7) (v := ?v7) rfl (by kernel_rfl) (by kernel_rfl) (by kernel_rfl) (fun _ _ _ h => h) (Or.inl ⟨by rfl, ?y7⟩) hS ?_
          case y7 => (intro X hSw; go_simp; try with_reducible rfl)
          try simp only [List.getElem_toArray, List.getElem_cons_succ, List.getElem_cons_zero, Act.put, List.setIfInBounds_toArray, List.set_cons_zero, List.set_cons_succ]
          try simp only [J1, J2, W3]
          refine wpAnyH_take (i := 8) (v := ?v8) rfl (by kernel_rfl) (by kernel_rfl) (by kernel_rfl) (fun _ _ _ h => h) (Or.inl ⟨by rfl, ?y8⟩) hS ?_
          case y8 => (intro X hSw; go_simp; try with_reducible rfl)
          try simp only [List.getElem_toArray, List.getElem_cons_succ, List.getElem_cons_zero, Act.put, List.setIfInBounds_toArray, List.set_cons_zero, List.set_cons_succ]
          try simp only [J1, J2, W3]
          refine wpAnyH_take (i := 9) (v := ?v9) rfl (by kernel_rfl) (by kernel_rfl) (by kernel_rfl) (fun _ _ _ h => h) (Or.inl ⟨by rfl, ?y9⟩) hS ?_
          case y9 => (intro X hSw; have q : X.cell? ⟨px, m, none⟩ = some (.int .u8 va) := (hSw.cell (p := ⟨px, m, none⟩) DX.out.2).trans DX.out.1; go_simp; try with_reducible rfl)
          try simp only [List.getElem_toArray, List.getElem_cons_succ, List.getElem_cons_zero, Act.put, List.setIfInBounds_toArray, List.set_cons_zero, List.set_cons_succ]
          try simp only [J1, J2, W3]
          refine wpAnyH_take (i := 10) (v := ?v10) rfl (by kernel_rfl) (by kernel_rfl) (by kernel_rfl) (fun _ _ _ h => h) (Or.inl ⟨by rfl, ?y10⟩) hS ?_
          case y10 => (intro X hSw; go_simp; try with_reducible rfl)
          try simp only [List.getElem_toArray, List.getElem_cons_succ, List.getElem_cons_zero, Act.put, List.setIfInBounds_toArray, List.set_cons_zero, List.set_cons_succ]
          try simp only [J1, J2, W3]
          refine wpAnyH_take (i := 11) (v := ?v11) rfl (by kernel_rfl) (by kernel_rfl) (by kernel_rfl) (fun _ _ _ h => h) (Or.inl ⟨by rfl, ?y11⟩) hS ?_
          case y11 => (intro X hSw; go_simp; try with_reducible rfl)
          try simp only [List.getElem_toArray, List.getElem_cons_succ, List.getElem_cons_zero, Act.put, List.setIfInBounds_toArray, List.set_cons_zero, List.set_cons_succ]
          try simp only [J1, J2, W3]
          refine wpAnyH_take (i := 12) (v := ?v12) rfl (by kernel_rfl) (by kernel_rfl) (by kernel_rfl) (fun _ _ _ h => h) (Or.inl ⟨by rfl, ?y12⟩) hS ?_
          case y12 => (intro X hSw; go_simp; try with_reducible rfl)
          try simp only [List.getElem_toArray, List.getElem_cons_succ, List.getElem_cons_zero, Act.put, List.setIfInBounds_toArray, List.set_cons_zero, List.set_cons_succ]
          try simp only [J1, J2, W3]
          refine wpAnyH_take (i := 13) (v := ?v13) rfl (by kernel_rfl) (by kernel_rfl) (by kernel_rfl) (fun _ _ _ h => h) (Or.inl ⟨by rfl, ?y13⟩) hS ?_
          case y13 => (intro X hSw; go_simp; try with_reducible rfl)
          try simp only [List.getElem_toArray, List.getElem_cons_succ, List.getElem_cons_zero, Act.put, List.setIfInBounds_toArray, List.set_cons_zero, List.set_cons_succ]
          try simp only [J1, J2, W3]
          refine wpAnyH_take (i := 14) (v := ?v14) rfl (by kernel_rfl) (by kernel_rfl) (by kernel_rfl) (fun _ _ _ h => h) (Or.inl ⟨by rfl, ?y14⟩) hS ?_
          case y14 => (intro X hSw; go_simp; try with_reducible rfl)
          try simp only [List.getElem_toArray, List.getElem_cons_succ, List.getElem_cons_zero, Act.put, List.setIfInBounds_toArray, List.set_cons_zero, List.set_cons_succ]
          try simp only [J1, J2, W3]
          refine wpAnyH_take (i := 15) (v := ?v15) rfl (by kernel_rfl) (by kernel_rfl) (by kernel_rfl) (fun _ _ _ h => h) (Or.inl ⟨by rfl, ?y15⟩) hS ?_
          case y15 => (intro X hSw; go_simp; try with_reducible rfl)
          try simp only [List.getElem_toArray, List.getElem_cons_succ, List.getElem_cons_zero, Act.put, List.setIfInBounds_toArray, List.set_cons_zero, List.set_cons_succ]
          try simp only [J1, J2, W3]
          refine wpAnyH_take (i := 16) (v := ?v16) rfl (by kernel_rfl) (by kernel_rfl) (by kernel_rfl) (fun _ _ _ h => h) (Or.inl ⟨by rfl, ?y16⟩) hS ?_
          case y16 => (intro X hSw; have q : X.cell? ⟨px, k, none⟩ = some (.int .u8 vb) := (hSw.cell (p := ⟨px, k, none⟩) DY.out.2).trans DY.out.1; go_simp; try with_reducible rfl)
          try simp only [List.getElem_toArray, List.getElem_cons_succ, List.getElem_cons_zero, Act.put, List.setIfInBounds_toArray, List.set_cons_zero, List.set_cons_succ]
          try simp only [J1, J2, W3]
          refine wpAnyH_ready (rs := [17]) (by kernel_rfl) (by simp) (AllReadyH.cons rfl (fun K hK => ?_) AllReadyH.nil)
          go_simp
          refine (CT.out _ hS).mono ?_
          rintro e w12 ⟨rfl, hb12⟩
          try go_wp2_with fail
          refine hK.out _ _ (below_then hS hb12) (fun hS => ?_)
          clear hK K
          try simp only [List.getElem_toArray, List.getElem_cons_succ, List.getElem_cons_zero, Act.put, List.setIfInBounds_toArray, List.set_cons_zero, List.set_cons_succ]
          refine wpAnyH_take (i := 18) (v := ?v18) rfl (by kernel_rfl) (by kernel_rfl) (by kernel_rfl) (fun _ _ _ h => h) (Or.inl ⟨by rfl, ?y18⟩) hS ?_
          case y18 => (intro X hSw; go_simp; try with_reducible rfl)
          try simp only [List.getElem_toArray, List.getElem_cons_succ, List.getElem_cons_zero, Act.put, List.setIfInBounds_toArray, List.set_cons_zero, List.set_cons_succ]
          refine wpAnyH_take (i := 19) (v := ?v19) rfl (by kernel_rfl) (by kernel_rfl) (by kernel_rfl) (fun _ _ _ h => h) (Or.inl ⟨by rfl, ?y19⟩) hS ?_
          case y19 => (intro X hSw; go_simp; try with_reducible rfl)
          try simp only [List.getElem_toArray, List.getElem_cons_succ, List.getElem_cons_zero, Act.put, List.setIfInBounds_toArray, List.set_cons_zero, List.set_cons_succ]
          refine wpAnyH_done (by kernel_rfl) ?_ _
          go_wp2
          go_roundw
          case rel => exact ⟨k + 1, by omega, by go_num, hS⟩
          case measure => simp [intOf]; omega
        · have hk' : k = 16 := by omega
          subst hk'
          go_wp2
          go_ret
          exact ⟨rfl, by repeat' (first | (with_reducible first | exact Below.refl _ _ | assumption | refine below_alloc ?_ _ | refine Below.drew ?_ | refine below_drewN ?_ _ | refine below_then ?_ (by assumption) | refine below_put ?_ (by assumption) (by first | (simp; done) | (simp; omega) | omega) | refine Below.setCell ?_ ?_ _) | (simp; done) | (simp; omega) | omega)⟩
theorem walk (v : Value) (xs : List Int) (y n : Int) (w : World) (hx : SliceAt w .u8 v xs) (hy : I64 y) (hn : U8 n) :
    Calls Try.prog 4 #[v, .int .i64 y, .int .u8 n] w fun e w' => e = .returned (.bool true) ∧ Below w.heap.size w w' := by
  by_cases hl : xs.length = 256
  · by_cases h0 : y < 0
    · exact bad_lo v xs y n w hx ⟨hl, h0⟩
    · by_cases h1 : 8 ≤ y
      · exact bad_hi v xs y n w hx ⟨hl, h0, h1⟩
      · exact good v xs y n w (vid_of hx hl) (by omega) (by omega) hn
  · exact bad_len v xs y n w hx (by omega)
end Go.Proofs.Ytcgigpglpbhakaa.pictureMoves
