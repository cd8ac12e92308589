/- The picture's dots: a tile's, the ground's. Conditions: a memory of 256 bytes. -/
import Derived.Test.YtcgigpglpbhakaaRows
import Derived.Test.YtcgigpglpbhakaaBase
namespace Go.Mq
/-- A byte of a memory. -/
def bt (xs : List Int) (i : Int) : Int := xs.getD i.toNat 0
def dotV (xs : List Int) (t x y : Int) : Int := bt xs (16 + 4 * t + y) / 2 ^ (6 - 2 * x).toNat % 4
def gndX (xs : List Int) (x : Int) : Int := (x + bt xs 168) % 16
def gndY (xs : List Int) (y : Int) : Int := (y + bt xs 169) % 16
def gndT (xs : List Int) (x y : Int) : Int := bt xs (gndY xs y / 4 * 4 + gndX xs x / 4) % 16
def gndV (xs : List Int) (x y : Int) : Int := dotV xs (gndT xs x y) (gndX xs x % 4) (gndY xs y % 4)
/-- A memory: 256 bytes. -/
def Vid (w : Go.World) (v : Go.Value) (xs : List Int) : Prop := SliceAt w .u8 v xs ∧ xs.length = 256 ∧ ∀ x ∈ xs, U8 x
theorem Vid.below {w w' : Go.World} {v : Go.Value} {xs : List Int} (h : Vid w v xs) (hb : Go.RowKit.Below w.heap.size w w') : Vid w' v xs := ⟨h.1.below hb, h.2⟩
theorem bt_in (xs : List Int) (hx : ∀ x ∈ xs, U8 x) (i : Int) : 0 ≤ bt xs i ∧ bt xs i ≤ 255 := by
  unfold bt
  rw [List.getD_eq_getElem?_getD]
  by_cases h : i.toNat < xs.length
  · rw [List.getElem?_eq_getElem h]
    exact hx _ (List.getElem_mem h)
  · rw [List.getElem?_eq_none (by omega)]
    decide
end Go.Mq
namespace Go.Proofs.Ytcgigpglpbhakaa
open Go.RowKit Go.Mq
set_option linter.unusedVariables false
set_option linter.unusedSimpArgs false
set_option maxHeartbeats 1000000
set_option maxRecDepth 100000
theorem and3 (n : Int) (h : U8 n) : bits .and .u8 n 3 = n % 4 := by
  have := bits_mask .u8 8 (by decide) (fun n h h' => by rw [wrap8]; omega) 2 (by omega) n h.1 (by unfold U8 at h; omega)
  simpa using this
theorem and15j (n : Int) (h0 : 0 ≤ n) (h1 : n < 65536) : bits .and .i64 n 15 = n % 16 := by
  have := bits_mask .i64 63 (by decide) (fun n h h' => by rw [IntKind.wrap_i64]; omega) 4 (by omega) n h0 (by omega)
  simpa using this
theorem Vid.open' {w : World} {v : Value} {xs : List Int} (h : Vid w v xs) : ∃ b off cap, v = .slice (some ⟨b, off, none⟩) 256 cap ∧ 256 ≤ cap ∧ cap ≤ maxLen ∧ b < w.heap.size ∧ ∀ i : Nat, i < 256 → w.cell? ⟨b, off + i, none⟩ = some (.int .u8 (bt xs i)) := by
  obtain ⟨⟨a, cap, rfl, h1, h2, hwf, h3⟩, hl, _⟩ := h
  obtain ⟨b, off, rfl, hb, hc⟩ := h3 (by omega)
  exact ⟨b, off, cap, by rw [hl], by omega, h2, hb, fun i hi => by rw [hc i (by omega)]; simp [bt]⟩
theorem dot_any (xs : List Int) (v : Value) (t x y : Int) (w : World) (h : Vid w v xs) (t0 : 0 ≤ t) (t1 : t ≤ 15) (x0 : 0 ≤ x) (x1 : x ≤ 3) (y0 : 0 ≤ y) (y1 : y ≤ 3) :
    Calls Try.prog 39 #[v, .int .i64 t, .int .i64 x, .int .i64 y] w fun e w' => e = .returned (.int .u8 (dotV xs t x y)) ∧ Below w.heap.size w w' := by
  have hu := h.2.2
  obtain ⟨b, off, cap, rfl, hc1, hc2, hb, hc⟩ := Vid.open' h
  clear h hc1 hc2
  obtain ⟨k, hk⟩ : ∃ k : Nat, 16 + 4 * t + y = k := ⟨(16 + 4 * t + y).toNat, by omega⟩
  have hk' : k < 256 := by omega
  have c := hc k hk'
  have bd := bt_in xs hu k
  unfold dotV
  rw [hk]
  generalize bt xs k = z at *
  have e1 : wrap64 (4 * t) = 4 * t := by unfold wrap64; omega
  have e2 : wrap64 (16 + 4 * t) = 16 + 4 * t := by unfold wrap64; omega
  have e3 : wrap64 (16 + 4 * t + y) = (k : Int) := by unfold wrap64; omega
  have m0 := and3 (z / 64) (by unfold U8; omega)
  have m1 := and3 (z / 16) (by unfold U8; omega)
  have m2 := and3 (z / 4) (by unfold U8; omega)
  have m3 := and3 z (by unfold U8; omega)
  have hki : (k : Int) < 256 := by omega
  clear hc hu t0 t1 y0 y1 hk bd
  rcases (by omega : x = 0 ∨ x = 1 ∨ x = 2 ∨ x = 3) with rfl | rfl | rfl | rfl
  · clear m1 m2 m3
    go_enter Try.func39, Try.ntmps39
    go_wp2
    go_ret
    exact ⟨by simp, by repeat' (first | (with_reducible first | exact Below.refl _ _ | assumption | refine below_alloc ?_ _ | refine Below.drew ?_ | refine below_drewN ?_ _ | refine below_then ?_ (by assumption) | refine below_put ?_ (by assumption) (by first | (simp; done) | (simp; omega) | omega) | refine Below.setCell ?_ ?_ _) | (simp; done) | (simp; omega) | omega)⟩
  · clear m0 m2 m3
    go_enter Try.func39, Try.ntmps39
    go_wp2
    go_ret
    exact ⟨by simp, by repeat' (first | (with_reducible first | exact Below.refl _ _ | assumption | refine below_alloc ?_ _ | refine Below.drew ?_ | refine below_drewN ?_ _ | refine below_then ?_ (by assumption) | refine below_put ?_ (by assumption) (by first | (simp; done) | (simp; omega) | omega) | refine Below.setCell ?_ ?_ _) | (simp; done) | (simp; omega) | omega)⟩
  · clear m0 m1 m3
    go_enter Try.func39, Try.ntmps39
    go_wp2
    go_ret
    exact ⟨by simp, by repeat' (first | (with_reducible first | exact Below.refl _ _ | assumption | refine below_alloc ?_ _ | refine Below.drew ?_ | refine below_drewN ?_ _ | refine below_then ?_ (by assumption) | refine below_put ?_ (by assumption) (by first | (simp; done) | (simp; omega) | omega) | refine Below.setCell ?_ ?_ _) | (simp; done) | (simp; omega) | omega)⟩
  · clear m0 m1 m2
    go_enter Try.func39, Try.ntmps39
    go_wp2
    go_ret
    exact ⟨by simp, by repeat' (first | (with_reducible first | exact Below.refl _ _ | assumption | refine below_alloc ?_ _ | refine Below.drew ?_ | refine below_drewN ?_ _ | refine below_then ?_ (by assumption) | refine below_put ?_ (by assumption) (by first | (simp; done) | (simp; omega) | omega) | refine Below.setCell ?_ ?_ _) | (simp; done) | (simp; omega) | omega)⟩
theorem ground_any (xs : List Int) (v : Value) (x y : Int) (w : World) (h : Vid w v xs) (x0 : 0 ≤ x) (x1 : x ≤ 15) (y0 : 0 ≤ y) (y1 : y ≤ 7) :
    Calls Try.prog 38 #[v, .int .i64 x, .int .i64 y] w fun e w' => e = .returned (.int .u8 (gndV xs x y)) ∧ Below w.heap.size w w' := by
  have hu := h.2.2
  have D := Lib.hid (fun w' (h : Vid w' v xs) (t x y : Int) (t0 : 0 ≤ t) (t1 : t ≤ 15) (x0 : 0 ≤ x) (x1 : x ≤ 3) (y0 : 0 ≤ y) (y1 : y ≤ 3) => dot_any xs v t x y w' h t0 t1 x0 x1 y0 y1)
  have HV := Lib.hid h
  obtain ⟨b, off, cap, rfl, hc1, hc2, hb, hc⟩ := Vid.open' h
  have c1 : w.cell? ⟨b, off + 168, none⟩ = some (.int .u8 (bt xs 168)) := hc 168 (by omega)
  have c2 : w.cell? ⟨b, off + 169, none⟩ = some (.int .u8 (bt xs 169)) := hc 169 (by omega)
  have b1 := bt_in xs hu 168
  have b2 := bt_in xs hu 169
  have gx : gndX xs x = (x + bt xs 168) % 16 := rfl
  have gy : gndY xs y = (y + bt xs 169) % 16 := rfl
  have gt : gndT xs x y = bt xs (gndY xs y / 4 * 4 + gndX xs x / 4) % 16 := rfl
  unfold gndV
  generalize gndX xs x = gX at *
  generalize gndY xs y = gY at *
  obtain ⟨k, hk⟩ : ∃ k : Nat, gY / 4 * 4 + gX / 4 = k := ⟨(gY / 4 * 4 + gX / 4).toNat, by omega⟩
  have c3 := hc k (by omega)
  have b3 := bt_in xs hu k
  rw [hk] at gt
  have D' := D.out w HV.out (gndT xs x y) (gX % 4) (gY % 4) (by omega) (by omega) (by omega) (by omega) (by omega) (by omega)
  generalize gndT xs x y = gT at *
  generalize dotV xs gT (gX % 4) (gY % 4) = dv at *
  generalize bt xs k = s3 at *
  generalize bt xs 168 = s1 at *
  generalize bt xs 169 = s2 at *
  have e1 : wrap64 (x + s1) = x + s1 := by unfold wrap64; omega
  have e2 : wrap64 (y + s2) = y + s2 := by unfold wrap64; omega
  have r1 : Int.tmod (x + s1) 16 = gX := by rw [Int.tmod_eq_emod_of_nonneg (by omega)]; omega
  have r2 : Int.tmod (y + s2) 16 = gY := by rw [Int.tmod_eq_emod_of_nonneg (by omega)]; omega
  have q1 : Int.tdiv gX 4 = gX / 4 := Int.tdiv_eq_ediv_of_nonneg (by omega)
  have q2 : Int.tdiv gY 4 = gY / 4 := Int.tdiv_eq_ediv_of_nonneg (by omega)
  have q3 : Int.tmod gX 4 = gX % 4 := Int.tmod_eq_emod_of_nonneg (by omega)
  have q4 : Int.tmod gY 4 = gY % 4 := Int.tmod_eq_emod_of_nonneg (by omega)
  have w1 : wrap64 gX = gX := by unfold wrap64; omega
  have w2 : wrap64 gY = gY := by unfold wrap64; omega
  have w3 : wrap64 (gX / 4) = gX / 4 := by unfold wrap64; omega
  have w4 : wrap64 (gY / 4) = gY / 4 := by unfold wrap64; omega
  have w5 : wrap64 (gY / 4 * 4) = gY / 4 * 4 := by unfold wrap64; omega
  have w6 : wrap64 (gY / 4 * 4 + gX / 4) = (k : Int) := by unfold wrap64; omega
  have w7 : wrap64 s1 = s1 := by unfold wrap64; omega
  have w8 : wrap64 s2 = s2 := by unfold wrap64; omega
  have w9 : wrap64 s3 = s3 := by unfold wrap64; omega
  have w10 : wrap64 (gX % 4) = gX % 4 := by unfold wrap64; omega
  have w11 : wrap64 (gY % 4) = gY % 4 := by unfold wrap64; omega
  have m := and15j s3 b3.1 (by omega)
  rw [← gt] at m
  have hki : (k : Int) < 256 := by omega
  have D2 := Lib.hid D'
  clear D' D HV hc gx gy gt hk b1 b2 b3 hu x0 x1 y0 y1 hc1 hc2
  go_enter Try.func38, Try.ntmps38
  go_wp2_with fail
  refine D2.out.mono ?_
  rintro e w1' ⟨rfl, hb1⟩
  go_wp2
  go_ret
  exact ⟨rfl, by repeat' (first | (with_reducible first | exact Below.refl _ _ | assumption | refine below_alloc ?_ _ | refine Below.drew ?_ | refine below_drewN ?_ _ | refine below_then ?_ (by assumption) | refine below_put ?_ (by assumption) (by first | (simp; done) | (simp; omega) | omega) | refine Below.setCell ?_ ?_ _) | (simp; done) | (simp; omega) | omega)⟩
end Go.Proofs.Ytcgigpglpbhakaa
