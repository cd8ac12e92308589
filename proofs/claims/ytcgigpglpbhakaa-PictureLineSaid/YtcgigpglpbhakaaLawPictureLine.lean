/- PictureLine: for every memory and line the law answers true. Conditions: none. -/
import Derived.Test.YtcgigpglpbhakaaPicWh2
import Derived.Test.YtcgigpglpbhakaaBase2
import Derived.Test.YtcgigpglpbhakaaLibSlEq
set_option linter.unusedVariables false
set_option linter.unusedSimpArgs false
namespace Go.Proofs.Ytcgigpglpbhakaa.pictureLine
open Go.RowKit Go.Mq
set_option maxHeartbeats 1000000
set_option maxRecDepth 100000
theorem zero_self (w : World) : (Op.equalIn 10000 24 (.agg #[.int .u8 0, .int .u8 0, .int .u8 0, .int .u8 0, .int .u8 0, .int .u8 0, .int .u8 0, .int .u8 0, .int .u8 0, .int .u8 0, .int .u8 0, .int .u8 0, .int .u8 0, .int .u8 0, .int .u8 0, .int .u8 0]) (.agg #[.int .u8 0, .int .u8 0, .int .u8 0, .int .u8 0, .int .u8 0, .int .u8 0, .int .u8 0, .int .u8 0, .int .u8 0, .int .u8 0, .int .u8 0, .int .u8 0, .int .u8 0, .int .u8 0, .int .u8 0, .int .u8 0])).run Try.prog w = .ok true w :=
  arr_self _ [0, 0, 0, 0, 0, 0, 0, 0, 0, 0, 0, 0, 0, 0, 0, 0] rfl rfl w
theorem on_slice {w : World} {base : Nat} {v : Value} {e : TypeId} {xs : List Int} {y : Int} (h : w.ownsRow base e 1 v (onF xs y 8).length ((onF xs y 8).map (fun s => Value.int .i64 s.at'))) : SliceAt w .i64 v ((drF xs y 8).take 2) := by
  have hin := drF_in xs y 8 (by omega)
  have e1 : (onF xs y 8).map (fun s => Value.int .i64 s.at') = ((drF xs y 8).take 2).map (Value.int .i64) := by
    rw [on_drawn xs y 8, List.map_map]
    apply List.map_congr_left
    intro j hj
    have := hin j (List.mem_of_mem_take hj)
    show Value.int .i64 ((j.toNat : Nat) : Int) = Value.int .i64 j
    rw [show ((j.toNat : Nat) : Int) = j by omega]
  have e2 : (onF xs y 8).length = ((drF xs y 8).take 2).length := by rw [on_drawn xs y 8]; simp
  rw [e1, e2] at h
  refine own_slice h fun x hx => ?_
  have := hin x (List.mem_of_mem_take hx)
  simp only [Lit.wf, Bool.and_eq_true, decide_eq_true_eq]
  exact ⟨Int.le_trans (by decide) this.1, Int.le_trans (show x ≤ 8 by omega) (by decide)⟩
theorem slice_two {w : World} {a : Option Addr} {n cap : Nat} {xs : List Int} (h : SliceAt w .i64 (.slice a n cap) xs) : SliceAt w .i64 (.slice a (xs.take 2).length cap) (xs.take 2) := by
  obtain ⟨a', c', e, h1, h2, hwf, h3⟩ := h
  injection e with e1 e2 e3
  subst e1 e3
  refine ⟨a, cap, rfl, by simp; omega, h2, fun x hx => hwf x (List.mem_of_mem_take hx), fun h0 => ?_⟩
  obtain ⟨b, off, ha, hb, hc⟩ := h3 (by simp at h0; omega)
  refine ⟨b, off, ha, hb, fun i hi => ?_⟩
  rw [hc i (by simp at hi; omega)]
  simp only [List.length_take] at hi
  rw [List.getD_eq_getElem?_getD, List.getD_eq_getElem?_getD, List.getElem?_take_of_lt (by omega)]
theorem more_eq (xs : List Int) (y : Int) : decide ((onF xs y 8).length < (drF xs y 8).length) = decide ((2 : Int) < ((drF xs y 8).length : Int)) := by
  have : (onF xs y 8).length = min 2 (drF xs y 8).length := by rw [on_drawn xs y 8]; simp
  rw [this]
  congr 1
  apply propext
  omega
theorem bad_len (v : Value) (xs : List Int) (y : Int) (w : World) (h : SliceAt w .u8 v xs) (hq : ¬ ((xs.length : Int) = 256)) :
    Calls Try.prog 10 #[v, .int .i64 y] w fun e w' => e = .returned (.bool true) ∧ Below w.heap.size w w' := by
  have E0 := zero_self
  have HS := Lib.hid h
  have LB := Lib.hid (lineB_len v xs y w h hq)
  have OB := Lib.hid (fun w' (h : SliceAt w' .u8 v xs) => onA_len v xs y w' h hq)
  have WB := Lib.hid (fun w' (h : SliceAt w' .u8 v xs) => wholeB v xs w' h hq)
  obtain ⟨a, cap, rfl, h1, h2, hwf, h3⟩ := h
  clear h1 h2 hwf h3
  go_enter Try.func10, Try.ntmps10
  go_wp2_with fail
  refine LB.out.mono ?_
  rintro e w1 ⟨rfl, hb1⟩
  go_wp2_with (first
    | (refine wpList_storeW rfl 24 (.tmp 5) (.tmp 19) rfl (w1.heap.size) #[.int .u8 0, .int .u8 0, .int .u8 0, .int .u8 0, .int .u8 0, .int .u8 0, .int .u8 0, .int .u8 0, .int .u8 0, .int .u8 0, .int .u8 0, .int .u8 0, .int .u8 0, .int .u8 0, .int .u8 0, .int .u8 0] rfl rfl 24 _ (Blk.new _ _ _) (by kernel_rfl) rfl (by simp [Value.oneCell']) ?_; intro w2 hp2 K2)
    | fail)
  have hb2 : Below w.heap.size w w2 := below_put (below_alloc hb1 _) hp2 hb1.size
  refine (OB.out _ (HS.out.below hb2)).mono ?_
  rintro e w3 ⟨rfl, hb3⟩
  have hb3' := below_then hb2 hb3
  have K3 := Lib.hid (K2.out.below hb3)
  clear K2 hb3 hb1 hp2
  go_wp2_with fail
  refine (WB.out _ (HS.out.below hb3')).mono ?_
  rintro e w4 ⟨rfl, hb4⟩
  have hb4' := below_then hb3' hb4
  have K4 := Lib.hid (K3.out.below hb4)
  clear K3 hb4 hb3' hb2
  go_wp2_with fail
  refine (drawn_any _).mono ?_
  rintro e w5 ⟨rfl, hb5⟩
  have hb5' := below_then hb4' hb5
  have K5 := Lib.hid (K4.out.below hb5)
  clear K4 hb5 hb4'
  obtain ⟨l5, c5, f5⟩ := K5.out.use
  go_wp2
  go_ret
  exact ⟨rfl, hb5'⟩
theorem bad_y_lo (v : Value) (xs : List Int) (y : Int) (w : World) (h : Vid w v xs) (hq : xs.length = 256 ∧ y < 0) :
    Calls Try.prog 10 #[v, .int .i64 y] w fun e w' => e = .returned (.bool true) ∧ Below w.heap.size w w' := by
  have E0 := zero_self
  have HS := Lib.hid h
  have LB := Lib.hid (lineB_lo v xs y w h.1 hq)
  have OB := Lib.hid (fun w' (h : SliceAt w' .u8 v xs) => onA_lo v xs y w' h hq)
  have hyy : y < 0 := by omega
  obtain ⟨b, off, cap, rfl, hc1, hc2, hb, hc⟩ := Vid.open' h
  clear h hb hc hc1 hc2 hq
  go_enter Try.func10, Try.ntmps10
  go_wp2_with fail
  refine LB.out.mono ?_
  rintro e w1 ⟨rfl, hb1⟩
  go_wp2_with (first
    | (refine wpList_storeW rfl 24 (.tmp 5) (.tmp 19) rfl (w1.heap.size) #[.int .u8 0, .int .u8 0, .int .u8 0, .int .u8 0, .int .u8 0, .int .u8 0, .int .u8 0, .int .u8 0, .int .u8 0, .int .u8 0, .int .u8 0, .int .u8 0, .int .u8 0, .int .u8 0, .int .u8 0, .int .u8 0] rfl rfl 24 _ (Blk.new _ _ _) (by kernel_rfl) rfl (by simp [Value.oneCell']) ?_; intro w2 hp2 K2)
    | fail)
  have hb2 : Below w.heap.size w w2 := below_put (below_alloc hb1 _) hp2 hb1.size
  refine (OB.out _ (HS.out.1.below hb2)).mono ?_
  rintro e w3 ⟨rfl, hb3⟩
  have hb3' := below_then hb2 hb3
  have K3 := Lib.hid (K2.out.below hb3)
  clear K2 hb3 hb1 hp2
  go_wp2_with fail
  refine (whole_any xs _ _ (HS.out.below hb3')).mono ?_
  rintro e w4 ⟨u, rfl, ho, hb4⟩
  obtain ⟨g, cp, cur, rfl, hg, hcur, hrow⟩ := wh_own ho
  have hb4' := below_then hb3' hb4
  have K4 := Lib.hid (K3.out.below hb4)
  have HR := Lib.hid hrow
  have KC4 := Lib.hid hcur
  clear K3 hb4 hb3' hb2 ho hrow hcur hg
  go_wp2_with fail
  refine (drawn_any _).mono ?_
  rintro e w5 ⟨rfl, hb5⟩
  have hb5' := below_then hb4' hb5
  have K5 := Lib.hid (K4.out.below hb5)
  have KC := Lib.hid (KC4.out.below hb5)
  clear K4 hb5 hb4' KC4
  go_wp2
  go_loopw [76] (fun i wr => ∃ k : Nat, k ≤ 8 ∧ i = .int .i64 k ∧ Below w5.heap.size w5 wr) (fun i _ => (8 - intOf i).toNat)
  case atStart => exact ⟨0, by omega, rfl, Below.refl _ _⟩
  case round =>
    obtain ⟨k, hk, rfl, hbr⟩ := hrel
    by_cases hk8 : k < 8
    · have hki : (k : Int) < 8 := Int.ofNat_lt.2 hk8
      have LO := Lib.hid (fun w' (h : Below w5.heap.size w5 w') => lineOf_any xs _ (k : Int) w' (HS.out.below (hb5'.trans (h.mono hb5'.size))) (by omega) (by omega))
      have sX := lnC_size xs k 16
      have oX : Hid ((lnC xs k 16).all (·.oneCell') = true) := Lib.hid (by simp [lnC, Value.oneCell'])
      have EX := arr_self (lnC xs k 16) (lnL xs k 16) rfl (by simp [lnL])
      have hr := HR.out k hk8
      obtain ⟨X, hX⟩ : ∃ X, X = lnC xs k 16 := ⟨_, rfl⟩
      rw [← hX] at LO sX oX EX hr
      have HRR := Lib.hid hr
      clear hX hr
      have KCr := Lib.hid (KC.out.below hbr)
      go_wp2_with (first
        | (refine wpList_loadA rfl 24 (.tmp 79) rfl g (k * 16) 16 rfl 24 cur X KCr.out _ Try.underlying24 rfl (by kernel_rfl) HRR.out (by simp [sX]) ?_)
        | (refine wpList_storeW rfl 24 (.tmp 13) (.tmp 80) rfl (wr.heap.size) X rfl rfl 24 _ (Blk.new _ _ _) (by rw [sX]; kernel_rfl) (by rw [sX]; rfl) oX.out ?_; intro w6 hp6 K6)
        | fail)
      have hb6 : Below w5.heap.size w5 w6 := below_put (below_alloc hbr _) hp6 hbr.size
      refine wp_region_held_drew (S := fun W => Below w5.heap.size w5 W ∧ Blk W wr.heap.size X 24) (by kernel_rfl) ⟨hb6.drew, Blk.drew K6.out⟩ (fun hS => ?_)
      refine wpAnyH_take (i := 0) rfl (by kernel_rfl) (by kernel_rfl) (by kernel_rfl) (fun _ _ _ h => h) (yields_loadA (by rfl) 24 (.tmp 13) rfl (wr.heap.size) 0 16 rfl 24 X X (fun W hSw => hSw.2) _ Try.underlying24 rfl (by kernel_rfl) (by rw [List.drop_zero]; exact List.take_of_length_le (by simp [sX])) (by simp [sX])) hS ?_
      try simp only [List.getElem_toArray, List.getElem_cons_succ, List.getElem_cons_zero, Act.put, List.setIfInBounds_toArray, List.set_cons_zero, List.set_cons_succ]
      refine wpAnyH_take (i := 1) (v := ?v1) rfl (by kernel_rfl) (by kernel_rfl) (by kernel_rfl) (fun _ _ _ h => h) (Or.inl ⟨by rfl, ?y1⟩) hS ?_
      case y1 => (intro X0 hSw; go_simp; try with_reducible rfl)
      try simp only [List.getElem_toArray, List.getElem_cons_succ, List.getElem_cons_zero, Act.put, List.setIfInBounds_toArray, List.set_cons_zero, List.set_cons_succ]
      refine wpAnyH_take (i := 2) (v := ?v2) rfl (by kernel_rfl) (by kernel_rfl) (by kernel_rfl) (fun _ _ _ h => h) (Or.inl ⟨by rfl, ?y2⟩) hS ?_
      case y2 => (intro X0 hSw; go_simp; try with_reducible rfl)
      try simp only [List.getElem_toArray, List.getElem_cons_succ, List.getElem_cons_zero, Act.put, List.setIfInBounds_toArray, List.set_cons_zero, List.set_cons_succ]
      refine wpAnyH_ready (rs := [3]) (by kernel_rfl) (by simp) (AllReadyH.cons rfl (fun K hK => ?_) AllReadyH.nil)
      go_simp
      refine (LO.out _ hS.1).mono ?_
      rintro e w7 ⟨rfl, hb7⟩
      try go_wp2_with fail
      refine hK.out _ _ ⟨below_then hS.1 hb7, hS.2.below hb7⟩ (fun hS => ?_)
      clear hK K
      try simp only [List.getElem_toArray, List.getElem_cons_succ, List.getElem_cons_zero, Act.put, List.setIfInBounds_toArray, List.set_cons_zero, List.set_cons_succ]
      refine wpAnyH_take (i := 4) (v := ?v4) rfl (by kernel_rfl) (by kernel_rfl) (by kernel_rfl) (fun _ _ _ h => h) (Or.inl ⟨by rfl, ?y4⟩) hS ?_
      case y4 => (intro X0 hSw; go_simp; try with_reducible rfl)
      try simp only [List.getElem_toArray, List.getElem_cons_succ, List.getElem_cons_zero, Act.put, List.setIfInBounds_toArray, List.set_cons_zero, List.set_cons_succ]
      refine wpAnyH_done (by kernel_rfl) ?_ _
      go_wp2
      go_roundw
      case rel => exact ⟨k + 1, by omega, by go_num, hS.1⟩
      case measure => simp [intOf]; omega
    · have hk' : k = 8 := by omega
      subst hk'
      obtain ⟨l5, c5, f5⟩ := (K5.out.below hbr).use
      have hbw := hb5'.trans (hbr.mono hb5'.size)
      go_wp2
      go_ret
      exact ⟨rfl, hbw⟩
theorem bad_y_hi (v : Value) (xs : List Int) (y : Int) (w : World) (h : Vid w v xs) (hq : xs.length = 256 ∧ ¬ y < 0 ∧ 8 ≤ y) :
    Calls Try.prog 10 #[v, .int .i64 y] w fun e w' => e = .returned (.bool true) ∧ Below w.heap.size w w' := by
  have E0 := zero_self
  have HS := Lib.hid h
  have LB := Lib.hid (lineB_hi v xs y w h.1 hq)
  have OB := Lib.hid (fun w' (h : SliceAt w' .u8 v xs) => onA_hi v xs y w' h hq)
  have hyy : ¬ y < 0 ∧ 7 < y := by omega
  obtain ⟨b, off, cap, rfl, hc1, hc2, hb, hc⟩ := Vid.open' h
  clear h hb hc hc1 hc2 hq
  go_enter Try.func10, Try.ntmps10
  go_wp2_with fail
  refine LB.out.mono ?_
  rintro e w1 ⟨rfl, hb1⟩
  go_wp2_with (first
    | (refine wpList_storeW rfl 24 (.tmp 5) (.tmp 19) rfl (w1.heap.size) #[.int .u8 0, .int .u8 0, .int .u8 0, .int .u8 0, .int .u8 0, .int .u8 0, .int .u8 0, .int .u8 0, .int .u8 0, .int .u8 0, .int .u8 0, .int .u8 0, .int .u8 0, .int .u8 0, .int .u8 0, .int .u8 0] rfl rfl 24 _ (Blk.new _ _ _) (by kernel_rfl) rfl (by simp [Value.oneCell']) ?_; intro w2 hp2 K2)
    | fail)
  have hb2 : Below w.heap.size w w2 := below_put (below_alloc hb1 _) hp2 hb1.size
  refine (OB.out _ (HS.out.1.below hb2)).mono ?_
  rintro e w3 ⟨rfl, hb3⟩
  have hb3' := below_then hb2 hb3
  have K3 := Lib.hid (K2.out.below hb3)
  clear K2 hb3 hb1 hp2
  go_wp2_with fail
  refine (whole_any xs _ _ (HS.out.below hb3')).mono ?_
  rintro e w4 ⟨u, rfl, ho, hb4⟩
  obtain ⟨g, cp, cur, rfl, hg, hcur, hrow⟩ := wh_own ho
  have hb4' := below_then hb3' hb4
  have K4 := Lib.hid (K3.out.below hb4)
  have HR := Lib.hid hrow
  have KC4 := Lib.hid hcur
  clear K3 hb4 hb3' hb2 ho hrow hcur hg
  go_wp2_with fail
  refine (drawn_any _).mono ?_
  rintro e w5 ⟨rfl, hb5⟩
  have hb5' := below_then hb4' hb5
  have K5 := Lib.hid (K4.out.below hb5)
  have KC := Lib.hid (KC4.out.below hb5)
  clear K4 hb5 hb4' KC4
  go_wp2
  go_loopw [76] (fun i wr => ∃ k : Nat, k ≤ 8 ∧ i = .int .i64 k ∧ Below w5.heap.size w5 wr) (fun i _ => (8 - intOf i).toNat)
  case atStart => exact ⟨0, by omega, rfl, Below.refl _ _⟩
  case round =>
    obtain ⟨k, hk, rfl, hbr⟩ := hrel
    by_cases hk8 : k < 8
    · have hki : (k : Int) < 8 := Int.ofNat_lt.2 hk8
      have LO := Lib.hid (fun w' (h : Below w5.heap.size w5 w') => lineOf_any xs _ (k : Int) w' (HS.out.below (hb5'.trans (h.mono hb5'.size))) (by omega) (by omega))
      have sX := lnC_size xs k 16
      have oX : Hid ((lnC xs k 16).all (·.oneCell') = true) := Lib.hid (by simp [lnC, Value.oneCell'])
      have EX := arr_self (lnC xs k 16) (lnL xs k 16) rfl (by simp [lnL])
      have hr := HR.out k hk8
      obtain ⟨X, hX⟩ : ∃ X, X = lnC xs k 16 := ⟨_, rfl⟩
      rw [← hX] at LO sX oX EX hr
      have HRR := Lib.hid hr
      clear hX hr
      have KCr := Lib.hid (KC.out.below hbr)
      go_wp2_with (first
        | (refine wpList_loadA rfl 24 (.tmp 79) rfl g (k * 16) 16 rfl 24 cur X KCr.out _ Try.underlying24 rfl (by kernel_rfl) HRR.out (by simp [sX]) ?_)
        | (refine wpList_storeW rfl 24 (.tmp 13) (.tmp 80) rfl (wr.heap.size) X rfl rfl 24 _ (Blk.new _ _ _) (by rw [sX]; kernel_rfl) (by rw [sX]; rfl) oX.out ?_; intro w6 hp6 K6)
        | fail)
      have hb6 : Below w5.heap.size w5 w6 := below_put (below_alloc hbr _) hp6 hbr.size
      refine wp_region_held_drew (S := fun W => Below w5.heap.size w5 W ∧ Blk W wr.heap.size X 24) (by kernel_rfl) ⟨hb6.drew, Blk.drew K6.out⟩ (fun hS => ?_)
      refine wpAnyH_take (i := 0) rfl (by kernel_rfl) (by kernel_rfl) (by kernel_rfl) (fun _ _ _ h => h) (yields_loadA (by rfl) 24 (.tmp 13) rfl (wr.heap.size) 0 16 rfl 24 X X (fun W hSw => hSw.2) _ Try.underlying24 rfl (by kernel_rfl) (by rw [List.drop_zero]; exact List.take_of_length_le (by simp [sX])) (by simp [sX])) hS ?_
      try simp only [List.getElem_toArray, List.getElem_cons_succ, List.getElem_cons_zero, Act.put, List.setIfInBounds_toArray, List.set_cons_zero, List.set_cons_succ]
      refine wpAnyH_take (i := 1) (v := ?v1) rfl (by kernel_rfl) (by kernel_rfl) (by kernel_rfl) (fun _ _ _ h => h) (Or.inl ⟨by rfl, ?y1⟩) hS ?_
      case y1 => (intro X0 hSw; go_simp; try with_reducible rfl)
      try simp only [List.getElem_toArray, List.getElem_cons_succ, List.getElem_cons_zero, Act.put, List.setIfInBounds_toArray, List.set_cons_zero, List.set_cons_succ]
      refine wpAnyH_take (i := 2) (v := ?v2) rfl (by kernel_rfl) (by kernel_rfl) (by kernel_rfl) (fun _ _ _ h => h) (Or.inl ⟨by rfl, ?y2⟩) hS ?_
      case y2 => (intro X0 hSw; go_simp; try with_reducible rfl)
      try simp only [List.getElem_toArray, List.getElem_cons_succ, List.getElem_cons_zero, Act.put, List.setIfInBounds_toArray, List.set_cons_zero, List.set_cons_succ]
      refine wpAnyH_ready (rs := [3]) (by kernel_rfl) (by simp) (AllReadyH.cons rfl (fun K hK => ?_) AllReadyH.nil)
      go_simp
      refine (LO.out _ hS.1).mono ?_
      rintro e w7 ⟨rfl, hb7⟩
      try go_wp2_with fail
      refine hK.out _ _ ⟨below_then hS.1 hb7, hS.2.below hb7⟩ (fun hS => ?_)
      clear hK K
      try simp only [List.getElem_toArray, List.getElem_cons_succ, List.getElem_cons_zero, Act.put, List.setIfInBounds_toArray, List.set_cons_zero, List.set_cons_succ]
      refine wpAnyH_take (i := 4) (v := ?v4) rfl (by kernel_rfl) (by kernel_rfl) (by kernel_rfl) (fun _ _ _ h => h) (Or.inl ⟨by rfl, ?y4⟩) hS ?_
      case y4 => (intro X0 hSw; go_simp; try with_reducible rfl)
      try simp only [List.getElem_toArray, List.getElem_cons_succ, List.getElem_cons_zero, Act.put, List.setIfInBounds_toArray, List.set_cons_zero, List.set_cons_succ]
      refine wpAnyH_done (by kernel_rfl) ?_ _
      go_wp2
      go_roundw
      case rel => exact ⟨k + 1, by omega, by go_num, hS.1⟩
      case measure => simp [intOf]; omega
    · have hk' : k = 8 := by omega
      subst hk'
      obtain ⟨l5, c5, f5⟩ := (K5.out.below hbr).use
      have hbw := hb5'.trans (hbr.mono hb5'.size)
      go_wp2
      go_ret
      exact ⟨rfl, hbw⟩
theorem good (v : Value) (xs : List Int) (y : Int) (w : World) (h : Vid w v xs) (y0 : 0 ≤ y) (y1 : y ≤ 7) :
    Calls Try.prog 10 #[v, .int .i64 y] w fun e w' => e = .returned (.bool true) ∧ Below w.heap.size w w' := by
  have HS := Lib.hid h
  have LB := Lib.hid (line_any xs v y w h y0 y1)
  have hy0 : ¬ y < 0 := by omega
  have hy1 : ¬ 7 < y := by omega
  have OB := Lib.hid (fun w' (h : Vid w' v xs) => by have := onA_any xs v y w' h y0 y1; rw [more_eq] at this; exact this)
  have LY := Lib.hid (fun w' (h : Vid w' v xs) => lineOf_any xs v y w' h y0 y1)
  have DY := Lib.hid (fun w' (h : Vid w' v xs) => drawnOn_any xs v y w' h y0 y1)
  have sX0 := lnC_size xs y 16
  have oX0 : Hid ((lnC xs y 16).all (·.oneCell') = true) := Lib.hid (by simp [lnC, Value.oneCell'])
  have EX0 := arr_self (lnC xs y 16) (lnL xs y 16) rfl (by simp [lnL])
  obtain ⟨X0, hX0⟩ : ∃ X, X = lnC xs y 16 := ⟨_, rfl⟩
  rw [← hX0] at LB LY sX0 oX0 EX0
  clear hX0
  obtain ⟨b, off, cap, rfl, hc1, hc2, hb, hc⟩ := Vid.open' h
  clear h hb hc hc1 hc2
  go_enter Try.func10, Try.ntmps10
  go_wp2_with fail
  refine LB.out.mono ?_
  rintro e w1 ⟨rfl, hb1⟩
  go_wp2_with (first
    | (refine wpList_storeW rfl 24 (.tmp 5) (.tmp 19) rfl (w1.heap.size) X0 rfl rfl 24 _ (Blk.new _ _ _) (by rw [sX0]; kernel_rfl) (by rw [sX0]; rfl) oX0.out ?_; intro w2 hp2 K2)
    | fail)
  have hb2 : Below w.heap.size w w2 := below_put (below_alloc hb1 _) hp2 hb1.size
  refine (OB.out _ (HS.out.below hb2)).mono ?_
  rintro e w3 ⟨uo, rfl, hoo, hb3⟩
  obtain ⟨oa, oc, rfl⟩ := own_shape hoo
  have SO := Lib.hid (on_slice hoo)
  clear hoo
  have hb3' := below_then hb2 hb3
  have K3 := Lib.hid (K2.out.below hb3)
  clear K2 hb3 hb1 hp2
  go_wp2_with fail
  refine (whole_any xs _ _ (HS.out.below hb3')).mono ?_
  rintro e w4 ⟨u, rfl, ho, hb4⟩
  obtain ⟨g, cp, cur, rfl, hg, hcur, hrow⟩ := wh_own ho
  have hb4' := below_then hb3' hb4
  have K4 := Lib.hid (K3.out.below hb4)
  have HR := Lib.hid hrow
  have SO4 := Lib.hid (SO.out.below hb4)
  clear SO
  have KC4 := Lib.hid hcur
  clear K3 hb4 hb3' hb2 ho hrow hcur hg
  go_wp2_with fail
  refine (drawn_any _).mono ?_
  rintro e w5 ⟨rfl, hb5⟩
  have hb5' := below_then hb4' hb5
  have K5 := Lib.hid (K4.out.below hb5)
  have KC := Lib.hid (KC4.out.below hb5)
  have SO5 := Lib.hid (SO4.out.below hb5)
  clear SO4
  clear K4 hb5 hb4' KC4
  go_wp2
  go_loopw [76] (fun i wr => ∃ k : Nat, k ≤ 8 ∧ i = .int .i64 k ∧ Below w5.heap.size w5 wr) (fun i _ => (8 - intOf i).toNat)
  case atStart => exact ⟨0, by omega, rfl, Below.refl _ _⟩
  case round =>
    obtain ⟨k, hk, rfl, hbr⟩ := hrel
    by_cases hk8 : k < 8
    · have hki : (k : Int) < 8 := Int.ofNat_lt.2 hk8
      have LO := Lib.hid (fun w' (h : Below w5.heap.size w5 w') => lineOf_any xs _ (k : Int) w' (HS.out.below (hb5'.trans (h.mono hb5'.size))) (by omega) (by omega))
      have sX := lnC_size xs k 16
      have oX : Hid ((lnC xs k 16).all (·.oneCell') = true) := Lib.hid (by simp [lnC, Value.oneCell'])
      have EX := arr_self (lnC xs k 16) (lnL xs k 16) rfl (by simp [lnL])
      have hr := HR.out k hk8
      obtain ⟨X, hX⟩ : ∃ X, X = lnC xs k 16 := ⟨_, rfl⟩
      rw [← hX] at LO sX oX EX hr
      have HRR := Lib.hid hr
      clear hX hr
      have KCr := Lib.hid (KC.out.below hbr)
      go_wp2_with (first
        | (refine wpList_loadA rfl 24 (.tmp 79) rfl g (k * 16) 16 rfl 24 cur X KCr.out _ Try.underlying24 rfl (by kernel_rfl) HRR.out (by simp [sX]) ?_)
        | (refine wpList_storeW rfl 24 (.tmp 13) (.tmp 80) rfl (wr.heap.size) X rfl rfl 24 _ (Blk.new _ _ _) (by rw [sX]; kernel_rfl) (by rw [sX]; rfl) oX.out ?_; intro w6 hp6 K6)
        | fail)
      have hb6 : Below w5.heap.size w5 w6 := below_put (below_alloc hbr _) hp6 hbr.size
      refine wp_region_held_drew (S := fun W => Below w5.heap.size w5 W ∧ Blk W wr.heap.size X 24) (by kernel_rfl) ⟨hb6.drew, Blk.drew K6.out⟩ (fun hS => ?_)
      refine wpAnyH_take (i := 0) rfl (by kernel_rfl) (by kernel_rfl) (by kernel_rfl) (fun _ _ _ h => h) (yields_loadA (by rfl) 24 (.tmp 13) rfl (wr.heap.size) 0 16 rfl 24 X X (fun W hSw => hSw.2) _ Try.underlying24 rfl (by kernel_rfl) (by rw [List.drop_zero]; exact List.take_of_length_le (by simp [sX])) (by simp [sX])) hS ?_
      try simp only [List.getElem_toArray, List.getElem_cons_succ, List.getElem_cons_zero, Act.put, List.setIfInBounds_toArray, List.set_cons_zero, List.set_cons_succ]
      refine wpAnyH_take (i := 1) (v := ?v1g) rfl (by kernel_rfl) (by kernel_rfl) (by kernel_rfl) (fun _ _ _ h => h) (Or.inl ⟨by rfl, ?y1⟩) hS ?_
      case y1 => (intro X0 hSw; go_simp; try with_reducible rfl)
      try simp only [List.getElem_toArray, List.getElem_cons_succ, List.getElem_cons_zero, Act.put, List.setIfInBounds_toArray, List.set_cons_zero, List.set_cons_succ]
      refine wpAnyH_take (i := 2) (v := ?v2) rfl (by kernel_rfl) (by kernel_rfl) (by kernel_rfl) (fun _ _ _ h => h) (Or.inl ⟨by rfl, ?y2⟩) hS ?_
      case y2 => (intro X0 hSw; go_simp; try with_reducible rfl)
      try simp only [List.getElem_toArray, List.getElem_cons_succ, List.getElem_cons_zero, Act.put, List.setIfInBounds_toArray, List.set_cons_zero, List.set_cons_succ]
      refine wpAnyH_ready (rs := [3]) (by kernel_rfl) (by simp) (AllReadyH.cons rfl (fun K hK => ?_) AllReadyH.nil)
      go_simp
      refine (LO.out _ hS.1).mono ?_
      rintro e w7 ⟨rfl, hb7⟩
      try go_wp2_with fail
      refine hK.out _ _ ⟨below_then hS.1 hb7, hS.2.below hb7⟩ (fun hS => ?_)
      clear hK K
      try simp only [List.getElem_toArray, List.getElem_cons_succ, List.getElem_cons_zero, Act.put, List.setIfInBounds_toArray, List.set_cons_zero, List.set_cons_succ]
      refine wpAnyH_take (i := 4) (v := ?v4) rfl (by kernel_rfl) (by kernel_rfl) (by kernel_rfl) (fun _ _ _ h => h) (Or.inl ⟨by rfl, ?y4⟩) hS ?_
      case y4 => (intro X0 hSw; go_simp; try with_reducible rfl)
      try simp only [List.getElem_toArray, List.getElem_cons_succ, List.getElem_cons_zero, Act.put, List.setIfInBounds_toArray, List.set_cons_zero, List.set_cons_succ]
      refine wpAnyH_done (by kernel_rfl) ?_ _
      go_wp2
      go_roundw
      case rel => exact ⟨k + 1, by omega, by go_num, hS.1⟩
      case measure => simp [intOf]; omega
    · have hk' : k = 8 := by omega
      subst hk'
      have hbw := hb5'.trans (hbr.mono hb5'.size)
      go_wp2_with fail
      refine (DY.out _ (HS.out.below hbw)).mono ?_
      rintro e w8 ⟨ud, rfl, hod, hb8⟩
      have hdi := drF_in xs y 8 (by omega)
      have hsd : SliceAt w8 .i64 ud (drF xs y 8) := own_slice hod (fun x hx => by
        have := hdi x hx
        simp only [Lit.wf, Bool.and_eq_true, decide_eq_true_eq]
        exact ⟨Int.le_trans (by decide) this.1, Int.le_trans (show x ≤ 8 by omega) (by decide)⟩)
      obtain ⟨da, dc, rfl⟩ := own_shape hod
      have hbw8 := below_then hbw hb8
      have SO8 := Lib.hid ((SO5.out.below hbr).below hb8)
      have K8 := Lib.hid ((K5.out.below hbr).below hb8)
      have SD2 := Lib.hid (slice_two hsd)
      have hdc : (drF xs y 8).length ≤ dc := by obtain ⟨_, _, e1, e2, _⟩ := hsd; injection e1 with _ _ e3; omega
      clear hod hsd hb8 hbw hbr hdi
      obtain ⟨n, hn⟩ : ∃ n : Nat, n = (drF xs y 8).length := ⟨_, rfl⟩
      obtain ⟨m, hm⟩ : ∃ m : Nat, m = ((drF xs y 8).take 2).length := ⟨_, rfl⟩
      have hmn : m = min 2 n := by rw [hm, hn]; simp
      rw [← hn] at hdc
      rw [← hm] at SD2
      rw [← hn]
      have hmm : (if (n : Int) < 2 then (n : Int) else 2) = m := by split <;> omega
      have hmc : (m : Int) ≤ dc := by omega
      clear hn hm hmn
      go_wp2_with fail
      refine wp_region_held_drew (S := fun W => Below w8.heap.size w8 W ∧ Blk W w1.heap.size X0 24) (by kernel_rfl) ⟨(Below.refl _ _).drew, Blk.drew K8.out⟩ (fun hS => ?_)
      refine wpAnyH_take (i := 0) (v := ?r0) rfl (by kernel_rfl) (by kernel_rfl) (by kernel_rfl) (fun _ _ _ h => h) (Or.inl ⟨by rfl, ?q0⟩) hS ?_
      case q0 => (intro X1 hSw; go_simp; try with_reducible rfl)
      try simp only [List.getElem_toArray, List.getElem_cons_succ, List.getElem_cons_zero, Act.put, List.setIfInBounds_toArray, List.set_cons_zero, List.set_cons_succ]
      refine wpAnyH_take (i := 1) (v := ?r1) rfl (by kernel_rfl) (by kernel_rfl) (by kernel_rfl) (fun _ _ _ h => h) (Or.inl ⟨by rfl, ?q1⟩) hS ?_
      case q1 => (intro X1 hSw; go_simp; try with_reducible rfl)
      try simp only [List.getElem_toArray, List.getElem_cons_succ, List.getElem_cons_zero, Act.put, List.setIfInBounds_toArray, List.set_cons_zero, List.set_cons_succ]
      refine wpAnyH_take (i := 2) (v := ?r2) rfl (by kernel_rfl) (by kernel_rfl) (by kernel_rfl) (fun _ _ _ h => h) (Or.inl ⟨by rfl, ?q2⟩) hS ?_
      case q2 => (intro X1 hSw; go_simp; try with_reducible rfl)
      try simp only [List.getElem_toArray, List.getElem_cons_succ, List.getElem_cons_zero, Act.put, List.setIfInBounds_toArray, List.set_cons_zero, List.set_cons_succ]
      refine wpAnyH_take (i := 3) (v := ?r3) rfl (by kernel_rfl) (by kernel_rfl) (by kernel_rfl) (fun _ _ _ h => h) (Or.inl ⟨by rfl, ?q3⟩) hS ?_
      case q3 => (intro X1 hSw; go_simp; try with_reducible rfl)
      try simp only [List.getElem_toArray, List.getElem_cons_succ, List.getElem_cons_zero, Act.put, List.setIfInBounds_toArray, List.set_cons_zero, List.set_cons_succ]
      refine wpAnyH_take (i := 4) (v := ?r4) rfl (by kernel_rfl) (by kernel_rfl) (by kernel_rfl) (fun _ _ _ h => h) (Or.inl ⟨by rfl, ?q4⟩) hS ?_
      case q4 => (intro X1 hSw; go_simp; try with_reducible rfl)
      try simp only [List.getElem_toArray, List.getElem_cons_succ, List.getElem_cons_zero, Act.put, List.setIfInBounds_toArray, List.set_cons_zero, List.set_cons_succ]
      refine wpAnyH_take (i := 5) (v := ?r5) rfl (by kernel_rfl) (by kernel_rfl) (by kernel_rfl) (fun _ _ _ h => h) (Or.inl ⟨by rfl, ?q5⟩) hS ?_
      case q5 => (intro X1 hSw; go_simp; try with_reducible rfl)
      try simp only [List.getElem_toArray, List.getElem_cons_succ, List.getElem_cons_zero, Act.put, List.setIfInBounds_toArray, List.set_cons_zero, List.set_cons_succ]
      refine wpAnyH_take (i := 6) (v := ?r6) rfl (by kernel_rfl) (by kernel_rfl) (by kernel_rfl) (fun _ _ _ h => h) (Or.inl ⟨by rfl, ?q6⟩) hS ?_
      case q6 => (intro X1 hSw; go_simp; try with_reducible rfl)
      try simp only [List.getElem_toArray, List.getElem_cons_succ, List.getElem_cons_zero, Act.put, List.setIfInBounds_toArray, List.set_cons_zero, List.set_cons_succ]
      refine wpAnyH_take (i := 7) rfl (by kernel_rfl) (by kernel_rfl) (by kernel_rfl) (fun _ _ _ h => h) (yields_loadA (by rfl) 24 (.tmp 5) rfl (w1.heap.size) 0 16 rfl 24 X0 X0 (fun W hSw => hSw.2) _ Try.underlying24 rfl (by kernel_rfl) (by rw [List.drop_zero]; exact List.take_of_length_le (by simp [sX0])) (by simp [sX0])) hS ?_
      try simp only [List.getElem_toArray, List.getElem_cons_succ, List.getElem_cons_zero, Act.put, List.setIfInBounds_toArray, List.set_cons_zero, List.set_cons_succ]
      refine wpAnyH_take (i := 8) (v := ?r8) rfl (by kernel_rfl) (by kernel_rfl) (by kernel_rfl) (fun _ _ _ h => h) (Or.inl ⟨by rfl, ?q8⟩) hS ?_
      case q8 => (intro X1 hSw; go_simp; try with_reducible rfl)
      try simp only [List.getElem_toArray, List.getElem_cons_succ, List.getElem_cons_zero, Act.put, List.setIfInBounds_toArray, List.set_cons_zero, List.set_cons_succ]
      refine wpAnyH_take (i := 9) (v := ?r9) rfl (by kernel_rfl) (by kernel_rfl) (by kernel_rfl) (fun _ _ _ h => h) (Or.inl ⟨by rfl, ?q9⟩) hS ?_
      case q9 => (intro X1 hSw; go_simp; try with_reducible rfl)
      try simp only [List.getElem_toArray, List.getElem_cons_succ, List.getElem_cons_zero, Act.put, List.setIfInBounds_toArray, List.set_cons_zero, List.set_cons_succ]
      refine wpAnyH_ready (rs := [10]) (by kernel_rfl) (by simp) (AllReadyH.cons rfl (fun K hK => ?_) AllReadyH.nil)
      go_simp
      refine (LY.out _ (HS.out.below (hbw8.trans (hS.1.mono hbw8.size)))).mono ?_
      rintro e wa ⟨rfl, hb_wa⟩
      try go_wp2_with fail
      refine hK.out _ _ ⟨below_then hS.1 hb_wa, hS.2.below hb_wa⟩ (fun hS => ?_)
      clear hK K
      try simp only [List.getElem_toArray, List.getElem_cons_succ, List.getElem_cons_zero, Act.put, List.setIfInBounds_toArray, List.set_cons_zero, List.set_cons_succ]
      refine wpAnyH_take (i := 11) (v := ?r11) rfl (by kernel_rfl) (by kernel_rfl) (by kernel_rfl) (fun _ _ _ h => h) (Or.inl ⟨by rfl, ?q11⟩) hS ?_
      case q11 => (intro X1 hSw; go_simp; try with_reducible rfl)
      try simp only [List.getElem_toArray, List.getElem_cons_succ, List.getElem_cons_zero, Act.put, List.setIfInBounds_toArray, List.set_cons_zero, List.set_cons_succ]
      refine wpAnyH_take (i := 12) (v := ?r12) rfl (by kernel_rfl) (by kernel_rfl) (by kernel_rfl) (fun _ _ _ h => h) (Or.inl ⟨by rfl, ?q12⟩) hS ?_
      case q12 => (intro X1 hSw; go_simp; try with_reducible rfl)
      try simp only [List.getElem_toArray, List.getElem_cons_succ, List.getElem_cons_zero, Act.put, List.setIfInBounds_toArray, List.set_cons_zero, List.set_cons_succ]
      refine wpAnyH_take (i := 13) (v := ?r13) rfl (by kernel_rfl) (by kernel_rfl) (by kernel_rfl) (fun _ _ _ h => h) (Or.inl ⟨by rfl, ?q13⟩) hS ?_
      case q13 => (intro X1 hSw; go_simp; try with_reducible rfl)
      try simp only [List.getElem_toArray, List.getElem_cons_succ, List.getElem_cons_zero, Act.put, List.setIfInBounds_toArray, List.set_cons_zero, List.set_cons_succ]
      refine wpAnyH_take (i := 14) (v := ?r14) rfl (by kernel_rfl) (by kernel_rfl) (by kernel_rfl) (fun _ _ _ h => h) (Or.inl ⟨by rfl, ?q14⟩) hS ?_
      case q14 => (intro X1 hSw; go_simp; try with_reducible rfl)
      try simp only [List.getElem_toArray, List.getElem_cons_succ, List.getElem_cons_zero, Act.put, List.setIfInBounds_toArray, List.set_cons_zero, List.set_cons_succ]
      refine wpAnyH_take (i := 15) (v := ?r15) rfl (by kernel_rfl) (by kernel_rfl) (by kernel_rfl) (fun _ _ _ h => h) (Or.inl ⟨by rfl, ?q15⟩) hS ?_
      case q15 => (intro X1 hSw; go_simp; try with_reducible rfl)
      try simp only [List.getElem_toArray, List.getElem_cons_succ, List.getElem_cons_zero, Act.put, List.setIfInBounds_toArray, List.set_cons_zero, List.set_cons_succ]
      refine wpAnyH_take (i := 16) (v := ?r16) rfl (by kernel_rfl) (by kernel_rfl) (by kernel_rfl) (fun _ _ _ h => h) (Or.inl ⟨by rfl, ?q16⟩) hS ?_
      case q16 => (intro X1 hSw; go_simp; try with_reducible rfl)
      try simp only [List.getElem_toArray, List.getElem_cons_succ, List.getElem_cons_zero, Act.put, List.setIfInBounds_toArray, List.set_cons_zero, List.set_cons_succ]
      refine wpAnyH_take (i := 17) (v := ?r17) rfl (by kernel_rfl) (by kernel_rfl) (by kernel_rfl) (fun _ _ _ h => h) (Or.inl ⟨by rfl, ?q17⟩) hS ?_
      case q17 => (intro X1 hSw; go_simp; try with_reducible rfl)
      try simp only [List.getElem_toArray, List.getElem_cons_succ, List.getElem_cons_zero, Act.put, List.setIfInBounds_toArray, List.set_cons_zero, List.set_cons_succ]
      refine wpAnyH_take (i := 18) (v := ?r18) rfl (by kernel_rfl) (by kernel_rfl) (by kernel_rfl) (fun _ _ _ h => h) (Or.inl ⟨by rfl, ?q18⟩) hS ?_
      case q18 => (intro X1 hSw; go_simp; try with_reducible rfl)
      try simp only [List.getElem_toArray, List.getElem_cons_succ, List.getElem_cons_zero, Act.put, List.setIfInBounds_toArray, List.set_cons_zero, List.set_cons_succ]
      refine wpAnyH_take (i := 19) (v := ?r19) rfl (by kernel_rfl) (by kernel_rfl) (by kernel_rfl) (fun _ _ _ h => h) (Or.inl ⟨by rfl, ?q19⟩) hS ?_
      case q19 => (intro X1 hSw; go_simp; try with_reducible rfl)
      try simp only [List.getElem_toArray, List.getElem_cons_succ, List.getElem_cons_zero, Act.put, List.setIfInBounds_toArray, List.set_cons_zero, List.set_cons_succ]
      refine wpAnyH_ready (rs := [20]) (by kernel_rfl) (by simp) (AllReadyH.cons rfl (fun K hK => ?_) AllReadyH.nil)
      go_simp
      refine (slEq_i64 _ _ _ _ _ (SO8.out.below hS.1) (SD2.out.below hS.1)).mono ?_
      rintro e wb ⟨rfl, hb_wb⟩
      try go_wp2_with fail
      refine hK.out _ _ ⟨below_then hS.1 hb_wb, hS.2.below hb_wb⟩ (fun hS => ?_)
      clear hK K
      try simp only [List.getElem_toArray, List.getElem_cons_succ, List.getElem_cons_zero, Act.put, List.setIfInBounds_toArray, List.set_cons_zero, List.set_cons_succ]
      refine wpAnyH_take (i := 21) (v := ?r21) rfl (by kernel_rfl) (by kernel_rfl) (by kernel_rfl) (fun _ _ _ h => h) (Or.inl ⟨by rfl, ?q21⟩) hS ?_
      case q21 => (intro X1 hSw; go_simp; try with_reducible rfl)
      try simp only [List.getElem_toArray, List.getElem_cons_succ, List.getElem_cons_zero, Act.put, List.setIfInBounds_toArray, List.set_cons_zero, List.set_cons_succ]
      refine wpAnyH_take (i := 22) (v := ?r22) rfl (by kernel_rfl) (by kernel_rfl) (by kernel_rfl) (fun _ _ _ h => h) (Or.inl ⟨by rfl, ?q22⟩) hS ?_
      case q22 => (intro X1 hSw; go_simp; try with_reducible rfl)
      try simp only [List.getElem_toArray, List.getElem_cons_succ, List.getElem_cons_zero, Act.put, List.setIfInBounds_toArray, List.set_cons_zero, List.set_cons_succ]
      refine wpAnyH_take (i := 23) (v := ?r23) rfl (by kernel_rfl) (by kernel_rfl) (by kernel_rfl) (fun _ _ _ h => h) (Or.inl ⟨by rfl, ?q23⟩) hS ?_
      case q23 => (intro X1 hSw; go_simp; try with_reducible rfl)
      try simp only [List.getElem_toArray, List.getElem_cons_succ, List.getElem_cons_zero, Act.put, List.setIfInBounds_toArray, List.set_cons_zero, List.set_cons_succ]
      refine wpAnyH_take (i := 24) (v := ?r24) rfl (by kernel_rfl) (by kernel_rfl) (by kernel_rfl) (fun _ _ _ h => h) (Or.inl ⟨by rfl, ?q24⟩) hS ?_
      case q24 => (intro X1 hSw; go_simp; try with_reducible rfl)
      try simp only [List.getElem_toArray, List.getElem_cons_succ, List.getElem_cons_zero, Act.put, List.setIfInBounds_toArray, List.set_cons_zero, List.set_cons_succ]
      refine wpAnyH_take (i := 25) (v := ?r25) rfl (by kernel_rfl) (by kernel_rfl) (by kernel_rfl) (fun _ _ _ h => h) (Or.inl ⟨by rfl, ?q25⟩) hS ?_
      case q25 => (intro X1 hSw; go_simp; try with_reducible rfl)
      try simp only [List.getElem_toArray, List.getElem_cons_succ, List.getElem_cons_zero, Act.put, List.setIfInBounds_toArray, List.set_cons_zero, List.set_cons_succ]
      refine wpAnyH_take (i := 26) (v := ?r26) rfl (by kernel_rfl) (by kernel_rfl) (by kernel_rfl) (fun _ _ _ h => h) (Or.inl ⟨by rfl, ?q26⟩) hS ?_
      case q26 => (intro X1 hSw; go_simp; try with_reducible rfl)
      try simp only [List.getElem_toArray, List.getElem_cons_succ, List.getElem_cons_zero, Act.put, List.setIfInBounds_toArray, List.set_cons_zero, List.set_cons_succ]
      refine wpAnyH_take (i := 27) (v := ?r27) rfl (by kernel_rfl) (by kernel_rfl) (by kernel_rfl) (fun _ _ _ h => h) (Or.inl ⟨by rfl, ?q27⟩) hS ?_
      case q27 => (intro X1 hSw; go_simp; try with_reducible rfl)
      try simp only [List.getElem_toArray, List.getElem_cons_succ, List.getElem_cons_zero, Act.put, List.setIfInBounds_toArray, List.set_cons_zero, List.set_cons_succ]
      refine wpAnyH_take (i := 28) (v := ?r28) rfl (by kernel_rfl) (by kernel_rfl) (by kernel_rfl) (fun _ _ _ h => h) (Or.inl ⟨by rfl, ?q28⟩) hS ?_
      case q28 => (intro X1 hSw; go_simp; try with_reducible rfl)
      try simp only [List.getElem_toArray, List.getElem_cons_succ, List.getElem_cons_zero, Act.put, List.setIfInBounds_toArray, List.set_cons_zero, List.set_cons_succ]
      refine wpAnyH_take (i := 29) (v := ?r29) rfl (by kernel_rfl) (by kernel_rfl) (by kernel_rfl) (fun _ _ _ h => h) (Or.inl ⟨by rfl, ?q29⟩) hS ?_
      case q29 => (intro X1 hSw; go_simp; try with_reducible rfl)
      try simp only [List.getElem_toArray, List.getElem_cons_succ, List.getElem_cons_zero, Act.put, List.setIfInBounds_toArray, List.set_cons_zero, List.set_cons_succ]
      refine wpAnyH_done (by kernel_rfl) ?_ _
      go_wp2
      go_ret
      exact ⟨by simp, hbw8.trans (hS.1.mono hbw8.size)⟩
theorem walk (v : Value) (xs : List Int) (y : Int) (w : World) (hx : SliceAt w .u8 v xs) (hy : I64 y) :
    Calls Try.prog 10 #[v, .int .i64 y] w fun e w' => e = .returned (.bool true) ∧ Below w.heap.size w w' := by
  by_cases hl : xs.length = 256
  · have hv : Vid w v xs := by
      refine ⟨hx, hl, fun x hxx => ?_⟩
      obtain ⟨_, _, _, _, _, hwf, _⟩ := hx
      have := hwf x hxx
      simp only [Lit.wf, Bool.and_eq_true, decide_eq_true_eq] at this
      exact this
    by_cases h0 : y < 0
    · exact bad_y_lo v xs y w hv ⟨hl, h0⟩
    · by_cases h1 : 8 ≤ y
      · exact bad_y_hi v xs y w hv ⟨hl, h0, h1⟩
      · exact good v xs y w hv (by omega) (by omega)
  · exact bad_len v xs y w hx (by omega)
end Go.Proofs.Ytcgigpglpbhakaa.pictureLine
