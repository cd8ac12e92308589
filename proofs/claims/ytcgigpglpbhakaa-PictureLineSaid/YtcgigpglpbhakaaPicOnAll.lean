/- picture.On: the sprites that are drawn on a line. Conditions: a memory of 256 bytes, a line of 0 to 7. -/
import Derived.Test.YtcgigpglpbhakaaRows
import Derived.Test.YtcgigpglpbhakaaPicDrawn
set_option linter.unusedVariables false
set_option linter.unusedSimpArgs false
namespace Go.Proofs.Ytcgigpglpbhakaa
open Go.RowKit Go.Mq
set_option maxHeartbeats 2000000
set_option maxRecDepth 100000
theorem onA_len (v : Value) (xs : List Int) (y : Int) (w : World) (h : SliceAt w .u8 v xs) (hq : ¬ ((xs.length : Int) = 256)) :
    Calls Try.prog 32 #[v, .int .i64 y] w fun e w' => e = .returned (.tuple #[.slice none 0 0, .bool false, .int .i64 4]) ∧ Below w.heap.size w w' := by
  obtain ⟨a, cap, rfl, h1, h2, hwf, h3⟩ := h
  clear h1 h2 hwf h3
  skip
  go_enter Try.func32, Try.ntmps32
  go_wp2
  refine bodyPost_ret (v := .tuple #[.slice none 0 0, .bool false, .int .i64 4]) (by simp [results, Try.results32, go_sem]) rfl ⟨rfl, ?_⟩
  exact by repeat' (first | (with_reducible first | exact Below.refl _ _ | assumption | refine below_alloc ?_ _ | refine Below.drew ?_ | refine below_drewN ?_ _ | refine below_then ?_ (by assumption) | refine below_put ?_ (by assumption) (by first | (simp; done) | (simp; omega) | omega) | refine Below.setCell ?_ ?_ _) | (simp; done) | (simp; omega) | omega)
theorem onA_lo (v : Value) (xs : List Int) (y : Int) (w : World) (h : SliceAt w .u8 v xs) (hq : xs.length = 256 ∧ y < 0) :
    Calls Try.prog 32 #[v, .int .i64 y] w fun e w' => e = .returned (.tuple #[.slice none 0 0, .bool false, .int .i64 3]) ∧ Below w.heap.size w w' := by
  obtain ⟨a, cap, rfl, h1, h2, hwf, h3⟩ := h
  clear h1 h2 hwf h3
  (rw [hq.1]; replace hq := hq.2)
  go_enter Try.func32, Try.ntmps32
  go_wp2
  refine bodyPost_ret (v := .tuple #[.slice none 0 0, .bool false, .int .i64 3]) (by simp [results, Try.results32, go_sem]) rfl ⟨rfl, ?_⟩
  exact by repeat' (first | (with_reducible first | exact Below.refl _ _ | assumption | refine below_alloc ?_ _ | refine Below.drew ?_ | refine below_drewN ?_ _ | refine below_then ?_ (by assumption) | refine below_put ?_ (by assumption) (by first | (simp; done) | (simp; omega) | omega) | refine Below.setCell ?_ ?_ _) | (simp; done) | (simp; omega) | omega)
theorem onA_hi (v : Value) (xs : List Int) (y : Int) (w : World) (h : SliceAt w .u8 v xs) (hq : xs.length = 256 ∧ ¬ y < 0 ∧ 8 ≤ y) :
    Calls Try.prog 32 #[v, .int .i64 y] w fun e w' => e = .returned (.tuple #[.slice none 0 0, .bool false, .int .i64 3]) ∧ Below w.heap.size w w' := by
  obtain ⟨a, cap, rfl, h1, h2, hwf, h3⟩ := h
  clear h1 h2 hwf h3
  (rw [hq.1]; replace hq := hq.2)
  go_enter Try.func32, Try.ntmps32
  go_wp2
  refine bodyPost_ret (v := .tuple #[.slice none 0 0, .bool false, .int .i64 3]) (by simp [results, Try.results32, go_sem]) rfl ⟨rfl, ?_⟩
  exact by repeat' (first | (with_reducible first | exact Below.refl _ _ | assumption | refine below_alloc ?_ _ | refine Below.drew ?_ | refine below_drewN ?_ _ | refine below_then ?_ (by assumption) | refine below_put ?_ (by assumption) (by first | (simp; done) | (simp; omega) | omega) | refine Below.setCell ?_ ?_ _) | (simp; done) | (simp; omega) | omega)
theorem onA_any (xs : List Int) (v : Value) (y : Int) (w : World) (h : Vid w v xs) (y0 : 0 ≤ y) (y1 : y ≤ 7) :
    Calls Try.prog 32 #[v, .int .i64 y] w fun e w' => ∃ u, e = .returned (.tuple #[u, .bool (decide ((onF xs y 8).length < (drF xs y 8).length)), .int .i64 0]) ∧
      w'.ownsRow w.heap.size 3 1 u (onF xs y 8).length ((onF xs y 8).map (fun s => Value.int .i64 s.at')) ∧ Below w.heap.size w w' := by
  have HV := Lib.hid h
  have U := Lib.hid h.2.2
  obtain ⟨b, off, cap, rfl, hc1, hc2, hb, hc⟩ := Vid.open' h
  have H := Lib.hid (And.intro hb hc)
  obtain ⟨i0, hi, hz0, hz1, hz2⟩ := info_parts infoI
  have HI := Lib.hid (And.intro hi (And.intro hz0 (And.intro hz1 hz2)))
  clear hi hz0 hz1 hz2 h hb hc hc1 hc2
  go_enter Try.func32, Try.ntmps32
  go_wp2_with fail
  refine (on_any xs _ y _ HV.out y0 y1).mono ?_
  rintro e w1 ⟨u, rfl, ho, hb1⟩
  obtain ⟨a, cp, rfl, hs⟩ := sp_cells ho (onF_len xs y 8)
  have hS : Hid (SP w1 w.heap.size a (onF xs y 8)) := Lib.hid (by simpa [SP] using hs)
  have hL2 := onF_len xs y 8
  clear ho hs
  obtain ⟨L, hLn⟩ : ∃ L, L = onF xs y 8 := ⟨_, rfl⟩
  rw [← hLn] at hS hL2
  have HLn := Lib.hid hLn
  rw [← hLn]
  clear hLn
  go_wp2
  have hLa := Lib.hid (onF_in xs U.out y 8 (by omega))
  rw [← HLn.out] at hLa
  go_loopw [4, 25] (fun l i wr => ∃ k : Nat, k ≤ L.length ∧ i = .int .i64 k ∧ Below w1.heap.size w1 wr ∧ Hid (wr.ownsRow w1.heap.size 3 1 l k ((L.take k).map (fun s => Value.int .i64 s.at')))) (fun _ i _ => (L.length - intOf i).toNat)
  case atStart => exact ⟨0, by omega, rfl, Below.refl _ _, Lib.hid ⟨by simp, Or.inl ⟨rfl, rfl⟩⟩⟩
  case round =>
    obtain ⟨k, hk, rfl, hbr, KO⟩ := hrel
    by_cases hkl : k < L.length
    · obtain ⟨ao, cq, rfl⟩ := own_shape KO.out
      obtain ⟨g, s, rfl, hg1, hg2, hdr, hmem, hcl⟩ := (hS.out.below hbr) k hkl
      have c0 := hcl 0 (by omega)
      have c1 := hcl 1 (by omega)
      have c2 := hcl 2 (by omega)
      have c3 := hcl 3 (by omega)
      have c4 := hcl 4 (by omega)
      have hT : (L.take (k + 1)).map (fun s => Value.int .i64 s.at') = (L.take k).map (fun s => Value.int .i64 s.at') ++ [.int .i64 s.at'] := by
        have hh : L[k]'hkl = s := by
          have := List.drop_eq_getElem_cons hkl
          rw [hdr] at this
          exact (List.cons.inj this).1.symm
        rw [List.take_add_one, List.getElem?_eq_getElem hkl, hh]
        simp
      have HT := Lib.hid hT
      clear hT hdr hmem hcl
      obtain ⟨qa, qx, qt, qr, qh⟩ := s
      simp only [spC, List.getElem?_cons_zero, List.getElem?_cons_succ, Nat.add_zero] at c0 c1 c2 c3 c4
      simp only at HT
      have hki : (k : Int) < L.length := Int.ofNat_lt.2 hkl
      have KO2 := Lib.hid ((own_below KO.out ((Below.refl wr.heap.size wr).alloc (Nat.le_refl _) (.cells #[.int .i64 qa, .int .i64 qx, .int .i64 qt, .int .i64 qr, .int .u8 qh] 78))))
      have hbr2 := hbr.alloc hbr.size (.cells #[.int .i64 qa, .int .i64 qx, .int .i64 qt, .int .i64 qr, .int .u8 qh] 78)
      generalize hW : (L.take k).map (fun s => Value.int .i64 s.at') = VS at *
      clear hW
      go_wp2_with (first
        | (at_builtin; refine wpList_append_own _ rfl (.tmp 29) (.tmp 32) 65 rfl (w1.heap.size) 3 i0 (.int .i64 0) 1 8 Try.underlying65 HI.out.1 HI.out.2.1 HI.out.2.2.1 HI.out.2.2.2 rfl (by decide) _ _ _ rfl (KO2.out.alloc _) ⟨wr.heap.size + 1, 0, none⟩ 1 1 [.int .i64 qa] rfl rfl ?c1 ?c2 ?c3 ?c4 ?c5 ?_)
        | fail)
      case c1 =>
        intro j u hj
        match j, hj with
        | 0, hj => simp at hj; subst hj; simp [Addr.add]
      case c2 => intro u hu; simp at hu; subst hu; rfl
      case c3 => unfold maxLen; omega
      case c4 => omega
      case c5 => have := hbr.size; simp; omega
      intro v' w5 hown hgrow _
      have hb5 : Below w1.heap.size w1 w5 := below_grown (below_alloc hbr2 _) (by have := hbr.size; simp; omega) hgrow (KO2.out.alloc _) (by omega)
      obtain ⟨ao', cp', rfl⟩ := own_shape hown
      have KO5 := Lib.hid hown
      clear hown hgrow KO2 KO hbr2
      go_wp2
      go_roundw
      case rel => exact ⟨k + 1, by omega, by go_num, hb5, Lib.hid (by rw [HT.out]; exact KO5.out)⟩
      case measure => simp [intOf]; omega
    · have hk' : k = L.length := by omega
      subst hk'
      rw [List.take_length] at KO
      obtain ⟨ao, cq, rfl⟩ := own_shape KO.out
      have hbw : Below w.heap.size w wr := hb1.trans (hbr.mono hb1.size)
      clear hbr
      go_wp2
      go_loopw [9, 35] (fun n i wr2 => ∃ k : Nat, k ≤ 8 ∧ i = .int .i64 k ∧ n = .int .i64 (drF xs y k).length ∧ Below wr.heap.size wr wr2) (fun _ i _ => (8 - intOf i).toNat)
      case atStart => exact ⟨0, by omega, rfl, rfl, Below.refl _ _⟩
      case round =>
        obtain ⟨k, hk, rfl, rfl, hb2⟩ := hrel
        by_cases hk8 : k < 8
        · have hki : (k : Int) < 8 := Int.ofNat_lt.2 hk8
          obtain ⟨K, hK⟩ : ∃ K : Nat, 128 + 4 * (k : Int) = K := ⟨128 + 4 * k, by omega⟩
          have hKn : K < 256 := by omega
          have hKi : (K : Int) < 256 := Int.ofNat_lt.2 hKn
          have c := ((hbw.trans (hb2.mono hbw.size)).cell (p := ⟨b, off + K, none⟩) H.out.1).trans (H.out.2 K hKn)
          have hz := bt_in xs U.out K
          have hst : drF xs y (k + 1) = if 0 ≤ liesV xs k y then drF xs y k ++ [(k : Int)] else drF xs y k := rfl
          have hlv : liesV xs k y = if 0 ≤ y - bt xs K ∧ y - bt xs K ≤ 3 then y - bt xs K else -1 := by unfold liesV; rw [hK]
          have hl8 := drF_len xs y k
          generalize bt xs K = z at *
          have W1 : wrap64 (4 * (k : Int)) = 4 * k := by unfold wrap64; omega
          have W2 : wrap64 (128 + 4 * (k : Int)) = K := by unfold wrap64; omega
          have W3 : wrap64 z = z := by unfold wrap64; omega
          have W4 : wrap64 (y - z) = y - z := by unfold wrap64; omega
          by_cases hA : 0 ≤ y - z
          · by_cases hB : y - z ≤ 3
            · have E : (drF xs y (k + 1)).length = (drF xs y k).length + 1 := by rw [hst, if_pos (by rw [hlv, if_pos ⟨hA, hB⟩]; exact hA)]; simp
              have HE := Lib.hid E
              have W5 : wrap64 (((drF xs y k).length : Int) + 1) = (drF xs y k).length + 1 := by unfold wrap64; omega
              generalize (drF xs y k).length = n at *
              clear E hst hlv
              go_wp2
              go_roundw
              case rel => exact ⟨k + 1, by omega, by go_num, by rw [HE.out, W5]; rfl, hb2⟩
              case measure => simp [intOf]; omega
            · have E : (drF xs y (k + 1)).length = (drF xs y k).length := by rw [hst, if_neg (by rw [hlv, if_neg (by omega)]; omega)]
              have HE := Lib.hid E
              generalize (drF xs y k).length = n at *
              clear E hst hlv
              go_wp2
              go_roundw
              case rel => exact ⟨k + 1, by omega, by go_num, by rw [HE.out], hb2⟩
              case measure => simp [intOf]; omega
          · have E : (drF xs y (k + 1)).length = (drF xs y k).length := by rw [hst, if_neg (by rw [hlv, if_neg (by omega)]; omega)]
            have HE := Lib.hid E
            generalize (drF xs y k).length = n at *
            clear E hst hlv
            go_wp2
            go_roundw
            case rel => exact ⟨k + 1, by omega, by go_num, by rw [HE.out], hb2⟩
            case measure => simp [intOf]; omega
        · have hk' : k = 8 := by omega
          subst hk'
          have KO2 := Lib.hid (own_base (own_below KO.out hb2) hb1.size)
          have hbw2 := hbw.trans (hb2.mono hbw.size)
          go_wp2
          refine bodyPost_ret (v := .tuple #[.slice ao L.length cq, .bool (decide (L.length < (drF xs y 8).length)), .int .i64 0]) (by simp [results, Try.results32, go_sem]) rfl ⟨_, by rw [HLn.out], by rw [← HLn.out]; exact KO2.out, hbw2⟩
end Go.Proofs.Ytcgigpglpbhakaa
