/- The law TapePrint answers true for every input. Conditions: what was pressed lies in memory; the library's variables hold what they were laid with. -/
import Derived.Test.YtlhjoclclbhjgaaDoorTaped
import Derived.Test.YtlhjoclclbhjgaaDoorRefIn
namespace Go.Proofs.YtlhjoclclbhjgaaDoor.tapePrint
open Go.RowKit Go.Mq
set_option linter.unusedVariables false
set_option linter.unusedSimpArgs false
set_option maxHeartbeats 2000000
set_option maxRecDepth 100000
theorem walk (v : Value) (xs : List Inp) (a : Int) (s : ByteArray) (w : World) (h : InpsAt w v xs) (ha : U8 a) (hL : Lk w) :
    Calls Tryd.prog 3 #[v, .int .u8 a, .string s] w fun e w' => e = .returned (.bool true) ∧ Below w.heap.size w w' := by
  have OF := Lib.hid (of_any s)
  have LO := Lib.hid (lawof_any s)
  have TP := Lib.hid taped_any
  have BB := Lib.hid (buttons_any a ha)
  have LB := Lib.hid (lawbuttons_any a ha)
  have HL := Lib.hid hL
  have H := Lib.hid h
  have CI := Lib.hid (fun W (hb : Below w.heap.size w W) => refinputs_any v xs 0 W (h.below hb) (by unfold I64; omega))
  clear hL h
  by_cases hz : chkI xs 0 = 0
  · have PR := Lib.hid (print_yes v xs w HL.out H.out hz)
    rw [hz] at CI
    have hlen : xs.length ≤ 40 := by unfold chkI at hz; split at hz <;> omega
    have HLN := Lib.hid hlen
    clear hz
    obtain ⟨ad, cap, rfl, h1, h2, h4, h5⟩ := H.out
    have H5 := Lib.hid h5
    have H4 := Lib.hid h4
    clear h4 h5 H
    cases hq : ofBtn s.data.toList with
    | none =>
      rw [show ofRes s.data.toList = .tuple #[.int .u8 0, .int .i64 1] by rw [ofRes, hq]] at OF
      rw [show lawOf s.data.toList = .tuple #[.int .u8 0, .bool false] by rw [lawOf, hq]] at LO
      clear hq
      go_enter Tryd.func3, Tryd.ntmps3
      go_wp2_with fail
      refine (PR.out).mono ?_
      rintro e w1 ⟨rfl, hb1⟩
      go_wp2_with fail
      refine (OF.out w1).mono ?_
      rintro e w2 ⟨rfl, hb2⟩
      go_wp2_with fail
      refine (LO.out w2).mono ?_
      rintro e w3 ⟨rfl, hb3⟩
      have hbb3 : Below w.heap.size w w3 := below_then (below_then hb1 hb2) hb3
      clear hb1 hb2 hb3
      go_wp2_with fail
      refine (TP.out w3 (HL.out.below hbb3)).mono ?_
      rintro e w4 ⟨rfl, hb4⟩
      go_wp2_with fail
      refine (BB.out w4).mono ?_
      rintro e w5 ⟨rfl, hb5⟩
      go_wp2_with fail
      refine (LB.out w5).mono ?_
      rintro e w6 ⟨rfl, hb6⟩
      have hbb6 : Below w.heap.size w w6 := below_then (below_then (below_then hbb3 hb4) hb5) hb6
      clear hbb3 hb4 hb5 hb6
      go_wp2_with fail
      refine (CI.out w6 hbb6).mono ?_
      rintro e w7 ⟨rfl, hb7⟩
      have hbb7 : Below w.heap.size w w7 := below_then hbb6 hb7
      clear hbb6 hb7
      go_wp2
      go_loopw [14, 78] (fun q i wr => ∃ k : Nat, k ≤ xs.length ∧ q = .string ⟨(printP (xs.take k)).toArray⟩ ∧ i = .int .i64 k ∧ Hid ((printP (xs.take k)).length ≤ k * 60) ∧ Below w.heap.size w wr) (fun _ i _ => xs.length - (intOf i).toNat)
      case atStart => exact ⟨0, by omega, rfl, rfl, Lib.hid (by simp [printP]), hbb7⟩
      case round =>
        obtain ⟨k, hk, rfl, rfl, hx, hb⟩ := hrel
        by_cases hkn : k < xs.length
        · obtain ⟨b, off, rfl, hbl, hc⟩ := H5.out (by omega)
          have hck := hc k hkn
          obtain ⟨c0, c1, c2⟩ := hck
          replace c0 := (hb.cell (p := ⟨b, _, none⟩) hbl).trans c0
          replace c1 := (hb.cell (p := ⟨b, _, none⟩) hbl).trans c1
          replace c2 := (hb.cell (p := ⟨b, _, none⟩) hbl).trans c2
          have hki : (k : Int) < xs.length := by omega
          have PT := Lib.hid (printP_take hkn)
          have OK := Lib.hid (H4.out (xs.getD k Inp0) (by rw [List.getD_eq_getElem?_getD, List.getElem?_eq_getElem hkn]; exact List.getElem_mem hkn))
          obtain ⟨y, ey⟩ : ∃ y, y = xs.getD k Inp0 := ⟨_, rfl⟩
          rw [← ey] at c0 c1 c2 OK PT
          replace ey := Lib.hid ey
          clear hc
          go_wp2
          refine wp_mark (R := fun W => Below w.heap.size w W ∧ Hid (Blk W (wr.heap.size) (#[.int .i64 y.ck, .int .i64 y.pd, .int .u8 y.dn]) 34)) ⟨by repeat' (first | (with_reducible first | exact Below.refl _ _ | assumption | refine below_alloc ?_ _ | refine Below.drew ?_ | refine Go.Mq.below_drewN ?_ _ | refine below_then ?_ (by assumption) | refine below_put ?_ (by assumption) (by first | (simp; done) | (simp; omega) | omega) | refine Below.setCell ?_ ?_ _) | (simp; done) | (simp; omega) | omega), Lib.hid (by repeat' (first | (with_reducible first | exact Hid.out (by assumption) | exact Blk.new _ _ _ | (refine Blk.new_at _ _ _ _ ?_; simp; done) | refine Blk.alloc ?_ _ | refine Blk.drewN ?_ _ | refine Blk.drew ?_ | apply Blk.set | refine Blk.put ?_ (by assumption) (by first | (simp; done) | (simp; omega) | omega) | refine Blk.below ?_ (by assumption)) | (refine Blk.setAt ?_ (by first | (simp; done) | (simp; omega))) | rfl))⟩ ?_
          rintro w8 ⟨hbw8, Kw8_0⟩
          obtain ⟨lw8_0, cw8_0, fw8_0⟩ := Kw8_0.out.use
          have HL8 := Lib.hid (HL.out.below hbw8.drew)
          have K8 := Lib.hid Kw8_0.out.drew
          have LS := Lib.hid (line_str y)
          have l1 := Lib.itoa_length_le y.ck OK.out.1.1 OK.out.1.2
          have l2 := Lib.itoa_length_le y.pd OK.out.2.1.1 OK.out.2.1.2
          have l3 : (btn y.dn.toNat).length = 8 := by simp [btn]
          have l4 : (printP (xs.take k)).length ≤ 2400 := by have := hx.out; have := HLN.out; omega
          have LN : Hid ((lineP y).length ≤ 60) := Lib.hid (by
            simp only [lineP, List.length_append, List.length_cons, List.length_nil, btn, List.length_map, List.length_range]
            omega)
          obtain ⟨M, hM⟩ : ∃ M : List UInt8, M = printP (xs.take k) := ⟨_, rfl⟩
          rw [← hM] at l4
          have n1 : ¬ (9223372036854775807 < (Lib.itoa y.ck).length + 1) := by omega
          have n2 : ¬ (9223372036854775807 < (Lib.itoa y.ck).length + 1 + (Lib.itoa y.pd).length) := by omega
          have n3 : ¬ (9223372036854775807 < (Lib.itoa y.ck).length + 1 + (Lib.itoa y.pd).length + 1) := by omega
          have n4 : ¬ (9223372036854775807 < (Lib.itoa y.ck).length + 1 + (Lib.itoa y.pd).length + 1 + 8) := by omega
          have n5 : ¬ (9223372036854775807 < (Lib.itoa y.ck).length + 1 + (Lib.itoa y.pd).length + 1 + 8 + 1) := by omega
          have n6 : ¬ (9223372036854775807 < M.length + ((Lib.itoa y.ck).length + 1 + (Lib.itoa y.pd).length + 1 + 8 + 1)) := by omega
          rw [← hM]
          have HM := Lib.hid hM
          clear hM
          refine wp_region_F (fun k W => (k = 2 → W.cell? ⟨wr.heap.size, 0, none⟩ = some (.int .i64 y.ck)) ∧ (k = 6 → W.cell? ⟨wr.heap.size, 1, none⟩ = some (.int .i64 y.pd)) ∧ (k = 11 → W.cell? ⟨wr.heap.size, 2, none⟩ = some (.int .u8 y.dn))) [0, 1, 2, 4, 5, 6, 8, 9, 10, 11, 13, 14, 15, 16] (by kernel_rfl) ?_
          refine wpAnyF_take (i := 0) (v := ?v0_1) rfl (by kernel_rfl) (by kernel_rfl) (by kernel_rfl) (by kernel_rfl) (fun _ _ _ h => h) (Or.inl ⟨by rfl, ?y0_1⟩) ⟨(fun h => absurd h (by decide)), (fun h => absurd h (by decide)), (fun h => absurd h (by decide))⟩ ?_
          case y0_1 => (intro w hF; clear hF; go_simp; try with_reducible rfl)
          try simp only [List.getElem_toArray, List.getElem_cons_succ, List.getElem_cons_zero, Act.put, List.setIfInBounds_toArray, List.set_cons_zero, List.set_cons_succ]
          refine wpAnyF_take (i := 1) (v := ?v1_1) rfl (by kernel_rfl) (by kernel_rfl) (by kernel_rfl) (by kernel_rfl) (fun _ _ _ h => h) (Or.inl ⟨by rfl, ?y1_1⟩) ⟨(fun h => absurd h (by decide)), (fun h => absurd h (by decide)), (fun h => absurd h (by decide))⟩ ?_
          case y1_1 => (intro w hF; clear hF; go_simp; try with_reducible rfl)
          try simp only [List.getElem_toArray, List.getElem_cons_succ, List.getElem_cons_zero, Act.put, List.setIfInBounds_toArray, List.set_cons_zero, List.set_cons_succ]
          refine wpAnyF_take (i := 2) (v := ?v2_1) rfl (by kernel_rfl) (by kernel_rfl) (by kernel_rfl) (by kernel_rfl) (fun _ _ _ h => h) (Or.inl ⟨by rfl, ?y2_1⟩) ⟨(fun _ => K8.out.cell 0), (fun h => absurd h (by decide)), (fun h => absurd h (by decide))⟩ ?_
          case y2_1 => (intro w hF; have hF2 := hF.1 rfl; clear hF; go_simp; try with_reducible rfl)
          try simp only [List.getElem_toArray, List.getElem_cons_succ, List.getElem_cons_zero, Act.put, List.setIfInBounds_toArray, List.set_cons_zero, List.set_cons_succ]
          refine wpAnyF_take (i := 5) (v := ?v5_1) rfl (by kernel_rfl) (by kernel_rfl) (by kernel_rfl) (by kernel_rfl) (fun _ _ _ h => h) (Or.inl ⟨by rfl, ?y5_1⟩) ⟨(fun h => absurd h (by decide)), (fun h => absurd h (by decide)), (fun h => absurd h (by decide))⟩ ?_
          case y5_1 => (intro w hF; clear hF; go_simp; try with_reducible rfl)
          try simp only [List.getElem_toArray, List.getElem_cons_succ, List.getElem_cons_zero, Act.put, List.setIfInBounds_toArray, List.set_cons_zero, List.set_cons_succ]
          refine wpAnyF_take (i := 6) (v := ?v6_1) rfl (by kernel_rfl) (by kernel_rfl) (by kernel_rfl) (by kernel_rfl) (fun _ _ _ h => h) (Or.inl ⟨by rfl, ?y6_1⟩) ⟨(fun h => absurd h (by decide)), (fun _ => K8.out.cell 1), (fun h => absurd h (by decide))⟩ ?_
          case y6_1 => (intro w hF; have hF2 := hF.2.1 rfl; clear hF; go_simp; try with_reducible rfl)
          try simp only [List.getElem_toArray, List.getElem_cons_succ, List.getElem_cons_zero, Act.put, List.setIfInBounds_toArray, List.set_cons_zero, List.set_cons_succ]
          refine wpAnyF_take (i := 10) (v := ?v10_1) rfl (by kernel_rfl) (by kernel_rfl) (by kernel_rfl) (by kernel_rfl) (fun _ _ _ h => h) (Or.inl ⟨by rfl, ?y10_1⟩) ⟨(fun h => absurd h (by decide)), (fun h => absurd h (by decide)), (fun h => absurd h (by decide))⟩ ?_
          case y10_1 => (intro w hF; clear hF; go_simp; try with_reducible rfl)
          try simp only [List.getElem_toArray, List.getElem_cons_succ, List.getElem_cons_zero, Act.put, List.setIfInBounds_toArray, List.set_cons_zero, List.set_cons_succ]
          refine wpAnyF_take (i := 11) (v := ?v11_1) rfl (by kernel_rfl) (by kernel_rfl) (by kernel_rfl) (by kernel_rfl) (fun _ _ _ h => h) (Or.inl ⟨by rfl, ?y11_1⟩) ⟨(fun h => absurd h (by decide)), (fun h => absurd h (by decide)), (fun _ => K8.out.cell 2)⟩ ?_
          case y11_1 => (intro w hF; have hF2 := hF.2.2 rfl; clear hF; go_simp; try with_reducible rfl)
          try simp only [List.getElem_toArray, List.getElem_cons_succ, List.getElem_cons_zero, Act.put, List.setIfInBounds_toArray, List.set_cons_zero, List.set_cons_succ]
          refine wpAnyF_ready (rs := [3]) (by kernel_rfl) (by simp) (AllReadyF.cons rfl (fun K hK => ?_) AllReadyF.nil)
          go_simp
          refine (itoa_any y.ck OK.out.1 _ HL8.out).mono ?_
          rintro e w9 ⟨rfl, hb9⟩
          try go_wp2_with fail
          refine hK.out _ _ (Sat.all (by kernel_rfl) (fun k => ⟨(fun _ => (K8.out.below hb9).cell 0), (fun _ => (K8.out.below hb9).cell 1), (fun _ => (K8.out.below hb9).cell 2)⟩)) ?_
          clear hK K
          try simp only [List.getElem_toArray, List.getElem_cons_succ, List.getElem_cons_zero, Act.put, List.setIfInBounds_toArray, List.set_cons_zero, List.set_cons_succ]
          have K9 := Lib.hid (K8.out.below hb9)
          refine wpAnyF_take (i := 4) (v := ?v4_1) rfl (by kernel_rfl) (by kernel_rfl) (by kernel_rfl) (by kernel_rfl) (fun _ _ _ h => h) (Or.inl ⟨by rfl, ?y4_1⟩) ⟨(fun h => absurd h (by decide)), (fun h => absurd h (by decide)), (fun h => absurd h (by decide))⟩ ?_
          case y4_1 => (intro w hF; clear hF; go_simp; try with_reducible rfl)
          try simp only [List.getElem_toArray, List.getElem_cons_succ, List.getElem_cons_zero, Act.put, List.setIfInBounds_toArray, List.set_cons_zero, List.set_cons_succ]
          refine wpAnyF_ready (rs := [7]) (by kernel_rfl) (by simp) (AllReadyF.cons rfl (fun K hK => ?_) AllReadyF.nil)
          go_simp
          refine (itoa_any y.pd OK.out.2.1 _ (HL8.out.below hb9)).mono ?_
          rintro e w10 ⟨rfl, hb10⟩
          try go_wp2_with fail
          refine hK.out _ _ (Sat.all (by kernel_rfl) (fun k => ⟨(fun _ => (K9.out.below hb10).cell 0), (fun _ => (K9.out.below hb10).cell 1), (fun _ => (K9.out.below hb10).cell 2)⟩)) ?_
          clear hK K
          try simp only [List.getElem_toArray, List.getElem_cons_succ, List.getElem_cons_zero, Act.put, List.setIfInBounds_toArray, List.set_cons_zero, List.set_cons_succ]
          have K10 := Lib.hid (K9.out.below hb10)
          refine wpAnyF_take (i := 8) (v := ?v8_1) rfl (by kernel_rfl) (by kernel_rfl) (by kernel_rfl) (by kernel_rfl) (fun _ _ _ h => h) (Or.inl ⟨by rfl, ?y8_1⟩) ⟨(fun h => absurd h (by decide)), (fun h => absurd h (by decide)), (fun h => absurd h (by decide))⟩ ?_
          case y8_1 => (intro w hF; clear hF; go_simp; try with_reducible rfl)
          try simp only [List.getElem_toArray, List.getElem_cons_succ, List.getElem_cons_zero, Act.put, List.setIfInBounds_toArray, List.set_cons_zero, List.set_cons_succ]
          refine wpAnyF_take (i := 9) (v := ?v9_1) rfl (by kernel_rfl) (by kernel_rfl) (by kernel_rfl) (by kernel_rfl) (fun _ _ _ h => h) (Or.inl ⟨by rfl, ?y9_1⟩) ⟨(fun h => absurd h (by decide)), (fun h => absurd h (by decide)), (fun h => absurd h (by decide))⟩ ?_
          case y9_1 => (intro w hF; clear hF; go_simp; try with_reducible rfl)
          try simp only [List.getElem_toArray, List.getElem_cons_succ, List.getElem_cons_zero, Act.put, List.setIfInBounds_toArray, List.set_cons_zero, List.set_cons_succ]
          refine wpAnyF_ready (rs := [12]) (by kernel_rfl) (by simp) (AllReadyF.cons rfl (fun K hK => ?_) AllReadyF.nil)
          go_simp
          refine (lawbuttons_any y.dn OK.out.2.2 w10).mono ?_
          rintro e w11 ⟨rfl, hb11⟩
          try go_wp2_with fail
          refine hK.out _ _ (Sat.all (by kernel_rfl) (fun k => ⟨(fun _ => (K10.out.below hb11).cell 0), (fun _ => (K10.out.below hb11).cell 1), (fun _ => (K10.out.below hb11).cell 2)⟩)) ?_
          clear hK K
          try simp only [List.getElem_toArray, List.getElem_cons_succ, List.getElem_cons_zero, Act.put, List.setIfInBounds_toArray, List.set_cons_zero, List.set_cons_succ]
          refine wpAnyF_take (i := 13) (v := ?v13_1) rfl (by kernel_rfl) (by kernel_rfl) (by kernel_rfl) (by kernel_rfl) (fun _ _ _ h => h) (Or.inl ⟨by rfl, ?y13_1⟩) ⟨(fun h => absurd h (by decide)), (fun h => absurd h (by decide)), (fun h => absurd h (by decide))⟩ ?_
          case y13_1 => (intro w hF; clear hF; go_simp; try with_reducible rfl)
          try simp only [List.getElem_toArray, List.getElem_cons_succ, List.getElem_cons_zero, Act.put, List.setIfInBounds_toArray, List.set_cons_zero, List.set_cons_succ]
          refine wpAnyF_take (i := 14) (v := ?v14_1) rfl (by kernel_rfl) (by kernel_rfl) (by kernel_rfl) (by kernel_rfl) (fun _ _ _ h => h) (Or.inl ⟨by rfl, ?y14_1⟩) ⟨(fun h => absurd h (by decide)), (fun h => absurd h (by decide)), (fun h => absurd h (by decide))⟩ ?_
          case y14_1 => (intro w hF; clear hF; go_simp; try with_reducible rfl)
          try simp only [List.getElem_toArray, List.getElem_cons_succ, List.getElem_cons_zero, Act.put, List.setIfInBounds_toArray, List.set_cons_zero, List.set_cons_succ]
          refine wpAnyF_take (i := 15) (v := ?v15_1) rfl (by kernel_rfl) (by kernel_rfl) (by kernel_rfl) (by kernel_rfl) (fun _ _ _ h => h) (Or.inl ⟨by rfl, ?y15_1⟩) ⟨(fun h => absurd h (by decide)), (fun h => absurd h (by decide)), (fun h => absurd h (by decide))⟩ ?_
          case y15_1 => (intro w hF; clear hF; go_simp; try with_reducible rfl)
          try simp only [List.getElem_toArray, List.getElem_cons_succ, List.getElem_cons_zero, Act.put, List.setIfInBounds_toArray, List.set_cons_zero, List.set_cons_succ]
          refine wpAnyF_take (i := 16) (v := ?v16_1) rfl (by kernel_rfl) (by kernel_rfl) (by kernel_rfl) (by kernel_rfl) (fun _ _ _ h => h) (Or.inl ⟨by rfl, ?y16_1⟩) ⟨(fun h => absurd h (by decide)), (fun h => absurd h (by decide)), (fun h => absurd h (by decide))⟩ ?_
          case y16_1 => (intro w hF; clear hF; go_simp; try with_reducible rfl)
          try simp only [List.getElem_toArray, List.getElem_cons_succ, List.getElem_cons_zero, Act.put, List.setIfInBounds_toArray, List.set_cons_zero, List.set_cons_succ]
          refine wpAnyF_done (by kernel_rfl) ?_ _
          have hb12 : Below w.heap.size w w11 := below_then (below_then (below_then hbw8.drew hb9) hb10) hb11
          clear n1 n2 n3 n4 n5 n6
          go_wp2
          go_roundw
          case rel => exact ⟨k + 1, by omega, by rw [PT.out, LS.out, HM.out, str_app], by go_num, Lib.hid (by rw [PT.out, List.length_append]; have := hx.out; have := LN.out; omega), hb12⟩
          case measure => simp [intOf]; omega
        · have hk' : k = xs.length := by omega
          subst hk'
          have TL := Lib.hid (List.take_length (l := xs))
          rw [TL.out]
          go_wp2
          go_ret
          exact ⟨rfl, hb⟩
    | some d =>
      rw [show ofRes s.data.toList = .tuple #[.int .u8 d, .int .i64 0] by rw [ofRes, hq]] at OF
      rw [show lawOf s.data.toList = .tuple #[.int .u8 d, .bool true] by rw [lawOf, hq]] at LO
      clear hq
      go_enter Tryd.func3, Tryd.ntmps3
      go_wp2_with fail
      refine (PR.out).mono ?_
      rintro e w1 ⟨rfl, hb1⟩
      go_wp2_with fail
      refine (OF.out w1).mono ?_
      rintro e w2 ⟨rfl, hb2⟩
      go_wp2_with fail
      refine (LO.out w2).mono ?_
      rintro e w3 ⟨rfl, hb3⟩
      have hbb3 : Below w.heap.size w w3 := below_then (below_then hb1 hb2) hb3
      clear hb1 hb2 hb3
      go_wp2_with fail
      refine (TP.out w3 (HL.out.below hbb3)).mono ?_
      rintro e w4 ⟨rfl, hb4⟩
      go_wp2_with fail
      refine (BB.out w4).mono ?_
      rintro e w5 ⟨rfl, hb5⟩
      go_wp2_with fail
      refine (LB.out w5).mono ?_
      rintro e w6 ⟨rfl, hb6⟩
      have hbb6 : Below w.heap.size w w6 := below_then (below_then (below_then hbb3 hb4) hb5) hb6
      clear hbb3 hb4 hb5 hb6
      go_wp2_with fail
      refine (CI.out w6 hbb6).mono ?_
      rintro e w7 ⟨rfl, hb7⟩
      have hbb7 : Below w.heap.size w w7 := below_then hbb6 hb7
      clear hbb6 hb7
      go_wp2
      go_loopw [14, 78] (fun q i wr => ∃ k : Nat, k ≤ xs.length ∧ q = .string ⟨(printP (xs.take k)).toArray⟩ ∧ i = .int .i64 k ∧ Hid ((printP (xs.take k)).length ≤ k * 60) ∧ Below w.heap.size w wr) (fun _ i _ => xs.length - (intOf i).toNat)
      case atStart => exact ⟨0, by omega, rfl, rfl, Lib.hid (by simp [printP]), hbb7⟩
      case round =>
        obtain ⟨k, hk, rfl, rfl, hx, hb⟩ := hrel
        by_cases hkn : k < xs.length
        · obtain ⟨b, off, rfl, hbl, hc⟩ := H5.out (by omega)
          have hck := hc k hkn
          obtain ⟨c0, c1, c2⟩ := hck
          replace c0 := (hb.cell (p := ⟨b, _, none⟩) hbl).trans c0
          replace c1 := (hb.cell (p := ⟨b, _, none⟩) hbl).trans c1
          replace c2 := (hb.cell (p := ⟨b, _, none⟩) hbl).trans c2
          have hki : (k : Int) < xs.length := by omega
          have PT := Lib.hid (printP_take hkn)
          have OK := Lib.hid (H4.out (xs.getD k Inp0) (by rw [List.getD_eq_getElem?_getD, List.getElem?_eq_getElem hkn]; exact List.getElem_mem hkn))
          obtain ⟨y, ey⟩ : ∃ y, y = xs.getD k Inp0 := ⟨_, rfl⟩
          rw [← ey] at c0 c1 c2 OK PT
          replace ey := Lib.hid ey
          clear hc
          go_wp2
          refine wp_mark (R := fun W => Below w.heap.size w W ∧ Hid (Blk W (wr.heap.size) (#[.int .i64 y.ck, .int .i64 y.pd, .int .u8 y.dn]) 34)) ⟨by repeat' (first | (with_reducible first | exact Below.refl _ _ | assumption | refine below_alloc ?_ _ | refine Below.drew ?_ | refine Go.Mq.below_drewN ?_ _ | refine below_then ?_ (by assumption) | refine below_put ?_ (by assumption) (by first | (simp; done) | (simp; omega) | omega) | refine Below.setCell ?_ ?_ _) | (simp; done) | (simp; omega) | omega), Lib.hid (by repeat' (first | (with_reducible first | exact Hid.out (by assumption) | exact Blk.new _ _ _ | (refine Blk.new_at _ _ _ _ ?_; simp; done) | refine Blk.alloc ?_ _ | refine Blk.drewN ?_ _ | refine Blk.drew ?_ | apply Blk.set | refine Blk.put ?_ (by assumption) (by first | (simp; done) | (simp; omega) | omega) | refine Blk.below ?_ (by assumption)) | (refine Blk.setAt ?_ (by first | (simp; done) | (simp; omega))) | rfl))⟩ ?_
          rintro w8 ⟨hbw8, Kw8_0⟩
          obtain ⟨lw8_0, cw8_0, fw8_0⟩ := Kw8_0.out.use
          have HL8 := Lib.hid (HL.out.below hbw8.drew)
          have K8 := Lib.hid Kw8_0.out.drew
          have LS := Lib.hid (line_str y)
          have l1 := Lib.itoa_length_le y.ck OK.out.1.1 OK.out.1.2
          have l2 := Lib.itoa_length_le y.pd OK.out.2.1.1 OK.out.2.1.2
          have l3 : (btn y.dn.toNat).length = 8 := by simp [btn]
          have l4 : (printP (xs.take k)).length ≤ 2400 := by have := hx.out; have := HLN.out; omega
          have LN : Hid ((lineP y).length ≤ 60) := Lib.hid (by
            simp only [lineP, List.length_append, List.length_cons, List.length_nil, btn, List.length_map, List.length_range]
            omega)
          obtain ⟨M, hM⟩ : ∃ M : List UInt8, M = printP (xs.take k) := ⟨_, rfl⟩
          rw [← hM] at l4
          have n1 : ¬ (9223372036854775807 < (Lib.itoa y.ck).length + 1) := by omega
          have n2 : ¬ (9223372036854775807 < (Lib.itoa y.ck).length + 1 + (Lib.itoa y.pd).length) := by omega
          have n3 : ¬ (9223372036854775807 < (Lib.itoa y.ck).length + 1 + (Lib.itoa y.pd).length + 1) := by omega
          have n4 : ¬ (9223372036854775807 < (Lib.itoa y.ck).length + 1 + (Lib.itoa y.pd).length + 1 + 8) := by omega
          have n5 : ¬ (9223372036854775807 < (Lib.itoa y.ck).length + 1 + (Lib.itoa y.pd).length + 1 + 8 + 1) := by omega
          have n6 : ¬ (9223372036854775807 < M.length + ((Lib.itoa y.ck).length + 1 + (Lib.itoa y.pd).length + 1 + 8 + 1)) := by omega
          rw [← hM]
          have HM := Lib.hid hM
          clear hM
          refine wp_region_F (fun k W => (k = 2 → W.cell? ⟨wr.heap.size, 0, none⟩ = some (.int .i64 y.ck)) ∧ (k = 6 → W.cell? ⟨wr.heap.size, 1, none⟩ = some (.int .i64 y.pd)) ∧ (k = 11 → W.cell? ⟨wr.heap.size, 2, none⟩ = some (.int .u8 y.dn))) [0, 1, 2, 4, 5, 6, 8, 9, 10, 11, 13, 14, 15, 16] (by kernel_rfl) ?_
          refine wpAnyF_take (i := 0) (v := ?v0_2) rfl (by kernel_rfl) (by kernel_rfl) (by kernel_rfl) (by kernel_rfl) (fun _ _ _ h => h) (Or.inl ⟨by rfl, ?y0_2⟩) ⟨(fun h => absurd h (by decide)), (fun h => absurd h (by decide)), (fun h => absurd h (by decide))⟩ ?_
          case y0_2 => (intro w hF; clear hF; go_simp; try with_reducible rfl)
          try simp only [List.getElem_toArray, List.getElem_cons_succ, List.getElem_cons_zero, Act.put, List.setIfInBounds_toArray, List.set_cons_zero, List.set_cons_succ]
          refine wpAnyF_take (i := 1) (v := ?v1_2) rfl (by kernel_rfl) (by kernel_rfl) (by kernel_rfl) (by kernel_rfl) (fun _ _ _ h => h) (Or.inl ⟨by rfl, ?y1_2⟩) ⟨(fun h => absurd h (by decide)), (fun h => absurd h (by decide)), (fun h => absurd h (by decide))⟩ ?_
          case y1_2 => (intro w hF; clear hF; go_simp; try with_reducible rfl)
          try simp only [List.getElem_toArray, List.getElem_cons_succ, List.getElem_cons_zero, Act.put, List.setIfInBounds_toArray, List.set_cons_zero, List.set_cons_succ]
          refine wpAnyF_take (i := 2) (v := ?v2_2) rfl (by kernel_rfl) (by kernel_rfl) (by kernel_rfl) (by kernel_rfl) (fun _ _ _ h => h) (Or.inl ⟨by rfl, ?y2_2⟩) ⟨(fun _ => K8.out.cell 0), (fun h => absurd h (by decide)), (fun h => absurd h (by decide))⟩ ?_
          case y2_2 => (intro w hF; have hF2 := hF.1 rfl; clear hF; go_simp; try with_reducible rfl)
          try simp only [List.getElem_toArray, List.getElem_cons_succ, List.getElem_cons_zero, Act.put, List.setIfInBounds_toArray, List.set_cons_zero, List.set_cons_succ]
          refine wpAnyF_take (i := 5) (v := ?v5_2) rfl (by kernel_rfl) (by kernel_rfl) (by kernel_rfl) (by kernel_rfl) (fun _ _ _ h => h) (Or.inl ⟨by rfl, ?y5_2⟩) ⟨(fun h => absurd h (by decide)), (fun h => absurd h (by decide)), (fun h => absurd h (by decide))⟩ ?_
          case y5_2 => (intro w hF; clear hF; go_simp; try with_reducible rfl)
          try simp only [List.getElem_toArray, List.getElem_cons_succ, List.getElem_cons_zero, Act.put, List.setIfInBounds_toArray, List.set_cons_zero, List.set_cons_succ]
          refine wpAnyF_take (i := 6) (v := ?v6_2) rfl (by kernel_rfl) (by kernel_rfl) (by kernel_rfl) (by kernel_rfl) (fun _ _ _ h => h) (Or.inl ⟨by rfl, ?y6_2⟩) ⟨(fun h => absurd h (by decide)), (fun _ => K8.out.cell 1), (fun h => absurd h (by decide))⟩ ?_
          case y6_2 => (intro w hF; have hF2 := hF.2.1 rfl; clear hF; go_simp; try with_reducible rfl)
          try simp only [List.getElem_toArray, List.getElem_cons_succ, List.getElem_cons_zero, Act.put, List.setIfInBounds_toArray, List.set_cons_zero, List.set_cons_succ]
          refine wpAnyF_take (i := 10) (v := ?v10_2) rfl (by kernel_rfl) (by kernel_rfl) (by kernel_rfl) (by kernel_rfl) (fun _ _ _ h => h) (Or.inl ⟨by rfl, ?y10_2⟩) ⟨(fun h => absurd h (by decide)), (fun h => absurd h (by decide)), (fun h => absurd h (by decide))⟩ ?_
          case y10_2 => (intro w hF; clear hF; go_simp; try with_reducible rfl)
          try simp only [List.getElem_toArray, List.getElem_cons_succ, List.getElem_cons_zero, Act.put, List.setIfInBounds_toArray, List.set_cons_zero, List.set_cons_succ]
          refine wpAnyF_take (i := 11) (v := ?v11_2) rfl (by kernel_rfl) (by kernel_rfl) (by kernel_rfl) (by kernel_rfl) (fun _ _ _ h => h) (Or.inl ⟨by rfl, ?y11_2⟩) ⟨(fun h => absurd h (by decide)), (fun h => absurd h (by decide)), (fun _ => K8.out.cell 2)⟩ ?_
          case y11_2 => (intro w hF; have hF2 := hF.2.2 rfl; clear hF; go_simp; try with_reducible rfl)
          try simp only [List.getElem_toArray, List.getElem_cons_succ, List.getElem_cons_zero, Act.put, List.setIfInBounds_toArray, List.set_cons_zero, List.set_cons_succ]
          refine wpAnyF_ready (rs := [3]) (by kernel_rfl) (by simp) (AllReadyF.cons rfl (fun K hK => ?_) AllReadyF.nil)
          go_simp
          refine (itoa_any y.ck OK.out.1 _ HL8.out).mono ?_
          rintro e w9 ⟨rfl, hb9⟩
          try go_wp2_with fail
          refine hK.out _ _ (Sat.all (by kernel_rfl) (fun k => ⟨(fun _ => (K8.out.below hb9).cell 0), (fun _ => (K8.out.below hb9).cell 1), (fun _ => (K8.out.below hb9).cell 2)⟩)) ?_
          clear hK K
          try simp only [List.getElem_toArray, List.getElem_cons_succ, List.getElem_cons_zero, Act.put, List.setIfInBounds_toArray, List.set_cons_zero, List.set_cons_succ]
          have K9 := Lib.hid (K8.out.below hb9)
          refine wpAnyF_take (i := 4) (v := ?v4_2) rfl (by kernel_rfl) (by kernel_rfl) (by kernel_rfl) (by kernel_rfl) (fun _ _ _ h => h) (Or.inl ⟨by rfl, ?y4_2⟩) ⟨(fun h => absurd h (by decide)), (fun h => absurd h (by decide)), (fun h => absurd h (by decide))⟩ ?_
          case y4_2 => (intro w hF; clear hF; go_simp; try with_reducible rfl)
          try simp only [List.getElem_toArray, List.getElem_cons_succ, List.getElem_cons_zero, Act.put, List.setIfInBounds_toArray, List.set_cons_zero, List.set_cons_succ]
          refine wpAnyF_ready (rs := [7]) (by kernel_rfl) (by simp) (AllReadyF.cons rfl (fun K hK => ?_) AllReadyF.nil)
          go_simp
          refine (itoa_any y.pd OK.out.2.1 _ (HL8.out.below hb9)).mono ?_
          rintro e w10 ⟨rfl, hb10⟩
          try go_wp2_with fail
          refine hK.out _ _ (Sat.all (by kernel_rfl) (fun k => ⟨(fun _ => (K9.out.below hb10).cell 0), (fun _ => (K9.out.below hb10).cell 1), (fun _ => (K9.out.below hb10).cell 2)⟩)) ?_
          clear hK K
          try simp only [List.getElem_toArray, List.getElem_cons_succ, List.getElem_cons_zero, Act.put, List.setIfInBounds_toArray, List.set_cons_zero, List.set_cons_succ]
          have K10 := Lib.hid (K9.out.below hb10)
          refine wpAnyF_take (i := 8) (v := ?v8_2) rfl (by kernel_rfl) (by kernel_rfl) (by kernel_rfl) (by kernel_rfl) (fun _ _ _ h => h) (Or.inl ⟨by rfl, ?y8_2⟩) ⟨(fun h => absurd h (by decide)), (fun h => absurd h (by decide)), (fun h => absurd h (by decide))⟩ ?_
          case y8_2 => (intro w hF; clear hF; go_simp; try with_reducible rfl)
          try simp only [List.getElem_toArray, List.getElem_cons_succ, List.getElem_cons_zero, Act.put, List.setIfInBounds_toArray, List.set_cons_zero, List.set_cons_succ]
          refine wpAnyF_take (i := 9) (v := ?v9_2) rfl (by kernel_rfl) (by kernel_rfl) (by kernel_rfl) (by kernel_rfl) (fun _ _ _ h => h) (Or.inl ⟨by rfl, ?y9_2⟩) ⟨(fun h => absurd h (by decide)), (fun h => absurd h (by decide)), (fun h => absurd h (by decide))⟩ ?_
          case y9_2 => (intro w hF; clear hF; go_simp; try with_reducible rfl)
          try simp only [List.getElem_toArray, List.getElem_cons_succ, List.getElem_cons_zero, Act.put, List.setIfInBounds_toArray, List.set_cons_zero, List.set_cons_succ]
          refine wpAnyF_ready (rs := [12]) (by kernel_rfl) (by simp) (AllReadyF.cons rfl (fun K hK => ?_) AllReadyF.nil)
          go_simp
          refine (lawbuttons_any y.dn OK.out.2.2 w10).mono ?_
          rintro e w11 ⟨rfl, hb11⟩
          try go_wp2_with fail
          refine hK.out _ _ (Sat.all (by kernel_rfl) (fun k => ⟨(fun _ => (K10.out.below hb11).cell 0), (fun _ => (K10.out.below hb11).cell 1), (fun _ => (K10.out.below hb11).cell 2)⟩)) ?_
          clear hK K
          try simp only [List.getElem_toArray, List.getElem_cons_succ, List.getElem_cons_zero, Act.put, List.setIfInBounds_toArray, List.set_cons_zero, List.set_cons_succ]
          refine wpAnyF_take (i := 13) (v := ?v13_2) rfl (by kernel_rfl) (by kernel_rfl) (by kernel_rfl) (by kernel_rfl) (fun _ _ _ h => h) (Or.inl ⟨by rfl, ?y13_2⟩) ⟨(fun h => absurd h (by decide)), (fun h => absurd h (by decide)), (fun h => absurd h (by decide))⟩ ?_
          case y13_2 => (intro w hF; clear hF; go_simp; try with_reducible rfl)
          try simp only [List.getElem_toArray, List.getElem_cons_succ, List.getElem_cons_zero, Act.put, List.setIfInBounds_toArray, List.set_cons_zero, List.set_cons_succ]
          refine wpAnyF_take (i := 14) (v := ?v14_2) rfl (by kernel_rfl) (by kernel_rfl) (by kernel_rfl) (by kernel_rfl) (fun _ _ _ h => h) (Or.inl ⟨by rfl, ?y14_2⟩) ⟨(fun h => absurd h (by decide)), (fun h => absurd h (by decide)), (fun h => absurd h (by decide))⟩ ?_
          case y14_2 => (intro w hF; clear hF; go_simp; try with_reducible rfl)
          try simp only [List.getElem_toArray, List.getElem_cons_succ, List.getElem_cons_zero, Act.put, List.setIfInBounds_toArray, List.set_cons_zero, List.set_cons_succ]
          refine wpAnyF_take (i := 15) (v := ?v15_2) rfl (by kernel_rfl) (by kernel_rfl) (by kernel_rfl) (by kernel_rfl) (fun _ _ _ h => h) (Or.inl ⟨by rfl, ?y15_2⟩) ⟨(fun h => absurd h (by decide)), (fun h => absurd h (by decide)), (fun h => absurd h (by decide))⟩ ?_
          case y15_2 => (intro w hF; clear hF; go_simp; try with_reducible rfl)
          try simp only [List.getElem_toArray, List.getElem_cons_succ, List.getElem_cons_zero, Act.put, List.setIfInBounds_toArray, List.set_cons_zero, List.set_cons_succ]
          refine wpAnyF_take (i := 16) (v := ?v16_2) rfl (by kernel_rfl) (by kernel_rfl) (by kernel_rfl) (by kernel_rfl) (fun _ _ _ h => h) (Or.inl ⟨by rfl, ?y16_2⟩) ⟨(fun h => absurd h (by decide)), (fun h => absurd h (by decide)), (fun h => absurd h (by decide))⟩ ?_
          case y16_2 => (intro w hF; clear hF; go_simp; try with_reducible rfl)
          try simp only [List.getElem_toArray, List.getElem_cons_succ, List.getElem_cons_zero, Act.put, List.setIfInBounds_toArray, List.set_cons_zero, List.set_cons_succ]
          refine wpAnyF_done (by kernel_rfl) ?_ _
          have hb12 : Below w.heap.size w w11 := below_then (below_then (below_then hbw8.drew hb9) hb10) hb11
          clear n1 n2 n3 n4 n5 n6
          go_wp2
          go_roundw
          case rel => exact ⟨k + 1, by omega, by rw [PT.out, LS.out, HM.out, str_app], by go_num, Lib.hid (by rw [PT.out, List.length_append]; have := hx.out; have := LN.out; omega), hb12⟩
          case measure => simp [intOf]; omega
        · have hk' : k = xs.length := by omega
          subst hk'
          have TL := Lib.hid (List.take_length (l := xs))
          rw [TL.out]
          go_wp2
          go_ret
          exact ⟨rfl, hb⟩
  · have PR := Lib.hid (print_no v xs w H.out hz)
    have hz1 : (chkI xs 0 != 0) = true := by simpa using hz
    obtain ⟨Z, hZ⟩ : ∃ Z, Z = chkI xs 0 := ⟨_, rfl⟩
    rw [← hZ] at PR hz1 CI
    replace hZ := Lib.hid hZ
    clear hz
    cases hq : ofBtn s.data.toList with
    | none =>
      rw [show ofRes s.data.toList = .tuple #[.int .u8 0, .int .i64 1] by rw [ofRes, hq]] at OF
      rw [show lawOf s.data.toList = .tuple #[.int .u8 0, .bool false] by rw [lawOf, hq]] at LO
      clear hq
      go_enter Tryd.func3, Tryd.ntmps3
      go_wp2_with fail
      refine (PR.out).mono ?_
      rintro e w1 ⟨rfl, hb1⟩
      go_wp2_with fail
      refine (OF.out w1).mono ?_
      rintro e w2 ⟨rfl, hb2⟩
      go_wp2_with fail
      refine (LO.out w2).mono ?_
      rintro e w3 ⟨rfl, hb3⟩
      have hbb3 : Below w.heap.size w w3 := below_then (below_then hb1 hb2) hb3
      clear hb1 hb2 hb3
      go_wp2_with fail
      refine (TP.out w3 (HL.out.below hbb3)).mono ?_
      rintro e w4 ⟨rfl, hb4⟩
      go_wp2_with fail
      refine (BB.out w4).mono ?_
      rintro e w5 ⟨rfl, hb5⟩
      go_wp2_with fail
      refine (LB.out w5).mono ?_
      rintro e w6 ⟨rfl, hb6⟩
      have hbb6 : Below w.heap.size w w6 := below_then (below_then (below_then hbb3 hb4) hb5) hb6
      clear hbb3 hb4 hb5 hb6
      go_wp2_with fail
      refine (CI.out w6 hbb6).mono ?_
      rintro e w7 ⟨rfl, hb7⟩
      have hbb7 : Below w.heap.size w w7 := below_then hbb6 hb7
      clear hbb6 hb7
      go_wp2
      go_ret
      exact ⟨rfl, hbb7⟩
    | some d =>
      rw [show ofRes s.data.toList = .tuple #[.int .u8 d, .int .i64 0] by rw [ofRes, hq]] at OF
      rw [show lawOf s.data.toList = .tuple #[.int .u8 d, .bool true] by rw [lawOf, hq]] at LO
      clear hq
      go_enter Tryd.func3, Tryd.ntmps3
      go_wp2_with fail
      refine (PR.out).mono ?_
      rintro e w1 ⟨rfl, hb1⟩
      go_wp2_with fail
      refine (OF.out w1).mono ?_
      rintro e w2 ⟨rfl, hb2⟩
      go_wp2_with fail
      refine (LO.out w2).mono ?_
      rintro e w3 ⟨rfl, hb3⟩
      have hbb3 : Below w.heap.size w w3 := below_then (below_then hb1 hb2) hb3
      clear hb1 hb2 hb3
      go_wp2_with fail
      refine (TP.out w3 (HL.out.below hbb3)).mono ?_
      rintro e w4 ⟨rfl, hb4⟩
      go_wp2_with fail
      refine (BB.out w4).mono ?_
      rintro e w5 ⟨rfl, hb5⟩
      go_wp2_with fail
      refine (LB.out w5).mono ?_
      rintro e w6 ⟨rfl, hb6⟩
      have hbb6 : Below w.heap.size w w6 := below_then (below_then (below_then hbb3 hb4) hb5) hb6
      clear hbb3 hb4 hb5 hb6
      go_wp2_with fail
      refine (CI.out w6 hbb6).mono ?_
      rintro e w7 ⟨rfl, hb7⟩
      have hbb7 : Below w.heap.size w w7 := below_then hbb6 hb7
      clear hbb6 hb7
      go_wp2
      go_ret
      exact ⟨rfl, hbb7⟩
end Go.Proofs.YtlhjoclclbhjgaaDoor.tapePrint
