/- The program prints what was pressed. Conditions: it lies in memory; the library's variables hold what they were laid with. -/
import Derived.Test.YtlhjoclclbhjgaaDoorTapeOf
import Derived.Test.YtlhjoclclbhjgaaDoorLawBtn
import Derived.Test.YtlhjoclclbhjgaaDoorTurnIn
import Derived.Test.YtlhjoclclbhjgaaDoorLibS
import Derived.Test.YtlhjoclclbhjgaaDoorRegF
import Derived.Lib.ItoaLen
namespace Go.Mq
open Go.RowKit
theorem ownF_below {X Y : World} {base : Nat} {e : TypeId} {size : Nat} {v : Value} {n : Nat} {xs : List Value} (h : X.ownsRowF base e size v n xs) (hb : Below X.heap.size X Y) : Y.ownsRowF base e size v n xs := by
  refine ⟨h.1, ?_⟩
  rcases h.2 with hn | ⟨g, cap, cur, fz, rfl, hbg, hgg, rest⟩
  · exact .inl hn
  · exact .inr ⟨g, cap, cur, fz, rfl, hbg, by rw [hb.block g (Array.getElem?_eq_some_iff.1 hgg).1]; exact hgg, rest⟩
theorem isb_below {T e : TypeId} {B b : Nat} {bs : List Value} {w w' : World} (h : Lib.IsBuilderF T e B b bs w) (hb : Below w.heap.size w w') : Lib.IsBuilderF T e B b bs w' := by
  rcases h with ⟨h1, v, h2, h3, h4⟩ | ⟨h1, v, h2, h3, h4⟩
  · exact .inl ⟨h1, v, (hb.block b (Array.getElem?_eq_some_iff.1 h2).1).trans h2, ownF_below h3 hb, h4⟩
  · exact .inr ⟨h1, v, (hb.block b (Array.getElem?_eq_some_iff.1 h2).1).trans h2, ownF_below h3 hb, h4⟩
theorem Blk.othersKept {e t : TypeId} {b g : Nat} {w w' : World} {cs : Array Value} (h : Blk w g cs t) (hk : Lib.OthersKept e (some b) w w') (hg : g ≠ b) (ht : t ≠ e) : Blk w' g cs t :=
  hk g _ h (fun q => hg (Option.some.inj q)) (fun c fz q => ht (by injection q))
theorem strCells_eq (l : List UInt8) : Lib.strCells ⟨l.toArray⟩ = Lib.byteCells l := by simp [Lib.strCells, Lib.byteCells]
theorem printP_take {xs : List Inp} {k : Nat} (h : k < xs.length) : printP (xs.take (k + 1)) = printP (xs.take k) ++ lineP (xs.getD k Inp0) := by
  rw [List.take_add_one, List.getElem?_eq_getElem h, List.getD_eq_getElem?_getD, List.getElem?_eq_getElem h]
  unfold printP
  rw [List.flatMap_append]
  simp only [Option.toList_some, List.flatMap_cons, List.flatMap_nil, List.append_nil, Option.getD_some]
end Go.Mq
namespace Go.Proofs.YtlhjoclclbhjgaaDoor
open Go.RowKit Go.Mq
set_option linter.unusedVariables false
set_option linter.unusedSimpArgs false
set_option maxHeartbeats 1000000
set_option maxRecDepth 100000
theorem line_str (y : Inp) : (⟨(Lib.itoa y.ck).toArray⟩ : ByteArray) ++ ⟨#[32]⟩ ++ ⟨(Lib.itoa y.pd).toArray⟩ ++ ⟨#[32]⟩ ++ ⟨(btn y.dn.toNat).toArray⟩ ++ ⟨#[10]⟩ = ⟨(lineP y).toArray⟩ := by
  have e32 : (⟨#[32]⟩ : ByteArray) = ⟨([32] : List UInt8).toArray⟩ := rfl
  have e10 : (⟨#[10]⟩ : ByteArray) = ⟨([10] : List UInt8).toArray⟩ := rfl
  rw [e32, e10, str_app, str_app, str_app, str_app, str_app]
  rfl
theorem print_no (v : Value) (xs : List Inp) (w : World) (h : InpsAt w v xs) (hz : chkI xs 0 ≠ 0) :
    Calls Tryd.prog 13 #[v] w fun e w' => e = .returned (.tuple #[.string ⟨#[]⟩, .int .i64 (chkI xs 0)]) ∧ Below w.heap.size w w' := by
  have hz' : (chkI xs 0 != 0) = true := by simpa using hz
  have CI := Lib.hid (inputs_any v xs 0 w h (by unfold I64; omega))
  clear h hz
  go_enter Tryd.func13, Tryd.ntmps13
  go_wp2_with fail
  refine (CI.out).mono ?_
  rintro e w1 ⟨rfl, hb1⟩
  go_wp2
  go_ret2
  exact ⟨rfl, hb1⟩
theorem print_yes (v : Value) (xs : List Inp) (w : World) (hL : Lk w) (h : InpsAt w v xs) (hz : chkI xs 0 = 0) :
    Calls Tryd.prog 13 #[v] w fun e w' => e = .returned (.tuple #[.string ⟨(printP xs).toArray⟩, .int .i64 0]) ∧ Below w.heap.size w w' := by
  have CI := Lib.hid (inputs_any v xs 0 w h (by unfold I64; omega))
  rw [hz] at CI
  have hlen : xs.length ≤ 40 := by unfold chkI at hz; split at hz <;> omega
  obtain ⟨a, cap, rfl, h1, h2, h4, h5⟩ := h
  have H5 := Lib.hid h5
  have H4 := Lib.hid h4
  clear hz h4 h5
  have HL := Lib.hid hL
  clear hL
  go_enter Tryd.func13, Tryd.ntmps13
  go_wp2_with fail
  refine (CI.out).mono ?_
  rintro e w1 ⟨rfl, hb1⟩
  have hs1 := hb1.size
  go_wp2
  go_loopw [15] (fun i wr => ∃ k : Nat, k ≤ xs.length ∧ i = .int .i64 k ∧ Hid (Lib.IsBuilderF 99 5 w1.heap.size w1.heap.size (Lib.byteCells (printP (xs.take k))) wr ∧ (printP (xs.take k)).length ≤ k * 60) ∧ Below w1.heap.size w1 wr) (fun i _ => xs.length - (intOf i).toNat)
  case atStart => exact ⟨0, by omega, rfl, Lib.hid ⟨Lib.IsBuilderF.of (Lib.fresh_isBuilder _ _ _), by simp [printP]⟩, by repeat' (first | (with_reducible first | exact Below.refl _ _ | assumption | refine below_alloc ?_ _ | refine Below.drew ?_ | refine Go.Mq.below_drewN ?_ _ | refine below_then ?_ (by assumption) | refine below_put ?_ (by assumption) (by first | (simp; done) | (simp; omega) | omega) | refine Below.setCell ?_ ?_ _) | (simp; done) | (simp; omega) | omega)⟩
  case round =>
    obtain ⟨k, hk, rfl, hx, hb⟩ := hrel
    have hbw : Below w.heap.size w wr := hb1.trans (hb.mono hs1)
    have hsr := hb.size
    by_cases hkn : k < xs.length
    · obtain ⟨b, off, rfl, hbl, hc⟩ := H5.out (by omega)
      have hck := hc k hkn
      obtain ⟨c0, c1, c2⟩ := hck
      replace c0 := (hbw.cell (p := ⟨b, _, none⟩) hbl).trans c0
      replace c1 := (hbw.cell (p := ⟨b, _, none⟩) hbl).trans c1
      replace c2 := (hbw.cell (p := ⟨b, _, none⟩) hbl).trans c2
      have hki : (k : Int) < xs.length := by omega
      have PT := Lib.hid (printP_take hkn)
      have OK := Lib.hid (H4.out (xs.getD k Inp0) (by rw [List.getD_eq_getElem?_getD, List.getElem?_eq_getElem hkn]; exact List.getElem_mem hkn))
      obtain ⟨y, ey⟩ : ∃ y, y = xs.getD k Inp0 := ⟨_, rfl⟩
      rw [← ey] at c0 c1 c2 OK PT
      replace ey := Lib.hid ey
      clear hc
      have hlt : w1.heap.size < wr.heap.size := by rcases hx.out.1 with h | h <;> exact h.lt
      have HLr := Lib.hid (HL.out.below hbw)
      go_wp2
      refine wp_mark (R := fun W => Below w1.heap.size w1 W ∧ Hid (Blk W (wr.heap.size) (#[.int .i64 y.ck, .int .i64 y.pd, .int .u8 y.dn]) 34) ∧ Hid (Below wr.heap.size wr W)) ⟨by repeat' (first | (with_reducible first | exact Below.refl _ _ | assumption | refine below_alloc ?_ _ | refine Below.drew ?_ | refine Go.Mq.below_drewN ?_ _ | refine below_then ?_ (by assumption) | refine below_put ?_ (by assumption) (by first | (simp; done) | (simp; omega) | omega) | refine Below.setCell ?_ ?_ _) | (simp; done) | (simp; omega) | omega), Lib.hid (by repeat' (first | (with_reducible first | exact Hid.out (by assumption) | exact Blk.new _ _ _ | (refine Blk.new_at _ _ _ _ ?_; simp; done) | refine Blk.alloc ?_ _ | refine Blk.drewN ?_ _ | refine Blk.drew ?_ | apply Blk.set | refine Blk.put ?_ (by assumption) (by first | (simp; done) | (simp; omega) | omega) | refine Blk.below ?_ (by assumption)) | (refine Blk.setAt ?_ (by first | (simp; done) | (simp; omega))) | rfl)), Lib.hid (below_alloc (Below.refl _ _) _)⟩ ?_
      rintro w2 ⟨hbw2, Kw2_0, BR⟩
      obtain ⟨lw2_0, cw2_0, fw2_0⟩ := Kw2_0.out.use
      have HB := Lib.hid (isb_below hx.out.1 BR.out.drew)
      have HL2 := Lib.hid (HLr.out.below BR.out.drew)
      have K2 := Lib.hid Kw2_0.out.drew
      have LS := Lib.hid (line_str y)
      have l1 := Lib.itoa_length_le y.ck OK.out.1.1 OK.out.1.2
      have l2 := Lib.itoa_length_le y.pd OK.out.2.1.1 OK.out.2.1.2
      have l3 : (btn y.dn.toNat).length = 8 := by simp [btn]
      have n1 : ¬ (9223372036854775807 < (Lib.itoa y.ck).length + 1) := by omega
      have n2 : ¬ (9223372036854775807 < (Lib.itoa y.ck).length + 1 + (Lib.itoa y.pd).length) := by omega
      have n3 : ¬ (9223372036854775807 < (Lib.itoa y.ck).length + 1 + (Lib.itoa y.pd).length + 1) := by omega
      have n4 : ¬ (9223372036854775807 < (Lib.itoa y.ck).length + 1 + (Lib.itoa y.pd).length + 1 + 8) := by omega
      have n5 : ¬ (9223372036854775807 < (Lib.itoa y.ck).length + 1 + (Lib.itoa y.pd).length + 1 + 8 + 1) := by omega
      have LN : Hid ((lineP y).length ≤ 60) := Lib.hid (by
        have l1 := Lib.itoa_length_le y.ck OK.out.1.1 OK.out.1.2
        have l2 := Lib.itoa_length_le y.pd OK.out.2.1.1 OK.out.2.1.2
        simp only [lineP, List.length_append, List.length_cons, List.length_nil, btn, List.length_map, List.length_range]
        omega)
      refine wp_region_F (fun k W => (k = 1 → W.cell? ⟨wr.heap.size, 0, none⟩ = some (.int .i64 y.ck)) ∧ (k = 5 → W.cell? ⟨wr.heap.size, 1, none⟩ = some (.int .i64 y.pd)) ∧ (k = 10 → W.cell? ⟨wr.heap.size, 2, none⟩ = some (.int .u8 y.dn))) [0, 1, 4, 5, 9, 10, 3, 7, 8, 12, 13] (by kernel_rfl) ?_
      refine wpAnyF_take (i := 0) (v := ?v0_1) rfl (by kernel_rfl) (by kernel_rfl) (by kernel_rfl) (by kernel_rfl) (fun _ _ _ h => h) (Or.inl ⟨by rfl, ?y0_1⟩) ⟨(fun h => absurd h (by decide)), (fun h => absurd h (by decide)), (fun h => absurd h (by decide))⟩ ?_
      case y0_1 => (intro w hF; clear hF; go_simp; try with_reducible rfl)
      try simp only [List.getElem_toArray, List.getElem_cons_succ, List.getElem_cons_zero, Act.put, List.setIfInBounds_toArray, List.set_cons_zero, List.set_cons_succ]
      refine wpAnyF_take (i := 1) (v := ?v1_1) rfl (by kernel_rfl) (by kernel_rfl) (by kernel_rfl) (by kernel_rfl) (fun _ _ _ h => h) (Or.inl ⟨by rfl, ?y1_1⟩) ⟨(fun _ => K2.out.cell 0), (fun h => absurd h (by decide)), (fun h => absurd h (by decide))⟩ ?_
      case y1_1 => (intro w hF; have hF2 := hF.1 rfl; clear hF; go_simp; try with_reducible rfl)
      try simp only [List.getElem_toArray, List.getElem_cons_succ, List.getElem_cons_zero, Act.put, List.setIfInBounds_toArray, List.set_cons_zero, List.set_cons_succ]
      refine wpAnyF_take (i := 4) (v := ?v4_1) rfl (by kernel_rfl) (by kernel_rfl) (by kernel_rfl) (by kernel_rfl) (fun _ _ _ h => h) (Or.inl ⟨by rfl, ?y4_1⟩) ⟨(fun h => absurd h (by decide)), (fun h => absurd h (by decide)), (fun h => absurd h (by decide))⟩ ?_
      case y4_1 => (intro w hF; clear hF; go_simp; try with_reducible rfl)
      try simp only [List.getElem_toArray, List.getElem_cons_succ, List.getElem_cons_zero, Act.put, List.setIfInBounds_toArray, List.set_cons_zero, List.set_cons_succ]
      refine wpAnyF_take (i := 5) (v := ?v5_1) rfl (by kernel_rfl) (by kernel_rfl) (by kernel_rfl) (by kernel_rfl) (fun _ _ _ h => h) (Or.inl ⟨by rfl, ?y5_1⟩) ⟨(fun h => absurd h (by decide)), (fun _ => K2.out.cell 1), (fun h => absurd h (by decide))⟩ ?_
      case y5_1 => (intro w hF; have hF2 := hF.2.1 rfl; clear hF; go_simp; try with_reducible rfl)
      try simp only [List.getElem_toArray, List.getElem_cons_succ, List.getElem_cons_zero, Act.put, List.setIfInBounds_toArray, List.set_cons_zero, List.set_cons_succ]
      refine wpAnyF_take (i := 9) (v := ?v9_1) rfl (by kernel_rfl) (by kernel_rfl) (by kernel_rfl) (by kernel_rfl) (fun _ _ _ h => h) (Or.inl ⟨by rfl, ?y9_1⟩) ⟨(fun h => absurd h (by decide)), (fun h => absurd h (by decide)), (fun h => absurd h (by decide))⟩ ?_
      case y9_1 => (intro w hF; clear hF; go_simp; try with_reducible rfl)
      try simp only [List.getElem_toArray, List.getElem_cons_succ, List.getElem_cons_zero, Act.put, List.setIfInBounds_toArray, List.set_cons_zero, List.set_cons_succ]
      refine wpAnyF_take (i := 10) (v := ?v10_1) rfl (by kernel_rfl) (by kernel_rfl) (by kernel_rfl) (by kernel_rfl) (fun _ _ _ h => h) (Or.inl ⟨by rfl, ?y10_1⟩) ⟨(fun h => absurd h (by decide)), (fun h => absurd h (by decide)), (fun _ => K2.out.cell 2)⟩ ?_
      case y10_1 => (intro w hF; have hF2 := hF.2.2 rfl; clear hF; go_simp; try with_reducible rfl)
      try simp only [List.getElem_toArray, List.getElem_cons_succ, List.getElem_cons_zero, Act.put, List.setIfInBounds_toArray, List.set_cons_zero, List.set_cons_succ]
      refine wpAnyF_ready (rs := [2]) (by kernel_rfl) (by simp) (AllReadyF.cons rfl (fun K hK => ?_) AllReadyF.nil)
      go_simp
      refine (itoa_any y.ck OK.out.1 _ HL2.out).mono ?_
      rintro e w3 ⟨rfl, hb3⟩
      try go_wp2_with fail
      refine hK.out _ _ (Sat.all (by kernel_rfl) (fun k => ⟨(fun _ => (K2.out.below hb3).cell 0), (fun _ => (K2.out.below hb3).cell 1), (fun _ => (K2.out.below hb3).cell 2)⟩)) ?_
      clear hK K
      try simp only [List.getElem_toArray, List.getElem_cons_succ, List.getElem_cons_zero, Act.put, List.setIfInBounds_toArray, List.set_cons_zero, List.set_cons_succ]
      have K3 := Lib.hid (K2.out.below hb3)
      refine wpAnyF_take (i := 3) (v := ?v3_1) rfl (by kernel_rfl) (by kernel_rfl) (by kernel_rfl) (by kernel_rfl) (fun _ _ _ h => h) (Or.inl ⟨by rfl, ?y3_1⟩) ⟨(fun h => absurd h (by decide)), (fun h => absurd h (by decide)), (fun h => absurd h (by decide))⟩ ?_
      case y3_1 => (intro w hF; clear hF; go_simp; try with_reducible rfl)
      try simp only [List.getElem_toArray, List.getElem_cons_succ, List.getElem_cons_zero, Act.put, List.setIfInBounds_toArray, List.set_cons_zero, List.set_cons_succ]
      refine wpAnyF_ready (rs := [6]) (by kernel_rfl) (by simp) (AllReadyF.cons rfl (fun K hK => ?_) AllReadyF.nil)
      go_simp
      refine (itoa_any y.pd OK.out.2.1 _ (HL2.out.below hb3)).mono ?_
      rintro e w4 ⟨rfl, hb4⟩
      try go_wp2_with fail
      refine hK.out _ _ (Sat.all (by kernel_rfl) (fun k => ⟨(fun _ => (K3.out.below hb4).cell 0), (fun _ => (K3.out.below hb4).cell 1), (fun _ => (K3.out.below hb4).cell 2)⟩)) ?_
      clear hK K
      try simp only [List.getElem_toArray, List.getElem_cons_succ, List.getElem_cons_zero, Act.put, List.setIfInBounds_toArray, List.set_cons_zero, List.set_cons_succ]
      have K4 := Lib.hid (K3.out.below hb4)
      refine wpAnyF_take (i := 7) (v := ?v7_1) rfl (by kernel_rfl) (by kernel_rfl) (by kernel_rfl) (by kernel_rfl) (fun _ _ _ h => h) (Or.inl ⟨by rfl, ?y7_1⟩) ⟨(fun h => absurd h (by decide)), (fun h => absurd h (by decide)), (fun h => absurd h (by decide))⟩ ?_
      case y7_1 => (intro w hF; clear hF; go_simp; try with_reducible rfl)
      try simp only [List.getElem_toArray, List.getElem_cons_succ, List.getElem_cons_zero, Act.put, List.setIfInBounds_toArray, List.set_cons_zero, List.set_cons_succ]
      refine wpAnyF_take (i := 8) (v := ?v8_1) rfl (by kernel_rfl) (by kernel_rfl) (by kernel_rfl) (by kernel_rfl) (fun _ _ _ h => h) (Or.inl ⟨by rfl, ?y8_1⟩) ⟨(fun h => absurd h (by decide)), (fun h => absurd h (by decide)), (fun h => absurd h (by decide))⟩ ?_
      case y8_1 => (intro w hF; clear hF; go_simp; try with_reducible rfl)
      try simp only [List.getElem_toArray, List.getElem_cons_succ, List.getElem_cons_zero, Act.put, List.setIfInBounds_toArray, List.set_cons_zero, List.set_cons_succ]
      refine wpAnyF_ready (rs := [11]) (by kernel_rfl) (by simp) (AllReadyF.cons rfl (fun K hK => ?_) AllReadyF.nil)
      go_simp
      refine (buttons_any y.dn OK.out.2.2 w4).mono ?_
      rintro e w5 ⟨rfl, hb5⟩
      try go_wp2_with fail
      refine hK.out _ _ (Sat.all (by kernel_rfl) (fun k => ⟨(fun _ => (K4.out.below hb5).cell 0), (fun _ => (K4.out.below hb5).cell 1), (fun _ => (K4.out.below hb5).cell 2)⟩)) ?_
      clear hK K
      try simp only [List.getElem_toArray, List.getElem_cons_succ, List.getElem_cons_zero, Act.put, List.setIfInBounds_toArray, List.set_cons_zero, List.set_cons_succ]
      have K5 := Lib.hid (K4.out.below hb5); obtain ⟨HB5, SZ5, BB5⟩ : Hid (Lib.IsBuilderF 99 5 w1.heap.size w1.heap.size (Lib.byteCells (printP (List.take k xs))) w5) ∧ Hid (w1.heap.size ≤ w5.heap.size) ∧ Hid (Below w1.heap.size w1 w5) := (have s2 := hbw2.size; have s3 := hb3.size; have s4 := hb4.size; have bb := ((hbw2.drew.trans (hb3.mono s2)).trans (hb4.mono (Nat.le_trans s2 s3))).trans (hb5.mono (Nat.le_trans (Nat.le_trans s2 s3) s4)); ⟨Lib.hid (isb_below (isb_below (isb_below HB.out hb3) hb4) hb5), Lib.hid bb.size, Lib.hid bb⟩)
      refine wpAnyF_take (i := 12) (v := ?v12_1) rfl (by kernel_rfl) (by kernel_rfl) (by kernel_rfl) (by kernel_rfl) (fun _ _ _ h => h) (Or.inl ⟨by rfl, ?y12_1⟩) ⟨(fun h => absurd h (by decide)), (fun h => absurd h (by decide)), (fun h => absurd h (by decide))⟩ ?_
      case y12_1 => (intro w hF; clear hF; go_simp; try with_reducible rfl)
      try simp only [List.getElem_toArray, List.getElem_cons_succ, List.getElem_cons_zero, Act.put, List.setIfInBounds_toArray, List.set_cons_zero, List.set_cons_succ]
      refine wpAnyF_take (i := 13) (v := ?v13_1) rfl (by kernel_rfl) (by kernel_rfl) (by kernel_rfl) (by kernel_rfl) (fun _ _ _ h => h) (Or.inl ⟨by rfl, ?y13_1⟩) ⟨(fun h => absurd h (by decide)), (fun h => absurd h (by decide)), (fun h => absurd h (by decide))⟩ ?_
      case y13_1 => (intro w hF; clear hF; go_simp; try with_reducible rfl)
      try simp only [List.getElem_toArray, List.getElem_cons_succ, List.getElem_cons_zero, Act.put, List.setIfInBounds_toArray, List.set_cons_zero, List.set_cons_succ]
      refine wpAnyF_ready (rs := [14]) (by kernel_rfl) (by simp) (AllReadyF.cons rfl (fun K hK => ?_) AllReadyF.nil)
      go_simp
      refine (Tryd.Builder_WriteString_k _ _ _ _ _ HB5.out (by rw [LS.out, Lib.byteCells_length]; have q1 := hx.out.2; have q2 := LN.out; show _ + (lineP y).toArray.size ≤ _; rw [List.size_toArray]; omega) SZ5.out).mono ?_
      rintro e w6 ⟨rfl, hb6, hb66, hk6⟩
      try go_wp2_with fail
      refine hK.out _ _ (Sat.all (by kernel_rfl) (fun k => ⟨(fun _ => (K5.out.othersKept hk6 (by omega) (by decide)).cell 0), (fun _ => (K5.out.othersKept hk6 (by omega) (by decide)).cell 1), (fun _ => (K5.out.othersKept hk6 (by omega) (by decide)).cell 2)⟩)) ?_
      clear hK K
      try simp only [List.getElem_toArray, List.getElem_cons_succ, List.getElem_cons_zero, Act.put, List.setIfInBounds_toArray, List.set_cons_zero, List.set_cons_succ]
      refine wpAnyF_done (by kernel_rfl) ?_ _
      have E6 : Hid (Lib.IsBuilderF 99 5 w1.heap.size w1.heap.size (Lib.byteCells (printP (List.take (k + 1) xs))) w6 ∧ (printP (xs.take (k + 1))).length ≤ (k + 1) * 60) := Lib.hid (by
        refine ⟨?_, by rw [PT.out, List.length_append]; have q1 := hx.out.2; have q2 := LN.out; omega⟩
        rw [PT.out, Lib.byteCells_append, ← strCells_eq (lineP y), ← LS.out]
        exact Or.inr hb6)
      have E7 : Below w1.heap.size w1 w6 := BB5.out.trans hb66
      clear n1 n2 n3 n4 n5
      go_wp2
      go_roundw
      case rel => exact ⟨k + 1, by omega, by go_num, E6, E7⟩
      case measure => simp [intOf]; omega
    · have hk' : k = xs.length := by omega
      subst hk'
      go_wp2_with fail
      refine (Tryd.Builder_String_any_k _ _ (printP xs) _ (by have := hx.out.1; rwa [List.take_length] at this) hsr).mono ?_
      rintro e w2 ⟨rfl, -, hb2, -⟩
      have hbb : Below w.heap.size w w2 := hbw.trans (hb2.mono hs1)
      go_wp2
      go_ret2
      exact ⟨rfl, hbb⟩
end Go.Proofs.YtlhjoclclbhjgaaDoor
