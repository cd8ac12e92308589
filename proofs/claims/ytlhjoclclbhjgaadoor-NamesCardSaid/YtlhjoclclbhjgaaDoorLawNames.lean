/- The law Names answers true. Conditions: the library's variables hold what they were laid with. -/
import Derived.Test.YtlhjoclclbhjgaaDoorLibSlEq
import Derived.Test.YtlhjoclclbhjgaaDoorOrdOf
import Derived.Test.YtlhjoclclbhjgaaDoorOrdNm
namespace Go.Proofs.YtlhjoclclbhjgaaDoor.names
open Go.RowKit Go.Mq
set_option linter.unusedVariables false
set_option linter.unusedSimpArgs false
set_option maxHeartbeats 2000000
set_option maxRecDepth 100000
theorem at8 : ∀ k : Nat, k < 8 → (#[.int .i64 0, .int .i64 1, .int .i64 2, .int .i64 3, .int .i64 4, .int .i64 5, .int .i64 6, .int .i64 7] : Array Value)[k]? = some (.int .i64 (k : Int)) := fun k h => match k, h with
  | 0, _ => rfl
  | 1, _ => rfl
  | 2, _ => rfl
  | 3, _ => rfl
  | 4, _ => rfl
  | 5, _ => rfl
  | 6, _ => rfl
  | 7, _ => rfl
  | k + 8, h => absurd h (by omega)
theorem at32 : ∀ k : Nat, k < 32 → (#[.int .i64 0, .int .i64 1, .int .i64 2, .int .i64 3, .int .i64 4, .int .i64 5, .int .i64 6, .int .i64 7, .int .i64 8, .int .i64 9, .int .i64 10, .int .i64 11, .int .i64 12, .int .i64 13, .int .i64 14, .int .i64 15, .int .i64 16, .int .i64 17, .int .i64 18, .int .i64 19, .int .i64 20, .int .i64 21, .int .i64 22, .int .i64 23, .int .i64 24, .int .i64 25, .int .i64 26, .int .i64 27, .int .i64 28, .int .i64 29, .int .i64 30, .int .i64 31] : Array Value)[k]? = some (.int .i64 (k : Int)) := fun k h => match k, h with
  | 0, _ => rfl
  | 1, _ => rfl
  | 2, _ => rfl
  | 3, _ => rfl
  | 4, _ => rfl
  | 5, _ => rfl
  | 6, _ => rfl
  | 7, _ => rfl
  | 8, _ => rfl
  | 9, _ => rfl
  | 10, _ => rfl
  | 11, _ => rfl
  | 12, _ => rfl
  | 13, _ => rfl
  | 14, _ => rfl
  | 15, _ => rfl
  | 16, _ => rfl
  | 17, _ => rfl
  | 18, _ => rfl
  | 19, _ => rfl
  | 20, _ => rfl
  | 21, _ => rfl
  | 22, _ => rfl
  | 23, _ => rfl
  | 24, _ => rfl
  | 25, _ => rfl
  | 26, _ => rfl
  | 27, _ => rfl
  | 28, _ => rfl
  | 29, _ => rfl
  | 30, _ => rfl
  | 31, _ => rfl
  | k + 32, h => absurd h (by omega)
theorem nm_tab : ∀ k : Nat, k < 32 → k ≠ 30 → namO k = ⟨(nmK k).toArray⟩ := by decide +kernel
theorem blk_slice {w : World} {k : IntKind} {t : TypeId} {xs : List Int} {cs : Array Value} {B n : Nat} (h : Blk w B cs t) (hcs : cs = (xs.map (Value.int k)).toArray) (hwf : ∀ x ∈ xs, (Lit.int k x).wf = true) (hm : xs.length ≤ maxLen) (hn : n = xs.length) : SliceAt w k (.slice (some ⟨B, 0, none⟩) n n) xs := by
  subst hcs
  subst hn
  refine ⟨_, _, rfl, Nat.le_refl _, hm, hwf, fun _ => ⟨_, 0, rfl, h.lt, fun i hi => ?_⟩⟩
  rw [Nat.zero_add, h.cell]
  simp [List.getElem?_eq_getElem hi]
theorem walk (w : World) (hL : Lk9 w) : Calls Tryd.prog 8 #[] w fun e w' => e = .returned (.bool true) ∧ Below w.heap.size w w' := by
  have HL := Lib.hid hL
  have KA := Lib.hid kinds_any
  have NY := Lib.hid name_yes
  have NN := Lib.hid (fun w => name_no 30 (by omega) w)
  clear hL
  go_enter Tryd.func8, Tryd.ntmps8
  go_wp2
  have B8 := Lib.hid (Blk.new w #[.int .i64 0, .int .i64 1, .int .i64 2, .int .i64 3, .int .i64 4, .int .i64 5, .int .i64 6, .int .i64 7] 23)
  have hb0 : Below w.heap.size w (w.alloc (.cells #[.int .i64 0, .int .i64 1, .int .i64 2, .int .i64 3, .int .i64 4, .int .i64 5, .int .i64 6, .int .i64 7] 23)) := below_alloc (Below.refl _ _) _
  generalize w.alloc (.cells #[.int .i64 0, .int .i64 1, .int .i64 2, .int .i64 3, .int .i64 4, .int .i64 5, .int .i64 6, .int .i64 7] 23) = w0 at *
  go_loopw [15] (fun i wr => ∃ k : Nat, i = .int .i64 k ∧ k ≤ 8 ∧ Hid (Below w0.heap.size w0 wr) ∧ Below w.heap.size w wr) (fun i _ => 8 - (intOf i).toNat)
  case atStart => exact ⟨0, rfl, by omega, Lib.hid (Below.refl _ _), hb0⟩
  case round =>
    obtain ⟨k, rfl, hk, hx, hb⟩ := hrel
    by_cases hk8 : k < 8
    · have hki : (k : Int) < 8 := by omega
      have c : wr.cell? ⟨w.heap.size, k, none⟩ = some (.int .i64 k) := by rw [(B8.out.below hx.out).cell k]; exact at8 k hk8
      go_wp2
      go_roundw
      case rel => exact ⟨k + 1, by go_num, by omega, hx, hb⟩
      case measure => simp [intOf]; omega
    · have hk' : k = 8 := by omega
      subst hk'
      clear B8 hb0 hx
      go_wp2_with fail
      refine cmark (F := fun X => Calls _ _ _ X _) (R := fun W => Below w.heap.size w W ∧ Hid (Blk W (wr.heap.size) (#[.int .i64 1024, .int .i64 128, .int .i64 64, .int .i64 256, .int .i64 8, .int .i64 16, .int .i64 64, .int .i64 10, .int .i64 16, .int .i64 3, .int .i64 5, .int .i64 20000, .int .i64 20, .int .i64 4000, .int .i64 300, .int .i64 12, .int .i64 500, .int .i64 40, .int .i64 200000]) 3)) ⟨by repeat' (first | (with_reducible first | exact Below.refl _ _ | assumption | refine below_alloc ?_ _ | refine Below.drew ?_ | refine Go.Mq.below_drewN ?_ _ | refine below_then ?_ (by assumption) | refine below_put ?_ (by assumption) (by first | (simp; done) | (simp; omega) | omega) | refine Below.setCell ?_ ?_ _) | (simp; done) | (simp; omega) | omega), Lib.hid (by repeat' (first | (with_reducible first | exact Hid.out (by assumption) | exact Blk.new _ _ _ | (refine Blk.new_at _ _ _ _ ?_; simp; done) | refine Blk.alloc ?_ _ | refine Blk.drewN ?_ _ | refine Blk.drew ?_ | apply Blk.set | refine Blk.put ?_ (by assumption) (by first | (simp; done) | (simp; omega) | omega) | refine Blk.below ?_ (by assumption)) | (refine Blk.setAt ?_ (by first | (simp; done) | (simp; omega))) | rfl))⟩ ?_
      rintro w1 ⟨hbw1, Kw1_0⟩
      obtain ⟨lw1_0, cw1_0, fw1_0⟩ := Kw1_0.out.use
      have SL1 := Lib.hid (blk_slice (k := .i64) (xs := [1024, 128, 64, 256, 8, 16, 64, 10, 16, 3, 5, 20000, 20, 4000, 300, 12, 500, 40, 200000]) (n := 19) Kw1_0.out rfl (by decide) (by unfold maxLen; decide) rfl)
      refine (KA.out _ (HL.out.below hbw1)).mono ?_
      rintro e w2 ⟨⟨v, rfl, hown⟩, hb2⟩
      have SL2 := Lib.hid (SL1.out.below hb2)
      have hbw2 : Below w.heap.size w w2 := below_then hbw1 hb2
      obtain ⟨g, cp, rfl, hg1, hg2, hcs⟩ := kinds_cells hown
      have KC := Lib.hid hcs
      clear hown hcs hb2 hbw1 SL1 hg1
      go_wp2
      go_loopw [27] (fun i wr => ∃ k : Nat, i = .int .i64 k ∧ k ≤ 32 ∧ Hid (Below w2.heap.size w2 wr) ∧ Below w.heap.size w wr) (fun i _ => 32 - (intOf i).toNat)
      case atStart => exact ⟨0, rfl, by omega, Lib.hid (Below.refl _ _), hbw2⟩
      case round =>
        obtain ⟨k, rfl, hk, hx, hb⟩ := hrel
        by_cases hk32 : k < 32
        · have hki : (k : Int) < 32 := by omega
          obtain ⟨c0, c1, c2⟩ := KC.out k hk32
          replace c0 := (hx.out.cell (p := ⟨g, _, none⟩) hg2).trans c0
          replace c1 := (hx.out.cell (p := ⟨g, _, none⟩) hg2).trans c1
          replace c2 := (hx.out.cell (p := ⟨g, _, none⟩) hg2).trans c2
          by_cases h30 : k = 30
          · have NYk := Lib.hid (name_no k (Or.inr (Or.inr (by omega))))
            have q30 : ((k : Int) != 30) = false := by simp; omega
            replace h30 := Lib.hid h30
            generalize nmK k = nm at *
            generalize hsK k = hs at *
            generalize cyK k = cy at *
            go_wp2_with fail
            refine cmark (F := fun X => Calls _ _ _ X _) (R := fun W => Below w.heap.size w W ∧ Hid (Blk W (wr.heap.size) (#[.string ⟨nm.toArray⟩, .string ⟨hs.toArray⟩, .int .i64 cy]) 75) ∧ Hid (Below w2.heap.size w2 W)) ⟨by repeat' (first | (with_reducible first | exact Below.refl _ _ | assumption | refine below_alloc ?_ _ | refine Below.drew ?_ | refine Go.Mq.below_drewN ?_ _ | refine below_then ?_ (by assumption) | refine below_put ?_ (by assumption) (by first | (simp; done) | (simp; omega) | omega) | refine Below.setCell ?_ ?_ _) | (simp; done) | (simp; omega) | omega), Lib.hid (by repeat' (first | (with_reducible first | exact Hid.out (by assumption) | exact Blk.new _ _ _ | (refine Blk.new_at _ _ _ _ ?_; simp; done) | refine Blk.alloc ?_ _ | refine Blk.drewN ?_ _ | refine Blk.drew ?_ | apply Blk.set | refine Blk.put ?_ (by assumption) (by first | (simp; done) | (simp; omega) | omega) | refine Blk.below ?_ (by assumption)) | (refine Blk.setAt ?_ (by first | (simp; done) | (simp; omega))) | rfl)), Lib.hid (hx.out.trans ((below_alloc (Below.refl _ _) _).mono hx.out.size))⟩ ?_
            rintro w3 ⟨hbw3, Kw3_0, HB3⟩
            clear Kw1_0 cw1_0 fw1_0
            obtain ⟨lw3_0, cw3_0, fw3_0⟩ := Kw3_0.out.use
            refine (NYk.out _).mono ?_
            rintro e w4 ⟨rfl, hb4⟩
            have k4 : w4.cell? ⟨wr.heap.size, 0, none⟩ = some (.string ⟨nm.toArray⟩) := (Kw3_0.out.below hb4).cell 0
            have HB4 : Hid (Below w2.heap.size w2 w4) := Lib.hid (below_then HB3.out hb4)
            have hbw4 : Below w.heap.size w w4 := below_then hbw3 hb4
            clear hb4 hbw3 hx
            go_wp2
            go_roundw
            case rel => exact ⟨k + 1, by go_num, by omega, HB4, hbw4⟩
            case measure => simp [intOf]; omega
          · have NYk := Lib.hid (NY.out k (by omega) (by omega) (by omega))
            rw [nm_tab k hk32 h30] at NYk
            have q30 : ((k : Int) != 30) = true := by simp; omega
            generalize nmK k = nm at *
            generalize hsK k = hs at *
            generalize cyK k = cy at *
            go_wp2_with fail
            refine cmark (F := fun X => Calls _ _ _ X _) (R := fun W => Below w.heap.size w W ∧ Hid (Blk W (wr.heap.size) (#[.string ⟨nm.toArray⟩, .string ⟨hs.toArray⟩, .int .i64 cy]) 75) ∧ Hid (Below w2.heap.size w2 W)) ⟨by repeat' (first | (with_reducible first | exact Below.refl _ _ | assumption | refine below_alloc ?_ _ | refine Below.drew ?_ | refine Go.Mq.below_drewN ?_ _ | refine below_then ?_ (by assumption) | refine below_put ?_ (by assumption) (by first | (simp; done) | (simp; omega) | omega) | refine Below.setCell ?_ ?_ _) | (simp; done) | (simp; omega) | omega), Lib.hid (by repeat' (first | (with_reducible first | exact Hid.out (by assumption) | exact Blk.new _ _ _ | (refine Blk.new_at _ _ _ _ ?_; simp; done) | refine Blk.alloc ?_ _ | refine Blk.drewN ?_ _ | refine Blk.drew ?_ | apply Blk.set | refine Blk.put ?_ (by assumption) (by first | (simp; done) | (simp; omega) | omega) | refine Blk.below ?_ (by assumption)) | (refine Blk.setAt ?_ (by first | (simp; done) | (simp; omega))) | rfl)), Lib.hid (hx.out.trans ((below_alloc (Below.refl _ _) _).mono hx.out.size))⟩ ?_
            rintro w3 ⟨hbw3, Kw3_0, HB3⟩
            obtain ⟨lw3_0, cw3_0, fw3_0⟩ := Kw3_0.out.use
            refine (NYk.out _).mono ?_
            rintro e w4 ⟨rfl, hb4⟩
            have k4 : w4.cell? ⟨wr.heap.size, 0, none⟩ = some (.string ⟨nm.toArray⟩) := (Kw3_0.out.below hb4).cell 0
            have HB4 : Hid (Below w2.heap.size w2 w4) := Lib.hid (below_then HB3.out hb4)
            have hbw4 : Below w.heap.size w w4 := below_then hbw3 hb4
            clear hb4 hbw3 hx
            go_wp2
            go_roundw
            case rel => exact ⟨k + 1, by go_num, by omega, HB4, hbw4⟩
            case measure => simp [intOf]; omega
        · have hk32' : k = 32 := by omega
          subst hk32'
          have SL3 := Lib.hid (SL2.out.below hx.out)
          clear KC hx SL2
          go_wp2
          have B32 := Lib.hid (Blk.new wr #[.int .i64 0, .int .i64 1, .int .i64 2, .int .i64 3, .int .i64 4, .int .i64 5, .int .i64 6, .int .i64 7, .int .i64 8, .int .i64 9, .int .i64 10, .int .i64 11, .int .i64 12, .int .i64 13, .int .i64 14, .int .i64 15, .int .i64 16, .int .i64 17, .int .i64 18, .int .i64 19, .int .i64 20, .int .i64 21, .int .i64 22, .int .i64 23, .int .i64 24, .int .i64 25, .int .i64 26, .int .i64 27, .int .i64 28, .int .i64 29, .int .i64 30, .int .i64 31] 3)
          have hb3 : Below w.heap.size w (wr.alloc (.cells #[.int .i64 0, .int .i64 1, .int .i64 2, .int .i64 3, .int .i64 4, .int .i64 5, .int .i64 6, .int .i64 7, .int .i64 8, .int .i64 9, .int .i64 10, .int .i64 11, .int .i64 12, .int .i64 13, .int .i64 14, .int .i64 15, .int .i64 16, .int .i64 17, .int .i64 18, .int .i64 19, .int .i64 20, .int .i64 21, .int .i64 22, .int .i64 23, .int .i64 24, .int .i64 25, .int .i64 26, .int .i64 27, .int .i64 28, .int .i64 29, .int .i64 30, .int .i64 31] 3)) := below_alloc hb _
          have SL4 := Lib.hid (SL3.out.below (below_alloc (Below.refl _ _) (.cells #[.int .i64 0, .int .i64 1, .int .i64 2, .int .i64 3, .int .i64 4, .int .i64 5, .int .i64 6, .int .i64 7, .int .i64 8, .int .i64 9, .int .i64 10, .int .i64 11, .int .i64 12, .int .i64 13, .int .i64 14, .int .i64 15, .int .i64 16, .int .i64 17, .int .i64 18, .int .i64 19, .int .i64 20, .int .i64 21, .int .i64 22, .int .i64 23, .int .i64 24, .int .i64 25, .int .i64 26, .int .i64 27, .int .i64 28, .int .i64 29, .int .i64 30, .int .i64 31] 3)))
          obtain ⟨N3, eN3⟩ : ∃ N3, N3 = wr.heap.size := ⟨_, rfl⟩
          rw [← eN3] at B32 ⊢
          replace eN3 := Lib.hid eN3
          generalize wr.alloc (.cells #[.int .i64 0, .int .i64 1, .int .i64 2, .int .i64 3, .int .i64 4, .int .i64 5, .int .i64 6, .int .i64 7, .int .i64 8, .int .i64 9, .int .i64 10, .int .i64 11, .int .i64 12, .int .i64 13, .int .i64 14, .int .i64 15, .int .i64 16, .int .i64 17, .int .i64 18, .int .i64 19, .int .i64 20, .int .i64 21, .int .i64 22, .int .i64 23, .int .i64 24, .int .i64 25, .int .i64 26, .int .i64 27, .int .i64 28, .int .i64 29, .int .i64 30, .int .i64 31] 3) = w5 at *
          clear hb SL3
          go_loopw [56] (fun i wr => ∃ k : Nat, i = .int .i64 k ∧ k ≤ 32 ∧ Hid (Below w5.heap.size w5 wr) ∧ Below w.heap.size w wr) (fun i _ => 32 - (intOf i).toNat)
          case atStart => exact ⟨0, rfl, by omega, Lib.hid (Below.refl _ _), hb3⟩
          case round =>
            obtain ⟨k, rfl, hk, hx, hb⟩ := hrel
            by_cases hk3 : k < 32
            · have hki : (k : Int) < 32 := by omega
              have c : wr.cell? ⟨N3, k, none⟩ = some (.int .i64 k) := by rw [(B32.out.below hx.out).cell k]; exact at32 k hk3
              go_wp2
              go_roundw
              case rel => exact ⟨k + 1, by go_num, by omega, hx, hb⟩
              case measure => simp [intOf]; omega
            · have hk' : k = 32 := by omega
              subst hk'
              have SL5 := Lib.hid (SL4.out.below hx.out)
              clear B32 hb3 hx SL4
              go_wp2_with fail
              refine (slEq_i64 _ _ [1024, 128, 64, 256, 8, 16, 64, 10, 16, 3, 5, 20000, 20, 4000, 300, 12, 500, 40, 200000] [1024, 128, 64, 256, 8, 16, 64, 10, 16, 3, 5, 20000, 20, 4000, 300, 12, 500, 40, 200000] _ (SL5.out.below (by repeat' (first | (with_reducible first | exact Below.refl _ _ | assumption | refine below_alloc ?_ _ | refine Below.drew ?_ | refine Go.Mq.below_drewN ?_ _ | refine below_then ?_ (by assumption) | refine below_put ?_ (by assumption) (by first | (simp; done) | (simp; omega) | omega) | refine Below.setCell ?_ ?_ _) | (simp; done) | (simp; omega) | omega))) (lit_slice _ _ _ _ _ rfl (by decide) (by unfold maxLen; decide) _ rfl _ (by simp))).mono ?_
              rintro e w6 ⟨rfl, hb6⟩
              have hbw6 : Below w.heap.size w w6 := below_then (below_alloc hb _) hb6
              go_wp2
              go_ret
              exact ⟨rfl, hbw6⟩
end Go.Proofs.YtlhjoclclbhjgaaDoor.names
