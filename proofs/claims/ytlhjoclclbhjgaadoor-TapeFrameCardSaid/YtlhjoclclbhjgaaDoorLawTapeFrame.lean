/- The law TapeFrame answers true for every input. Conditions: the lines lie in memory; the library's variables hold what they were laid with. -/
import Derived.Test.YtlhjoclclbhjgaaDoorTaped
import Derived.Test.YtlhjoclclbhjgaaDoorTapeFr
import Derived.Test.YtlhjoclclbhjgaaDoorSlEqRow
namespace Go.Proofs.YtlhjoclclbhjgaaDoor.tapeFrame
open Go.RowKit Go.Mq
set_option linter.unusedVariables false
set_option linter.unusedSimpArgs false
set_option maxHeartbeats 2000000
set_option maxRecDepth 100000
def Told (ao : Option Addr) (ln cp : Nat) (er : Int) (rs : List (List Int)) (w : World) : Prop :=
  (rs.length = 8 → er = 0 ∧ RowsAt w (.slice ao ln cp) rs) ∧ (rs.length ≠ 8 → er = 5 ∧ ao = none ∧ ln = 0 ∧ cp = 0)
theorem frame_told (v s2 s3 : Value) (xs : List Ln) (f : Int) (w : World) (h : LinesAt w v xs) (hf : I64 f) (hn : xs.length ≤ 4398046511104) :
    Calls Tryd.prog 27 #[.agg #[v, s2, s3], .int .i64 f] w fun e w' => (∃ ao ln cp er, e = .returned (.tuple #[.slice ao ln cp, .int .i64 er]) ∧ Told ao ln cp er (pick f [] xs) w') ∧ Below w.heap.size w w' := by
  refine (frame_any v s2 s3 xs f w h hf hn).mono ?_
  rintro e w' ⟨he, hb⟩
  refine ⟨?_, hb⟩
  unfold FrameEnd at he
  by_cases h8 : (pick f [] xs).length = 8
  · rw [if_pos h8] at he
    obtain ⟨v2, h1, h2⟩ := he
    obtain ⟨a, cap, rfl, _⟩ := id h2
    exact ⟨a, _, cap, 0, h1, fun _ => ⟨rfl, h2⟩, fun h => absurd h8 h⟩
  · rw [if_neg h8] at he
    exact ⟨none, 0, 0, 5, he, fun h => absurd h h8, fun _ => ⟨rfl, rfl, rfl, rfl⟩⟩
theorem walk (v s2 s3 : Value) (xs : List Ln) (f : Int) (w : World) (h : LinesAt w v xs) (hn : xs.length ≤ 4398046511104) (hf : I64 f) (hL : Lk w) :
    Calls Tryd.prog 6 #[.agg #[v, s2, s3], .int .i64 f] w fun e w' => e = .returned (.bool true) ∧ Below w.heap.size w w' := by
  have FR := Lib.hid (fun W (hb : Below w.heap.size w W) => frame_told v s2 s3 xs f W (h.below hb) hf hn)
  have TP := Lib.hid taped_any
  have HL := Lib.hid hL
  have EQ := Lib.hid (fun v u rs W h1 h2 h3 => rowEq_same v u rs W h1 h2 h3)
  clear hL
  obtain ⟨a, cap, rfl, h1, h2, hok, h3⟩ := h
  have H3 := Lib.hid h3
  have HO := Lib.hid hok
  have HN := Lib.hid hn
  obtain ⟨P0, hP0⟩ : ∃ P0, P0 = pick f [] xs := ⟨_, rfl⟩
  rw [← hP0] at FR
  replace hP0 := Lib.hid hP0
  obtain ⟨i0, hi, hz0, hz1, hz2⟩ := info_parts info16
  have HI := Lib.hid (And.intro hi (And.intro hz0 (And.intro hz1 hz2)))
  clear hi hz0 hz1 hz2 h3 hok hn
  go_enter Tryd.func6, Tryd.ntmps6
  go_wp2_with fail
  refine cmark (F := fun X => Calls _ _ _ X _) (R := fun W => Below w.heap.size w W ∧ Hid (Blk W (w.heap.size) (#[.slice a xs.length cap, s2, s3]) 55)) ⟨by repeat' (first | (with_reducible first | exact Below.refl _ _ | assumption | refine below_alloc ?_ _ | refine Below.drew ?_ | refine Go.Mq.below_drewN ?_ _ | refine below_then ?_ (by assumption) | refine below_put ?_ (by assumption) (by first | (simp; done) | (simp; omega) | omega) | refine Below.setCell ?_ ?_ _) | (simp; done) | (simp; omega) | omega), Lib.hid (by repeat' (first | (with_reducible first | exact Hid.out (by assumption) | exact Blk.new _ _ _ | (refine Blk.new_at _ _ _ _ ?_; simp; done) | refine Blk.alloc ?_ _ | refine Blk.drewN ?_ _ | refine Blk.drew ?_ | apply Blk.set | refine Blk.put ?_ (by assumption) (by first | (simp; done) | (simp; omega) | omega) | refine Blk.below ?_ (by assumption)) | (refine Blk.setAt ?_ (by first | (simp; done) | (simp; omega))) | rfl))⟩ ?_
  rintro w0 ⟨hbw0, Kw0_0⟩
  obtain ⟨lw0_0, cw0_0, fw0_0⟩ := Kw0_0.out.use
  refine (FR.out _ hbw0).mono ?_
  rintro e w1 ⟨⟨ao, ln, cp, er, rfl, ht⟩, hb1⟩
  have HT := Lib.hid ht
  have KB := Lib.hid (Kw0_0.out.below hb1)
  have kb0 : w1.cell? ⟨w.heap.size, 0, none⟩ = some (.slice a xs.length cap) := KB.out.cell 0
  have hbb1 : Below w.heap.size w w1 := below_then hbw0 hb1
  have hl1 : w.heap.size < w1.heap.size := KB.out.lt
  have AT0 : Hid (Below w1.heap.size w1 w1) := Lib.hid (Below.refl _ _)
  have AT1 := Lib.hid hl1
  clear hb1 hbw0 ht cw0_0 fw0_0
  go_wp2
  go_loopw [7, 19] (fun v i wr => ∃ (k : Nat) (acc : List (List Int)), i = .int .i64 k ∧ k ≤ xs.length ∧ Hid (P0 = pick f acc (xs.drop k) ∧ acc.length ≤ k ∧ wr.ownsRow (w1.heap.size) 59 16 v acc.length (rowsC acc) ∧ (∀ r ∈ acc, RowOk r) ∧ Below w1.heap.size w1 wr) ∧ Below w.heap.size w wr ∧ w.heap.size < wr.heap.size) (fun _ i _ => xs.length - (intOf i).toNat)
  case atStart => exact ⟨0, [], rfl, by omega, Lib.hid ⟨hP0.out, Nat.le_refl _, ⟨rfl, .inl ⟨rfl, rfl⟩⟩, by simp, AT0.out⟩, by repeat' (first | (with_reducible first | exact Below.refl _ _ | assumption | refine below_alloc ?_ _ | refine Below.drew ?_ | refine Go.Mq.below_drewN ?_ _ | refine below_then ?_ (by assumption) | refine below_put ?_ (by assumption) (by first | (simp; done) | (simp; omega) | omega) | refine Below.setCell ?_ ?_ _) | (simp; done) | (simp; omega) | omega), AT1.out⟩
  case round =>
    obtain ⟨k, acc, rfl, hk, hx, hb, hlt⟩ := hrel
    by_cases hkn : k < xs.length
    · obtain ⟨b, off, rfl, hbl, hc⟩ := H3.out (by omega)
      have hki : (k : Int) < xs.length := by omega
      have hbs := hb.size
      have W1 : wrap64 ((k : Int) + 1) = k + 1 := by have := HN.out; unfold wrap64; omega
      have hx1 : Hid (P0 = pick f acc (xs.getD k Ln0 :: xs.drop (k + 1))) := Lib.hid (by rw [← lines_drop hkn]; exact hx.out.1)
      have HX := Lib.hid hx.out.2
      have HOK := Lib.hid (lines_ok HO.out hkn)
      have HC0 := Lib.hid (line_cells (hc k hkn) HOK.out)
      have HCB : Hid (∀ j u, (lineC (xs.getD k Ln0)).toList[j]? = some u → wr.cell? (Addr.add ⟨b, off + k * 18, none⟩ j) = some u) := Lib.hid (fun j u hj => by rw [Addr.add_lit]; exact (hb.cell (p := ⟨b, _, none⟩) hbl).trans (by have := HC0.out j u hj; rwa [Addr.add_lit] at this))
      have CS0 := Lib.hid (line_facts HOK.out)
      obtain ⟨C, hC⟩ : ∃ C, C = lineC (xs.getD k Ln0) := ⟨_, rfl⟩
      obtain ⟨X, hX⟩ : ∃ X, X = pixC (xs.getD k Ln0) := ⟨_, rfl⟩
      have HC : Hid (∀ j u, C.toList[j]? = some u → wr.cell? (Addr.add ⟨b, off + k * 18, none⟩ j) = some u) := Lib.hid (by rw [hC]; exact HCB.out)
      obtain ⟨yf, hyf⟩ : ∃ yf, yf = (xs.getD k Ln0).fr := ⟨_, rfl⟩
      obtain ⟨yl, hyl⟩ : ∃ yl, yl = (xs.getD k Ln0).ln := ⟨_, rfl⟩
      obtain ⟨yp, hyp⟩ : ∃ yp, yp = (xs.getD k Ln0).px := ⟨_, rfl⟩
      have CS : Hid (C.size = 18 ∧ C.all (·.oneCell') = true ∧ C[0]? = some (.int .i64 yf) ∧ C[1]? = some (.int .i64 yl) ∧ (C.toList.drop 2).take 16 = X.toList ∧ X.size = 16 ∧ X.toList = yp.map (Value.int .u8)) := Lib.hid (by rw [hC, hX, hyf, hyl, hyp]; exact CS0.out)
      have QOK : Hid (RowOk yp) := Lib.hid (by rw [hyp]; exact HOK.out.2.2)
      have PY : Hid (xs.getD k Ln0 = ⟨yf, yl, yp⟩) := Lib.hid (by rw [hyf, hyl, hyp])
      replace hx1 : Hid (P0 = pick f acc (⟨yf, yl, yp⟩ :: xs.drop (k + 1))) := Lib.hid (by rw [← PY.out]; exact hx1.out)
      obtain ⟨ao, cp, rfl⟩ := own_shape HX.out.2.1
      clear hx hc HC0 HCB CS0 hC hX hyf hyl hyp HOK PY
      by_cases g1 : yf = f
      · have t1 : (yf == f) = true := beq_iff_eq.2 g1
        by_cases g2 : yl = acc.length
        · have t2 : (yl == (acc.length : Int)) = true := beq_iff_eq.2 g2
          have E : Hid (P0 = pick f (acc ++ [yp]) (xs.drop (k + 1))) := Lib.hid (by rw [hx1.out]; exact pick_yes f acc _ _ g1 g2)
          clear hx1 g1 g2
          go_wp2_with (first
            | (refine wpList_loadC rfl 61 (.tmp 21) rfl ⟨b, off + k * 18, none⟩ rfl C HC.out _ Tryd.underlying61 rfl (by rw [CS.out.1]; kernel_rfl) ?_)
            | (refine wpList_storeW rfl 61 (.tmp 9) (.tmp 22) rfl (wr.heap.size) C rfl rfl 61 _ (Blk.new _ _ _) (by rw [CS.out.1]; kernel_rfl) (by rw [CS.out.1]; rfl) CS.out.2.1 ?_; intro w2 hp2 K2; have e0 : w2.cell? ⟨wr.heap.size, 0, none⟩ = some (.int .i64 yf) := (K2.out.cell 0).trans CS.out.2.2.1; have e1 : w2.cell? ⟨wr.heap.size, 1, none⟩ = some (.int .i64 yl) := (K2.out.cell 1).trans CS.out.2.2.2.1; have hb2 : Below w.heap.size w w2 := below_put (below_alloc hb _) hp2 hbs; have hl2 : w.heap.size < w2.heap.size := (by have := hp2.size; simp at this; omega); have HB2 : Hid (Below wr.heap.size wr w2) := Lib.hid (below_put (below_alloc (Below.refl _ _) _) hp2 (Nat.le_refl _)); have OW2 := Lib.hid (own_below HX.out.2.1 HB2.out); clear hp2)
            | (refine wpList_loadA rfl 59 (.tmp 35) rfl wr.heap.size 2 16 rfl 61 C X K2.out _ Tryd.underlying59 rfl (by kernel_rfl) CS.out.2.2.2.2.1 (by rw [Array.length_toList]; exact CS.out.2.2.2.2.2.1) ?_)
            | (refine wpList_buildSlice rfl 56 59 1 #[(0, .tmp 36)] rfl X i0 _ Tryd.underlying56 HI.out.1 HI.out.2.1 (by have := HI.out.2.2.1; omega) (by have := HI.out.2.2.1; omega) (by rw [Array.toList_map]; exact fill_row X _ HI.out.2.2.1 CS.out.2.2.2.2.2.1 _) ?_)
            | (at_builtin; refine wpList_append_own _ rfl (.tmp 34) (.tmp 37) 56 rfl (w1.heap.size) 59 i0 (.agg #[.int .u8 0, .int .u8 0, .int .u8 0, .int .u8 0, .int .u8 0, .int .u8 0, .int .u8 0, .int .u8 0, .int .u8 0, .int .u8 0, .int .u8 0, .int .u8 0, .int .u8 0, .int .u8 0, .int .u8 0, .int .u8 0]) 16 16 Tryd.underlying56 HI.out.1 HI.out.2.1 HI.out.2.2.1 HI.out.2.2.2 rfl (by decide) _ _ _ rfl (World.ownsRow.alloc OW2.out _) ⟨w2.heap.size, 0, none⟩ 1 1 X.toList rfl (by rw [Array.length_toList, CS.out.2.2.2.2.2.1]) ?c1 ?c2 ?c3 ?c4 ?c5 ?_)
            | fail)
          case c1 =>
            intro j u hj
            rw [Addr.add_lit, Nat.zero_add, (Blk.new _ _ _).cell j]
            simpa using hj
          case c2 =>
            intro u hu
            rw [CS.out.2.2.2.2.2.2] at hu
            obtain ⟨q, _, rfl⟩ := List.mem_map.1 hu
            rfl
          case c3 => have := HX.out.1; have := HN.out; unfold maxLen; omega
          case c4 => have := HX.out.1; have := HN.out; omega
          case c5 => have := hl2; have := HX.out.2.2.2.size; have := HB2.out.size; simp; omega
          intro v' w9 hown hgrow _
          have hb9 : Below w.heap.size w w9 := below_grown (below_alloc hb2 _) (by simp; omega) hgrow (World.ownsRow.alloc OW2.out _) (by omega)
          have hl9 : w.heap.size < w9.heap.size := by have := hgrow.size; simp at this; omega
          have HO9 : Hid (w9.ownsRow (w1.heap.size) 59 16 v' (acc ++ [yp]).length (rowsC (acc ++ [yp]))) := Lib.hid (by
            rw [List.length_append, show rowsC (acc ++ [yp]) = rowsC acc ++ X.toList by rw [CS.out.2.2.2.2.2.2]; simp [rowsC]]
            exact hown)
          have OKX : Hid (∀ r ∈ acc ++ [yp], RowOk r) := Lib.hid (fun r hr => by
            rcases List.mem_append.1 hr with h | h
            · exact HX.out.2.2.1 r h
            · rw [List.mem_singleton] at h; subst h; exact QOK.out)
          have HG : Hid (Below w1.heap.size w1 w9) := Lib.hid (below_grown (below_alloc (HX.out.2.2.2.trans (HB2.out.mono HX.out.2.2.2.size)) _) (by have := HX.out.2.2.2.size; have := HB2.out.size; simp; omega) hgrow (World.ownsRow.alloc OW2.out _) (Nat.le_refl _))
          obtain ⟨ao', cp', rfl⟩ := own_shape hown
          clear hown hgrow
          go_wp2
          go_roundw
          case rel => exact ⟨k + 1, _, by go_num, by omega, Lib.hid ⟨E.out, by rw [List.length_append]; have := HX.out.1; simp; omega, HO9.out, OKX.out, HG.out⟩, hb9, hl9⟩
          case measure => exact meas_k _ _ _ hkn (by first | rfl | exact W1)
        · have t2 : (yl == (acc.length : Int)) = false := beq_eq_false_iff_ne.2 g2
          have E : Hid (P0 = pick f acc (xs.drop (k + 1))) := Lib.hid (by rw [hx1.out]; exact pick_no f acc _ _ (fun h => g2 h.2))
          clear hx1 g1 g2
          go_wp2_with (first
            | (refine wpList_loadC rfl 61 (.tmp 21) rfl ⟨b, off + k * 18, none⟩ rfl C HC.out _ Tryd.underlying61 rfl (by rw [CS.out.1]; kernel_rfl) ?_)
            | (refine wpList_storeW rfl 61 (.tmp 9) (.tmp 22) rfl (wr.heap.size) C rfl rfl 61 _ (Blk.new _ _ _) (by rw [CS.out.1]; kernel_rfl) (by rw [CS.out.1]; rfl) CS.out.2.1 ?_; intro w2 hp2 K2; have e0 : w2.cell? ⟨wr.heap.size, 0, none⟩ = some (.int .i64 yf) := (K2.out.cell 0).trans CS.out.2.2.1; have e1 : w2.cell? ⟨wr.heap.size, 1, none⟩ = some (.int .i64 yl) := (K2.out.cell 1).trans CS.out.2.2.2.1; have hb2 : Below w.heap.size w w2 := below_put (below_alloc hb _) hp2 hbs; have hl2 : w.heap.size < w2.heap.size := (by have := hp2.size; simp at this; omega); have HB2 : Hid (Below wr.heap.size wr w2) := Lib.hid (below_put (below_alloc (Below.refl _ _) _) hp2 (Nat.le_refl _)); have OW2 := Lib.hid (own_below HX.out.2.1 HB2.out); clear hp2)
            | fail)
          go_roundw
          case rel => exact ⟨k + 1, acc, by go_num, by omega, Lib.hid ⟨E.out, by have := HX.out.1; omega, OW2.out, HX.out.2.2.1, HX.out.2.2.2.trans (HB2.out.mono HX.out.2.2.2.size)⟩, hb2, hl2⟩
          case measure => exact meas_k _ _ _ hkn (by first | rfl | exact W1)
      · have t1 : (yf == f) = false := beq_eq_false_iff_ne.2 g1
        have E : Hid (P0 = pick f acc (xs.drop (k + 1))) := Lib.hid (by rw [hx1.out]; exact pick_no f acc _ _ (fun h => g1 h.1))
        clear hx1 g1
        go_wp2_with (first
          | (refine wpList_loadC rfl 61 (.tmp 21) rfl ⟨b, off + k * 18, none⟩ rfl C HC.out _ Tryd.underlying61 rfl (by rw [CS.out.1]; kernel_rfl) ?_)
          | (refine wpList_storeW rfl 61 (.tmp 9) (.tmp 22) rfl (wr.heap.size) C rfl rfl 61 _ (Blk.new _ _ _) (by rw [CS.out.1]; kernel_rfl) (by rw [CS.out.1]; rfl) CS.out.2.1 ?_; intro w2 hp2 K2; have e0 : w2.cell? ⟨wr.heap.size, 0, none⟩ = some (.int .i64 yf) := (K2.out.cell 0).trans CS.out.2.2.1; have e1 : w2.cell? ⟨wr.heap.size, 1, none⟩ = some (.int .i64 yl) := (K2.out.cell 1).trans CS.out.2.2.2.1; have hb2 : Below w.heap.size w w2 := below_put (below_alloc hb _) hp2 hbs; have hl2 : w.heap.size < w2.heap.size := (by have := hp2.size; simp at this; omega); have HB2 : Hid (Below wr.heap.size wr w2) := Lib.hid (below_put (below_alloc (Below.refl _ _) _) hp2 (Nat.le_refl _)); have OW2 := Lib.hid (own_below HX.out.2.1 HB2.out); clear hp2)
          | fail)
        go_roundw
        case rel => exact ⟨k + 1, acc, by go_num, by omega, Lib.hid ⟨E.out, by have := HX.out.1; omega, OW2.out, HX.out.2.2.1, HX.out.2.2.2.trans (HB2.out.mono HX.out.2.2.2.size)⟩, hb2, hl2⟩
        case measure => exact meas_k _ _ _ hkn (by first | rfl | exact W1)
    · have hkn' : k = xs.length := by omega
      have hP : Hid (P0 = acc) := Lib.hid (by rw [hx.out.1, hkn', List.drop_length]; rfl)
      have HX := Lib.hid hx.out.2
      subst hkn'
      clear hx hkn
      obtain ⟨ao2, cp2, rfl⟩ := own_shape HX.out.2.1
      by_cases h8 : acc.length = 8
      · have h8' : ((acc.length : Int) != 8) = false := by simp; omega
        obtain ⟨rfl, hr⟩ := HT.out.1 (by rw [hP.out]; exact h8)
        have H8 := Lib.hid h8
        have EQ2 := Lib.hid (fun W (hW : Below wr.heap.size wr W) => EQ.out _ _ acc W ((by rw [hP.out] at hr; exact hr.below HX.out.2.2.2 : RowsAt wr _ acc).below hW) ((own_rows HX.out.2.1 HX.out.2.2.1).below hW) (by omega))
        clear h8 hr
        go_wp2_with fail
        refine (TP.out wr (HL.out.below hb)).mono ?_
        rintro e w2 ⟨rfl, hb2⟩
        have hbb2 : Below w.heap.size w w2 := below_then hb hb2
        go_wp2_with fail
        refine (EQ2.out w2 hb2).mono ?_
        rintro e w3 ⟨rfl, hb3⟩
        have hbb3 : Below w.heap.size w w3 := below_then hbb2 hb3
        go_wp2
        go_ret
        exact ⟨rfl, hbb3⟩
      · have h8' : ((acc.length : Int) != 8) = true := by simp; omega
        obtain ⟨rfl, rfl, rfl, rfl⟩ := HT.out.2 (by rw [hP.out]; exact h8)
        clear h8
        go_wp2_with fail
        refine (TP.out wr (HL.out.below hb)).mono ?_
        rintro e w2 ⟨rfl, hb2⟩
        have hbb2 : Below w.heap.size w w2 := below_then hb hb2
        go_wp2_with fail
        refine (TP.out w2 (HL.out.below hbb2)).mono ?_
        rintro e w3 ⟨rfl, hb3⟩
        have hbb3 : Below w.heap.size w w3 := below_then hbb2 hb3
        go_wp2
        go_ret
        exact ⟨rfl, hbb3⟩
end Go.Proofs.YtlhjoclclbhjgaaDoor.tapeFrame
