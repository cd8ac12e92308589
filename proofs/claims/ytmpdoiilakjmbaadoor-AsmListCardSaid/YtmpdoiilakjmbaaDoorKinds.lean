/- The document's table of orders, as it makes it. Conditions: the library's variables hold what they were laid with. -/
import Derived.Test.YtmpdoiilakjmbaaDoorLibS
import Derived.Test.YtmpdoiilakjmbaaDoorKindsP
import Derived.Test.YtmpdoiilakjmbaaDoorBase2
import Derived.LoopTactic
import Derived.Deep.RegionLawGrows
namespace Go.Proofs.YtmpdoiilakjmbaaDoor
open Go.RowKit Go.Mq
set_option linter.unusedVariables false
set_option linter.unusedSimpArgs false
set_option maxHeartbeats 2000000
set_option maxRecDepth 100000
structure Lk9 (w : World) : Prop where
  lk : Lk w
  sp : Lib.TabIs Tryd.prog w "strings.asciiSpace" .u8 Lib.asciiSpaceTab
theorem Lk9.below {w w' : World} (h : Lk9 w) (hb : Below w.heap.size w w') : Lk9 w' := ⟨h.lk.below hb, var_below h.sp hb⟩
theorem infoK : (Tryd.prog.info? 43).map (fun i => (i.zero, i.size, i.bytes)) = some (some (.agg #[.string ⟨#[]⟩, .string ⟨#[]⟩, .int .i64 0]), 3, 40) := by kernel_rfl
theorem fields_tab (s : ByteArray) (hs : Lib.fields s.data.toList = kindTexts) (hl : s.size < 4294967281) (ha : ∀ (j : Nat) b, s.data.toList[j]? = some b → b.toNat < 128) (w : World) (hL : Lk9 w) : Calls Tryd.prog 39 #[.string s] w fun e w' => e = .returned (.slice (some ⟨w.heap.size, 0, none⟩) 32 32) ∧ w' = w.alloc (.cells (kindTexts.map strV).toArray 9) := by
  refine (Tryd.strings_Fields s w hl ha hL.sp).mono ?_
  rw [hs]
  rintro e w' ⟨rfl, rfl⟩
  exact ⟨rfl, rfl⟩
theorem ascii_of (l : List UInt8) (h : l.all (fun b => decide (b.toNat < 128)) = true) : ∀ (j : Nat) b, l[j]? = some b → b.toNat < 128 := fun j b hj => of_decide_eq_true (List.all_eq_true.1 h b (List.mem_of_getElem? hj))
theorem split_k (k : Nat) (hk : k < 32) (w : World) (hL : Lk w) : Calls Tryd.prog 34 #[.string ⟨(kText k).toArray⟩, .string ⟨#[58]⟩] w fun e w' =>
    e = .returned (.slice (some ⟨w.heap.size, 0, none⟩) 3 3) ∧ w' = w.alloc (.cells #[.string ⟨(nmK k).toArray⟩, .string ⟨(hsK k).toArray⟩, .string ⟨(kLast k).toArray⟩] 9) := by
  have := split_any ⟨(kText k).toArray⟩ (by rw [Lib.size_eq]; have := (k_len k hk).1; simp; omega) 58 w hL
  rw [show (⟨(kText k).toArray⟩ : ByteArray).data.toList = kText k by simp, k_sep k hk] at this
  exact this
theorem parse_k (k : Nat) (hk : k < 32) (w : World) : Calls Tryd.prog 40 #[.string ⟨(kLast k).toArray⟩, .int .i64 10, .int .i64 64] w fun e w' => e = .returned (.tuple #[.int .i64 (cyK k), .nilIface]) ∧ Below w.heap.size w w' :=
  parseint_yes ⟨(kLast k).toArray⟩ (by rw [Lib.size_eq]; have := (k_len k hk).2; simp; omega) (cyK k) (by simpa using k_cyc k hk) w
def KindsAt (w : World) (v : Value) : Prop := ∃ g cap, v = .slice (some ⟨g, 0, none⟩) 32 cap ∧ g < w.heap.size ∧ ∀ k, k < 32 →
  w.cell? ⟨g, k * 3, none⟩ = some (.string ⟨(nmK k).toArray⟩) ∧ w.cell? ⟨g, k * 3 + 1, none⟩ = some (.string ⟨(hsK k).toArray⟩) ∧ w.cell? ⟨g, k * 3 + 2, none⟩ = some (.int .i64 (cyK k))
theorem kinds_any (w : World) (hL : Lk9 w) : Calls Tryd.prog 19 #[] w fun e w' => (∃ v, e = .returned v ∧ w'.ownsRow w.heap.size 43 3 v 32 (kRows 32)) ∧ Below w.heap.size w w' := by
  have HL := Lib.hid hL
  have FT := Lib.hid fields_tab
  have SK := Lib.hid split_k
  have PK := Lib.hid parse_k
  obtain ⟨i0, hi, hz0, hz1, hz2⟩ := info_parts infoK
  have HI := Lib.hid (And.intro hi (And.intro hz0 (And.intro hz1 hz2)))
  clear hi hz0 hz1 hz2 hL
  go_enter Tryd.func19, Tryd.ntmps19
  go_wp2_with fail
  refine (FT.out _ (Eq.trans (congrArg Lib.fields (by kernel_rfl)) tbl_fields) (by decide +kernel) (ascii_of _ (by decide +kernel)) _ HL.out).mono ?_
  rintro e w1 ⟨rfl, rfl⟩
  obtain ⟨g, eg⟩ : ∃ g, g = w.heap.size := ⟨_, rfl⟩
  have KB : Hid (Blk (w.alloc (.cells (kindTexts.map strV).toArray 9)) g (kindTexts.map strV).toArray 9) := Lib.hid (Blk.new_at _ _ _ _ eg)
  have hbb1 : Below w.heap.size w (w.alloc (.cells (kindTexts.map strV).toArray 9)) := below_alloc (Below.refl _ _) _
  have GE : Hid (g = w.heap.size) := Lib.hid eg
  rw [← eg]
  clear eg
  generalize w.alloc (.cells (kindTexts.map strV).toArray 9) = w1 at *
  go_wp2
  go_loopw [1, 9] (fun v i wr => ∃ k : Nat, i = .int .i64 k ∧ k ≤ 32 ∧ Hid (wr.ownsRow (g + 1) 43 3 v k (kRows k) ∧ Blk wr g (kindTexts.map strV).toArray 9) ∧ Below w.heap.size w wr) (fun _ i _ => 32 - (intOf i).toNat)
  case atStart => exact ⟨0, rfl, by omega, Lib.hid ⟨⟨rfl, .inl ⟨rfl, rfl⟩⟩, KB.out⟩, hbb1⟩
  case round =>
    obtain ⟨k, rfl, hk, hx, hb⟩ := hrel
    by_cases hkn : k < 32
    · have hki : (k : Int) < 32 := by omega
      have c0 : wr.cell? ⟨g, k, none⟩ = some (.string ⟨(kText k).toArray⟩) := by
        rw [hx.out.2.cell k, List.getElem?_toArray, List.getElem?_map]
        have : kindTexts[k]? = some (kText k) := by
          have hl : kindTexts.length = 32 := rfl
          unfold kText
          rw [List.getD_eq_getElem?_getD, List.getElem?_eq_getElem (by omega)]
          rfl
        rw [this]
        rfl
      have HX := Lib.hid hx.out
      obtain ⟨ao, cp, rfl⟩ := own_shape HX.out.1
      have SKk := Lib.hid (SK.out k hkn)
      have PKk := Lib.hid (PK.out k hkn)
      have HLr := Lib.hid (HL.out.below hb)
      have KI := Lib.hid (k_in k hkn)
      have KS := Lib.hid (kRows_succ k)
      obtain ⟨tk, htk⟩ : ∃ t, t = kText k := ⟨_, rfl⟩
      obtain ⟨a, ha⟩ : ∃ t, t = nmK k := ⟨_, rfl⟩
      obtain ⟨b, hb'⟩ : ∃ t, t = hsK k := ⟨_, rfl⟩
      obtain ⟨c, hc⟩ : ∃ t, t = kLast k := ⟨_, rfl⟩
      obtain ⟨y, hy⟩ : ∃ t, t = cyK k := ⟨_, rfl⟩
      rw [← htk] at c0
      rw [← htk, ← ha, ← hb', ← hc] at SKk
      rw [← hc, ← hy] at PKk
      rw [← hy] at KI
      rw [← ha, ← hb', ← hy] at KS
      clear htk ha hb' hc hy hx
      go_wp2_with fail
      refine (SKk.out wr HLr.out.lk).mono ?_
      rintro e w2 ⟨rfl, rfl⟩
      go_wp2_with fail
      refine cmark (F := fun X => Calls _ _ _ X _) (R := fun W => Below w.heap.size w W ∧ Hid (Blk W (wr.heap.size) (#[.string ⟨a.toArray⟩, .string ⟨b.toArray⟩, .string ⟨c.toArray⟩]) 9) ∧ Hid (Below wr.heap.size wr W)) ⟨by repeat' (first | (with_reducible first | exact Below.refl _ _ | assumption | refine below_alloc ?_ _ | refine Below.drew ?_ | refine Go.Mq.below_drewN ?_ _ | refine below_then ?_ (by assumption) | refine below_put ?_ (by assumption) (by first | (simp; done) | (simp; omega) | omega) | refine Below.setCell ?_ ?_ _) | (simp; done) | (simp; omega) | omega), Lib.hid (by repeat' (first | (with_reducible first | exact Hid.out (by assumption) | exact Blk.new _ _ _ | (refine Blk.new_at _ _ _ _ ?_; simp; done) | refine Blk.alloc ?_ _ | refine Blk.drewN ?_ _ | refine Blk.drew ?_ | apply Blk.set | refine Blk.put ?_ (by assumption) (by first | (simp; done) | (simp; omega) | omega) | refine Blk.below ?_ (by assumption)) | (refine Blk.setAt ?_ (by first | (simp; done) | (simp; omega))) | rfl)), Lib.hid (below_alloc (Below.refl _ _) _)⟩ ?_
      rintro w2 ⟨hbw2, Kw2_0, HB2⟩
      obtain ⟨lw2_0, cw2_0, fw2_0⟩ := Kw2_0.out.use
      refine (PKk.out _).mono ?_
      rintro e w3 ⟨rfl, hb3⟩
      have OW3 := Lib.hid (own_below HX.out.1 (HB2.out.trans (hb3.mono HB2.out.size)))
      have KT3 := Lib.hid (HX.out.2.below (HB2.out.trans (hb3.mono HB2.out.size)))
      have NE3 : Hid (some wr.heap.size ≠ (Value.slice ao k cp).ownBlock) := Lib.hid (fun h => Nat.lt_irrefl _ (own_blk_lt HX.out.1 h))
      have KW3 := Lib.hid (Kw2_0.out.below hb3)
      have hbw3 : Below w.heap.size w w3 := below_then hbw2 hb3
      have hbs := hb.size
      have GL : Hid (g < g + 1 ∧ w.heap.size ≤ w3.heap.size ∧ g < w3.heap.size ∧ wr.heap.size < w3.heap.size) := Lib.hid ⟨by omega, hbw3.size, KT3.out.lt, KW3.out.lt⟩
      clear hb3 hbw2 cw2_0 fw2_0
      go_wp2_with fail
      refine wp_region_held_drew (S := fun X => Below w.heap.size w X ∧ Blk X wr.heap.size #[.string ⟨a.toArray⟩, .string ⟨b.toArray⟩, .string ⟨c.toArray⟩] 9) (by kernel_rfl) ⟨hbw3.drew, KW3.out.drew⟩ (fun hS => ?_)
      refine wpAnyH_take (i := 0) (v := ?v0) rfl (by kernel_rfl) (by kernel_rfl) (by kernel_rfl) (fun _ _ _ h => h) (Or.inl ⟨by rfl, ?y0⟩) hS ?_
      case y0 => (intro X hSw; go_simp; try with_reducible rfl)
      try simp only [List.getElem_toArray, List.getElem_cons_succ, List.getElem_cons_zero, Act.put, List.setIfInBounds_toArray, List.set_cons_zero, List.set_cons_succ]
      refine wpAnyH_take (i := 1) (v := ?v1) rfl (by kernel_rfl) (by kernel_rfl) (by kernel_rfl) (fun _ _ _ h => h) (Or.inl ⟨by rfl, ?y1⟩) hS ?_
      case y1 => (intro X hSw; go_simp; try with_reducible rfl)
      try simp only [List.getElem_toArray, List.getElem_cons_succ, List.getElem_cons_zero, Act.put, List.setIfInBounds_toArray, List.set_cons_zero, List.set_cons_succ]
      refine wpAnyH_take (i := 2) (v := ?v2) rfl (by kernel_rfl) (by kernel_rfl) (by kernel_rfl) (fun _ _ _ h => h) (Or.inl ⟨by rfl, ?y2⟩) hS ?_
      case y2 => (intro X hSw; go_simp; try with_reducible rfl)
      try simp only [List.getElem_toArray, List.getElem_cons_succ, List.getElem_cons_zero, Act.put, List.setIfInBounds_toArray, List.set_cons_zero, List.set_cons_succ]
      refine wpAnyH_take (i := 3) (v := ?v3) rfl (by kernel_rfl) (by kernel_rfl) (by kernel_rfl) (fun _ _ _ h => h) (Or.inl ⟨by rfl, ?y3⟩) hS ?_
      case y3 => (intro X hSw; have q : X.cell? ⟨wr.heap.size, 0, none⟩ = some (.string ⟨a.toArray⟩) := hSw.2.cell 0; go_simp; try with_reducible rfl)
      try simp only [List.getElem_toArray, List.getElem_cons_succ, List.getElem_cons_zero, Act.put, List.setIfInBounds_toArray, List.set_cons_zero, List.set_cons_succ]
      refine wpAnyH_take (i := 4) (v := ?v4) rfl (by kernel_rfl) (by kernel_rfl) (by kernel_rfl) (fun _ _ _ h => h) (Or.inl ⟨by rfl, ?y4⟩) hS ?_
      case y4 => (intro X hSw; go_simp; try with_reducible rfl)
      try simp only [List.getElem_toArray, List.getElem_cons_succ, List.getElem_cons_zero, Act.put, List.setIfInBounds_toArray, List.set_cons_zero, List.set_cons_succ]
      refine wpAnyH_take (i := 5) (v := ?v5) rfl (by kernel_rfl) (by kernel_rfl) (by kernel_rfl) (fun _ _ _ h => h) (Or.inl ⟨by rfl, ?y5⟩) hS ?_
      case y5 => (intro X hSw; go_simp; try with_reducible rfl)
      try simp only [List.getElem_toArray, List.getElem_cons_succ, List.getElem_cons_zero, Act.put, List.setIfInBounds_toArray, List.set_cons_zero, List.set_cons_succ]
      refine wpAnyH_take (i := 6) (v := ?v6) rfl (by kernel_rfl) (by kernel_rfl) (by kernel_rfl) (fun _ _ _ h => h) (Or.inl ⟨by rfl, ?y6⟩) hS ?_
      case y6 => (intro X hSw; have q : X.cell? ⟨wr.heap.size, 1, none⟩ = some (.string ⟨b.toArray⟩) := hSw.2.cell 1; go_simp; try with_reducible rfl)
      try simp only [List.getElem_toArray, List.getElem_cons_succ, List.getElem_cons_zero, Act.put, List.setIfInBounds_toArray, List.set_cons_zero, List.set_cons_succ]
      refine wpAnyH_take (i := 7) (v := ?v7) rfl (by kernel_rfl) (by kernel_rfl) (by kernel_rfl) (fun _ _ _ h => h) (Or.inl ⟨by rfl, ?y7⟩) hS ?_
      case y7 => (intro X hSw; go_simp; try with_reducible rfl)
      try simp only [List.getElem_toArray, List.getElem_cons_succ, List.getElem_cons_zero, Act.put, List.setIfInBounds_toArray, List.set_cons_zero, List.set_cons_succ]
      refine wpAnyH_take (i := 8) (v := ?v8) rfl (by kernel_rfl) (by kernel_rfl) (by kernel_rfl) (fun _ _ _ h => h) (Or.inl ⟨by rfl, ?y8⟩) hS ?_
      case y8 => (intro X hSw; go_simp; try with_reducible rfl)
      try simp only [List.getElem_toArray, List.getElem_cons_succ, List.getElem_cons_zero, Act.put, List.setIfInBounds_toArray, List.set_cons_zero, List.set_cons_succ]
      have OW4 : Hid (w3.drew.ownsRow (g + 1) 43 3 (.slice ao k cp) k (kRows k)) := Lib.hid (World.ownsRow.drew OW3.out)
      have KT4 : Hid (Blk w3.drew g (kindTexts.map strV).toArray 9) := Lib.hid KT3.out.drew
      have KW4 : Hid (Blk w3.drew wr.heap.size #[.string ⟨a.toArray⟩, .string ⟨b.toArray⟩, .string ⟨c.toArray⟩] 9) := Lib.hid KW3.out.drew
      refine wpAnyH_ready (rs := [9]) (by kernel_rfl) (by simp) (AllReadyH.cons rfl (fun K hK => ?_) AllReadyH.nil)
      go_simp
      refine hK.out _ _ ⟨hbw3.drew.alloc (by simpa using hbw3.size) _, KW4.out.alloc _⟩ (fun hS => ?_)
      clear hK K
      try simp only [List.getElem_toArray, List.getElem_cons_succ, List.getElem_cons_zero, Act.put, List.setIfInBounds_toArray, List.set_cons_zero, List.set_cons_succ]
      refine wpAnyH_ready (rs := [10]) (by kernel_rfl) (by simp) (AllReadyH.cons rfl (fun K hK => ?_) AllReadyH.nil)
      rw [if_pos (by rfl)]
      refine wp_append_own _ (.tmp 22) (.tmp 31) 44 rfl (g + 1) 43 i0 (.agg #[.string ⟨#[]⟩, .string ⟨#[]⟩, .int .i64 0]) 3 40 Tryd.underlying44 HI.out.1 HI.out.2.1 HI.out.2.2.1 HI.out.2.2.2 rfl (by decide) _ _ _ rfl (OW4.out.alloc _) ⟨w3.heap.size, 0, none⟩ 1 1 [.string ⟨a.toArray⟩, .string ⟨b.toArray⟩, .int .i64 y] rfl rfl ?c1 ?c2 ?c3 ?c4 ?c5 ?c6
      case c1 =>
        intro j u hj
        match j, hj with
        | 0, hj => simp at hj; subst hj; simp [Addr.add]
        | 1, hj => simp at hj; subst hj; simp [Addr.add]
        | 2, hj => simp at hj; subst hj; simp [Addr.add]
      case c2 => intro u hu; simp at hu; rcases hu with rfl | rfl | rfl <;> rfl
      case c3 => unfold maxLen; omega
      case c4 => omega
      case c5 => have := GL.out; simp; omega
      case c6 =>
        intro v' w5 hown hgrow _
        have hb5 : Below w.heap.size w w5 := below_grown (below_alloc hbw3.drew _) (by have := GL.out; simp; omega) hgrow (OW4.out.alloc _) (by have := GE.out; omega)
        have KT5 := Lib.hid (Blk.grown (KT4.out.alloc _) hgrow (OW4.out.alloc _) (Nat.lt_succ_self g))
        refine hK.out _ _ ⟨hb5, blk_grown2 (KW4.out.alloc _) hgrow NE3.out⟩ (fun hS => ?_)
        clear hK K
        try simp only [List.getElem_toArray, List.getElem_cons_succ, List.getElem_cons_zero, Act.put, List.setIfInBounds_toArray, List.set_cons_zero, List.set_cons_succ]
        refine wpAnyH_take (i := 11) (v := ?v11) rfl (by kernel_rfl) (by kernel_rfl) (by kernel_rfl) (fun _ _ _ h => h) (Or.inl ⟨by rfl, ?y11⟩) hS ?_
        case y11 => (intro X hSw; go_simp; try with_reducible rfl)
        try simp only [List.getElem_toArray, List.getElem_cons_succ, List.getElem_cons_zero, Act.put, List.setIfInBounds_toArray, List.set_cons_zero, List.set_cons_succ]
        refine wpAnyH_done (by kernel_rfl) ?_ _
        rw [← KS.out] at hown
        have HO5 := Lib.hid hown
        obtain ⟨ao5, cp5, rfl⟩ := own_shape hown
        clear hown hgrow
        go_wp2
        go_roundw
        case rel => exact ⟨k + 1, by go_num, by omega, Lib.hid ⟨HO5.out, KT5.out⟩, hb5⟩
        case measure => simp [intOf]; omega
    · have hk32 : k = 32 := by omega
      subst hk32
      have HX := Lib.hid hx.out.1
      obtain ⟨ao, cp, rfl⟩ := own_shape HX.out
      clear hx
      go_wp2
      go_ret
      exact ⟨⟨_, rfl, own_base HX.out (by have := GE.out; omega)⟩, hb⟩
end Go.Proofs.YtmpdoiilakjmbaaDoor
