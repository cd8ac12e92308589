/- The document's sprites of a line. Conditions: a memory of 256 bytes. -/
import Derived.Test.YtcgigpglpbhakaaRows
import Derived.Test.YtcgigpglpbhakaaPicRef
set_option linter.unusedVariables false
set_option linter.unusedSimpArgs false
namespace Go.Mq
def drF (xs : List Int) (y : Int) : Nat → List Int
  | 0 => []
  | k + 1 => if 0 ≤ liesV xs k y then drF xs y k ++ [(k : Int)] else drF xs y k
theorem drF_len (xs : List Int) (y : Int) : ∀ k, (drF xs y k).length ≤ k
  | 0 => by simp [drF]
  | k + 1 => by
    have := drF_len xs y k
    unfold drF
    split
    · simp; omega
    · omega
end Go.Mq
namespace Go.Proofs.Ytcgigpglpbhakaa
open Go.RowKit Go.Mq
set_option maxHeartbeats 400000
set_option maxRecDepth 100000
theorem infoI : (Try.prog.info? 3).map (fun i => (i.zero, i.size, i.bytes)) = some (some (.int .i64 0), 1, 8) := by kernel_rfl
theorem drawnOn_any (xs : List Int) (v : Value) (y : Int) (w : World) (h : Vid w v xs) (y0 : 0 ≤ y) (y1 : y ≤ 7) :
    Calls Try.prog 35 #[v, .int .i64 y] w fun e w' => ∃ u, e = .returned u ∧ w'.ownsRow w.heap.size 3 1 u (drF xs y 8).length ((drF xs y 8).map (Value.int .i64)) ∧ Below w.heap.size w w' := by
  have HV := Lib.hid h
  obtain ⟨i0, hi, hz0, hz1, hz2⟩ := info_parts infoI
  have HI := Lib.hid (And.intro hi (And.intro hz0 (And.intro hz1 hz2)))
  clear hi hz0 hz1 hz2 h
  go_enter Try.func35, Try.ntmps35
  go_wp2
  go_loopw [5, 7] (fun l i wr => ∃ k : Nat, k ≤ 8 ∧ i = .int .i64 k ∧ Hid (wr.ownsRow w.heap.size 3 1 l (drF xs y k).length ((drF xs y k).map (Value.int .i64))) ∧ Below w.heap.size w wr) (fun _ i _ => (8 - intOf i).toNat)
  case atStart => exact ⟨0, by omega, rfl, Lib.hid ⟨rfl, Or.inl ⟨rfl, rfl⟩⟩, Below.refl _ _⟩
  case round =>
    obtain ⟨k, hk, rfl, KO, hbr⟩ := hrel
    by_cases hk8 : k < 8
    · obtain ⟨ao, cp, rfl⟩ := own_shape KO.out
      have hki : (k : Int) < 8 := by omega
      have hl8 := drF_len xs y k
      have LC := Lib.hid (lies_any xs v (k : Int) y wr (HV.out.below hbr) (by omega) (by omega) y0 y1)
      have hst : drF xs y (k + 1) = if 0 ≤ liesV xs k y then drF xs y k ++ [(k : Int)] else drF xs y k := rfl
      generalize liesV xs k y = r at *
      generalize drF xs y k = L at *
      by_cases hr : 0 ≤ r
      · rw [if_pos hr] at hst
        have HE := Lib.hid hst
        clear hst
        go_wp2_with fail
        refine LC.out.mono ?_
        rintro e w3 ⟨rfl, hb3⟩
        have KO3 := Lib.hid (own_below KO.out hb3)
        have hb3' : Below w.heap.size w w3 := below_then hbr hb3
        clear KO LC hb3 hbr
        go_wp2_with (first
          | (at_builtin; refine wpList_append_own _ rfl (.tmp 15) (.tmp 17) 65 rfl (w.heap.size) 3 i0 (.int .i64 0) 1 8 Try.underlying65 HI.out.1 HI.out.2.1 HI.out.2.2.1 HI.out.2.2.2 rfl (by decide) _ _ _ rfl (KO3.out.alloc _) ⟨w3.heap.size, 0, none⟩ 1 1 [.int .i64 k] rfl rfl ?c1 ?c2 ?c3 ?c4 ?c5 ?_)
          | fail)
        case c1 =>
          intro j u hj
          match j, hj with
          | 0, hj => simp at hj; subst hj; simp [Addr.add]
        case c2 => intro u hu; simp at hu; subst hu; rfl
        case c3 => unfold maxLen; omega
        case c4 => omega
        case c5 => have := hb3'.size; simp; omega
        intro v' w5 hown hgrow _
        have hb5 : Below w.heap.size w w5 := below_grown (below_alloc hb3' _) (by have := hb3'.size; simp; omega) hgrow (KO3.out.alloc _) (by omega)
        obtain ⟨ao', cp', rfl⟩ := own_shape hown
        have KO5 := Lib.hid hown
        clear hown hgrow KO3
        go_wp2
        go_roundw
        case rel => exact ⟨k + 1, by omega, by go_num, Lib.hid (by rw [HE.out, List.length_append, List.map_append]; exact KO5.out), hb5⟩
        case measure => simp [intOf]; omega
      · rw [if_neg hr] at hst
        have HE := Lib.hid hst
        clear hst
        go_wp2_with fail
        refine LC.out.mono ?_
        rintro e w3 ⟨rfl, hb3⟩
        have KO3 := Lib.hid (own_below KO.out hb3)
        have hb3' : Below w.heap.size w w3 := below_then hbr hb3
        clear KO LC hb3 hbr
        go_wp2
        go_roundw
        case rel => exact ⟨k + 1, by omega, by go_num, Lib.hid (by rw [HE.out]; exact KO3.out), hb3'⟩
        case measure => simp [intOf]; omega
    · have hk' : k = 8 := by omega
      subst hk'
      go_wp2
      go_ret
      exact ⟨_, rfl, KO.out, hbr⟩
end Go.Proofs.Ytcgigpglpbhakaa
