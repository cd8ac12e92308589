/- The law AsmBack answers true for every input. Conditions: the program lies in memory; the library's variables hold what they were laid with. -/
import Derived.Test.YtmpdoiilakjmbaaDoorAsmFact
import Derived.Test.YtmpdoiilakjmbaaDoorAsmBk2
import Derived.Test.YtmpdoiilakjmbaaDoorAsmCnt
namespace Go.Proofs.YtmpdoiilakjmbaaDoor.asmBack
open Go.RowKit Go.Mq
set_option linter.unusedVariables false
set_option linter.unusedSimpArgs false
set_option maxHeartbeats 2000000
set_option maxRecDepth 100000
theorem walk (v : Value) (xs : List Int) (w : World) (hx : SliceAt w .u8 v xs) (hL : Lk w) : Calls Tryd.prog 3 #[v] w fun e w' => e = .returned (.bool true) ∧ Below w.heap.size w w' := by
  have HX := Lib.hid hx
  have HL := Lib.hid hL
  have HU := Lib.hid (slice_u8 hx)
  have LA := Lib.hid (list_any v xs w hL hx)
  obtain ⟨a, cp, rfl, h1, h2, hwf, h3⟩ := hx
  have hlm : xs.length ≤ maxLen := by omega
  unfold maxLen at hlm
  clear hL h1 h2 hwf h3
  go_enter Tryd.func3, Tryd.ntmps3
  go_wp2_with fail
  refine (LA.out).mono ?_
  rintro e w2 ⟨he, hb2⟩
  have B2 := Lib.hid hb2
  clear hb2
  by_cases hbad : 1024 < xs.length ∨ xs.length % 2 = 1
  · obtain ⟨k, hk, rfl⟩ : ∃ k : Int, (k != 0) = true ∧ e = .returned (.tuple #[.string ⟨#[]⟩, .int .i64 k]) := by
      by_cases hm : 1024 < xs.length
      · rw [if_pos hm] at he
        exact ⟨2, rfl, he⟩
      · rw [if_neg hm, if_pos (by omega)] at he
        exact ⟨4, rfl, he⟩
    clear hbad he
    go_wp2_with fail
    refine (built_any _ (HL.out.below B2.out)).mono ?_
    rintro e w3 ⟨rfl, hb3⟩
    have B3 := Lib.hid (below_then B2.out hb3)
    clear hb3
    go_wp2_with fail
    refine (built_any _ (HL.out.below B3.out)).mono ?_
    rintro e w4 ⟨rfl, hb4⟩
    have B4 := Lib.hid (below_then B3.out hb4)
    clear hb4
    go_wp2
    go_ret
    exact ⟨rfl, B4.out⟩
  · have hm : ¬ 1024 < xs.length := by omega
    have ho : ¬ xs.length % 2 = 1 := by omega
    rw [if_neg hm, if_neg ho] at he
    subst he
    have BK := Lib.hid (back_one xs HU.out (by omega))
    have HM : Hid (xs.length ≤ 1024) := Lib.hid (by omega)
    obtain ⟨t, ht⟩ : ∃ t, t = listF xs := ⟨_, rfl⟩
    rw [← ht] at BK ⊢
    clear hm ho ht hbad
    by_cases h4 : 4000 < t.length
    · have h4i : 4000 < (t.length : Int) := by omega
      clear h4
      go_wp2_with fail
      refine (built_any _ (HL.out.below B2.out)).mono ?_
      rintro e w3 ⟨rfl, hb3⟩
      have B3 := Lib.hid (below_then B2.out hb3)
      clear hb3
      go_wp2_with fail
      refine (built_any _ (HL.out.below B3.out)).mono ?_
      rintro e w4 ⟨rfl, hb4⟩
      have B4 := Lib.hid (below_then B3.out hb4)
      clear hb4
      go_wp2
      go_ret
      exact ⟨rfl, B4.out⟩
    · have h4i : ¬ 4000 < (t.length : Int) := by omega
      have H4 : Hid (t.length ≤ 4000) := Lib.hid (by omega)
      have cv := fun (w : World) => run_bytes_of_string (P := Tryd.prog) w 9 22 5 ⟨t.toArray⟩ Tryd.underlying9 Tryd.underlying22 Tryd.underlying5
      clear h4
      go_wp2_with fail
      refine (built_any _ (HL.out.below B2.out)).mono ?_
      rintro e w3 ⟨rfl, hb3⟩
      have B3 := Lib.hid (below_then B2.out hb3)
      clear hb3
      have hc10 := conv_ten
      have B3x : Hid (∀ (o1 o2 : Obj), Below w.heap.size w (((w3.alloc o1).alloc o2).drew)) := Lib.hid (fun o1 o2 => (below_alloc (below_alloc B3.out _) _).drew)
      go_wp2_with fail
      refine (cnt_all t w3 _ _ _).mono ?_
      rintro e w5 ⟨rfl, rfl⟩
      have B5 := Lib.hid (B3x.out (.cells (bytesRow ⟨t.toArray⟩ (grownCap w3 t.length 0 5)) 5 ((bytesRow ⟨t.toArray⟩ (grownCap w3 t.length 0 5)).size, (bytesRow ⟨t.toArray⟩ (grownCap w3 t.length 0 5)).size + 1)) (.cells #[.int .u8 10] 5 (1, 2)))
      obtain ⟨w5, hw5⟩ : ∃ x, x = (((w3.alloc (.cells (bytesRow ⟨t.toArray⟩ (grownCap w3 t.length 0 5)) 5 ((bytesRow ⟨t.toArray⟩ (grownCap w3 t.length 0 5)).size, (bytesRow ⟨t.toArray⟩ (grownCap w3 t.length 0 5)).size + 1))).alloc (.cells #[.int .u8 10] 5 (1, 2))).drew) := ⟨_, rfl⟩
      rw [← hw5] at B5 ⊢
      clear hw5 hc10 cv
      obtain ⟨m, hm⟩ : ∃ m, m = t.count 10 := ⟨_, rfl⟩
      rw [← hm] at BK ⊢
      clear hm
      by_cases hc : 300 < m
      · have hci : 300 < (m : Int) := by omega
        clear hc
        go_wp2_with fail
        refine (built_any _ (HL.out.below B5.out)).mono ?_
        rintro e w6 ⟨rfl, hb6⟩
        have B6 := Lib.hid (below_then B5.out hb6)
        clear hb6
        go_wp2
        go_ret
        exact ⟨rfl, B6.out⟩
      · have hci : ¬ 300 < (m : Int) := by omega
        have EB : Hid (buildF t = (xs, 0, 0)) := Lib.hid (BK.out H4.out (by omega) HM.out)
        have BA := Lib.hid (build_any t (by have := H4.out; omega))
        clear hc
        go_wp2_with fail
        refine (BA.out _ (HL.out.below B5.out)).mono ?_
        rintro e w6 ⟨u, rfl, hs, hb6⟩
        rw [EB.out] at hs ⊢
        have HS := Lib.hid hs
        obtain ⟨ua, uc, rfl, hrest⟩ := hs
        have B6 := Lib.hid (below_then B5.out hb6)
        clear hrest hb6
        go_wp2_with fail
        refine (bytesEqual_any _ _ _ _ _ HS.out (HX.out.below B6.out)).mono ?_
        rintro e w7 ⟨rfl, rfl⟩
        have hd : decide (xs = xs) = true := by simp
        rw [hd]
        go_wp2
        go_ret
        exact ⟨rfl, B6.out⟩
end Go.Proofs.YtmpdoiilakjmbaaDoor.asmBack
