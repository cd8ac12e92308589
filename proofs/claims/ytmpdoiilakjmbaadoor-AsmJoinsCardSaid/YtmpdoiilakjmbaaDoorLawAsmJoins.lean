/- The law AsmJoins answers true for every input. Conditions: the programs lie in memory; the library's variables hold what they were laid with. -/
import Derived.Test.YtmpdoiilakjmbaaDoorAsmFact
import Derived.Test.YtmpdoiilakjmbaaDoorAsmBk2
import Derived.Test.YtmpdoiilakjmbaaDoorAsmCnt
import Derived.Test.YtmpdoiilakjmbaaDoorLibConcat
namespace Go.Proofs.YtmpdoiilakjmbaaDoor.asmJoins
open Go.RowKit Go.Mq
set_option linter.unusedVariables false
set_option linter.unusedSimpArgs false
set_option maxHeartbeats 2000000
set_option maxRecDepth 100000
theorem lst_len (xs : List Int) (hu : ∀ x ∈ xs, U8 x) : ∀ (f k : Nat), (lst f xs k).length ≤ 600 * f
  | 0, k => by simp [lst]
  | f + 1, k => by
    by_cases hk : k < xs.length
    · rw [lst_step f xs k hk]
      split
      · have h1 := text_len _ (read_right (pairW xs k) (pairW xs (k + 2)) (pairW_u hu k) (pairW_u hu (k + 2)))
        have h2 := lst_len xs hu f (k + 2 * (readL (pairW xs k)).toNat)
        rw [List.length_append, List.length_append, List.length_singleton]
        omega
      · have h1 := wrd_len (pairW xs k) (by have := pairW_u hu k; unfold U16 at this; unfold I64; omega)
        have h2 := lst_len xs hu f (k + 2)
        rw [List.length_append]
        omega
    · rw [lst_end _ _ _ hk]; simp
theorem list_ends (xs : List Int) (w : World) (e : Ending) (w' : World) (h : LstEnd xs w e w') : ∃ (t : List UInt8) (k : Int), e = .returned (.tuple #[.string ⟨t.toArray⟩, .int .i64 k]) ∧ (k = 0 → xs.length ≤ 1024 ∧ xs.length % 2 = 0 ∧ t = listF xs) ∧ Below w.heap.size w w' := by
  obtain ⟨he, hb⟩ := h
  by_cases hm : 1024 < xs.length
  · rw [if_pos hm] at he
    exact ⟨[], 2, he, fun h => absurd h (by decide), hb⟩
  · rw [if_neg hm] at he
    by_cases ho : xs.length % 2 = 1
    · rw [if_pos ho] at he
      exact ⟨[], 4, he, fun h => absurd h (by decide), hb⟩
    · rw [if_neg ho] at he
      exact ⟨_, 0, he, fun _ => ⟨by omega, by omega, rfl⟩, hb⟩
theorem walk (v : Value) (xs : List Int) (u : Value) (ys : List Int) (w : World) (hx : SliceAt w .u8 v xs) (hy : SliceAt w .u8 u ys) (hL : Lk w) : Calls Tryd.prog 5 #[v, u] w fun e w' => e = .returned (.bool true) ∧ Below w.heap.size w w' := by
  have HX := Lib.hid hx
  have HY := Lib.hid hy
  have HL := Lib.hid hL
  have HU := Lib.hid (slice_u8 hx)
  have HV := Lib.hid (slice_u8 hy)
  have LA := Lib.hid (list_any v xs w hL hx)
  have LB : Hid (∀ W, Below w.heap.size w W → Calls Tryd.prog 7 #[u] W (LstEnd ys W)) := Lib.hid (fun W hW => list_any u ys W (hL.below hW) (hy.below hW))
  obtain ⟨a, cp, rfl, h1, h2, hwf, h3⟩ := hx
  obtain ⟨a2, cp2, rfl, k1, k2, kwf, k3⟩ := hy
  have hlm : xs.length ≤ maxLen := by omega
  have hlm2 : ys.length ≤ maxLen := by omega
  unfold maxLen at hlm hlm2
  clear hL h1 h2 hwf h3 k1 k2 kwf k3
  go_enter Tryd.func5, Tryd.ntmps5
  go_wp2_with fail
  refine (LA.out).mono ?_
  rintro e w2 he
  obtain ⟨t, k, rfl, hk, hb2⟩ := list_ends _ _ _ _ he
  have B2 := Lib.hid hb2
  have HK := Lib.hid hk
  clear hb2 hk he
  go_wp2_with fail
  refine (LB.out _ B2.out).mono ?_
  rintro e w3 he
  obtain ⟨s, l, rfl, hl, hb3⟩ := list_ends _ _ _ _ he
  have B3 := Lib.hid (below_then B2.out hb3)
  have HW := Lib.hid hl
  clear hb3 hl he
  go_wp2_with fail
  refine (built_any _ (HL.out.below B3.out)).mono ?_
  rintro e w4 ⟨rfl, hb4⟩
  have B4 := Lib.hid (below_then B3.out hb4)
  clear hb4
  by_cases hk : k = 0
  · by_cases hl : l = 0
    · subst hk hl
      obtain ⟨x1, x2, x3⟩ := HK.out rfl
      obtain ⟨y1, y2, y3⟩ := HW.out rfl
      have HP := Lib.hid (And.intro x1 (And.intro x2 (And.intro y1 y2)))
      have BK : Hid ((t ++ s).length ≤ 4000 → (t ++ s).count 10 ≤ 300 → (xs ++ ys).length ≤ 1024 → buildF (t ++ s) = (xs ++ ys, 0, 0)) := Lib.hid (by rw [x3, y3]; exact back_two xs ys HU.out x2 HV.out y2)
      have tl : t.length ≤ 614400 := by rw [x3]; have := lst_len xs HU.out xs.length 0; unfold listF; omega
      have sl : s.length ≤ 614400 := by rw [y3]; have := lst_len ys HV.out ys.length 0; unfold listF; omega
      have q1 : wrap64 ((t.length : Int) + s.length) = (t.length : Int) + s.length := by unfold wrap64; omega
      have q2 : wrap64 ((xs.length : Int) + ys.length) = (xs.length : Int) + ys.length := by unfold wrap64; omega
      have n1 : ¬ (9223372036854775807 < t.length + s.length) := by omega
      have e1 : (⟨t.toArray⟩ : ByteArray) ++ ⟨s.toArray⟩ = ⟨(t ++ s).toArray⟩ := str_app2 t s
      clear x1 x2 x3 y1 y2 y3 HK HW
      by_cases h4 : 4000 < (t ++ s).length
      · have h4i : 4000 < (t.length : Int) + s.length := by rw [List.length_append] at h4; omega
        clear h4
        go_wp2_with fail
        refine (built_any _ (HL.out.below B4.out)).mono ?_
        rintro e w5 ⟨rfl, hb5⟩
        have B5 := Lib.hid (below_then B4.out hb5)
        clear hb5
        go_wp2
        go_ret
        exact ⟨rfl, B5.out⟩
      · have h4i : ¬ 4000 < (t.length : Int) + s.length := by rw [List.length_append] at h4; omega
        have H4 : Hid ((t ++ s).length ≤ 4000) := Lib.hid (by omega)
        clear h4
        by_cases h5 : 1024 < (xs ++ ys).length
        · have h5i : 1024 < (xs.length : Int) + ys.length := by rw [List.length_append] at h5; omega
          clear h5
          go_wp2_with fail
          refine (built_any _ (HL.out.below B4.out)).mono ?_
          rintro e w5 ⟨rfl, hb5⟩
          have B5 := Lib.hid (below_then B4.out hb5)
          clear hb5
          go_wp2
          go_ret
          exact ⟨rfl, B5.out⟩
        · have h5i : ¬ 1024 < (xs.length : Int) + ys.length := by rw [List.length_append] at h5; omega
          have H5 : Hid ((xs ++ ys).length ≤ 1024) := Lib.hid (by omega)
          have cv := fun (w : World) => run_bytes_of_string (P := Tryd.prog) w 9 22 5 ⟨(t ++ s).toArray⟩ Tryd.underlying9 Tryd.underlying22 Tryd.underlying5
          have hc10 := conv_ten
          have B3x : Hid (∀ (o1 o2 : Obj), Below w.heap.size w (((w4.alloc o1).alloc o2).drew)) := Lib.hid (fun o1 o2 => (below_alloc (below_alloc B4.out _) _).drew)
          clear h5
          go_wp2_with fail
          have CA := Lib.hid (cnt_all (t ++ s) w4 (grownCap w4 (t.length + s.length) 0 5) ((bytesRow ⟨(t ++ s).toArray⟩ (grownCap w4 (t.length + s.length) 0 5)).size, (bytesRow ⟨(t ++ s).toArray⟩ (grownCap w4 (t.length + s.length) 0 5)).size + 1) (grownCap w4 (t.length + s.length) 0 5))
          rw [List.length_append] at CA
          refine (CA.out).mono ?_
          rintro e w5 ⟨rfl, rfl⟩
          have B5 := Lib.hid (B3x.out (.cells (bytesRow ⟨(t ++ s).toArray⟩ (grownCap w4 (t.length + s.length) 0 5)) 5 ((bytesRow ⟨(t ++ s).toArray⟩ (grownCap w4 (t.length + s.length) 0 5)).size, (bytesRow ⟨(t ++ s).toArray⟩ (grownCap w4 (t.length + s.length) 0 5)).size + 1)) (.cells #[.int .u8 10] 5 (1, 2)))
          obtain ⟨w5, hw5⟩ : ∃ x, x = (((w4.alloc (.cells (bytesRow ⟨(t ++ s).toArray⟩ (grownCap w4 (t.length + s.length) 0 5)) 5 ((bytesRow ⟨(t ++ s).toArray⟩ (grownCap w4 (t.length + s.length) 0 5)).size, (bytesRow ⟨(t ++ s).toArray⟩ (grownCap w4 (t.length + s.length) 0 5)).size + 1))).alloc (.cells #[.int .u8 10] 5 (1, 2))).drew) := ⟨_, rfl⟩
          rw [← hw5] at B5 ⊢
          clear hw5 hc10 cv CA
          obtain ⟨m, hm⟩ : ∃ m, m = (t ++ s).count 10 := ⟨_, rfl⟩
          rw [← hm] at BK ⊢
          clear hm
          by_cases hc : 300 < m
          · have hci : 300 < (m : Int) := by omega
            clear hc
            go_wp2_with fail
            refine (built_any _ (HL.out.below B5.out)).mono ?_
            rintro e w6 ⟨rfl, hb5⟩
            have B6 := Lib.hid (below_then B5.out hb5)
            clear hb5
            go_wp2
            go_ret
            exact ⟨rfl, B6.out⟩
          · have hci : ¬ 300 < (m : Int) := by omega
            have EB : Hid (buildF (t ++ s) = (xs ++ ys, 0, 0)) := Lib.hid (BK.out H4.out (by omega) H5.out)
            have BA := Lib.hid (build_any (t ++ s) (by have := H4.out; omega))
            clear hc
            go_wp2_with fail
            refine (BA.out _ (HL.out.below B5.out)).mono ?_
            rintro e w6 ⟨r, rfl, hs, hb6⟩
            rw [EB.out] at hs ⊢
            have HS := Lib.hid hs
            obtain ⟨ua, uc, rfl, hrest⟩ := hs
            have B6 := Lib.hid (below_then B5.out hb6)
            clear hrest hb6
            go_wp2_with fail
            refine (concat2 _ w6.heap.size 22 _ _ xs ys ?_ ?_ (Blk.new _ _ _) ?_ ?_).mono ?_
            · exact HX.out.below (below_alloc B6.out _)
            · exact HY.out.below (below_alloc B6.out _)
            · have := H5.out; rw [List.length_append] at this; omega
            · have := H5.out; rw [List.length_append] at this; omega
            rintro e w7 ⟨ao, cap, rfl, hown, hb7⟩
            have B7 := Lib.hid (below_then (below_alloc B6.out _) hb7)
            have HS7 := Lib.hid (HS.out.below (below_then (below_alloc (Below.refl _ _) _) hb7))
            have OW := Lib.hid (own_slice (k := .u8) hown (fun x hx => u8_wf x (by
              rcases List.mem_append.1 hx with h | h
              · exact HU.out x h
              · exact HV.out x h)))
            clear hown hb7
            go_wp2_with fail
            have EQ := bytesEqual_any _ _ _ _ _ HS7.out OW.out
            rw [List.length_append] at EQ
            refine EQ.mono ?_
            clear EQ
            rintro e w8 ⟨rfl, rfl⟩
            have hd : decide (xs ++ ys = xs ++ ys) = true := by simp
            rw [hd]
            go_wp2
            go_ret
            exact ⟨rfl, B7.out⟩
    · have hl1 : (l != 0) = true := by simpa using hl
      subst hk
      clear hl HK HW
      go_wp2_with fail
      refine (built_any _ (HL.out.below B4.out)).mono ?_
      rintro e w5 ⟨rfl, hb5⟩
      have B5 := Lib.hid (below_then B4.out hb5)
      clear hb5
      go_wp2
      go_ret
      exact ⟨rfl, B5.out⟩
  · have hk1 : (k != 0) = true := by simpa using hk
    clear hk HK HW
    go_wp2_with fail
    refine (built_any _ (HL.out.below B4.out)).mono ?_
    rintro e w5 ⟨rfl, hb5⟩
    have B5 := Lib.hid (below_then B4.out hb5)
    clear hb5
    go_wp2
    go_ret
    exact ⟨rfl, B5.out⟩
end Go.Proofs.YtmpdoiilakjmbaaDoor.asmJoins
