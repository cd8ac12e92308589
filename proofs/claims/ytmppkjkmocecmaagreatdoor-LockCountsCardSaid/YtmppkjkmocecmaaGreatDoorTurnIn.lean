/- The program checks what was pressed. Conditions: it lies in memory. -/
import Derived.Test.YtmppkjkmocecmaaGreatDoorSq
import Derived.Test.YtmppkjkmocecmaaGreatDoorSh
import Derived.Test.YtmppkjkmocecmaaGreatDoorP27
import Derived.Test.YtmppkjkmocecmaaGreatDoorRows
import Derived.LoopTactic
namespace Go.Proofs.YtmppkjkmocecmaaGreatDoor
open Go.RowKit Go.Mq
set_option linter.unusedVariables false
set_option linter.unusedSimpArgs false
set_option maxHeartbeats 1000000
set_option maxRecDepth 100000
theorem inputs_any (v : Value) (xs : List Inp) (f : Int) (w : World) (h : InpsAt w v xs) (hf : I64 f) :
  Calls Tryz.prog 23 #[v, .int .i64 f] w fun e w' => e = .returned (.int .i64 (chkI xs f)) ∧ Below w.heap.size w w' := by
 obtain ⟨a, cap, rfl, h1, h2, h4, h5⟩ := h
 unfold chkI
 by_cases h40 : 40 < xs.length
 ·rw [if_pos h40]
  have h40' : (40 : Int) < xs.length := by omega
  go_enter Tryz.func23, Tryz.ntmps23
  go_wp2
  go_ret
  exact ⟨rfl, kL⟩
 ·rw [if_neg h40]
  have h40' : ¬ (40 : Int) < xs.length := by omega
  have H5 := Lib.hid h5
  have H4 := Lib.hid h4
  have HN := Lib.hid h40
  clear h4 h5 h40
  go_enter Tryz.func23, Tryz.ntmps23
  go_wp2
  go_loopw [12] (fun i wr => ∃ k : Nat, k ≤ xs.length ∧ i = .int .i64 k ∧ Hid (chkFrom f xs = chkFrom (lastAt f xs k) (xs.drop k) ∧ f ≤ lastAt f xs k) ∧ Below w.heap.size w wr) (fun i _ => xs.length - (intOf i).toNat)
  case atStart => exact ⟨0, by omega, rfl, Lib.hid ⟨rfl, by simp [lastAt]⟩, Below.refl _ _⟩
  case round =>
   obtain ⟨k, hk, rfl, hx, hb⟩ := hrel
   by_cases hkn : k < xs.length
   ·obtain ⟨b, off, rfl, hbl, hc⟩ := H5.out kO
    have hck := hc k hkn
    obtain ⟨c0, c1, c2⟩ := hck
    replace c0 := (hb.cell (p := ⟨b, _, none⟩) hbl).trans c0
    replace c1 := (hb.cell (p := ⟨b, _, none⟩) hbl).trans c1
    replace c2 := (hb.cell (p := ⟨b, _, none⟩) hbl).trans c2
    have hki : (k : Int) < xs.length := by omega
    have hbs := hb.size
    have CA := Lib.hid (chk_at (f := f) hkn)
    have OK := H4.out (xs.getD k Inp0) (by rw [List.getD_eq_getElem?_getD, List.getElem?_eq_getElem hkn]; exact List.getElem_mem hkn)
    obtain ⟨o0, o1, o2⟩ := OK
    have LA : Hid (∀ j, k = j + 1 → wr.cell? ⟨b, off + j * 3, none⟩ = some (.int .i64 (lastAt f xs k))) := Lib.hid fun j hj => by
     subst hj
     exact (hb.cell (p := ⟨b, _, none⟩) hbl).trans (hc j kO).1
    obtain ⟨y, ey⟩ : ∃ y, y = xs.getD k Inp0 := ⟨_, rfl⟩
    rw [← ey] at c0 c1 c2 o0 o1 o2
    rw [← ey] at CA
    replace ey := Lib.hid ey
    clear hc
    by_cases g1 : y.ck < f
    ·have E : Hid (chkFrom f xs = 3) := Lib.hid (by rw [hx.out.1, CA.out, if_pos (Or.inl (by have := hx.out.2; omega))])
     clear CA hx LA
     go_wp2
     refine wp_mark (R := fun W => Below w.heap.size w W ∧ Hid (Blk W (wr.heap.size) (#[.int .i64 y.ck, .int .i64 y.pd, .int .u8 y.dn]) 63)) ⟨kL, Lib.hid kB⟩ ?_
     rintro w2 ⟨hbw2, Kw2_0⟩
     obtain ⟨lw2_0, cw2_0, fw2_0⟩ := Kw2_0.out.use
     go_quiet (fail)
     go_wp2
     go_ret
     exact ⟨by rw [E.out]; rfl, kL⟩
    ·have t1 : decide (y.ck < f) = false := decide_eq_false g1
     by_cases g2 : 400000 < y.ck
     ·have E : Hid (chkFrom f xs = 3) := Lib.hid (by rw [hx.out.1, CA.out, if_pos (Or.inr g2)])
      clear CA hx LA
      go_wp2
      refine wp_mark (R := fun W => Below w.heap.size w W ∧ Hid (Blk W (wr.heap.size) (#[.int .i64 y.ck, .int .i64 y.pd, .int .u8 y.dn]) 63)) ⟨kL, Lib.hid kB⟩ ?_
      rintro w2 ⟨hbw2, Kw2_0⟩
      obtain ⟨lw2_0, cw2_0, fw2_0⟩ := Kw2_0.out.use
      go_quiet (fail)
      go_wp2
      go_ret
      exact ⟨by rw [E.out]; rfl, kL⟩
     ·have t2 : decide (400000 < y.ck) = false := decide_eq_false g2
      rcases Nat.eq_zero_or_pos k with rfl | hk0
      ·have hx1 : Hid (¬ (y.ck < lastAt f xs 0 ∨ 400000 < y.ck)) := Lib.hid (by show ¬ (y.ck < f ∨ _); omega)
       clear LA
       simp only [Nat.zero_mul, Nat.add_zero] at c0 c1 c2
       have GO : Hid (y.pd = 0 ∨ y.pd = 1 → chkFrom f xs = chkFrom (lastAt f xs (0 + 1)) (xs.drop (0 + 1)) ∧ f ≤ lastAt f xs (0 + 1)) := Lib.hid fun g => ⟨by rw [hx.out.1, CA.out, if_neg hx1.out, if_neg kO], by show f ≤ (xs.getD (0) Inp0).ck; rw [← ey.out]; omega⟩
       have NO : Hid (y.pd ≠ 0 ∧ y.pd ≠ 1 → chkFrom f xs = 5) := Lib.hid fun g => by rw [hx.out.1, CA.out, if_neg hx1.out, if_pos g]
       clear CA hx hx1
       by_cases p0 : y.pd = 0
       ·skip
        have q0 : (y.pd != 0) = false := by simp [p0]
        have E := Lib.hid (GO.out kO)
        clear GO NO p0
        go_wp2
        refine wp_mark (R := fun W => Below w.heap.size w W ∧ Hid (Blk W (wr.heap.size) (#[.int .i64 y.ck, .int .i64 y.pd, .int .u8 y.dn]) 63)) ⟨kL, Lib.hid kB⟩ ?_
        rintro w2 ⟨hbw2, Kw2_0⟩
        obtain ⟨lw2_0, cw2_0, fw2_0⟩ := Kw2_0.out.use
        go_quiet (fail)
        go_wp2
        go_roundw
        case rel => exact ⟨0 + 1, by omega, by go_num, E, kL⟩
        case measure => simp [intOf]; omega
       ·by_cases p1 : y.pd = 1
        ·skip
         have q0 : (y.pd != 0) = true := by simp [p0]
         have q1 : (y.pd != 1) = false := by simp [p1]
         have E := Lib.hid (GO.out kO)
         clear GO NO p0 p1
         go_wp2
         refine wp_mark (R := fun W => Below w.heap.size w W ∧ Hid (Blk W (wr.heap.size) (#[.int .i64 y.ck, .int .i64 y.pd, .int .u8 y.dn]) 63)) ⟨kL, Lib.hid kB⟩ ?_
         rintro w2 ⟨hbw2, Kw2_0⟩
         obtain ⟨lw2_0, cw2_0, fw2_0⟩ := Kw2_0.out.use
         go_quiet (fail)
         go_wp2
         go_roundw
         case rel => exact ⟨0 + 1, by omega, by go_num, E, kL⟩
         case measure => simp [intOf]; omega
        ·skip
         have q0 : (y.pd != 0) = true := by simp [p0]
         have q1 : (y.pd != 1) = true := by simp [p1]
         have E := Lib.hid (NO.out ⟨p0, p1⟩)
         clear GO NO p0 p1
         go_wp2
         refine wp_mark (R := fun W => Below w.heap.size w W ∧ Hid (Blk W (wr.heap.size) (#[.int .i64 y.ck, .int .i64 y.pd, .int .u8 y.dn]) 63)) ⟨kL, Lib.hid kB⟩ ?_
         rintro w2 ⟨hbw2, Kw2_0⟩
         obtain ⟨lw2_0, cw2_0, fw2_0⟩ := Kw2_0.out.use
         go_quiet (fail)
         go_wp2
         go_ret
         exact ⟨by rw [E.out]; rfl, kL⟩
      ·obtain ⟨j, rfl⟩ : ∃ j, k = j + 1 := ⟨k - 1, by omega⟩
       have hl := LA.out j rfl
       have hxl := hx.out.2
       generalize hL : lastAt f xs (j + 1) = z at *
       replace hL := Lib.hid hL
       have hjb : (j : Int) < xs.length := by omega
       by_cases g3 : y.ck < z
       ·have E : Hid (chkFrom f xs = 3) := Lib.hid (by rw [hx.out.1, CA.out, if_pos (Or.inl g3)])
        clear CA hx LA
        go_wp2
        refine wp_mark (R := fun W => Below w.heap.size w W ∧ Hid (Blk W (wr.heap.size) (#[.int .i64 y.ck, .int .i64 y.pd, .int .u8 y.dn]) 63) ∧ Hid (W.cell? ⟨b, off + j * 3, none⟩ = some (.int .i64 z))) ⟨kL, Lib.hid kB, Lib.hid (cell_later (below_alloc (Below.refl _ _) _) hl)⟩ ?_
        rintro w2 ⟨hbw2, Kw2_0, H2⟩
        obtain ⟨lw2_0, cw2_0, fw2_0⟩ := Kw2_0.out.use
        have h2 := H2.out
        go_quiet (fail)
        go_wp2
        go_ret
        exact ⟨by rw [E.out]; rfl, kL⟩
       ·have t3 : decide (y.ck < z) = false := decide_eq_false g3
        have hx1 : Hid (¬ (y.ck < z ∨ 400000 < y.ck)) := Lib.hid kO
        clear LA
        have hxz : Hid (f ≤ z) := Lib.hid hxl
        have GO : Hid (y.pd = 0 ∨ y.pd = 1 → chkFrom f xs = chkFrom (lastAt f xs (j + 1 + 1)) (xs.drop (j + 1 + 1)) ∧ f ≤ lastAt f xs (j + 1 + 1)) := Lib.hid fun g => ⟨by rw [hx.out.1, CA.out, if_neg hx1.out, if_neg kO], by show f ≤ (xs.getD (j + 1) Inp0).ck; rw [← ey.out]; omega⟩
        have NO : Hid (y.pd ≠ 0 ∧ y.pd ≠ 1 → chkFrom f xs = 5) := Lib.hid fun g => by rw [hx.out.1, CA.out, if_neg hx1.out, if_pos g]
        clear CA hx hx1
        by_cases p0 : y.pd = 0
        ·skip
         have q0 : (y.pd != 0) = false := by simp [p0]
         have E := Lib.hid (GO.out kO)
         clear GO NO p0
         go_wp2
         refine wp_mark (R := fun W => Below w.heap.size w W ∧ Hid (Blk W (wr.heap.size) (#[.int .i64 y.ck, .int .i64 y.pd, .int .u8 y.dn]) 63) ∧ Hid (W.cell? ⟨b, off + j * 3, none⟩ = some (.int .i64 z))) ⟨kL, Lib.hid kB, Lib.hid (cell_later (below_alloc (Below.refl _ _) _) hl)⟩ ?_
         rintro w2 ⟨hbw2, Kw2_0, H2⟩
         obtain ⟨lw2_0, cw2_0, fw2_0⟩ := Kw2_0.out.use
         have h2 := H2.out
         go_quiet (fail)
         go_wp2
         go_roundw
         case rel => exact ⟨j + 1 + 1, by omega, by go_num, E, kL⟩
         case measure => simp [intOf]; omega
        ·by_cases p1 : y.pd = 1
         ·skip
          have q0 : (y.pd != 0) = true := by simp [p0]
          have q1 : (y.pd != 1) = false := by simp [p1]
          have E := Lib.hid (GO.out kO)
          clear GO NO p0 p1
          go_wp2
          refine wp_mark (R := fun W => Below w.heap.size w W ∧ Hid (Blk W (wr.heap.size) (#[.int .i64 y.ck, .int .i64 y.pd, .int .u8 y.dn]) 63) ∧ Hid (W.cell? ⟨b, off + j * 3, none⟩ = some (.int .i64 z))) ⟨kL, Lib.hid kB, Lib.hid (cell_later (below_alloc (Below.refl _ _) _) hl)⟩ ?_
          rintro w2 ⟨hbw2, Kw2_0, H2⟩
          obtain ⟨lw2_0, cw2_0, fw2_0⟩ := Kw2_0.out.use
          have h2 := H2.out
          go_quiet (fail)
          go_wp2
          go_roundw
          case rel => exact ⟨j + 1 + 1, by omega, by go_num, E, kL⟩
          case measure => simp [intOf]; omega
         ·skip
          have q0 : (y.pd != 0) = true := by simp [p0]
          have q1 : (y.pd != 1) = true := by simp [p1]
          have E := Lib.hid (NO.out ⟨p0, p1⟩)
          clear GO NO p0 p1
          go_wp2
          refine wp_mark (R := fun W => Below w.heap.size w W ∧ Hid (Blk W (wr.heap.size) (#[.int .i64 y.ck, .int .i64 y.pd, .int .u8 y.dn]) 63) ∧ Hid (W.cell? ⟨b, off + j * 3, none⟩ = some (.int .i64 z))) ⟨kL, Lib.hid kB, Lib.hid (cell_later (below_alloc (Below.refl _ _) _) hl)⟩ ?_
          rintro w2 ⟨hbw2, Kw2_0, H2⟩
          obtain ⟨lw2_0, cw2_0, fw2_0⟩ := Kw2_0.out.use
          have h2 := H2.out
          go_quiet (fail)
          go_wp2
          go_ret
          exact ⟨by rw [E.out]; rfl, kL⟩
   ·have hkn' : k = xs.length := by omega
    have hc0 : chkFrom f xs = 0 := by rw [hx.out.1, hkn', List.drop_length]; rfl
    have HC0 := Lib.hid hc0
    clear hc0
    subst hkn'
    clear hx
    go_wp2
    go_ret
    exact ⟨by rw [HC0.out]; rfl, kL⟩
end Go.Proofs.YtmppkjkmocecmaaGreatDoor
