/- The document's check of a machine. Conditions: its memories are slices of bytes. -/
import Derived.Test.YtmppkjkmocecmaaGreatDoorP41
import Derived.Test.YtmppkjkmocecmaaGreatDoorSq
import Derived.Test.YtmppkjkmocecmaaGreatDoorSh
import Derived.Test.YtmppkjkmocecmaaGreatDoorP26
import Derived.Test.YtmppkjkmocecmaaGreatDoorRows
import Derived.LoopTactic
import Derived.Test.YtmppkjkmocecmaaGreatDoorP32
import Derived.Test.YtmppkjkmocecmaaGreatDoorP24
import Derived.Test.YtmppkjkmocecmaaGreatDoorP25
set_option linter.unusedVariables false
set_option linter.unusedSimpArgs false
set_option maxHeartbeats 2000000
set_option maxRecDepth 100000
namespace Go.Proofs.YtmppkjkmocecmaaGreatDoor
open Go.RowKit Go.Mq
theorem refcheck_any (V : Nat → Value) (m : Mach) (w : World) (hm : MV w V m) : Calls Tryz.prog 37 #[.agg (machC V m)] w fun e w' => e = .returned (.int .i64 (chk m)) ∧ Below w.heap.size w w' := by
 obtain ⟨n0, e0⟩ : ∃ n, n = (m.mem 0).length := ⟨_, rfl⟩
 obtain ⟨n1, e1⟩ : ∃ n, n = (m.mem 1).length := ⟨_, rfl⟩
 obtain ⟨n2, e2⟩ : ∃ n, n = (m.mem 2).length := ⟨_, rfl⟩
 obtain ⟨n3, e3⟩ : ∃ n, n = (m.mem 3).length := ⟨_, rfl⟩
 obtain ⟨n4, e4⟩ : ∃ n, n = (m.mem 4).length := ⟨_, rfl⟩
 by_cases h0 : 1024 < max (n0 : Int) n1
 ·rw [show chk m = 2 from by
   unfold chk Bm.Ok Bm.In inTime
   rw [← e0, ← e1, ← e2, ← e3, ← e4]
   repeat' split
   all_goals omega]
  exact rc_0 V m w hm n0 n1 n2 n3 n4 e0 e1 e2 e3 e4 h0
 by_cases h1 : n2 ≠ 128
 ·rw [show chk m = 4 from by
   unfold chk Bm.Ok Bm.In inTime
   rw [← e0, ← e1, ← e2, ← e3, ← e4]
   repeat' split
   all_goals omega]
  exact rc_1 V m w hm n0 n1 n2 n3 n4 e0 e1 e2 e3 e4 h0 h1
 replace h1 := Decidable.of_not_not h1
 by_cases h2 : n3 ≠ 64
 ·rw [show chk m = 4 from by
   unfold chk Bm.Ok Bm.In inTime
   rw [← e0, ← e1, ← e2, ← e3, ← e4]
   repeat' split
   all_goals omega]
  exact rc_2 V m w hm n0 n1 n2 n3 n4 e0 e1 e2 e3 e4 h0 h1 h2
 replace h2 := Decidable.of_not_not h2
 by_cases h3 : n4 ≠ 256
 ·rw [show chk m = 4 from by
   unfold chk Bm.Ok Bm.In inTime
   rw [← e0, ← e1, ← e2, ← e3, ← e4]
   repeat' split
   all_goals omega]
  exact rc_3 V m w hm n0 n1 n2 n3 n4 e0 e1 e2 e3 e4 h0 h1 h2 h3
 replace h3 := Decidable.of_not_not h3
 by_cases h4 : m.sd.wt < 0
 ·rw [show chk m = 3 from by
   unfold chk Bm.Ok Bm.In inTime
   rw [← e0, ← e1, ← e2, ← e3, ← e4]
   repeat' split
   all_goals omega]
  exact rc_4 V m w hm n0 n1 n2 n3 n4 e0 e1 e2 e3 e4 h0 h1 h2 h3 h4
 by_cases h5 : 15 < m.sd.wt
 ·rw [show chk m = 3 from by
   unfold chk Bm.Ok Bm.In inTime
   rw [← e0, ← e1, ← e2, ← e3, ← e4]
   repeat' split
   all_goals omega]
  exact rc_5 V m w hm n0 n1 n2 n3 n4 e0 e1 e2 e3 e4 h0 h1 h2 h3 h4 h5
 by_cases h6 : m.bm.ln < 0
 ·rw [show chk m = 3 from by
   unfold chk Bm.Ok Bm.In inTime
   rw [← e0, ← e1, ← e2, ← e3, ← e4]
   repeat' split
   all_goals omega]
  exact rc_6 V m w hm n0 n1 n2 n3 n4 e0 e1 e2 e3 e4 h0 h1 h2 h3 h4 h5 h6
 by_cases h7 : 9 < m.bm.ln
 ·rw [show chk m = 3 from by
   unfold chk Bm.Ok Bm.In inTime
   rw [← e0, ← e1, ← e2, ← e3, ← e4]
   repeat' split
   all_goals omega]
  exact rc_7 V m w hm n0 n1 n2 n3 n4 e0 e1 e2 e3 e4 h0 h1 h2 h3 h4 h5 h6 h7
 by_cases h8 : m.bm.pt < 0
 ·rw [show chk m = 3 from by
   unfold chk Bm.Ok Bm.In inTime
   rw [← e0, ← e1, ← e2, ← e3, ← e4]
   repeat' split
   all_goals omega]
  exact rc_8 V m w hm n0 n1 n2 n3 n4 e0 e1 e2 e3 e4 h0 h1 h2 h3 h4 h5 h6 h7 h8
 by_cases h9 : 63 < m.bm.pt
 ·rw [show chk m = 3 from by
   unfold chk Bm.Ok Bm.In inTime
   rw [← e0, ← e1, ← e2, ← e3, ← e4]
   repeat' split
   all_goals omega]
  exact rc_9 V m w hm n0 n1 n2 n3 n4 e0 e1 e2 e3 e4 h0 h1 h2 h3 h4 h5 h6 h7 h8 h9
 by_cases h10 : m.bm.fr < 0
 ·rw [show chk m = 3 from by
   unfold chk Bm.Ok Bm.In inTime
   rw [← e0, ← e1, ← e2, ← e3, ← e4]
   repeat' split
   all_goals omega]
  exact rc_10 V m w hm n0 n1 n2 n3 n4 e0 e1 e2 e3 e4 h0 h1 h2 h3 h4 h5 h6 h7 h8 h9 h10
 by_cases h11 : 20000 < m.bm.fr
 ·rw [show chk m = 3 from by
   unfold chk Bm.Ok Bm.In inTime
   rw [← e0, ← e1, ← e2, ← e3, ← e4]
   repeat' split
   all_goals omega]
  exact rc_11 V m w hm n0 n1 n2 n3 n4 e0 e1 e2 e3 e4 h0 h1 h2 h3 h4 h5 h6 h7 h8 h9 h10 h11
 by_cases h12 : m.ck < 0
 ·rw [show chk m = 3 from by
   unfold chk Bm.Ok Bm.In inTime
   rw [← e0, ← e1, ← e2, ← e3, ← e4]
   repeat' split
   all_goals omega]
  exact rc_12 V m w hm n0 n1 n2 n3 n4 e0 e1 e2 e3 e4 h0 h1 h2 h3 h4 h5 h6 h7 h8 h9 h10 h11 h12
 by_cases h13 : 200000 < m.ck
 ·rw [show chk m = 3 from by
   unfold chk Bm.Ok Bm.In inTime
   rw [← e0, ← e1, ← e2, ← e3, ← e4]
   repeat' split
   all_goals omega]
  exact rc_13 V m w hm n0 n1 n2 n3 n4 e0 e1 e2 e3 e4 h0 h1 h2 h3 h4 h5 h6 h7 h8 h9 h10 h11 h12 h13
 by_cases h14 : m.mr < 0
 ·rw [show chk m = 3 from by
   unfold chk Bm.Ok Bm.In inTime
   rw [← e0, ← e1, ← e2, ← e3, ← e4]
   repeat' split
   all_goals omega]
  exact rc_14 V m w hm n0 n1 n2 n3 n4 e0 e1 e2 e3 e4 h0 h1 h2 h3 h4 h5 h6 h7 h8 h9 h10 h11 h12 h13 h14
 by_cases h15 : m.ck + 20000 < m.mr
 ·rw [show chk m = 3 from by
   unfold chk Bm.Ok Bm.In inTime
   rw [← e0, ← e1, ← e2, ← e3, ← e4]
   repeat' split
   all_goals omega]
  exact rc_15 V m w hm n0 n1 n2 n3 n4 e0 e1 e2 e3 e4 h0 h1 h2 h3 h4 h5 h6 h7 h8 h9 h10 h11 h12 h13 h14 h15
 by_cases h16 : m.ar < 0
 ·rw [show chk m = 3 from by
   unfold chk Bm.Ok Bm.In inTime
   rw [← e0, ← e1, ← e2, ← e3, ← e4]
   repeat' split
   all_goals omega]
  exact rc_16 V m w hm n0 n1 n2 n3 n4 e0 e1 e2 e3 e4 h0 h1 h2 h3 h4 h5 h6 h7 h8 h9 h10 h11 h12 h13 h14 h15 h16
 by_cases h17 : m.ck + 20000 < m.ar
 ·rw [show chk m = 3 from by
   unfold chk Bm.Ok Bm.In inTime
   rw [← e0, ← e1, ← e2, ← e3, ← e4]
   repeat' split
   all_goals omega]
  exact rc_17 V m w hm n0 n1 n2 n3 n4 e0 e1 e2 e3 e4 h0 h1 h2 h3 h4 h5 h6 h7 h8 h9 h10 h11 h12 h13 h14 h15 h16 h17
 rw [show chk m = 0 from by
  unfold chk Bm.Ok Bm.In inTime
  rw [← e0, ← e1, ← e2, ← e3, ← e4]
  repeat' split
  all_goals omega]
 exact rc_18 V m w hm n0 n1 n2 n3 n4 e0 e1 e2 e3 e4 h0 h1 h2 h3 h4 h5 h6 h7 h8 h9 h10 h11 h12 h13 h14 h15 h16 h17
theorem refinputs_any (v : Value) (xs : List Inp) (f : Int) (w : World) (h : InpsAt w v xs) (hf : I64 f) :
  Calls Tryz.prog 38 #[v, .int .i64 f] w fun e w' => e = .returned (.int .i64 (chkI xs f)) ∧ Below w.heap.size w w' := by
 obtain ⟨a, cap, rfl, h1, h2, h4, h5⟩ := h
 unfold chkI
 by_cases h40 : 40 < xs.length
 ·rw [if_pos h40]
  have h40' : (40 : Int) < xs.length := by omega
  go_enter Tryz.func38, Tryz.ntmps38
  go_wp2
  go_ret
  exact ⟨rfl, kL⟩
 ·rw [if_neg h40]
  have h40' : ¬ (40 : Int) < xs.length := by omega
  have H5 := Lib.hid h5
  have H4 := Lib.hid h4
  have HN := Lib.hid h40
  clear h4 h5 h40
  go_enter Tryz.func38, Tryz.ntmps38
  go_wp2
  go_loopw [5, 14] (fun z i wr => ∃ k : Nat, k ≤ xs.length ∧ z = .int .i64 (lastAt f xs k) ∧ i = .int .i64 k ∧ Hid (chkFrom f xs = chkFrom (lastAt f xs k) (xs.drop k)) ∧ Below w.heap.size w wr) (fun _ i _ => xs.length - (intOf i).toNat)
  case atStart => exact ⟨0, by omega, rfl, rfl, Lib.hid rfl, Below.refl _ _⟩
  case round =>
   obtain ⟨k, hk, rfl, rfl, hx, hb⟩ := hrel
   by_cases hkn : k < xs.length
   ·obtain ⟨b, off, rfl, hbl, hc⟩ := H5.out kO
    have hck := hc k hkn
    obtain ⟨c0, c1, c2⟩ := hck
    replace c0 := (hb.cell (p := ⟨b, _, none⟩) hbl).trans c0
    replace c1 := (hb.cell (p := ⟨b, _, none⟩) hbl).trans c1
    replace c2 := (hb.cell (p := ⟨b, _, none⟩) hbl).trans c2
    have hki : (k : Int) < xs.length := by omega
    have hbs := hb.size
    have CA := Lib.hid (chk_at (f := f) hkn)
    obtain ⟨y, ey⟩ : ∃ y, y = xs.getD k Inp0 := ⟨_, rfl⟩
    have EL : Hid (lastAt f xs (k + 1) = y.ck) := Lib.hid (by rw [ey]; rfl)
    generalize lastAt f xs k = z at *
    rw [← ey] at c0 c1 c2
    rw [← ey] at CA
    replace ey := Lib.hid ey
    clear hc
    by_cases g1 : y.ck < z
    ·have E : Hid (chkFrom f xs = 3) := Lib.hid (by rw [hx.out, CA.out, if_pos (Or.inl g1)])
     clear CA hx
     go_wp2
     go_ret
     exact ⟨by rw [E.out]; rfl, kL⟩
    ·have t1 : decide (y.ck < z) = false := decide_eq_false g1
     by_cases g2 : 400000 < y.ck
     ·have E : Hid (chkFrom f xs = 3) := Lib.hid (by rw [hx.out, CA.out, if_pos (Or.inr g2)])
      clear CA hx
      go_wp2
      go_ret
      exact ⟨by rw [E.out]; rfl, kL⟩
     ·have t2 : decide (400000 < y.ck) = false := decide_eq_false g2
      have hx1 : Hid (¬ (y.ck < z ∨ 400000 < y.ck)) := Lib.hid kO
      by_cases g3 : y.pd < 0
      ·have E : Hid (chkFrom f xs = 5) := Lib.hid (by rw [hx.out, CA.out, if_neg hx1.out, if_pos kO])
       clear CA hx
       go_wp2
       go_ret
       exact ⟨by rw [E.out]; rfl, kL⟩
      ·have t3 : decide (y.pd < 0) = false := decide_eq_false g3
       by_cases g4 : 1 < y.pd
       ·have E : Hid (chkFrom f xs = 5) := Lib.hid (by rw [hx.out, CA.out, if_neg hx1.out, if_pos kO])
        clear CA hx
        go_wp2
        go_ret
        exact ⟨by rw [E.out]; rfl, kL⟩
       ·have t4 : decide (1 < y.pd) = false := decide_eq_false g4
        have E : Hid (chkFrom f xs = chkFrom (lastAt f xs (k + 1)) (xs.drop (k + 1))) := Lib.hid (by rw [hx.out, CA.out, if_neg hx1.out, if_neg kO])
        clear CA hx hx1
        go_wp2
        go_roundw
        case rel => exact ⟨k + 1, by omega, by rw [EL.out], by go_num, E, kL⟩
        case measure => simp [intOf]; omega
   ·have hkn' : k = xs.length := by omega
    have hc0 : chkFrom f xs = 0 := by rw [hx.out, hkn', List.drop_length]; rfl
    have HC0 := Lib.hid hc0
    clear hc0
    subst hkn'
    clear hx
    go_wp2
    go_ret
    exact ⟨by rw [HC0.out]; rfl, kL⟩
theorem badrun_any (V : Nat → Value) (m : Mach) (v : Value) (ins : List Inp) (n : Int) (w : World) (hm : MV w V m) (hI : InpsAt w v ins) :
  Calls Tryz.prog 14 #[.agg (machC V m), v, .int .i64 n, .int .i64 20000] w fun e w' => e = .returned (.int .i64 (errL m ins n)) ∧ Below w.heap.size w w' := by
 have CK := Lib.hid (fun W (k : Below w.heap.size w W) => refcheck_any V m W (hm.below k))
 have ON := Lib.hid (machC_one m (fun i hi => hm.one i hi))
 unfold errL
 by_cases h1 : chk m = 0
 ·rw [if_neg (fun k => k h1)]
  rw [h1] at CK
  have hr := (chk_zero m).1 h1
  have ck0 := hr.time.1
  have IN := Lib.hid (fun W (k : Below w.heap.size w W) => refinputs_any v ins m.ck W (hI.below k) (i64_small kO))
  by_cases h2 : chkI ins m.ck = 0
  ·rw [if_neg (fun k => k h2)]
   rw [h2] at IN
   have hw : n ≤ 20000 → 0 ≤ n → wrap64 (m.ck + n) = m.ck + n := fun _ _ => wrap64_id _ kO kO
   have hc : (n < 0 ∧ (n < 0 ∨ 20000 < n ∨ 200000 < m.ck + n)) ∨ (¬ n < 0 ∧ 20000 < n ∧ (n < 0 ∨ 20000 < n ∨ 200000 < m.ck + n)) ∨ (¬ n < 0 ∧ ¬ 20000 < n ∧ 200000 < wrap64 (m.ck + n) ∧ (n < 0 ∨ 20000 < n ∨ 200000 < m.ck + n)) ∨ (¬ n < 0 ∧ ¬ 20000 < n ∧ ¬ 200000 < wrap64 (m.ck + n) ∧ ¬ (n < 0 ∨ 20000 < n ∨ 200000 < m.ck + n)) := by
    by_cases q1 : n < 0
    ·exact .inl ⟨q1, .inl q1⟩
    ·by_cases q2 : 20000 < n
     ·exact .inr (.inl ⟨q1, q2, .inr (.inl q2)⟩)
     ·rw [hw kO kO]
      by_cases q3 : 200000 < m.ck + n
      ·exact .inr (.inr (.inl ⟨q1, q2, q3, .inr (.inr q3)⟩))
      ·exact .inr (.inr (.inr ⟨q1, q2, q3, by omega⟩))
   clear hm hI h1 h2 hr ck0 hw
   rcases hc with ⟨q1, hq⟩ | ⟨q1, q2, hq⟩ | ⟨q1, q2, q3, hq⟩ | ⟨q1, q2, q3, hq⟩
   all_goals
    first | rw [if_pos hq] | rw [if_neg hq]
    clear hq
    go_enter Tryz.func14, Tryz.ntmps14
    go_wp2_with (first | ((with_reducible show wpList _ _ _ _ _ _); refine lW 41 4 rfl rfl (w.heap.size) rfl (machC V m) kB Tryz.underlying41 ?_))
    refine (CK.out _ kL).mono ?_
    rintro e w1 ⟨rfl, hb1⟩
    have KM := Lib.hid (show Blk w1 w.heap.size (machC V m) 41 from kB)
    have c72 : w1.cell? ⟨w.heap.size, 72, none⟩ = some (.int .i64 m.ck) := (KM.out.cell 72).trans (mx72 ..)
    have lk := KM.out.lt
    have B1 : Below w.heap.size w w1 := kL
    clear hb1
    go_wp2_with fail
    refine (IN.out _ B1).mono ?_
    rintro e w4 ⟨rfl, hb4⟩
    have B4 := below_then B1 hb4
    have KM4 := Lib.hid (KM.out.below hb4)
    have c72 : w4.cell? ⟨w.heap.size, 72, none⟩ = some (.int .i64 m.ck) := (KM4.out.cell 72).trans (mx72 ..)
    have lk := KM4.out.lt
    clear hb4 B1 KM KM4
    go_wp2
    go_ret
    exact ⟨rfl, kL⟩
  ·rw [if_pos h2]
   obtain ⟨c, ec⟩ : ∃ c, c = chkI ins m.ck := ⟨_, rfl⟩
   rw [← ec] at IN h2 ⊢
   have hcb : (c != 0) = true := by rw [bne_iff_ne]; exact h2
   clear hm hI h1 h2 hr ck0 ec
   go_enter Tryz.func14, Tryz.ntmps14
   go_wp2_with (first | ((with_reducible show wpList _ _ _ _ _ _); refine lW 41 4 rfl rfl (w.heap.size) rfl (machC V m) kB Tryz.underlying41 ?_))
   refine (CK.out _ kL).mono ?_
   rintro e w1 ⟨rfl, hb1⟩
   have KM := Lib.hid (show Blk w1 w.heap.size (machC V m) 41 from kB)
   have c72 : w1.cell? ⟨w.heap.size, 72, none⟩ = some (.int .i64 m.ck) := (KM.out.cell 72).trans (mx72 ..)
   have lk := KM.out.lt
   have B1 : Below w.heap.size w w1 := kL
   clear hb1 KM
   go_wp2_with fail
   refine (IN.out _ B1).mono ?_
   rintro e w4 ⟨rfl, hb4⟩
   go_wp2
   go_ret
   exact ⟨rfl, kL⟩
 ·rw [if_pos h1]
  obtain ⟨c, ec⟩ : ∃ c, c = chk m := ⟨_, rfl⟩
  rw [← ec] at CK h1 ⊢
  have hcb : (c != 0) = true := by rw [bne_iff_ne]; exact h1
  clear hm hI h1 ec
  go_enter Tryz.func14, Tryz.ntmps14
  go_wp2_with (first | ((with_reducible show wpList _ _ _ _ _ _); refine lW 41 4 rfl rfl (w.heap.size) rfl (machC V m) kB Tryz.underlying41 ?_))
  refine (CK.out _ kL).mono ?_
  rintro e w1 ⟨rfl, hb1⟩
  go_wp2
  go_ret
  exact ⟨rfl, kL⟩
def cnI (m : Mach) (ins : List Inp) : Cn := ⟨⟨m, [], 0⟩, [], [], ins⟩
theorem at_start {m : Mach} {ins : List Inp} (hi : m.In) (hr : m.Right) (hc : chkFrom m.ck ins = 0) (hd : ∀ i ∈ ins, U8 i.dn) : At m 0 (cnI m ins) :=
 ⟨⟨hi, hr.fit, hr.wt, hr.bm.1, hr.bm.2.1, by have := hr.bm.2.2; show m.bm.fr ≤ 20001; omega⟩, by show m.ck = m.ck + ((0 : Nat) : Int); omega, hd, rise_chk hc, ⟨hr.time.2.1.1, hr.time.2.1.2, hr.time.2.2.1, hr.time.2.2.2⟩⟩
theorem bt_start {m : Mach} {ins : List Inp} (h : m.bm.In) : Bt m 0 (cnI m ins) := by
 have e : runBm m.bm ((0 : Nat) : Int) = m.bm := runBm_zero _ h
 exact ⟨by rw [e]; rfl, by rw [e]; rfl, by rw [e]; rfl⟩
theorem runs_right {m : Mach} {c : Cn} {n : Nat} (a : At m n c) (b : Bt m n c) (hb : m.bm.In) (f0 : 0 ≤ m.bm.fr) (f1 : m.bm.fr ≤ 19900) (hn : n ≤ 20000) (m0 : 0 ≤ m.ck) (m1 : m.ck + n ≤ 200000) : c.x.m.Right := by
 have f := fr_le hb f0 f1 n hn
 have hc := a.ck
 have ht := a.time
 have hw := a.wk
 refine ⟨hw.fit, hw.wt, ⟨hw.bm, by rw [b.fr]; exact f.1, by rw [b.fr]; exact f.2⟩, ?_⟩
 refine ⟨⟨by omega, by omega⟩, ⟨ht.1, ht.2.1⟩, ⟨ht.2.2.1, ht.2.2.2⟩⟩
theorem chk_filter : ∀ {l : List Inp} {c d : Int} {p : Inp → Bool}, chkFrom c l = 0 → (∀ i ∈ l, p i = true → d ≤ i.ck) → chkFrom d (l.filter p) = 0 := by
 intro l c d p h hp
 have hall : ∀ i ∈ l, i.ck ≤ 400000 ∧ (i.pd = 0 ∨ i.pd = 1) := by
  clear hp
  induction l generalizing c with
  | nil => intro i hi; cases hi
  | cons a t ih =>
   unfold chkFrom at h
   split at h
   ·cases h
   ·split at h
    ·cases h
    ·intro i hi
     rcases List.mem_cons.1 hi with rfl | hi
     ·omega
     ·exact ih h i hi
 have hr := rise_filter (c := c) (p := p) (rise_chk h)
 have hs : ∀ i ∈ l.filter p, d ≤ i.ck := fun i hi => hp i (List.mem_filter.1 hi).1 (List.mem_filter.1 hi).2
 have ha : ∀ i ∈ l.filter p, i.ck ≤ 400000 ∧ (i.pd = 0 ∨ i.pd = 1) := fun i hi => hall i (List.mem_filter.1 hi).1
 generalize l.filter p = q at *
 clear h hp hall
 have go : ∀ (q : List Inp) (e : Int), Rise e q → (∀ i ∈ q, i.ck ≤ 400000 ∧ (i.pd = 0 ∨ i.pd = 1)) → ∀ d, (∀ i ∈ q, d ≤ i.ck) → chkFrom d q = 0 := by
  intro q
  induction q with
  | nil => intro e _ _ d _; rfl
  | cons a t ih =>
   intro e hr ha d hs
   have h1 := ha a (List.mem_cons_self ..)
   have h2 := hs a (List.mem_cons_self ..)
   unfold chkFrom
   rw [if_neg kO, if_neg kO]
   exact ih a.ck hr.2 (fun i hi => ha i (List.mem_cons_of_mem _ hi)) a.ck (fun i hi => Rise.all hr.2 i hi)
 exact go q c hr ha d hs
theorem chkI_filter {l : List Inp} {c d : Int} {p : Inp → Bool} (h : chkI l c = 0) (hp : ∀ i ∈ l, p i = true → d ≤ i.ck) : chkI (l.filter p) d = 0 := by
 unfold chkI at h ⊢
 split at h
 ·cases h
 ·rename_i hl
  have := List.length_filter_le p l
  rw [if_neg kO]
  exact chk_filter h hp
/-- what a run in two parts shows -/
theorem two_parts {m : Mach} {ins : List Inp} (h : At m 0 (cnI m ins)) (a b : Nat) (m0 : 0 ≤ m.ck) (m1 : m.ck + a ≤ 1000000) :
  Adds (lkN (cnI m ins) a) (lkN (cnI (lkN (cnI m ins) a).x.m (ins.filter (fun i => decide (m.ck + a ≤ i.ck)))) b) (lkN (cnI m ins) (a + b)) := by
 have hI : (lkN (cnI m ins) a).ins = ins.filter (fun i => decide (m.ck + a ≤ i.ck)) := lkN_ins h a m0 kO
 have k := lkN_anew (lkN (cnI m ins) a) b
 rw [← lkN_add] at k
 have e : (lkN (cnI m ins) a).anew = cnI (lkN (cnI m ins) a).x.m (ins.filter (fun i => decide (m.ck + a ≤ i.ck))) := by
  rw [← hI]
  rfl
 rw [← e]
 exact k
/-- how long the lists are -/
theorem lk_lens {m : Mach} {ins : List Inp} (h : At m 0 (cnI m ins)) (m0 : 0 ≤ m.ck) : ∀ n : Nat, m.ck + n ≤ 1000000 →
  (lkN (cnI m ins) n).ls.length ≤ n ∧ (lkN (cnI m ins) n).ss.length ≤ n ∧ (lkN (cnI m ins) n).x.ws.length ≤ 4 * n := by
 intro n
 induction n with
 | zero => intro _; exact ⟨Nat.le_refl _, Nat.le_refl _, Nat.le_refl _⟩
 | succ n ih =>
  intro hn
  obtain ⟨h1, h2, h3⟩ := ih kO
  have a := h.run n m0 kO
  rw [Nat.zero_add] at a
  rw [lkN_last]
  generalize lkN (cnI m ins) n = c at *
  have w1 := a.wk.press a.dn
  have w2 := doX_ws (c.x.setM (pressA c.x.m c.ins)) w1.inn
  refine ⟨?_, ?_, ?_⟩
  ·show (c.ls ++ drawO _).length ≤ _
   rw [List.length_append]
   have : (drawO (pressA c.x.m c.ins)).length ≤ 1 := by
    unfold drawO
    split <;> simp
   omega
  ·show (c.ss ++ smp _ 1).length ≤ _
   rw [List.length_append]
   have hb : (smp (pressA c.x.m c.ins).sd 1).length ≤ 1 := by rw [smp_one]; unfold dueL; split <;> simp
   omega
  ·show (doX (c.x.setM (pressA c.x.m c.ins))).ws.length ≤ _
   have e : (c.x.setM (pressA c.x.m c.ins)).ws.length = c.x.ws.length := rfl
   omega
end Go.Proofs.YtmppkjkmocecmaaGreatDoor
namespace Go.Mq
open Go.RowKit
/-- n elements of so many cells each -/
def RowAt (w : World) (sz : Nat) (v : Value) (n : Nat) (cs : List Value) : Prop :=
 ∃ a cap, v = .slice a n cap ∧ n ≤ cap ∧ cap ≤ maxLen ∧ cs.length = n * sz ∧ (∀ u ∈ cs, u.oneCell' = true) ∧
  (0 < n → ∃ b, a = some ⟨b, 0, none⟩ ∧ b < w.heap.size ∧ ∀ j u, cs[j]? = some u → w.cell? ⟨b, j, none⟩ = some u)
theorem RowAt.below {w w' : World} {sz n : Nat} {v : Value} {cs : List Value} (h : RowAt w sz v n cs) (hb : Below w.heap.size w w') : RowAt w' sz v n cs := by
 obtain ⟨a, cap, h1, h2, h3, h4, h5, h6⟩ := h
 refine ⟨a, cap, h1, h2, h3, h4, h5, fun h0 => ?_⟩
 obtain ⟨b, e, hl, hc⟩ := h6 h0
 exact ⟨b, e, Nat.lt_of_lt_of_le hl hb.size, fun j u hj => (hb.cell (p := ⟨b, j, none⟩) hl).trans (hc j u hj)⟩
theorem own_rowAt {w : World} {base : Nat} {e : TypeId} {sz n : Nat} {v : Value} {cs : List Value} (h : w.ownsRow base e sz v n cs) (h1 : ∀ u ∈ cs, u.oneCell' = true) : RowAt w sz v n cs := by
 have h0 := h.1
 rcases h.2 with ⟨rfl, hn⟩ | ⟨g, cap, cur, rfl, hbg, hgg, k1, k2, k3, k4⟩
 ·exact ⟨none, 0, by rw [hn], by omega, by simp [maxLen], h0, h1, fun hp => by omega⟩
 ·refine ⟨some ⟨g, 0, none⟩, cap, rfl, k1, k2, h0, h1, fun hp => ⟨g, rfl, (Array.getElem?_eq_some_iff.1 hgg).1, fun j u hj => ?_⟩⟩
  have q := h.cells (g := g) rfl j u hj
  rw [Addr.add_lit, Nat.zero_add] at q
  exact q
theorem append_none' {P : Program} (w : World) (t ty e : TypeId) (i : TypeInfo) (ht : P.underlying t = some (.slice e)) (hi : P.info? e = some i) (base : Option Addr) (l c cp : Nat) (h : l ≤ c) :
  (Builtin.append_ #[t, t] ty #[.slice base l c, .slice none 0 cp]).run P w = .ok (.slice base l c) w := by
 cases base <;> simp [Builtin.append_, run_underlying ht, sizeOf, typeInfo, hi, Builtin.lenOf, Builtin.firstCells, loadCells, loadCellsFrom, storeCells, h]
theorem own_cap' {w : World} {base : Nat} {e : TypeId} {size : Nat} {ao : Option Addr} {l cp n : Nat} {xs : List Value} (h : w.ownsRow base e size (.slice ao l cp) n xs) : l ≤ cp ∧ l = n := by
 rcases h.2 with ⟨h1, h2⟩ | ⟨g, cap, cur, h1, -, -, h2, -⟩
 ·injection h1 with e1 e2 e3; omega
 ·injection h1 with e1 e2 e3; omega
theorem run_append_rowAt {P : Program} (w : World) (base : Nat) (t ty e : TypeId) (i : TypeInfo) (z : Value) (size bytes : Nat) (ht : P.underlying t = some (.slice e)) (hi : P.info? e = some i) (hz : i.zero = some z) (hs : i.size = size) (hb : i.bytes = bytes) (hzs : z.cells.size = size) (hp : 0 < size) (hby : bytes ≤ 64)
  (v : Value) (n : Nat) (xs : List Value) (hown : w.ownsRow base e size v n xs) (u : Value) (m : Nat) (ys : List Value) (hu : RowAt w size u m ys) (hn : n + m ≤ 1000000) (hbase : base ≤ w.heap.size) :
  ∃ v' w', (Builtin.append_ #[t, t] ty #[v, u]).run P w = .ok v' w' ∧ w'.ownsRow base e size v' (n + m) (xs ++ ys) ∧ w.grownBy w' v.ownBlock := by
 obtain ⟨a, c, rfl, hc1, hc2, hl, h1, hcs⟩ := hu
 obtain ⟨ao, cp, rfl⟩ := own_shape hown
 cases a with
 | none =>
  have h0 : m = 0 := by
   cases m with
   | zero => rfl
   | succ m => obtain ⟨b, he, -⟩ := hcs kO; cases he
  subst h0
  have hy : ys = [] := List.eq_nil_of_length_eq_zero (by rw [hl, Nat.zero_mul])
  subst hy
  refine ⟨_, w, append_none' w t ty e i ht hi ao n cp c ?_, by simpa using hown, ⟨rfl, rfl, rfl, Nat.le_refl _, fun _ _ _ => rfl⟩⟩
  exact (own_cap' hown).1
 | some ad =>
  obtain ⟨v', w', hr, h2, h3, -⟩ := run_append_own (P := P) (w := w) base t ty e i z size bytes ht hi hz hs hb hzs hp _ _ _ hown ad m c ys hl
   (fun j u hj => by
    have hm : 0 < m := by
     rcases Nat.eq_zero_or_pos m with h | h
     ·have : ys = [] := List.eq_nil_of_length_eq_zero (by rw [hl, h, Nat.zero_mul])
      rw [this] at hj
      cases hj
     ·exact h
    obtain ⟨b, hab, -, hcell⟩ := hcs hm
    injection hab with hab
    subst hab
    rw [Addr.add_lit, Nat.zero_add]
    exact hcell j u hj) h1
   (by unfold maxLen; omega) (by
    have : (n + m) * bytes ≤ 1000000 * 64 := Nat.mul_le_mul hn hby
    omega) hbase
  exact ⟨v', w', hr, h2, h3⟩
end Go.Mq
namespace Go.Proofs.YtmppkjkmocecmaaGreatDoor
open Go.RowKit Go.Mq
theorem infLLn : (Tryz.prog.info? 59).map (fun i => (i.zero, i.size, i.bytes)) = some (some (.agg #[.int .i64 0, .int .i64 0, .int .u8 0, .int .u8 0, .int .u8 0, .int .u8 0, .int .u8 0, .int .u8 0, .int .u8 0, .int .u8 0, .int .u8 0, .int .u8 0, .int .u8 0, .int .u8 0, .int .u8 0, .int .u8 0, .int .u8 0, .int .u8 0]), 18, 32) := by kernel_rfl
theorem growLn (n : Nat) (hn : n ≤ 1000000) (w : World) :
  Calls Tryz.prog 39 #[.slice none 0 0, .int .i64 n] w fun e w' => ∃ ao cp, e = .returned (.slice ao 0 cp) ∧ w'.ownsRow w.heap.size 59 18 (.slice ao 0 cp) 0 [] ∧ Below w.heap.size w w' := by
 obtain ⟨i0, hi, hz0, hz1, hz2⟩ := info_parts infLLn
 by_cases h0 : n = 0
 ·subst h0
  go_enter Tryz.func39, Tryz.ntmps39
  go_wp2
  go_ret
  exact ⟨none, 0, rfl, World.ownsRow_nil _ _ _ _, Below.refl _ _⟩
 ·have hr : ∀ ty, (Builtin.append_ #[42, 3] ty #[.slice none 0 0, .int .i64 n]).run Tryz.prog w = .ok (.slice (some ⟨w.heap.size, 0, none⟩) n (grownCap w n 0 59)) (w.drew.alloc (.cells (Builtin.zeroCells (.agg #[.int .i64 0, .int .i64 0, .int .u8 0, .int .u8 0, .int .u8 0, .int .u8 0, .int .u8 0, .int .u8 0, .int .u8 0, .int .u8 0, .int .u8 0, .int .u8 0, .int .u8 0, .int .u8 0, .int .u8 0, .int .u8 0, .int .u8 0, .int .u8 0] : Value).cells n ++ Builtin.zeroCells (.agg #[.int .i64 0, .int .i64 0, .int .u8 0, .int .u8 0, .int .u8 0, .int .u8 0, .int .u8 0, .int .u8 0, .int .u8 0, .int .u8 0, .int .u8 0, .int .u8 0, .int .u8 0, .int .u8 0, .int .u8 0, .int .u8 0, .int .u8 0, .int .u8 0] : Value).cells (grownCap w n 0 59 - n)) 59)) := fun ty =>
   Lib.run_append_nil_zeros w 42 3 ty 59 i0 (.agg #[.int .i64 0, .int .i64 0, .int .u8 0, .int .u8 0, .int .u8 0, .int .u8 0, .int .u8 0, .int .u8 0, .int .u8 0, .int .u8 0, .int .u8 0, .int .u8 0, .int .u8 0, .int .u8 0, .int .u8 0, .int .u8 0, .int .u8 0, .int .u8 0]) .i64 .i64 Tryz.underlying42 Tryz.underlying3 hi hz0 n kO (by rw [hz1]; decide) kO (by rw [hz2]; omega)
  have hG : n ≤ grownCap w n 0 59 := grownCap_ge w _ _ _
  have hM : grownCap w n 0 59 ≤ maxLen := grownCap_le_maxLen w n 0 59 (by unfold maxLen; omega)
  generalize grownCap w n 0 59 = G at *
  have h1 : (1 : Int) ≤ n := by omega
  have h2 : (n : Int) ≤ 1000000 := by omega
  have hG1 : (n : Int) ≤ (G : Int) := Int.ofNat_le.2 hG
  have hG2 : (G : Int) ≤ 9223372036854775807 := by unfold maxLen at hM; omega
  obtain ⟨C, hC⟩ : ∃ C, C = Builtin.zeroCells (.agg #[.int .i64 0, .int .i64 0, .int .u8 0, .int .u8 0, .int .u8 0, .int .u8 0, .int .u8 0, .int .u8 0, .int .u8 0, .int .u8 0, .int .u8 0, .int .u8 0, .int .u8 0, .int .u8 0, .int .u8 0, .int .u8 0, .int .u8 0, .int .u8 0] : Value).cells n ++ Builtin.zeroCells (.agg #[.int .i64 0, .int .i64 0, .int .u8 0, .int .u8 0, .int .u8 0, .int .u8 0, .int .u8 0, .int .u8 0, .int .u8 0, .int .u8 0, .int .u8 0, .int .u8 0, .int .u8 0, .int .u8 0, .int .u8 0, .int .u8 0, .int .u8 0, .int .u8 0] : Value).cells (G - n) := ⟨_, rfl⟩
  have hCs : Hid (C.size = G * 18) := Lib.hid (by
   rw [hC, Array.size_append, size_zeroCells, size_zeroCells]
   show n * 18 + (G - n) * 18 = G * 18
   rw [← Nat.add_mul]
   congr 1
   omega)
  rw [← hC] at hr
  have HM := Lib.hid hM
  clear hC hM hz0 hz1 hz2 hi
  go_enter Tryz.func39, Tryz.ntmps39
  go_wp2_with (at_builtin; refine Lib.wpList_append_run _ rfl _ _ _ _ rfl _ _ rfl rfl _ _ (hr _) ?_)
  go_ret
  exact ⟨some ⟨w.heap.size, 0, none⟩, G, rfl, ⟨rfl, .inr ⟨w.heap.size, G, C, rfl, Nat.le_refl _, Blk.new _ _ _, by omega, HM.out, hCs.out, by simp⟩⟩, kL⟩
theorem concatLn (w : World) (B : Nat) (t : TypeId) (v1 v2 : Value) (n1 n2 : Nat) (xs ys : List Value) (h1 : RowAt w 18 v1 n1 xs) (h2 : RowAt w 18 v2 n2 ys) (hB : Blk w B #[v1, v2] t) (hx : n1 ≤ 200000) (hy : n2 ≤ 200000) :
  Calls Tryz.prog 15 #[.slice (some ⟨B, 0, none⟩) 2 2] w fun e w' => ∃ ao cp, e = .returned (.slice ao (n1 + n2) cp) ∧ w'.ownsRow w.heap.size 59 18 (.slice ao (n1 + n2) cp) (n1 + n2) (xs ++ ys) ∧ Below w.heap.size w w' := by
 have S1 := Lib.hid h1
 have S2 := Lib.hid h2
 obtain ⟨a1, c1, rfl, l1, m1, -, -⟩ := h1
 obtain ⟨a2, c2, rfl, l2, m2, -, -⟩ := h2
 obtain ⟨i0, hi, hz0, hz1, hz2⟩ := info_parts infLLn
 have AP := Lib.hid (fun (w : World) (base : Nat) (v : Value) (n : Nat) (xs : List Value) (hown : w.ownsRow base 59 18 v n xs) (u : Value) (m : Nat) (ys : List Value) (hu : RowAt w 18 u m ys) (hn : n + m ≤ 1000000) (hbase : base ≤ w.heap.size) (ty : TypeId) => run_append_rowAt (P := Tryz.prog) w base 42 ty 59 i0 _ 18 32 Tryz.underlying42 hi hz0 hz1 hz2 rfl kD kD v n xs hown u m ys hu hn hbase)
 have gr := growLn (n1 + n2) kO
 simp only [Int.natCast_add] at gr
 have GR := Lib.hid gr
 clear gr
 have KB := Lib.hid hB
 obtain ⟨lB, cB, fB⟩ := hB.use
 have b1 : (n1 : Int) ≤ 200000 := by omega
 have b2 : (n2 : Int) ≤ 200000 := by omega
 have d1 : (0 : Int) ≤ n1 := by omega
 have d2 : (0 : Int) ≤ n2 := by omega
 clear hi hz0 hz1 hz2
 go_enter Tryz.func15, Tryz.ntmps15
 go_wp2_with fail
 refine wp_loop_rounds 3 ?_
 rw [rounds_succ]
 go_wp2_with fail
 rw [rounds_succ]
 go_wp2_with fail
 rw [rounds_succ]
 go_wp2_with fail
 refine (GR.out _).mono ?_
 rintro e w1 ⟨ao, cp, rfl, hown, hb1⟩
 have HO := Lib.hid hown
 have KB1 := Lib.hid (KB.out.below hb1)
 have S1' := Lib.hid (S1.out.below hb1)
 have S2' := Lib.hid (S2.out.below hb1)
 obtain ⟨lB1, cB1, fB1⟩ := KB1.out.use
 clear hown cB fB
 go_wp2_with fail
 refine wp_loop_rounds 3 ?_
 obtain ⟨v2, w2, hr2, ho2, hg2⟩ := AP.out w1 w.heap.size (.slice ao 0 cp) 0 [] HO.out _ n1 xs S1'.out kO hb1.size 42
 rw [Nat.zero_add, List.nil_append] at ho2
 obtain ⟨a3, c3, rfl⟩ := own_shape ho2
 have KB2 := Lib.hid (Blk.grown KB1.out hg2 HO.out lB)
 have hb2 : Below w.heap.size w w2 := below_grown hb1 hb1.size hg2 HO.out (Nat.le_refl _)
 have S2'' := Lib.hid (S2.out.below hb2)
 obtain ⟨v3, w3, hr3, ho3, hg3⟩ := AP.out w2 w.heap.size _ n1 xs ho2 _ n2 ys S2''.out kO hb2.size 42
 obtain ⟨a4, c4, rfl⟩ := own_shape ho3
 have KB3 := Lib.hid (Blk.grown KB2.out hg3 ho2 lB)
 have hb3 : Below w.heap.size w w3 := below_grown hb2 hb2.size hg3 ho2 (Nat.le_refl _)
 obtain ⟨lB2, cB2, fB2⟩ := KB2.out.use
 obtain ⟨lB3, cB3, fB3⟩ := KB3.out.use
 have R2 := Lib.hid hr2
 have R3 := Lib.hid hr3
 have HO3 := Lib.hid ho3
 clear hr2 hr3 ho2 ho3 hg2 hg3
 rw [rounds_succ]
 go_wp2_with (at_builtin; first | refine Lib.wpList_append_run _ rfl _ _ _ _ rfl _ _ rfl rfl _ _ R2.out ?_ | refine Lib.wpList_append_run _ rfl _ _ _ _ rfl _ _ rfl rfl _ _ R3.out ?_)
 rw [rounds_succ]
 go_wp2_with (at_builtin; first | refine Lib.wpList_append_run _ rfl _ _ _ _ rfl _ _ rfl rfl _ _ R2.out ?_ | refine Lib.wpList_append_run _ rfl _ _ _ _ rfl _ _ rfl rfl _ _ R3.out ?_)
 rw [rounds_succ]
 go_wp2
 go_ret
 exact ⟨a4, c4, by simp, HO3.out, hb3⟩
theorem infLWr : (Tryz.prog.info? 68).map (fun i => (i.zero, i.size, i.bytes)) = some (some (.agg #[.int .i64 0, .int .i64 0, .int .u8 0]), 3, 24) := by kernel_rfl
theorem growWr (n : Nat) (hn : n ≤ 1000000) (w : World) :
  Calls Tryz.prog 41 #[.slice none 0 0, .int .i64 n] w fun e w' => ∃ ao cp, e = .returned (.slice ao 0 cp) ∧ w'.ownsRow w.heap.size 68 3 (.slice ao 0 cp) 0 [] ∧ Below w.heap.size w w' := by
 obtain ⟨i0, hi, hz0, hz1, hz2⟩ := info_parts infLWr
 by_cases h0 : n = 0
 ·subst h0
  go_enter Tryz.func41, Tryz.ntmps41
  go_wp2
  go_ret
  exact ⟨none, 0, rfl, World.ownsRow_nil _ _ _ _, Below.refl _ _⟩
 ·have hr : ∀ ty, (Builtin.append_ #[43, 3] ty #[.slice none 0 0, .int .i64 n]).run Tryz.prog w = .ok (.slice (some ⟨w.heap.size, 0, none⟩) n (grownCap w n 0 68)) (w.drew.alloc (.cells (Builtin.zeroCells (.agg #[.int .i64 0, .int .i64 0, .int .u8 0] : Value).cells n ++ Builtin.zeroCells (.agg #[.int .i64 0, .int .i64 0, .int .u8 0] : Value).cells (grownCap w n 0 68 - n)) 68)) := fun ty =>
   Lib.run_append_nil_zeros w 43 3 ty 68 i0 (.agg #[.int .i64 0, .int .i64 0, .int .u8 0]) .i64 .i64 Tryz.underlying43 Tryz.underlying3 hi hz0 n kO (by rw [hz1]; decide) kO (by rw [hz2]; omega)
  have hG : n ≤ grownCap w n 0 68 := grownCap_ge w _ _ _
  have hM : grownCap w n 0 68 ≤ maxLen := grownCap_le_maxLen w n 0 68 (by unfold maxLen; omega)
  generalize grownCap w n 0 68 = G at *
  have h1 : (1 : Int) ≤ n := by omega
  have h2 : (n : Int) ≤ 1000000 := by omega
  have hG1 : (n : Int) ≤ (G : Int) := Int.ofNat_le.2 hG
  have hG2 : (G : Int) ≤ 9223372036854775807 := by unfold maxLen at hM; omega
  obtain ⟨C, hC⟩ : ∃ C, C = Builtin.zeroCells (.agg #[.int .i64 0, .int .i64 0, .int .u8 0] : Value).cells n ++ Builtin.zeroCells (.agg #[.int .i64 0, .int .i64 0, .int .u8 0] : Value).cells (G - n) := ⟨_, rfl⟩
  have hCs : Hid (C.size = G * 3) := Lib.hid (by
   rw [hC, Array.size_append, size_zeroCells, size_zeroCells]
   show n * 3 + (G - n) * 3 = G * 3
   rw [← Nat.add_mul]
   congr 1
   omega)
  rw [← hC] at hr
  have HM := Lib.hid hM
  clear hC hM hz0 hz1 hz2 hi
  go_enter Tryz.func41, Tryz.ntmps41
  go_wp2_with (at_builtin; refine Lib.wpList_append_run _ rfl _ _ _ _ rfl _ _ rfl rfl _ _ (hr _) ?_)
  go_ret
  exact ⟨some ⟨w.heap.size, 0, none⟩, G, rfl, ⟨rfl, .inr ⟨w.heap.size, G, C, rfl, Nat.le_refl _, Blk.new _ _ _, by omega, HM.out, hCs.out, by simp⟩⟩, kL⟩
theorem concatWr (w : World) (B : Nat) (t : TypeId) (v1 v2 : Value) (n1 n2 : Nat) (xs ys : List Value) (h1 : RowAt w 3 v1 n1 xs) (h2 : RowAt w 3 v2 n2 ys) (hB : Blk w B #[v1, v2] t) (hx : n1 ≤ 200000) (hy : n2 ≤ 200000) :
  Calls Tryz.prog 17 #[.slice (some ⟨B, 0, none⟩) 2 2] w fun e w' => ∃ ao cp, e = .returned (.slice ao (n1 + n2) cp) ∧ w'.ownsRow w.heap.size 68 3 (.slice ao (n1 + n2) cp) (n1 + n2) (xs ++ ys) ∧ Below w.heap.size w w' := by
 have S1 := Lib.hid h1
 have S2 := Lib.hid h2
 obtain ⟨a1, c1, rfl, l1, m1, -, -⟩ := h1
 obtain ⟨a2, c2, rfl, l2, m2, -, -⟩ := h2
 obtain ⟨i0, hi, hz0, hz1, hz2⟩ := info_parts infLWr
 have AP := Lib.hid (fun (w : World) (base : Nat) (v : Value) (n : Nat) (xs : List Value) (hown : w.ownsRow base 68 3 v n xs) (u : Value) (m : Nat) (ys : List Value) (hu : RowAt w 3 u m ys) (hn : n + m ≤ 1000000) (hbase : base ≤ w.heap.size) (ty : TypeId) => run_append_rowAt (P := Tryz.prog) w base 43 ty 68 i0 _ 3 24 Tryz.underlying43 hi hz0 hz1 hz2 rfl kD kD v n xs hown u m ys hu hn hbase)
 have gr := growWr (n1 + n2) kO
 simp only [Int.natCast_add] at gr
 have GR := Lib.hid gr
 clear gr
 have KB := Lib.hid hB
 obtain ⟨lB, cB, fB⟩ := hB.use
 have b1 : (n1 : Int) ≤ 200000 := by omega
 have b2 : (n2 : Int) ≤ 200000 := by omega
 have d1 : (0 : Int) ≤ n1 := by omega
 have d2 : (0 : Int) ≤ n2 := by omega
 clear hi hz0 hz1 hz2
 go_enter Tryz.func17, Tryz.ntmps17
 go_wp2_with fail
 refine wp_loop_rounds 3 ?_
 rw [rounds_succ]
 go_wp2_with fail
 rw [rounds_succ]
 go_wp2_with fail
 rw [rounds_succ]
 go_wp2_with fail
 refine (GR.out _).mono ?_
 rintro e w1 ⟨ao, cp, rfl, hown, hb1⟩
 have HO := Lib.hid hown
 have KB1 := Lib.hid (KB.out.below hb1)
 have S1' := Lib.hid (S1.out.below hb1)
 have S2' := Lib.hid (S2.out.below hb1)
 obtain ⟨lB1, cB1, fB1⟩ := KB1.out.use
 clear hown cB fB
 go_wp2_with fail
 refine wp_loop_rounds 3 ?_
 obtain ⟨v2, w2, hr2, ho2, hg2⟩ := AP.out w1 w.heap.size (.slice ao 0 cp) 0 [] HO.out _ n1 xs S1'.out kO hb1.size 43
 rw [Nat.zero_add, List.nil_append] at ho2
 obtain ⟨a3, c3, rfl⟩ := own_shape ho2
 have KB2 := Lib.hid (Blk.grown KB1.out hg2 HO.out lB)
 have hb2 : Below w.heap.size w w2 := below_grown hb1 hb1.size hg2 HO.out (Nat.le_refl _)
 have S2'' := Lib.hid (S2.out.below hb2)
 obtain ⟨v3, w3, hr3, ho3, hg3⟩ := AP.out w2 w.heap.size _ n1 xs ho2 _ n2 ys S2''.out kO hb2.size 43
 obtain ⟨a4, c4, rfl⟩ := own_shape ho3
 have KB3 := Lib.hid (Blk.grown KB2.out hg3 ho2 lB)
 have hb3 : Below w.heap.size w w3 := below_grown hb2 hb2.size hg3 ho2 (Nat.le_refl _)
 obtain ⟨lB2, cB2, fB2⟩ := KB2.out.use
 obtain ⟨lB3, cB3, fB3⟩ := KB3.out.use
 have R2 := Lib.hid hr2
 have R3 := Lib.hid hr3
 have HO3 := Lib.hid ho3
 clear hr2 hr3 ho2 ho3 hg2 hg3
 rw [rounds_succ]
 go_wp2_with (at_builtin; first | refine Lib.wpList_append_run _ rfl _ _ _ _ rfl _ _ rfl rfl _ _ R2.out ?_ | refine Lib.wpList_append_run _ rfl _ _ _ _ rfl _ _ rfl rfl _ _ R3.out ?_)
 rw [rounds_succ]
 go_wp2_with (at_builtin; first | refine Lib.wpList_append_run _ rfl _ _ _ _ rfl _ _ rfl rfl _ _ R2.out ?_ | refine Lib.wpList_append_run _ rfl _ _ _ _ rfl _ _ rfl rfl _ _ R3.out ?_)
 rw [rounds_succ]
 go_wp2
 go_ret
 exact ⟨a4, c4, by simp, HO3.out, hb3⟩
theorem infLBy : (Tryz.prog.info? 5).map (fun i => (i.zero, i.size, i.bytes)) = some (some (.int .u8 0), 1, 1) := by kernel_rfl
theorem growBy (n : Nat) (hn : n ≤ 1000000) (w : World) :
  Calls Tryz.prog 40 #[.slice none 0 0, .int .i64 n] w fun e w' => ∃ ao cp, e = .returned (.slice ao 0 cp) ∧ w'.ownsRow w.heap.size 5 1 (.slice ao 0 cp) 0 [] ∧ Below w.heap.size w w' := by
 obtain ⟨i0, hi, hz0, hz1, hz2⟩ := info_parts infLBy
 by_cases h0 : n = 0
 ·subst h0
  go_enter Tryz.func40, Tryz.ntmps40
  go_wp2
  go_ret
  exact ⟨none, 0, rfl, World.ownsRow_nil _ _ _ _, Below.refl _ _⟩
 ·have hr : ∀ ty, (Builtin.append_ #[26, 3] ty #[.slice none 0 0, .int .i64 n]).run Tryz.prog w = .ok (.slice (some ⟨w.heap.size, 0, none⟩) n (grownCap w n 0 5)) (w.drew.alloc (.cells (Builtin.zeroCells (.int .u8 0 : Value).cells n ++ Builtin.zeroCells (.int .u8 0 : Value).cells (grownCap w n 0 5 - n)) 5)) := fun ty =>
   Lib.run_append_nil_zeros w 26 3 ty 5 i0 (.int .u8 0) .i64 .i64 Tryz.underlying26 Tryz.underlying3 hi hz0 n kO (by rw [hz1]; decide) kO (by rw [hz2]; omega)
  have hG : n ≤ grownCap w n 0 5 := grownCap_ge w _ _ _
  have hM : grownCap w n 0 5 ≤ maxLen := grownCap_le_maxLen w n 0 5 (by unfold maxLen; omega)
  generalize grownCap w n 0 5 = G at *
  have h1 : (1 : Int) ≤ n := by omega
  have h2 : (n : Int) ≤ 1000000 := by omega
  have hG1 : (n : Int) ≤ (G : Int) := Int.ofNat_le.2 hG
  have hG2 : (G : Int) ≤ 9223372036854775807 := by unfold maxLen at hM; omega
  obtain ⟨C, hC⟩ : ∃ C, C = Builtin.zeroCells (.int .u8 0 : Value).cells n ++ Builtin.zeroCells (.int .u8 0 : Value).cells (G - n) := ⟨_, rfl⟩
  have hCs : Hid (C.size = G * 1) := Lib.hid (by
   rw [hC, Array.size_append, size_zeroCells, size_zeroCells]
   show n * 1 + (G - n) * 1 = G * 1
   rw [← Nat.add_mul]
   congr 1
   omega)
  rw [← hC] at hr
  have HM := Lib.hid hM
  clear hC hM hz0 hz1 hz2 hi
  go_enter Tryz.func40, Tryz.ntmps40
  go_wp2_with (at_builtin; refine Lib.wpList_append_run _ rfl _ _ _ _ rfl _ _ rfl rfl _ _ (hr _) ?_)
  go_ret
  exact ⟨some ⟨w.heap.size, 0, none⟩, G, rfl, ⟨rfl, .inr ⟨w.heap.size, G, C, rfl, Nat.le_refl _, Blk.new _ _ _, by omega, HM.out, hCs.out, by simp⟩⟩, kL⟩
theorem concatBy (w : World) (B : Nat) (t : TypeId) (v1 v2 : Value) (n1 n2 : Nat) (xs ys : List Value) (h1 : RowAt w 1 v1 n1 xs) (h2 : RowAt w 1 v2 n2 ys) (hB : Blk w B #[v1, v2] t) (hx : n1 ≤ 200000) (hy : n2 ≤ 200000) :
  Calls Tryz.prog 16 #[.slice (some ⟨B, 0, none⟩) 2 2] w fun e w' => ∃ ao cp, e = .returned (.slice ao (n1 + n2) cp) ∧ w'.ownsRow w.heap.size 5 1 (.slice ao (n1 + n2) cp) (n1 + n2) (xs ++ ys) ∧ Below w.heap.size w w' := by
 have S1 := Lib.hid h1
 have S2 := Lib.hid h2
 obtain ⟨a1, c1, rfl, l1, m1, -, -⟩ := h1
 obtain ⟨a2, c2, rfl, l2, m2, -, -⟩ := h2
 obtain ⟨i0, hi, hz0, hz1, hz2⟩ := info_parts infLBy
 have AP := Lib.hid (fun (w : World) (base : Nat) (v : Value) (n : Nat) (xs : List Value) (hown : w.ownsRow base 5 1 v n xs) (u : Value) (m : Nat) (ys : List Value) (hu : RowAt w 1 u m ys) (hn : n + m ≤ 1000000) (hbase : base ≤ w.heap.size) (ty : TypeId) => run_append_rowAt (P := Tryz.prog) w base 26 ty 5 i0 _ 1 1 Tryz.underlying26 hi hz0 hz1 hz2 rfl kD kD v n xs hown u m ys hu hn hbase)
 have gr := growBy (n1 + n2) kO
 simp only [Int.natCast_add] at gr
 have GR := Lib.hid gr
 clear gr
 have KB := Lib.hid hB
 obtain ⟨lB, cB, fB⟩ := hB.use
 have b1 : (n1 : Int) ≤ 200000 := by omega
 have b2 : (n2 : Int) ≤ 200000 := by omega
 have d1 : (0 : Int) ≤ n1 := by omega
 have d2 : (0 : Int) ≤ n2 := by omega
 clear hi hz0 hz1 hz2
 go_enter Tryz.func16, Tryz.ntmps16
 go_wp2_with fail
 refine wp_loop_rounds 3 ?_
 rw [rounds_succ]
 go_wp2_with fail
 rw [rounds_succ]
 go_wp2_with fail
 rw [rounds_succ]
 go_wp2_with fail
 refine (GR.out _).mono ?_
 rintro e w1 ⟨ao, cp, rfl, hown, hb1⟩
 have HO := Lib.hid hown
 have KB1 := Lib.hid (KB.out.below hb1)
 have S1' := Lib.hid (S1.out.below hb1)
 have S2' := Lib.hid (S2.out.below hb1)
 obtain ⟨lB1, cB1, fB1⟩ := KB1.out.use
 clear hown cB fB
 go_wp2_with fail
 refine wp_loop_rounds 3 ?_
 obtain ⟨v2, w2, hr2, ho2, hg2⟩ := AP.out w1 w.heap.size (.slice ao 0 cp) 0 [] HO.out _ n1 xs S1'.out kO hb1.size 26
 rw [Nat.zero_add, List.nil_append] at ho2
 obtain ⟨a3, c3, rfl⟩ := own_shape ho2
 have KB2 := Lib.hid (Blk.grown KB1.out hg2 HO.out lB)
 have hb2 : Below w.heap.size w w2 := below_grown hb1 hb1.size hg2 HO.out (Nat.le_refl _)
 have S2'' := Lib.hid (S2.out.below hb2)
 obtain ⟨v3, w3, hr3, ho3, hg3⟩ := AP.out w2 w.heap.size _ n1 xs ho2 _ n2 ys S2''.out kO hb2.size 26
 obtain ⟨a4, c4, rfl⟩ := own_shape ho3
 have KB3 := Lib.hid (Blk.grown KB2.out hg3 ho2 lB)
 have hb3 : Below w.heap.size w w3 := below_grown hb2 hb2.size hg3 ho2 (Nat.le_refl _)
 obtain ⟨lB2, cB2, fB2⟩ := KB2.out.use
 obtain ⟨lB3, cB3, fB3⟩ := KB3.out.use
 have R2 := Lib.hid hr2
 have R3 := Lib.hid hr3
 have HO3 := Lib.hid ho3
 clear hr2 hr3 ho2 ho3 hg2 hg3
 rw [rounds_succ]
 go_wp2_with (at_builtin; first | refine Lib.wpList_append_run _ rfl _ _ _ _ rfl _ _ rfl rfl _ _ R2.out ?_ | refine Lib.wpList_append_run _ rfl _ _ _ _ rfl _ _ rfl rfl _ _ R3.out ?_)
 rw [rounds_succ]
 go_wp2_with (at_builtin; first | refine Lib.wpList_append_run _ rfl _ _ _ _ rfl _ _ rfl rfl _ _ R2.out ?_ | refine Lib.wpList_append_run _ rfl _ _ _ _ rfl _ _ rfl rfl _ _ R3.out ?_)
 rw [rounds_succ]
 go_wp2
 go_ret
 exact ⟨a4, c4, by simp, HO3.out, hb3⟩
end Go.Proofs.YtmppkjkmocecmaaGreatDoor
