/- What the program's pad, and the document's, compute. Conditions: the pad's bytes are bytes. -/
import Derived.Test.YtmppkjkmocecmaaGreatDoorSq
import Derived.Test.YtmppkjkmocecmaaGreatDoorSh
import Derived.Test.YtmppkjkmocecmaaGreatDoorRows
import Derived.Test.YtmppkjkmocecmaaGreatDoorP07
import Derived.Test.YtmppkjkmocecmaaGreatDoorP21
import Derived.Test.YtmppkjkmocecmaaGreatDoorP09
import Derived.Deep.CutRange
set_option linter.unusedVariables false
set_option linter.unusedSimpArgs false
set_option maxHeartbeats 2000000
set_option maxRecDepth 100000
namespace Go.Proofs.YtmppkjkmocecmaaGreatDoor
open Go.RowKit Go.Mq
theorem padpress_any (p : Pd) (hp : p.Ok) (d : Int) (w : World) :
  Calls Tryz.prog 50 #[.agg #[.int .u8 p.dn, .bool p.la, .int .u8 p.sh], .int .u8 d] w fun e w' => e = .returned (.agg #[.int .u8 (pressP p d).dn, .bool (pressP p d).la, .int .u8 (pressP p d).sh]) ∧ Below w.heap.size w w' := by
 obtain ⟨dn, la, sh⟩ := p
 clear hp
 unfold pressP
 cases la
 ·simp only [Bool.false_eq_true, if_false]
  go_enter Tryz.func50, Tryz.ntmps50
  go_wp2
  refine bodyPost_ret (v := .agg #[.int .u8 d, .bool false, .int .u8 sh]) (by simp [results, Tryz.results50, go_sem]) rfl ⟨rfl, ?_⟩
  exact kL
 ·simp only [if_true]
  go_enter Tryz.func50, Tryz.ntmps50
  go_wp2
  refine bodyPost_ret (v := .agg #[.int .u8 d, .bool true, .int .u8 d]) (by simp [results, Tryz.results50, go_sem]) rfl ⟨rfl, ?_⟩
  exact kL
theorem padwrite_any (p : Pd) (b : Int) (hb : U8 b) (w : World) :
  Calls Tryz.prog 106 #[.agg #[.int .u8 p.dn, .bool p.la, .int .u8 p.sh], .int .u8 b] w fun e w' => e = .returned (.agg #[.int .u8 (writeP p b).dn, .bool (writeP p b).la, .int .u8 (writeP p b).sh]) ∧ Below w.heap.size w w' := by
 obtain ⟨dn, la, sh⟩ := p
 obtain ⟨hb0, hb1⟩ := hb
 unfold writeP
 by_cases h : b % 2 = 1
 ·have e1 : (bits .and .u8 b 1 == 1) = true := by
   rw [u8_and b 1 hb0 kO kO kO, show (1 : Int).toNat = 1 from rfl, nat_mask1, beq_iff_eq]; omega
  simp only [if_pos h]
  clear h
  go_enter Tryz.func106, Tryz.ntmps106
  go_wp2
  refine bodyPost_ret (v := .agg #[.int .u8 dn, .bool true, .int .u8 dn]) (by simp [results, Tryz.results106, go_sem]) rfl ⟨rfl, ?_⟩
  exact kL
 ·have e1 : (bits .and .u8 b 1 == 1) = false := by
   rw [u8_and b 1 hb0 kO kO kO, show (1 : Int).toNat = 1 from rfl, nat_mask1, beq_eq_false_iff_ne]; omega
  simp only [if_neg h]
  clear h
  go_enter Tryz.func106, Tryz.ntmps106
  go_wp2
  refine bodyPost_ret (v := .agg #[.int .u8 dn, .bool false, .int .u8 sh]) (by simp [results, Tryz.results106, go_sem]) rfl ⟨rfl, ?_⟩
  exact kL
theorem padread_any (p : Pd) (hp : p.Ok) (w : World) :
  Calls Tryz.prog 104 #[.agg #[.int .u8 p.dn, .bool p.la, .int .u8 p.sh]] w fun e w' => e = .returned (.tuple #[.int .u8 (bitP p), .agg #[.int .u8 (readP p).dn, .bool (readP p).la, .int .u8 (readP p).sh]]) ∧ Below w.heap.size w w' := by
 obtain ⟨dn, la, sh⟩ := p
 obtain ⟨⟨d0, d1⟩, ⟨s0, s1⟩⟩ := hp
 simp only at d0 d1 s0 s1
 unfold bitP readP
 cases la
 ·simp only [Bool.false_eq_true, if_false]
  have e1 : IntKind.u8.wrap (sh * 2) = sh * 2 % 256 := wrap8 _
  have e2 : bits .or .u8 (sh * 2 % 256) 1 = sh * 2 % 256 + 1 := or1 _ kO kO kO
  go_enter Tryz.func104, Tryz.ntmps104
  go_wp2
  go_region
  go_wp2
  refine bodyPost_ret (v := .tuple #[.int .u8 (sh / 128), .agg #[.int .u8 dn, .bool false, .int .u8 (sh * 2 % 256 + 1)]]) (by simp [results, Tryz.results104, go_sem]) rfl ⟨rfl, ?_⟩
  exact kL
 ·simp only [if_true]
  go_enter Tryz.func104, Tryz.ntmps104
  go_wp2
  go_region
  go_wp2
  refine bodyPost_ret (v := .tuple #[.int .u8 (dn / 128), .agg #[.int .u8 dn, .bool true, .int .u8 sh]]) (by simp [results, Tryz.results104, go_sem]) rfl ⟨rfl, ?_⟩
  exact kL
end Go.Proofs.YtmppkjkmocecmaaGreatDoor
/- What the program's timer, and the document's, compute. Conditions: the timer's words are words. -/
namespace Go.Proofs.YtmppkjkmocecmaaGreatDoor
open Go.RowKit Go.Mq
theorem tmtick_any (t : Tim) (ht : t.Ok) (w : World) :
  Calls Tryz.prog 29 #[.agg #[.int .u16 t.rl, .int .u16 t.ct, .bool t.on, .bool t.rg]] w fun e w' => e = .returned (.agg #[.int .u16 (tickTm t).rl, .int .u16 (tickTm t).ct, .bool (tickTm t).on, .bool (tickTm t).rg]) ∧ Below w.heap.size w w' := by
 obtain ⟨⟨hr0, hr1⟩, ⟨hc0, hc1⟩⟩ := id ht
 obtain ⟨rl, ct, on, rg⟩ := t
 simp only at hr0 hr1 hc0 hc1
 clear ht
 unfold tickTm
 cases on
 ·simp only [Bool.false_eq_true, if_false]
  go_enter Tryz.func29, Tryz.ntmps29
  go_wp2
  refine bodyPost_ret (v := .agg #[.int .u16 rl, .int .u16 ct, .bool false, .bool rg]) (by simp [results, Tryz.results29, go_sem]) rfl ⟨rfl, ?_⟩
  exact kL
 ·by_cases h : ct = 0
  ·subst h
   simp only [if_true]
   go_enter Tryz.func29, Tryz.ntmps29
   go_wp2
   refine bodyPost_ret (v := .agg #[.int .u16 rl, .int .u16 rl, .bool true, .bool true]) (by simp [results, Tryz.results29, go_sem]) rfl ⟨rfl, ?_⟩
   exact kL
  ·simp only [if_true, if_neg h]
   go_enter Tryz.func29, Tryz.ntmps29
   go_wp2
   refine bodyPost_ret (v := .agg #[.int .u16 rl, .int .u16 (ct - 1), .bool true, .bool rg]) (by simp [results, Tryz.results29, go_sem]) rfl ⟨rfl, ?_⟩
   exact kL
theorem tmset_any (t : Tim) (ht : t.Ok) (b : Bool) (w : World) :
  Calls Tryz.prog 108 #[.agg #[.int .u16 t.rl, .int .u16 t.ct, .bool t.on, .bool t.rg], .bool b] w fun e w' => e = .returned (.agg #[.int .u16 (setTm t b).rl, .int .u16 (setTm t b).ct, .bool (setTm t b).on, .bool (setTm t b).rg]) ∧ Below w.heap.size w w' := by
 obtain ⟨⟨hr0, hr1⟩, ⟨hc0, hc1⟩⟩ := id ht
 obtain ⟨rl, ct, on, rg⟩ := t
 simp only at hr0 hr1 hc0 hc1
 clear ht
 unfold setTm
 cases b
 ·simp only [Bool.false_eq_true, if_false]
  go_enter Tryz.func108, Tryz.ntmps108
  go_wp2
  refine bodyPost_ret (v := .agg #[.int .u16 rl, .int .u16 ct, .bool false, .bool rg]) (by simp [results, Tryz.results108, go_sem]) rfl ⟨rfl, ?_⟩
  exact kL
 ·simp only [if_true]
  go_enter Tryz.func108, Tryz.ntmps108
  go_wp2
  refine bodyPost_ret (v := .agg #[.int .u16 rl, .int .u16 rl, .bool true, .bool rg]) (by simp [results, Tryz.results108, go_sem]) rfl ⟨rfl, ?_⟩
  exact kL
end Go.Proofs.YtmppkjkmocecmaaGreatDoor
/- What the program's beam, and the document's, compute. Conditions: the fields are ints. -/
namespace Go.Proofs.YtmppkjkmocecmaaGreatDoor
open Go.RowKit Go.Mq
theorem bcheck_ok (b : Bm) (hb : b.Ok) (w : World) :
  Calls Tryz.prog 33 #[.agg #[.int .i64 b.ln, .int .i64 b.pt, .bool b.rg, .int .i64 b.fr]] w fun e w' => e = .returned (.int .i64 0) ∧ Below w.heap.size w w' := by
 obtain ⟨ln, pt, rg, fr⟩ := b
 obtain ⟨⟨h1, h2, h3, h4⟩, h5, h6⟩ := hb
 simp only at h1 h2 h3 h4 h5 h6
 go_enter Tryz.func33, Tryz.ntmps33
 go_wp2
 go_ret
 exact ⟨rfl, kL⟩
/-- which test says no first -/
def BadAt (ln pt fr : Int) (k : Nat) : Prop :=
 match k with
 | 0 => ln < 0
 | 1 => 0 ≤ ln ∧ 10 ≤ ln
 | 2 => 0 ≤ ln ∧ ln < 10 ∧ pt < 0
 | 3 => 0 ≤ ln ∧ ln < 10 ∧ 0 ≤ pt ∧ 64 ≤ pt
 | 4 => 0 ≤ ln ∧ ln < 10 ∧ 0 ≤ pt ∧ pt < 64 ∧ fr < 0
 | _ => 0 ≤ ln ∧ ln < 10 ∧ 0 ≤ pt ∧ pt < 64 ∧ 0 ≤ fr ∧ 20000 < fr
theorem badAt_of (b : Bm) (h : ¬ b.Ok) : ∃ k, k < 6 ∧ BadAt b.ln b.pt b.fr k := by
 unfold Bm.Ok Bm.In at h
 by_cases h0 : b.ln < 0
 ·exact ⟨0, by omega, h0⟩
 by_cases h1 : 10 ≤ b.ln
 ·exact ⟨1, by omega, by omega, h1⟩
 by_cases h2 : b.pt < 0
 ·exact ⟨2, by omega, by omega, by omega, h2⟩
 by_cases h3 : 64 ≤ b.pt
 ·exact ⟨3, by omega, by omega, by omega, by omega, h3⟩
 by_cases h4 : b.fr < 0
 ·exact ⟨4, by omega, by omega, by omega, by omega, by omega, h4⟩
 ·exact ⟨5, by omega, by omega, by omega, by omega, by omega, by omega, by omega⟩
theorem bcheck_bad (b : Bm) (hb : ¬ b.Ok) (w : World) :
  Calls Tryz.prog 33 #[.agg #[.int .i64 b.ln, .int .i64 b.pt, .bool b.rg, .int .i64 b.fr]] w fun e w' => e = .returned (.int .i64 3) ∧ Below w.heap.size w w' := by
 obtain ⟨k, hk, h⟩ := badAt_of b hb
 obtain ⟨ln, pt, rg, fr⟩ := b
 clear hb
 simp only at h
 rcases (by omega : k = 0 ∨ k = 1 ∨ k = 2 ∨ k = 3 ∨ k = 4 ∨ k = 5) with rfl | rfl | rfl | rfl | rfl | rfl
 ·have g0 : ln < 0 := h
  clear h
  go_enter Tryz.func33, Tryz.ntmps33
  go_wp2
  go_ret
  exact ⟨rfl, kL⟩
 ·obtain ⟨g0, g1⟩ := h
  go_enter Tryz.func33, Tryz.ntmps33
  go_wp2
  go_ret
  exact ⟨rfl, kL⟩
 ·obtain ⟨g0, g1, g2⟩ := h
  go_enter Tryz.func33, Tryz.ntmps33
  go_wp2
  go_ret
  exact ⟨rfl, kL⟩
 ·obtain ⟨g0, g1, g2, g3⟩ := h
  go_enter Tryz.func33, Tryz.ntmps33
  go_wp2
  go_ret
  exact ⟨rfl, kL⟩
 ·obtain ⟨g0, g1, g2, g3, g4⟩ := h
  go_enter Tryz.func33, Tryz.ntmps33
  go_wp2
  go_ret
  exact ⟨rfl, kL⟩
 ·obtain ⟨g0, g1, g2, g3, g4, g5⟩ := h
  go_enter Tryz.func33, Tryz.ntmps33
  go_wp2
  go_ret
  exact ⟨rfl, kL⟩
theorem place_any (b : Bm) (hb : b.Ok) (w : World) :
  Calls Tryz.prog 34 #[.agg #[.int .i64 b.ln, .int .i64 b.pt, .bool b.rg, .int .i64 b.fr]] w fun e w' => e = .returned (.int .i64 (b.ln * 64 + b.pt)) ∧ Below w.heap.size w w' := by
 obtain ⟨ln, pt, rg, fr⟩ := b
 obtain ⟨⟨h1, h2, h3, h4⟩, h5, h6⟩ := hb
 simp only at h1 h2 h3 h4 h5 h6
 go_enter Tryz.func34, Tryz.ntmps34
 go_wp2
 go_ret
 exact ⟨rfl, kL⟩
theorem until_any (p : Int) (h0 : 0 ≤ p) (h1 : p ≤ 639) (w : World) :
  Calls Tryz.prog 36 #[.int .i64 p, .int .i64 512] w fun e w' => e = .returned (.int .i64 (untilB p)) ∧ w = w' := by
 have ht : (512 - p).tmod 640 = 512 - p := by
  rcases (by omega : 0 ≤ 512 - p ∨ 512 - p < 0) with h | h
  ·rw [Int.tmod_eq_emod_of_nonneg h]; omega
  ·rw [show 512 - p = -(p - 512) from by omega, Int.neg_tmod, Int.tmod_eq_emod_of_nonneg kO]; omega
 by_cases h : p < 512
 ·have e1 : untilB p = 512 - p := by unfold untilB; rw [if_pos h]
  rw [e1]
  clear e1
  go_enter Tryz.func36, Tryz.ntmps36
  go_wp2
  go_ret
  exact ⟨rfl, rfl⟩
 ·have e1 : untilB p = 512 - p + 640 := by unfold untilB; rw [if_neg h]; omega
  rw [e1]
  clear e1
  go_enter Tryz.func36, Tryz.ntmps36
  go_wp2
  go_ret
  exact ⟨rfl, rfl⟩
theorem over_any (n p : Int) (h0 : 0 ≤ p) (h1 : p ≤ 639) (pn pp : Addr) (w : World) (cn : w.cell? pn = some (.int .i64 n)) (cp : w.cell? pp = some (.int .i64 p)) :
  Calls Tryz.prog 35 #[.int .i64 512, .pointer (some pn), .pointer (some pp)] w fun e w' => e = .returned (.bool (decide (untilB p ≤ n))) ∧ Drew w w' := by
 go_enter Tryz.func35, Tryz.ntmps35
 go_wp2
 go_quiet ((go_at_call 36; exact quiet_sym (until_any p h0 h1 _)))
 go_wp2
 go_ret
 exact ⟨rfl, (Drew.refl _).drewN _⟩
theorem beamrun_bad (b : Bm) (n : Int) (hb : ¬ b.Ok) (w : World) :
  Calls Tryz.prog 13 #[.agg #[.int .i64 b.ln, .int .i64 b.pt, .bool b.rg, .int .i64 b.fr], .int .i64 n] w fun e w' => e = .returned (.tuple #[.agg #[.int .i64 0, .int .i64 0, .bool false, .int .i64 0], .int .i64 3]) ∧ Below w.heap.size w w' := by
 have hc := bcheck_bad b hb
 obtain ⟨ln, pt, rg, fr⟩ := b
 simp only at hc
 have HC := Lib.hid hc
 clear hc hb
 go_enter Tryz.func13, Tryz.ntmps13
 go_wp2_with fail
 refine (HC.out _).mono ?_
 rintro e w1 ⟨rfl, hb1⟩
 have Kw1_0 : Hid (Blk w1 (w.heap.size) #[.int .i64 ln, .int .i64 pt, .bool rg, .int .i64 fr] 38) := Lib.hid kB
 have Kw1_1 : Hid (Blk w1 (w.heap.size + 1) #[.int .i64 n] 3) := Lib.hid kB
 have Kw1_2 : Hid (Blk w1 (w.heap.size + 1 + 1) #[.int .i64 0, .int .i64 0, .bool false, .int .i64 0] 38) := Lib.hid kB
 obtain ⟨lw1_0, cw1_0, fw1_0⟩ := Kw1_0.out.use
 obtain ⟨lw1_1, cw1_1, fw1_1⟩ := Kw1_1.out.use
 obtain ⟨lw1_2, cw1_2, fw1_2⟩ := Kw1_2.out.use
 go_wp2
 refine bodyPost_ret (v := .tuple #[.agg #[.int .i64 0, .int .i64 0, .bool false, .int .i64 0], .int .i64 3]) (by simp [results, Tryz.results13, go_sem, cw1_2, fw1_2, lw1_2]) rfl ⟨rfl, ?_⟩
 exact kL
theorem beamrun_oktrue (b : Bm) (n : Int) (hb : b.Ok) (n0 : 0 ≤ n) (n1 : n ≤ 20000) (hu : untilB (b.ln * 64 + b.pt) ≤ n) (w : World) :
  Calls Tryz.prog 13 #[.agg #[.int .i64 b.ln, .int .i64 b.pt, .bool b.rg, .int .i64 b.fr], .int .i64 n] w fun e w' => e = .returned (.tuple #[.agg #[.int .i64 (runBm b n).ln, .int .i64 (runBm b n).pt, .bool (runBm b n).rg, .int .i64 (runBm b n).fr], .int .i64 0]) ∧ Below w.heap.size w w' := by
 have hc := bcheck_ok b hb
 have hpl := place_any b hb
 obtain ⟨⟨h1, h2, h3, h4⟩, h5, h6⟩ := hb
 obtain ⟨ln, pt, rg, fr⟩ := b
 simp only at h1 h2 h3 h4 h5 h6 hc hpl
 unfold runBm
 simp only
 have hov := fun pn pp w => over_any n (ln * 64 + pt) kO kO pn pp w
 simp only at hu
 generalize hp : ln * 64 + pt = p at *
 have p0 : 0 ≤ p := by omega
 have p1 : p ≤ 639 := by omega
 have HC := Lib.hid hc
 have HP := Lib.hid hpl
 clear hc hpl hp
 have e1 : decide (untilB p ≤ n) = true := decide_eq_true hu
 rw [e1] at hov
 rw [if_pos hu]
 have HO := Lib.hid hov
 clear hov e1 hu
 go_enter Tryz.func13, Tryz.ntmps13
 go_wp2_with fail
 refine (HC.out _).mono ?_
 rintro e w1 ⟨rfl, hb1⟩
 have Kw1_0 : Hid (Blk w1 (w.heap.size) #[.int .i64 ln, .int .i64 pt, .bool rg, .int .i64 fr] 38) := Lib.hid kB
 have Kw1_1 : Hid (Blk w1 (w.heap.size + 1) #[.int .i64 n] 3) := Lib.hid kB
 have Kw1_2 : Hid (Blk w1 (w.heap.size + 1 + 1) #[.int .i64 0, .int .i64 0, .bool false, .int .i64 0] 38) := Lib.hid kB
 obtain ⟨lw1_0, cw1_0, fw1_0⟩ := Kw1_0.out.use
 obtain ⟨lw1_1, cw1_1, fw1_1⟩ := Kw1_1.out.use
 obtain ⟨lw1_2, cw1_2, fw1_2⟩ := Kw1_2.out.use
 go_wp2_with fail
 refine (HP.out _).mono ?_
 rintro e w2 ⟨rfl, hb2⟩
 have Kw2_0 : Hid (Blk w2 (w.heap.size) #[.int .i64 ln, .int .i64 pt, .bool rg, .int .i64 fr] 38) := Lib.hid kB
 have Kw2_1 : Hid (Blk w2 (w.heap.size + 1) #[.int .i64 n] 3) := Lib.hid kB
 have Kw2_2 : Hid (Blk w2 (w.heap.size + 1 + 1) #[.int .i64 0, .int .i64 0, .bool false, .int .i64 0] 38) := Lib.hid kB
 clear Kw1_0 cw1_0 fw1_0 Kw1_1 cw1_1 fw1_1 Kw1_2 cw1_2 fw1_2
 obtain ⟨lw2_0, cw2_0, fw2_0⟩ := Kw2_0.out.use
 obtain ⟨lw2_1, cw2_1, fw2_1⟩ := Kw2_1.out.use
 obtain ⟨lw2_2, cw2_2, fw2_2⟩ := Kw2_2.out.use
 go_wp2_with fail
 refine (HO.out _ _ _ (by go_simp) (by go_simp)).mono ?_
 rintro e w3 ⟨rfl, hd⟩
 obtain ⟨d, rfl⟩ := hd
 go_wp2
 refine wp_mark (R := fun W => Below w.heap.size w W ∧ Hid (Blk W (w.heap.size) (#[.int .i64 ln, .int .i64 pt, .bool true, .int .i64 (fr + (p + n) / 640)]) 38) ∧ Hid (Blk W (w2.heap.size) (#[.int .i64 ((p + n) % 640)]) 3) ∧ Hid (Blk W (w.heap.size + 1 + 1) (#[.int .i64 0, .int .i64 0, .bool false, .int .i64 0]) 38)) ⟨kL, Lib.hid kB, Lib.hid kB, Lib.hid kB⟩ ?_
 rintro w4 ⟨hbw4, Kw4_0, Kw4_1, Kw4_2⟩
 clear Kw2_0 cw2_0 fw2_0 Kw2_1 cw2_1 fw2_1 Kw2_2 cw2_2 fw2_2
 obtain ⟨lw4_0, cw4_0, fw4_0⟩ := Kw4_0.out.use
 obtain ⟨lw4_1, cw4_1, fw4_1⟩ := Kw4_1.out.use
 obtain ⟨lw4_2, cw4_2, fw4_2⟩ := Kw4_2.out.use
 generalize hx : (p + n) % 640 = x at *
 have x0 : 0 ≤ x := by omega
 have x1 : x ≤ 639 := by omega
 have HX := Lib.hid hx
 clear hx
 go_region
 go_wp2
 refine bodyPost_ret (v := .tuple #[.agg #[.int .i64 (x / 64), .int .i64 (x % 64), .bool true, .int .i64 (fr + (p + n) / 640)], .int .i64 0]) (by simp [results, Tryz.results13, go_sem, cw4_0, cw4_2, fw4_2, lw4_2]) rfl ?_
 refine ⟨?_, ?_⟩
 ·rw [HX.out]
 ·exact kL
theorem beamrun_okrg (b : Bm) (n : Int) (hb : b.Ok) (n0 : 0 ≤ n) (n1 : n ≤ 20000) (hu : ¬ untilB (b.ln * 64 + b.pt) ≤ n) (w : World) :
  Calls Tryz.prog 13 #[.agg #[.int .i64 b.ln, .int .i64 b.pt, .bool b.rg, .int .i64 b.fr], .int .i64 n] w fun e w' => e = .returned (.tuple #[.agg #[.int .i64 (runBm b n).ln, .int .i64 (runBm b n).pt, .bool (runBm b n).rg, .int .i64 (runBm b n).fr], .int .i64 0]) ∧ Below w.heap.size w w' := by
 have hc := bcheck_ok b hb
 have hpl := place_any b hb
 obtain ⟨⟨h1, h2, h3, h4⟩, h5, h6⟩ := hb
 obtain ⟨ln, pt, rg, fr⟩ := b
 simp only at h1 h2 h3 h4 h5 h6 hc hpl
 unfold runBm
 simp only
 have hov := fun pn pp w => over_any n (ln * 64 + pt) kO kO pn pp w
 simp only at hu
 generalize hp : ln * 64 + pt = p at *
 have p0 : 0 ≤ p := by omega
 have p1 : p ≤ 639 := by omega
 have HC := Lib.hid hc
 have HP := Lib.hid hpl
 clear hc hpl hp
 have e1 : decide (untilB p ≤ n) = false := decide_eq_false hu
 rw [e1] at hov
 rw [if_neg hu]
 have HO := Lib.hid hov
 clear hov e1 hu
 go_enter Tryz.func13, Tryz.ntmps13
 go_wp2_with fail
 refine (HC.out _).mono ?_
 rintro e w1 ⟨rfl, hb1⟩
 have Kw1_0 : Hid (Blk w1 (w.heap.size) #[.int .i64 ln, .int .i64 pt, .bool rg, .int .i64 fr] 38) := Lib.hid kB
 have Kw1_1 : Hid (Blk w1 (w.heap.size + 1) #[.int .i64 n] 3) := Lib.hid kB
 have Kw1_2 : Hid (Blk w1 (w.heap.size + 1 + 1) #[.int .i64 0, .int .i64 0, .bool false, .int .i64 0] 38) := Lib.hid kB
 obtain ⟨lw1_0, cw1_0, fw1_0⟩ := Kw1_0.out.use
 obtain ⟨lw1_1, cw1_1, fw1_1⟩ := Kw1_1.out.use
 obtain ⟨lw1_2, cw1_2, fw1_2⟩ := Kw1_2.out.use
 go_wp2_with fail
 refine (HP.out _).mono ?_
 rintro e w2 ⟨rfl, hb2⟩
 have Kw2_0 : Hid (Blk w2 (w.heap.size) #[.int .i64 ln, .int .i64 pt, .bool rg, .int .i64 fr] 38) := Lib.hid kB
 have Kw2_1 : Hid (Blk w2 (w.heap.size + 1) #[.int .i64 n] 3) := Lib.hid kB
 have Kw2_2 : Hid (Blk w2 (w.heap.size + 1 + 1) #[.int .i64 0, .int .i64 0, .bool false, .int .i64 0] 38) := Lib.hid kB
 clear Kw1_0 cw1_0 fw1_0 Kw1_1 cw1_1 fw1_1 Kw1_2 cw1_2 fw1_2
 obtain ⟨lw2_0, cw2_0, fw2_0⟩ := Kw2_0.out.use
 obtain ⟨lw2_1, cw2_1, fw2_1⟩ := Kw2_1.out.use
 obtain ⟨lw2_2, cw2_2, fw2_2⟩ := Kw2_2.out.use
 go_wp2_with fail
 refine (HO.out _ _ _ (by go_simp) (by go_simp)).mono ?_
 rintro e w3 ⟨rfl, hd⟩
 obtain ⟨d, rfl⟩ := hd
 go_wp2
 refine wp_mark (R := fun W => Below w.heap.size w W ∧ Hid (Blk W (w.heap.size) (#[.int .i64 ln, .int .i64 pt, .bool rg, .int .i64 (fr + (p + n) / 640)]) 38) ∧ Hid (Blk W (w2.heap.size) (#[.int .i64 ((p + n) % 640)]) 3) ∧ Hid (Blk W (w.heap.size + 1 + 1) (#[.int .i64 0, .int .i64 0, .bool false, .int .i64 0]) 38)) ⟨kL, Lib.hid kB, Lib.hid kB, Lib.hid kB⟩ ?_
 rintro w4 ⟨hbw4, Kw4_0, Kw4_1, Kw4_2⟩
 clear Kw2_0 cw2_0 fw2_0 Kw2_1 cw2_1 fw2_1 Kw2_2 cw2_2 fw2_2
 obtain ⟨lw4_0, cw4_0, fw4_0⟩ := Kw4_0.out.use
 obtain ⟨lw4_1, cw4_1, fw4_1⟩ := Kw4_1.out.use
 obtain ⟨lw4_2, cw4_2, fw4_2⟩ := Kw4_2.out.use
 generalize hx : (p + n) % 640 = x at *
 have x0 : 0 ≤ x := by omega
 have x1 : x ≤ 639 := by omega
 have HX := Lib.hid hx
 clear hx
 go_region
 go_wp2
 refine bodyPost_ret (v := .tuple #[.agg #[.int .i64 (x / 64), .int .i64 (x % 64), .bool rg, .int .i64 (fr + (p + n) / 640)], .int .i64 0]) (by simp [results, Tryz.results13, go_sem, cw4_0, cw4_2, fw4_2, lw4_2]) rfl ?_
 refine ⟨?_, ?_⟩
 ·rw [HX.out]
 ·exact kL
theorem beamrun_ok (b : Bm) (n : Int) (hb : b.Ok) (n0 : 0 ≤ n) (n1 : n ≤ 20000) (w : World) :
  Calls Tryz.prog 13 #[.agg #[.int .i64 b.ln, .int .i64 b.pt, .bool b.rg, .int .i64 b.fr], .int .i64 n] w fun e w' => e = .returned (.tuple #[.agg #[.int .i64 (runBm b n).ln, .int .i64 (runBm b n).pt, .bool (runBm b n).rg, .int .i64 (runBm b n).fr], .int .i64 0]) ∧ Below w.heap.size w w' := by
 by_cases hu : untilB (b.ln * 64 + b.pt) ≤ n
 ·exact beamrun_oktrue b n hb n0 n1 hu w
 ·exact beamrun_okrg b n hb n0 n1 hu w
def sndC (s : Sd) : Array Value := #[.int .u16 s.a.pd, .int .u16 s.a.ct, .int .u8 s.a.ld, .bool s.a.hi, .int .u16 s.a.nz, .int .u16 s.b.pd, .int .u16 s.b.ct, .int .u8 s.b.ld, .bool s.b.hi, .int .u16 s.b.nz, .int .u16 s.c.pd, .int .u16 s.c.ct, .int .u8 s.c.ld, .bool s.c.hi, .int .u16 s.c.nz, .int .i64 s.wt]
def vcS (s : Sd) : Nat → Vc
 | 0 => s.a
 | 1 => s.b
 | _ => s.c
theorem vcS_ok {s : Sd} (h : s.In) : ∀ v, (vcS s v).Ok
 | 0 => h.1
 | 1 => h.2.1
 | _ + 2 => h.2.2
theorem v3 {p : Nat → Prop} (h0 : p 0) (h1 : p 1) (h2 : p 2) : ∀ v, v < 3 → p v
 | 0, _ => h0
 | 1, _ => h1
 | 2, _ => h2
 | v + 3, h => absurd h kO
theorem snd_at (s : Sd) : ∀ v, v < 3 → (sndC s)[v * 5]? = some (.int .u16 (vcS s v).pd) ∧ (sndC s)[v * 5 + 2]? = some (.int .u8 (vcS s v).ld) ∧ (sndC s)[v * 5 + 4]? = some (.int .u16 (vcS s v).nz) := v3 ⟨rfl, rfl, rfl⟩ ⟨rfl, rfl, rfl⟩ ⟨rfl, rfl, rfl⟩
theorem snd_put (s : Sd) (b : Int) : ∀ v, v < 3 → (sndC s).setIfInBounds (v * 5) (.int .u16 ((vcS s v).pd % 256 + b * 256)) = sndC (putS s (8 * v) b) ∧ (sndC s).setIfInBounds (v * 5) (.int .u16 ((vcS s v).pd / 256 * 256 + b)) = sndC (putS s (8 * v + 1) b) ∧
  (sndC s).setIfInBounds (v * 5 + 2) (.int .u8 (b % 16)) = sndC (putS s (8 * v + 2) b) ∧ (sndC s).setIfInBounds (v * 5 + 4) (.int .u16 ((vcS s v).nz % 256 + b * 256)) = sndC (putS s (8 * v + 3) b) ∧ (sndC s).setIfInBounds (v * 5 + 4) (.int .u16 ((vcS s v).nz / 256 * 256 + b)) = sndC (putS s (8 * v + 4) b) ∧
  sndC s = sndC (putS s (8 * v + 5) b) ∧ sndC s = sndC (putS s (8 * v + 6) b) ∧ sndC s = sndC (putS s (8 * v + 7) b) :=
 v3 ⟨rfl, rfl, rfl, rfl, rfl, rfl, rfl, rfl⟩ ⟨rfl, rfl, rfl, rfl, rfl, rfl, rfl, rfl⟩ ⟨rfl, rfl, rfl, rfl, rfl, rfl, rfl, rfl⟩
theorem putg (s : Sd) (hs : s.In) (b : Int) (hb : U8 b) (v : Nat) (hv : v < 3) (k : Int) (r : Int) (hk : k = 8 * v + r) (hr : r = 0 ∨ r = 1 ∨ r = 2 ∨ r = 3 ∨ r = 4 ∨ r = 5 ∨ r = 6 ∨ r = 7) (w : World) :
  Calls Tryz.prog 110 #[.agg (sndC s), .int .i64 k, .int .u8 b] w fun e w' => e = .returned (.tuple #[.agg (sndC (putS s k b)), .int .i64 0]) ∧ Below w.heap.size w w' := by
 have hva : (vcS s v).Ok := vcS_ok hs v
 have SZ : ∀ s, (sndC s).size = 16 := fun s => rfl
 have S1 : ∀ s, (sndC s).all (·.oneCell') = true := fun s => by simp [sndC, Value.oneCell']
 obtain ⟨a0, a2, a4⟩ := snd_at s v hv
 obtain ⟨p0, p1, p2, p3, p4, p5, p6, p7⟩ := snd_put s b v hv
 have k0 : ¬ k < 0 := by omega
 have k1 : ¬ 24 ≤ k := by omega
 have k2 : k.tdiv 8 = (v : Int) := by rw [Int.tdiv_eq_ediv_of_nonneg kO]; omega
 have k3 : k.tmod 8 = r := by rw [Int.tmod_eq_emod_of_nonneg kO]; omega
 have v0 : (0 : Int) ≤ v := by omega
 have v1 : (v : Int) < 3 := by omega
 have EQ : Hid ((r = 0 → (sndC s).setIfInBounds (v * 5) (.int .u16 ((vcS s v).pd % 256 + b * 256)) = sndC (putS s k b)) ∧ (r = 1 → (sndC s).setIfInBounds (v * 5) (.int .u16 ((vcS s v).pd / 256 * 256 + b)) = sndC (putS s k b)) ∧ (r = 2 → (sndC s).setIfInBounds (v * 5 + 2) (.int .u8 (b % 16)) = sndC (putS s k b)) ∧
  (r = 3 → (sndC s).setIfInBounds (v * 5 + 4) (.int .u16 ((vcS s v).nz % 256 + b * 256)) = sndC (putS s k b)) ∧ (r = 4 → (sndC s).setIfInBounds (v * 5 + 4) (.int .u16 ((vcS s v).nz / 256 * 256 + b)) = sndC (putS s k b)) ∧ (5 ≤ r → sndC s = sndC (putS s k b))) := Lib.hid (by
  refine ⟨fun h => ?_, fun h => ?_, fun h => ?_, fun h => ?_, fun h => ?_, fun h => ?_⟩
  ·rw [hk, h, Int.add_zero]; exact p0
  ·rw [hk, h]; exact p1
  ·rw [hk, h]; exact p2
  ·rw [hk, h]; exact p3
  ·rw [hk, h]; exact p4
  ·rcases (by omega : r = 5 ∨ r = 6 ∨ r = 7) with h | h | h
   ·rw [hk, h]; exact p5
   ·rw [hk, h]; exact p6
   ·rw [hk, h]; exact p7)
 have HH := Lib.hid (And.intro hva hb)
 have HV := Lib.hid (And.intro a0 (And.intro a2 a4))
 have SZk := Lib.hid (SZ (putS s k b))
 have S1k := Lib.hid (S1 (putS s k b))
 obtain ⟨C, hC⟩ : ∃ C, C = sndC s := ⟨_, rfl⟩
 obtain ⟨D, hD⟩ : ∃ D, D = sndC (putS s k b) := ⟨_, rfl⟩
 rw [← hC, ← hD] at EQ
 rw [← hC] at HV ⊢
 rw [← hD] at SZk S1k ⊢
 obtain ⟨V, hV⟩ : ∃ V : Int, V = v := ⟨_, rfl⟩
 have hVn : v = V.toNat := by omega
 rw [← hV] at k2 v0 v1
 obtain ⟨c, hc⟩ : ∃ c, c = vcS s v := ⟨_, rfl⟩
 rw [← hc] at HH EQ HV
 rw [hVn] at EQ HV
 clear p0 p1 p2 p3 p4 p5 p6 p7 hC hD hc SZ S1 a0 a2 a4 hva hs hb hk hv hV hVn
 rcases hr with rfl | rfl | rfl | rfl | rfl | rfl | rfl | rfl
 ·go_enter Tryz.func110, Tryz.ntmps110
  go_wp2_with (first | ((with_reducible show wpList _ _ _ _ _ _); refine wpList_storeW rfl 226 (.tmp 9) (.tmp 27) rfl (w.heap.size + 1 + 1 + 1 + 1) #[.func (.func 134) #[] #[.pointer (some ⟨w.heap.size + 1 + 1 + 1, 0, none⟩), .pointer (some ⟨w.heap.size + 1, 0, none⟩)], .func (.func 135) #[] #[.pointer (some ⟨w.heap.size + 1 + 1 + 1, 0, none⟩), .pointer (some ⟨w.heap.size + 1, 0, none⟩)], .func (.func 136) #[] #[.pointer (some ⟨w.heap.size + 1, 0, none⟩), .pointer (some ⟨w.heap.size + 1 + 1 + 1, 0, none⟩)], .func (.func 137) #[] #[.pointer (some ⟨w.heap.size + 1 + 1 + 1, 0, none⟩), .pointer (some ⟨w.heap.size + 1, 0, none⟩)], .func (.func 138) #[] #[.pointer (some ⟨w.heap.size + 1 + 1 + 1, 0, none⟩), .pointer (some ⟨w.heap.size + 1, 0, none⟩)]] rfl rfl 226 _ (show Blk _ (w.heap.size + 1 + 1 + 1 + 1) #[.nilFunc, .nilFunc, .nilFunc, .nilFunc, .nilFunc] 226 from kB) kR rfl (by simp [Value.oneCell']) ?_; intro w3 hp3 K3; obtain ⟨B0, B1, B2, B3⟩ := five hp3; obtain ⟨l3_0, c3_0, f3_0⟩ := B0.use; obtain ⟨l3_1, c3_1, f3_1⟩ := B1.use; obtain ⟨l3_2, c3_2, f3_2⟩ := B2.use; obtain ⟨l3_3, c3_3, f3_3⟩ := B3.use; obtain ⟨l3_4, c3_4, f3_4⟩ := K3.out.use; replace B0 := Lib.hid B0; replace B1 := Lib.hid B1; replace B2 := Lib.hid B2; replace B3 := Lib.hid B3) | fail)
  have c0 := (B0.out.cell (V.toNat * 5)).trans (HV.out.1)
  have f0 := B0.out.free (V.toNat * 5)
  go_wp2_with fail
  refine Calls.mono (put1_any ⟨w.heap.size + 1 + 1 + 1, 0, none⟩ ⟨w.heap.size + 1, 0, none⟩ w.heap.size (V.toNat * 5) _ b HH.out.1.1 HH.out.2 _ (B3.out.cell 0) (B1.out.cell 0) c0 f0) ?_
  rintro e w1 ⟨rfl, rfl⟩
  go_upto_region 8 with (fail)
  refine wp_mark (R := fun W => Below w.heap.size w W ∧ Hid (Blk W w.heap.size D 36) ∧ Hid (Blk W (w.heap.size + 1 + 1) #[.int .u16 0, .int .u16 0, .int .u8 0, .bool false, .int .u16 0, .int .u16 0, .int .u16 0, .int .u8 0, .bool false, .int .u16 0, .int .u16 0, .int .u16 0, .int .u8 0, .bool false, .int .u16 0, .int .i64 0] 36)) ⟨kL, Lib.hid (Blk.set (Blk.drew B0.out) (EQ.out.1 (by first | rfl | trivial))), Lib.hid (Blk.setAt (Blk.drew B2.out) (by show w.heap.size + 1 + 1 ≠ w.heap.size; omega))⟩ ?_
  clear B0 B1 B2 B3 K3 hp3 c0 f0 EQ HV HH
  intro w5 ⟨B5, KD, KZ⟩
  go_wp2_with (first | ((with_reducible show wpList _ _ _ _ _ _); first | (refine lW 36 3 rfl rfl (w.heap.size) rfl D KD.out Tryz.underlying36 ?_ (hi := by rw [SZk.out]; kernel_rfl)) | (refine sW 36 6 36 rfl rfl (w.heap.size + 1 + 1) D rfl rfl #[.int .u16 0, .int .u16 0, .int .u8 0, .bool false, .int .u16 0, .int .u16 0, .int .u16 0, .int .u8 0, .bool false, .int .u16 0, .int .u16 0, .int .u16 0, .int .u8 0, .bool false, .int .u16 0, .int .i64 0] KZ.out ?_ (hi := by rw [SZk.out]; kernel_rfl) (hold := by rw [SZk.out]; rfl) (h1 := S1k.out); intro w6 hp6 K6)) | fail)
  exact bodyPost_ret (results_ct Tryz.results110 _ _ (w.heap.size + 1 + 1) 36 D _ rfl K6.out Tryz.underlying36 rfl (by rw [SZk.out]; kernel_rfl)) rfl ⟨rfl, below_put B5 hp6 kO⟩
 ·go_enter Tryz.func110, Tryz.ntmps110
  go_wp2_with (first | ((with_reducible show wpList _ _ _ _ _ _); refine wpList_storeW rfl 226 (.tmp 9) (.tmp 27) rfl (w.heap.size + 1 + 1 + 1 + 1) #[.func (.func 134) #[] #[.pointer (some ⟨w.heap.size + 1 + 1 + 1, 0, none⟩), .pointer (some ⟨w.heap.size + 1, 0, none⟩)], .func (.func 135) #[] #[.pointer (some ⟨w.heap.size + 1 + 1 + 1, 0, none⟩), .pointer (some ⟨w.heap.size + 1, 0, none⟩)], .func (.func 136) #[] #[.pointer (some ⟨w.heap.size + 1, 0, none⟩), .pointer (some ⟨w.heap.size + 1 + 1 + 1, 0, none⟩)], .func (.func 137) #[] #[.pointer (some ⟨w.heap.size + 1 + 1 + 1, 0, none⟩), .pointer (some ⟨w.heap.size + 1, 0, none⟩)], .func (.func 138) #[] #[.pointer (some ⟨w.heap.size + 1 + 1 + 1, 0, none⟩), .pointer (some ⟨w.heap.size + 1, 0, none⟩)]] rfl rfl 226 _ (show Blk _ (w.heap.size + 1 + 1 + 1 + 1) #[.nilFunc, .nilFunc, .nilFunc, .nilFunc, .nilFunc] 226 from kB) kR rfl (by simp [Value.oneCell']) ?_; intro w3 hp3 K3; obtain ⟨B0, B1, B2, B3⟩ := five hp3; obtain ⟨l3_0, c3_0, f3_0⟩ := B0.use; obtain ⟨l3_1, c3_1, f3_1⟩ := B1.use; obtain ⟨l3_2, c3_2, f3_2⟩ := B2.use; obtain ⟨l3_3, c3_3, f3_3⟩ := B3.use; obtain ⟨l3_4, c3_4, f3_4⟩ := K3.out.use; replace B0 := Lib.hid B0; replace B1 := Lib.hid B1; replace B2 := Lib.hid B2; replace B3 := Lib.hid B3) | fail)
  have c0 := (B0.out.cell (V.toNat * 5)).trans (HV.out.1)
  have f0 := B0.out.free (V.toNat * 5)
  go_wp2_with fail
  refine Calls.mono (put2_any ⟨w.heap.size + 1 + 1 + 1, 0, none⟩ ⟨w.heap.size + 1, 0, none⟩ w.heap.size (V.toNat * 5) _ b HH.out.1.1 HH.out.2 _ (B3.out.cell 0) (B1.out.cell 0) c0 f0) ?_
  rintro e w1 ⟨rfl, rfl⟩
  go_upto_region 8 with (fail)
  refine wp_mark (R := fun W => Below w.heap.size w W ∧ Hid (Blk W w.heap.size D 36) ∧ Hid (Blk W (w.heap.size + 1 + 1) #[.int .u16 0, .int .u16 0, .int .u8 0, .bool false, .int .u16 0, .int .u16 0, .int .u16 0, .int .u8 0, .bool false, .int .u16 0, .int .u16 0, .int .u16 0, .int .u8 0, .bool false, .int .u16 0, .int .i64 0] 36)) ⟨kL, Lib.hid (Blk.set (Blk.drew B0.out) (EQ.out.2.1 (by first | rfl | trivial))), Lib.hid (Blk.setAt (Blk.drew B2.out) (by show w.heap.size + 1 + 1 ≠ w.heap.size; omega))⟩ ?_
  clear B0 B1 B2 B3 K3 hp3 c0 f0 EQ HV HH
  intro w5 ⟨B5, KD, KZ⟩
  go_wp2_with (first | ((with_reducible show wpList _ _ _ _ _ _); first | (refine lW 36 3 rfl rfl (w.heap.size) rfl D KD.out Tryz.underlying36 ?_ (hi := by rw [SZk.out]; kernel_rfl)) | (refine sW 36 6 36 rfl rfl (w.heap.size + 1 + 1) D rfl rfl #[.int .u16 0, .int .u16 0, .int .u8 0, .bool false, .int .u16 0, .int .u16 0, .int .u16 0, .int .u8 0, .bool false, .int .u16 0, .int .u16 0, .int .u16 0, .int .u8 0, .bool false, .int .u16 0, .int .i64 0] KZ.out ?_ (hi := by rw [SZk.out]; kernel_rfl) (hold := by rw [SZk.out]; rfl) (h1 := S1k.out); intro w6 hp6 K6)) | fail)
  exact bodyPost_ret (results_ct Tryz.results110 _ _ (w.heap.size + 1 + 1) 36 D _ rfl K6.out Tryz.underlying36 rfl (by rw [SZk.out]; kernel_rfl)) rfl ⟨rfl, below_put B5 hp6 kO⟩
 ·go_enter Tryz.func110, Tryz.ntmps110
  go_wp2_with (first | ((with_reducible show wpList _ _ _ _ _ _); refine wpList_storeW rfl 226 (.tmp 9) (.tmp 27) rfl (w.heap.size + 1 + 1 + 1 + 1) #[.func (.func 134) #[] #[.pointer (some ⟨w.heap.size + 1 + 1 + 1, 0, none⟩), .pointer (some ⟨w.heap.size + 1, 0, none⟩)], .func (.func 135) #[] #[.pointer (some ⟨w.heap.size + 1 + 1 + 1, 0, none⟩), .pointer (some ⟨w.heap.size + 1, 0, none⟩)], .func (.func 136) #[] #[.pointer (some ⟨w.heap.size + 1, 0, none⟩), .pointer (some ⟨w.heap.size + 1 + 1 + 1, 0, none⟩)], .func (.func 137) #[] #[.pointer (some ⟨w.heap.size + 1 + 1 + 1, 0, none⟩), .pointer (some ⟨w.heap.size + 1, 0, none⟩)], .func (.func 138) #[] #[.pointer (some ⟨w.heap.size + 1 + 1 + 1, 0, none⟩), .pointer (some ⟨w.heap.size + 1, 0, none⟩)]] rfl rfl 226 _ (show Blk _ (w.heap.size + 1 + 1 + 1 + 1) #[.nilFunc, .nilFunc, .nilFunc, .nilFunc, .nilFunc] 226 from kB) kR rfl (by simp [Value.oneCell']) ?_; intro w3 hp3 K3; obtain ⟨B0, B1, B2, B3⟩ := five hp3; obtain ⟨l3_0, c3_0, f3_0⟩ := B0.use; obtain ⟨l3_1, c3_1, f3_1⟩ := B1.use; obtain ⟨l3_2, c3_2, f3_2⟩ := B2.use; obtain ⟨l3_3, c3_3, f3_3⟩ := B3.use; obtain ⟨l3_4, c3_4, f3_4⟩ := K3.out.use; replace B0 := Lib.hid B0; replace B1 := Lib.hid B1; replace B2 := Lib.hid B2; replace B3 := Lib.hid B3) | fail)
  have c0 := (B0.out.cell (V.toNat * 5 + 2)).trans (HV.out.2.1)
  have f0 := B0.out.free (V.toNat * 5 + 2)
  go_wp2_with fail
  refine Calls.mono (put3_any ⟨w.heap.size + 1 + 1 + 1, 0, none⟩ ⟨w.heap.size + 1, 0, none⟩ w.heap.size (V.toNat * 5) _ b HH.out.2 _ (B3.out.cell 0) (B1.out.cell 0) c0 f0) ?_
  rintro e w1 ⟨rfl, rfl⟩
  go_upto_region 8 with (fail)
  refine wp_mark (R := fun W => Below w.heap.size w W ∧ Hid (Blk W w.heap.size D 36) ∧ Hid (Blk W (w.heap.size + 1 + 1) #[.int .u16 0, .int .u16 0, .int .u8 0, .bool false, .int .u16 0, .int .u16 0, .int .u16 0, .int .u8 0, .bool false, .int .u16 0, .int .u16 0, .int .u16 0, .int .u8 0, .bool false, .int .u16 0, .int .i64 0] 36)) ⟨kL, Lib.hid (Blk.set B0.out (EQ.out.2.2.1 (by first | rfl | trivial))), Lib.hid (Blk.setAt B2.out (by show w.heap.size + 1 + 1 ≠ w.heap.size; omega))⟩ ?_
  clear B0 B1 B2 B3 K3 hp3 c0 f0 EQ HV HH
  intro w5 ⟨B5, KD, KZ⟩
  go_wp2_with (first | ((with_reducible show wpList _ _ _ _ _ _); first | (refine lW 36 3 rfl rfl (w.heap.size) rfl D KD.out Tryz.underlying36 ?_ (hi := by rw [SZk.out]; kernel_rfl)) | (refine sW 36 6 36 rfl rfl (w.heap.size + 1 + 1) D rfl rfl #[.int .u16 0, .int .u16 0, .int .u8 0, .bool false, .int .u16 0, .int .u16 0, .int .u16 0, .int .u8 0, .bool false, .int .u16 0, .int .u16 0, .int .u16 0, .int .u8 0, .bool false, .int .u16 0, .int .i64 0] KZ.out ?_ (hi := by rw [SZk.out]; kernel_rfl) (hold := by rw [SZk.out]; rfl) (h1 := S1k.out); intro w6 hp6 K6)) | fail)
  exact bodyPost_ret (results_ct Tryz.results110 _ _ (w.heap.size + 1 + 1) 36 D _ rfl K6.out Tryz.underlying36 rfl (by rw [SZk.out]; kernel_rfl)) rfl ⟨rfl, below_put B5 hp6 kO⟩
 ·go_enter Tryz.func110, Tryz.ntmps110
  go_wp2_with (first | ((with_reducible show wpList _ _ _ _ _ _); refine wpList_storeW rfl 226 (.tmp 9) (.tmp 27) rfl (w.heap.size + 1 + 1 + 1 + 1) #[.func (.func 134) #[] #[.pointer (some ⟨w.heap.size + 1 + 1 + 1, 0, none⟩), .pointer (some ⟨w.heap.size + 1, 0, none⟩)], .func (.func 135) #[] #[.pointer (some ⟨w.heap.size + 1 + 1 + 1, 0, none⟩), .pointer (some ⟨w.heap.size + 1, 0, none⟩)], .func (.func 136) #[] #[.pointer (some ⟨w.heap.size + 1, 0, none⟩), .pointer (some ⟨w.heap.size + 1 + 1 + 1, 0, none⟩)], .func (.func 137) #[] #[.pointer (some ⟨w.heap.size + 1 + 1 + 1, 0, none⟩), .pointer (some ⟨w.heap.size + 1, 0, none⟩)], .func (.func 138) #[] #[.pointer (some ⟨w.heap.size + 1 + 1 + 1, 0, none⟩), .pointer (some ⟨w.heap.size + 1, 0, none⟩)]] rfl rfl 226 _ (show Blk _ (w.heap.size + 1 + 1 + 1 + 1) #[.nilFunc, .nilFunc, .nilFunc, .nilFunc, .nilFunc] 226 from kB) kR rfl (by simp [Value.oneCell']) ?_; intro w3 hp3 K3; obtain ⟨B0, B1, B2, B3⟩ := five hp3; obtain ⟨l3_0, c3_0, f3_0⟩ := B0.use; obtain ⟨l3_1, c3_1, f3_1⟩ := B1.use; obtain ⟨l3_2, c3_2, f3_2⟩ := B2.use; obtain ⟨l3_3, c3_3, f3_3⟩ := B3.use; obtain ⟨l3_4, c3_4, f3_4⟩ := K3.out.use; replace B0 := Lib.hid B0; replace B1 := Lib.hid B1; replace B2 := Lib.hid B2; replace B3 := Lib.hid B3) | fail)
  have c0 := (B0.out.cell (V.toNat * 5 + 4)).trans (HV.out.2.2)
  have f0 := B0.out.free (V.toNat * 5 + 4)
  go_wp2_with fail
  refine Calls.mono (put4_any ⟨w.heap.size + 1 + 1 + 1, 0, none⟩ ⟨w.heap.size + 1, 0, none⟩ w.heap.size (V.toNat * 5) _ b HH.out.1.2.2.2 HH.out.2 _ (B3.out.cell 0) (B1.out.cell 0) c0 f0) ?_
  rintro e w1 ⟨rfl, rfl⟩
  go_upto_region 8 with (fail)
  refine wp_mark (R := fun W => Below w.heap.size w W ∧ Hid (Blk W w.heap.size D 36) ∧ Hid (Blk W (w.heap.size + 1 + 1) #[.int .u16 0, .int .u16 0, .int .u8 0, .bool false, .int .u16 0, .int .u16 0, .int .u16 0, .int .u8 0, .bool false, .int .u16 0, .int .u16 0, .int .u16 0, .int .u8 0, .bool false, .int .u16 0, .int .i64 0] 36)) ⟨kL, Lib.hid (Blk.set (Blk.drew B0.out) (EQ.out.2.2.2.1 (by first | rfl | trivial))), Lib.hid (Blk.setAt (Blk.drew B2.out) (by show w.heap.size + 1 + 1 ≠ w.heap.size; omega))⟩ ?_
  clear B0 B1 B2 B3 K3 hp3 c0 f0 EQ HV HH
  intro w5 ⟨B5, KD, KZ⟩
  go_wp2_with (first | ((with_reducible show wpList _ _ _ _ _ _); first | (refine lW 36 3 rfl rfl (w.heap.size) rfl D KD.out Tryz.underlying36 ?_ (hi := by rw [SZk.out]; kernel_rfl)) | (refine sW 36 6 36 rfl rfl (w.heap.size + 1 + 1) D rfl rfl #[.int .u16 0, .int .u16 0, .int .u8 0, .bool false, .int .u16 0, .int .u16 0, .int .u16 0, .int .u8 0, .bool false, .int .u16 0, .int .u16 0, .int .u16 0, .int .u8 0, .bool false, .int .u16 0, .int .i64 0] KZ.out ?_ (hi := by rw [SZk.out]; kernel_rfl) (hold := by rw [SZk.out]; rfl) (h1 := S1k.out); intro w6 hp6 K6)) | fail)
  exact bodyPost_ret (results_ct Tryz.results110 _ _ (w.heap.size + 1 + 1) 36 D _ rfl K6.out Tryz.underlying36 rfl (by rw [SZk.out]; kernel_rfl)) rfl ⟨rfl, below_put B5 hp6 kO⟩
 ·go_enter Tryz.func110, Tryz.ntmps110
  go_wp2_with (first | ((with_reducible show wpList _ _ _ _ _ _); refine wpList_storeW rfl 226 (.tmp 9) (.tmp 27) rfl (w.heap.size + 1 + 1 + 1 + 1) #[.func (.func 134) #[] #[.pointer (some ⟨w.heap.size + 1 + 1 + 1, 0, none⟩), .pointer (some ⟨w.heap.size + 1, 0, none⟩)], .func (.func 135) #[] #[.pointer (some ⟨w.heap.size + 1 + 1 + 1, 0, none⟩), .pointer (some ⟨w.heap.size + 1, 0, none⟩)], .func (.func 136) #[] #[.pointer (some ⟨w.heap.size + 1, 0, none⟩), .pointer (some ⟨w.heap.size + 1 + 1 + 1, 0, none⟩)], .func (.func 137) #[] #[.pointer (some ⟨w.heap.size + 1 + 1 + 1, 0, none⟩), .pointer (some ⟨w.heap.size + 1, 0, none⟩)], .func (.func 138) #[] #[.pointer (some ⟨w.heap.size + 1 + 1 + 1, 0, none⟩), .pointer (some ⟨w.heap.size + 1, 0, none⟩)]] rfl rfl 226 _ (show Blk _ (w.heap.size + 1 + 1 + 1 + 1) #[.nilFunc, .nilFunc, .nilFunc, .nilFunc, .nilFunc] 226 from kB) kR rfl (by simp [Value.oneCell']) ?_; intro w3 hp3 K3; obtain ⟨B0, B1, B2, B3⟩ := five hp3; obtain ⟨l3_0, c3_0, f3_0⟩ := B0.use; obtain ⟨l3_1, c3_1, f3_1⟩ := B1.use; obtain ⟨l3_2, c3_2, f3_2⟩ := B2.use; obtain ⟨l3_3, c3_3, f3_3⟩ := B3.use; obtain ⟨l3_4, c3_4, f3_4⟩ := K3.out.use; replace B0 := Lib.hid B0; replace B1 := Lib.hid B1; replace B2 := Lib.hid B2; replace B3 := Lib.hid B3) | fail)
  have c0 := (B0.out.cell (V.toNat * 5 + 4)).trans (HV.out.2.2)
  have f0 := B0.out.free (V.toNat * 5 + 4)
  go_wp2_with fail
  refine Calls.mono (put5_any ⟨w.heap.size + 1 + 1 + 1, 0, none⟩ ⟨w.heap.size + 1, 0, none⟩ w.heap.size (V.toNat * 5) _ b HH.out.1.2.2.2 HH.out.2 _ (B3.out.cell 0) (B1.out.cell 0) c0 f0) ?_
  rintro e w1 ⟨rfl, rfl⟩
  go_upto_region 8 with (fail)
  refine wp_mark (R := fun W => Below w.heap.size w W ∧ Hid (Blk W w.heap.size D 36) ∧ Hid (Blk W (w.heap.size + 1 + 1) #[.int .u16 0, .int .u16 0, .int .u8 0, .bool false, .int .u16 0, .int .u16 0, .int .u16 0, .int .u8 0, .bool false, .int .u16 0, .int .u16 0, .int .u16 0, .int .u8 0, .bool false, .int .u16 0, .int .i64 0] 36)) ⟨kL, Lib.hid (Blk.set (Blk.drew B0.out) (EQ.out.2.2.2.2.1 (by first | rfl | trivial))), Lib.hid (Blk.setAt (Blk.drew B2.out) (by show w.heap.size + 1 + 1 ≠ w.heap.size; omega))⟩ ?_
  clear B0 B1 B2 B3 K3 hp3 c0 f0 EQ HV HH
  intro w5 ⟨B5, KD, KZ⟩
  go_wp2_with (first | ((with_reducible show wpList _ _ _ _ _ _); first | (refine lW 36 3 rfl rfl (w.heap.size) rfl D KD.out Tryz.underlying36 ?_ (hi := by rw [SZk.out]; kernel_rfl)) | (refine sW 36 6 36 rfl rfl (w.heap.size + 1 + 1) D rfl rfl #[.int .u16 0, .int .u16 0, .int .u8 0, .bool false, .int .u16 0, .int .u16 0, .int .u16 0, .int .u8 0, .bool false, .int .u16 0, .int .u16 0, .int .u16 0, .int .u8 0, .bool false, .int .u16 0, .int .i64 0] KZ.out ?_ (hi := by rw [SZk.out]; kernel_rfl) (hold := by rw [SZk.out]; rfl) (h1 := S1k.out); intro w6 hp6 K6)) | fail)
  exact bodyPost_ret (results_ct Tryz.results110 _ _ (w.heap.size + 1 + 1) 36 D _ rfl K6.out Tryz.underlying36 rfl (by rw [SZk.out]; kernel_rfl)) rfl ⟨rfl, below_put B5 hp6 kO⟩
 all_goals
  have ED := EQ.out.2.2.2.2.2 kD
  clear EQ HV HH
  subst ED
  go_enter Tryz.func110, Tryz.ntmps110
  go_wp2_with (first | ((with_reducible show wpList _ _ _ _ _ _); first | (refine wpList_storeW rfl 226 (.tmp 9) (.tmp 27) rfl (w.heap.size + 1 + 1 + 1 + 1) #[.func (.func 134) #[] #[.pointer (some ⟨w.heap.size + 1 + 1 + 1, 0, none⟩), .pointer (some ⟨w.heap.size + 1, 0, none⟩)], .func (.func 135) #[] #[.pointer (some ⟨w.heap.size + 1 + 1 + 1, 0, none⟩), .pointer (some ⟨w.heap.size + 1, 0, none⟩)], .func (.func 136) #[] #[.pointer (some ⟨w.heap.size + 1, 0, none⟩), .pointer (some ⟨w.heap.size + 1 + 1 + 1, 0, none⟩)], .func (.func 137) #[] #[.pointer (some ⟨w.heap.size + 1 + 1 + 1, 0, none⟩), .pointer (some ⟨w.heap.size + 1, 0, none⟩)], .func (.func 138) #[] #[.pointer (some ⟨w.heap.size + 1 + 1 + 1, 0, none⟩), .pointer (some ⟨w.heap.size + 1, 0, none⟩)]] rfl rfl 226 _ (show Blk _ (w.heap.size + 1 + 1 + 1 + 1) #[.nilFunc, .nilFunc, .nilFunc, .nilFunc, .nilFunc] 226 from kB) kR rfl (by simp [Value.oneCell']) ?_; intro w3 hp3 K3; obtain ⟨B0, B1, B2, B3⟩ := five hp3; obtain ⟨l3_0, c3_0, f3_0⟩ := B0.use; obtain ⟨l3_1, c3_1, f3_1⟩ := B1.use; obtain ⟨l3_2, c3_2, f3_2⟩ := B2.use; obtain ⟨l3_3, c3_3, f3_3⟩ := B3.use; obtain ⟨l3_4, c3_4, f3_4⟩ := K3.out.use; replace B0 := Lib.hid B0; replace B1 := Lib.hid B1; replace B2 := Lib.hid B2; replace B3 := Lib.hid B3) | (first | (refine lW 36 3 rfl rfl (w.heap.size) rfl C B0.out Tryz.underlying36 ?_ (hi := by rw [SZk.out]; kernel_rfl)) | (refine sW 36 6 36 rfl rfl (w.heap.size + 1 + 1) C rfl rfl #[.int .u16 0, .int .u16 0, .int .u8 0, .bool false, .int .u16 0, .int .u16 0, .int .u16 0, .int .u8 0, .bool false, .int .u16 0, .int .u16 0, .int .u16 0, .int .u8 0, .bool false, .int .u16 0, .int .i64 0] B2.out ?_ (hi := by rw [SZk.out]; kernel_rfl) (hold := by rw [SZk.out]; rfl) (h1 := S1k.out); intro w6 hp6 K6))) | fail)
  exact bodyPost_ret (results_ct Tryz.results110 _ _ (w.heap.size + 1 + 1) 36 C _ rfl K6.out Tryz.underlying36 rfl (by rw [SZk.out]; kernel_rfl)) rfl ⟨rfl, below_put (below_put kL hp3 kO) hp6 kO⟩
theorem putAll_any (s : Sd) (hs : s.In) (k b : Int) (h0 : 0 ≤ k) (h1 : k < 24) (hb : U8 b) (w : World) :
  Calls Tryz.prog 110 #[.agg #[.int .u16 s.a.pd, .int .u16 s.a.ct, .int .u8 s.a.ld, .bool s.a.hi, .int .u16 s.a.nz, .int .u16 s.b.pd, .int .u16 s.b.ct, .int .u8 s.b.ld, .bool s.b.hi, .int .u16 s.b.nz, .int .u16 s.c.pd, .int .u16 s.c.ct, .int .u8 s.c.ld, .bool s.c.hi, .int .u16 s.c.nz, .int .i64 s.wt], .int .i64 k, .int .u8 b] w fun e w' => e = .returned (.tuple #[.agg #[.int .u16 ((putS s k b).a).pd, .int .u16 ((putS s k b).a).ct, .int .u8 ((putS s k b).a).ld, .bool ((putS s k b).a).hi, .int .u16 ((putS s k b).a).nz, .int .u16 ((putS s k b).b).pd, .int .u16 ((putS s k b).b).ct, .int .u8 ((putS s k b).b).ld, .bool ((putS s k b).b).hi, .int .u16 ((putS s k b).b).nz, .int .u16 ((putS s k b).c).pd, .int .u16 ((putS s k b).c).ct, .int .u8 ((putS s k b).c).ld, .bool ((putS s k b).c).hi, .int .u16 ((putS s k b).c).nz, .int .i64 (putS s k b).wt], .int .i64 0]) ∧ Below w.heap.size w w' := by
 exact putg s hs b hb (k / 8).toNat kO k (k % 8) kO kO w
end Go.Proofs.YtmppkjkmocecmaaGreatDoor
