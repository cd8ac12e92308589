/- The law LockHeld answers true for every input. Conditions: the machine's memories lie in memory; the library's variables hold what they were laid with. -/
import Derived.Test.YtmppkjkmocecmaaGreatDoorSq
import Derived.Test.YtmppkjkmocecmaaGreatDoorSh
import Derived.Test.YtmppkjkmocecmaaGreatDoorP34
import Derived.Test.YtmppkjkmocecmaaGreatDoorP43
namespace Go.Proofs.YtmppkjkmocecmaaGreatDoor.lockHeld
open Go.RowKit Go.Mq
set_option linter.unusedVariables false
set_option linter.unusedSimpArgs false
set_option maxHeartbeats 4000000
set_option maxRecDepth 100000
def heldM (m : Mach) : Mach := { m with hd := true, mc := { m.mc with wt := true, may := false } }
theorem heldM_in {m : Mach} (h : m.In) : (heldM m).In := ⟨h.mc, h.ac, h.mem, h.p0, h.p1, h.tm, h.sd, h.wt, h.ln, h.pt, h.fr, h.fm, h.to, h.m0, h.m1, h.ck, h.mr, h.ar⟩
theorem held_cells (V : Nat → Value) (m : Mach) (w : World) : Blk (w.alloc (.cells ((((machC V m).setIfInBounds 68 (.bool true)).setIfInBounds 14 (.bool true)).setIfInBounds 13 (.bool false)) 41)) w.heap.size (machC V (heldM m)) 41 := by
 have e : (((machC V m).setIfInBounds 68 (.bool true)).setIfInBounds 14 (.bool true)).setIfInBounds 13 (.bool false) = machC V (heldM m) := by
  rw [ms68, ms14, ms13]
  rfl
 rw [e]
 exact Blk.new _ _ _
/-- a machine that stands, but for what runs by itself -/
def mkY (y h : Mach) : Mach := { y with mc := h.mc, ac := h.ac, mem := h.mem, p0 := h.p0, p1 := h.p1, m0 := h.m0, m1 := h.m1, ar := h.ar }
theorem stands_eq {h : Mach} {c : Cn} (s : Stands h c) : c.x.m = mkY c.x.m h := by
 obtain ⟨-, -, -, h1, h2, h3, h4, h5, h6, h7, h8⟩ := s
 unfold mkY
 rw [← h1, ← h2, ← h3, ← h4, ← h5, ← h6, ← h7, ← h8]
theorem bad (V : Nat → Value) (m : Mach) (n : Int) (w : World) (hm : MV w V m) (hi : m.In) (hn : I64 n) (hL : Lk w) (h : errL (heldM m) [] n ≠ 0) : Calls Tryz.prog 3 #[.agg (machC V m), .int .i64 n] w fun e w' => e = .returned (.bool true) ∧ Below w.heap.size w w' := by
 have LB := Lib.hid (fun W (k : Below w.heap.size w W) => lock_bad V (heldM m) (.slice none 0 0) [] n W (hm.below k) (nil_inps W) h)
 obtain ⟨c, ec⟩ : ∃ c, c = errL (heldM m) [] n := ⟨_, rfl⟩
 rw [← ec] at LB h
 have hcb : (c != 0) = true := by rw [bne_iff_ne]; exact h
 have ON := Lib.hid (machC_one (heldM m) (fun i hi => hm.one i hi))
 have ON0 := Lib.hid (machC_one m (fun i hi => hm.one i hi))
 have ONZ := zeroM_one
 have HL := Lib.hid hL
 clear hm hi hL h ec
 go_enter Tryz.func3, Tryz.ntmps3
 go_upto_region 2 with (fail)
 refine wp_mark (R := fun W => Below w.heap.size w W ∧ Hid (Blk W w.heap.size (machC V (heldM m)) 41)) ⟨kL, Lib.hid (held_cells V m w)⟩ ?_
 intro w1 ⟨B1, K1⟩
 have l1 := K1.out.lt
 go_wp2_with (first | ((with_reducible show wpList _ _ _ _ _ _); refine lW 41 2 rfl rfl (w.heap.size) rfl (machC V (heldM m)) kB Tryz.underlying41 ?_))
 refine (LB.out _ B1).mono ?_
 rintro e w2 ⟨rfl, hb2⟩
 have B2 := below_then B1 hb2
 have s2 := B2.size
 clear hb2 B1
 go_wp2_with (first | ((with_reducible show wpList _ _ _ _ _ _); first | (refine sW 41 5 17 rfl rfl (w2.heap.size) Tryz.zeroCells41 rfl rfl Tryz.zeroCells41 kB ?_; intro w3 hp_w3 K_w3) | (refine sW 45 6 18 rfl rfl (w2.heap.size + 1) #[.slice none 0 0, .slice none 0 0, .slice none 0 0] rfl rfl #[.slice none 0 0, .slice none 0 0, .slice none 0 0] kB ?_; intro w4 hp_w4 K_w4)))
 have B4 : Below w.heap.size w w4 := kL
 clear hp_w3 hp_w4 K_w3 K_w4 B2 s2
 refine (locked_any _ (HL.out.below B4)).mono ?_
 rintro e w5 ⟨rfl, hb5⟩
 have B5 := below_then B4 hb5
 clear hb5 B4
 go_wp2_with fail
 refine (locked_any _ (HL.out.below B5)).mono ?_
 rintro e w6 ⟨rfl, hb6⟩
 go_wp2
 go_ret
 exact ⟨rfl, kL⟩
theorem good (V : Nat → Value) (m : Mach) (n : Nat) (w : World) (hm : MV w V m) (hi : m.In) (hL : Lk w) (hr : (heldM m).Right) (hn : n ≤ 20000) (hk : m.ck + n ≤ 200000) :
  Calls Tryz.prog 3 #[.agg (machC V m), .int .i64 n] w fun e w' => e = .returned (.bool true) ∧ Below w.heap.size w w' := by
 have ST := stands_run (heldM m) rfl rfl rfl n
 have RN := Lib.hid (fun W (k : Below w.heap.size w W) => lock_ok V (heldM m) (.slice none 0 0) [] n W (hm.below k) (heldM_in hi) hr (nil_inps W) rfl hn hk)
 have eF : lkN (cn0 (heldM m) []) n = lkN ⟨⟨heldM m, [], 0⟩, [], [], []⟩ n := rfl
 rw [eF] at RN
 obtain ⟨F, hF⟩ : ∃ F, F = lkN ⟨⟨heldM m, [], 0⟩, [], [], []⟩ n := ⟨_, rfl⟩
 rw [← hF] at RN ST
 clear eF hF
 have hws := ST.ws
 have eY := stands_eq ST
 rw [hws, eY] at RN
 obtain ⟨Y, hY⟩ : ∃ Y, Y = F.x.m := ⟨_, rfl⟩
 rw [← hY] at RN
 clear hY eY ST hws
 have ON := Lib.hid (machC_one (heldM m) (fun i hi => hm.one i hi))
 have ON0 := Lib.hid (machC_one m (fun i hi => hm.one i hi))
 have ONZ := zeroM_one
 have LG := Lib.hid (fun W => long_any V (heldM m) n W ON.out)
 have efr : (heldM m).bm.fr = m.bm.fr := rfl
 rw [efr] at LG
 have HL := Lib.hid hL
 have HM := Lib.hid (show MV w V (heldM m) from hm)
 clear hm hi hL hr hn hk efr
 go_enter Tryz.func3, Tryz.ntmps3
 go_upto_region 2 with (fail)
 refine wp_mark (R := fun W => Below w.heap.size w W ∧ Hid (Blk W w.heap.size (machC V (heldM m)) 41)) ⟨kL, Lib.hid (held_cells V m w)⟩ ?_
 intro w1 ⟨B1, K1⟩
 have l1 := K1.out.lt
 go_wp2_with (first | ((with_reducible show wpList _ _ _ _ _ _); refine lW 41 2 rfl rfl (w.heap.size) rfl (machC V (heldM m)) kB Tryz.underlying41 ?_))
 refine (RN.out _ B1).mono ?_
 rintro e w2 ⟨U, lv, sv, wv, rfl, TD⟩
 have hb2 := TD.told.below
 have B2 := below_then B1 hb2
 have s2 := B2.size
 have ON2 := run_one TD
 have OS2 := shown_one TD
 have MV2 := Lib.hid TD.told.mv
 have K2 := Lib.hid (K1.out.below hb2)
 obtain ⟨a3, c3, e3⟩ := own_shape TD.wrs
 subst e3
 clear hb2 B1 TD RN K1
 go_wp2_with (first | ((with_reducible show wpList _ _ _ _ _ _); first | (refine sW 41 5 17 rfl rfl (w2.heap.size) (machC U (mkY Y (heldM m))) rfl rfl Tryz.zeroCells41 kB ?_; intro w3 hp_w3 K_w3) | (refine sW 45 6 18 rfl rfl (w2.heap.size + 1) (#[lv, sv, .slice a3 ([] : List Wr).length c3]) rfl rfl #[.slice none 0 0, .slice none 0 0, .slice none 0 0] kB ?_; intro w4 hp_w4 K_w4)))
 have b24 : Below w2.heap.size w2 w4 := kL
 have B4 : Below w.heap.size w w4 := kL
 have KX4 := Lib.hid (K_w3.out.put hp_w4 (Nat.ne_of_lt (Nat.lt_succ_self _)))
 have KS4 := Lib.hid K_w4.out
 have KM4 := Lib.hid (K2.out.below b24)
 have MV4 := Lib.hid (MV2.out.below b24)
 clear hp_w3 hp_w4 K_w3 K_w4 B2 s2 b24 K2 MV2
 refine (locked_any _ (HL.out.below B4)).mono ?_
 rintro e w5 ⟨rfl, hb5⟩
 have B5 := below_then B4 hb5
 have KX5 := Lib.hid (KX4.out.below hb5)
 have KS5 := Lib.hid (KS4.out.below hb5)
 have KM5 := Lib.hid (KM4.out.below hb5)
 have MV5 := Lib.hid (MV4.out.below hb5)
 clear hb5 B4 KX4 KS4 KM4 MV4
 go_wp2_with (first | ((with_reducible show wpList _ _ _ _ _ _); refine lG 41 2 (by rfl) rfl (w.heap.size) (0) 75 rfl 41 (machC V (heldM m)) (machC V (heldM m)) kB Tryz.underlying41 ?_))
 refine (LG.out _).mono ?_
 rintro e w6 ⟨rfl, hb6⟩
 have B6 := below_then B5 hb6
 have KX6 := Lib.hid (KX5.out.below hb6)
 have KS6 := Lib.hid (KS5.out.below hb6)
 have KM6 := Lib.hid (KM5.out.below hb6)
 have MV6 := Lib.hid (MV5.out.below hb6)
 clear hb6 B5 KX5 KS5 KM5 MV5
 by_cases hl : 19000 < m.bm.fr
 ·go_wp2_with (first | ((with_reducible show wpList _ _ _ _ _ _); refine lG 41 2 (by rfl) rfl (w.heap.size) (0) 75 rfl 41 (machC V (heldM m)) (machC V (heldM m)) kB Tryz.underlying41 ?_))
  refine (locked_any _ (HL.out.below B6)).mono ?_
  rintro e w7 ⟨rfl, hb7⟩
  go_wp2_with (first | ((with_reducible show wpList _ _ _ _ _ _); refine lG 41 2 (by rfl) rfl (w.heap.size) (0) 75 rfl 41 (machC V (heldM m)) (machC V (heldM m)) kB Tryz.underlying41 ?_) | go_in)
  go_ret
  exact ⟨rfl, kL⟩
 ·have xl := KX6.out.lt
  have ml := KM6.out.lt
  have x32 := (KX6.out.cell 32).trans (mx32 U _)
  have x33 := (KX6.out.cell 33).trans (mx33 U _)
  have x34 := (KX6.out.cell 34).trans (mx34 U _)
  have x74 : w6.cell? ⟨w2.heap.size, 74, none⟩ = some (.int .i64 (heldM m).ar) := (KX6.out.cell 74).trans (mx74 U _)
  have m32 := (KM6.out.cell 32).trans (mx32 V _)
  have m33 := (KM6.out.cell 33).trans (mx33 V _)
  have m34 := (KM6.out.cell 34).trans (mx34 V _)
  have m74 := (KM6.out.cell 74).trans (mx74 V _)
  have s2 : w6.cell? ⟨w2.heap.size + 1, 2, none⟩ = some (.slice a3 0 c3) := KS6.out.cell 2
  have CS1 := cpu_self (heldM m).mc
  have CS2 := cpu_self (heldM m).ac
  have PS := pads_self (heldM m).p0 (heldM m).p1
  have MS := mail_self (heldM m).m0 (heldM m).m1
  have HM6 := Lib.hid (HM.out.below B6)
  have E2 := Lib.hid (bytesEqual_any (U 2) (V 2) ((heldM m).mem 2) ((heldM m).mem 2) w6 (MV6.out 2 kO) (HM6.out 2 kO))
  have E3 := Lib.hid (bytesEqual_any (U 3) (V 3) ((heldM m).mem 3) ((heldM m).mem 3) w6 (MV6.out 3 kO) (HM6.out 3 kO))
  have E4 := Lib.hid (bytesEqual_any (U 4) (V 4) ((heldM m).mem 4) ((heldM m).mem 4) w6 (MV6.out 4 kO) (HM6.out 4 kO))
  rw [decide_eq_true rfl] at E2 E3 E4
  obtain ⟨u2, q2, v2, -⟩ := MV6.out 2 kO
  obtain ⟨u3, q3, v3, -⟩ := MV6.out 3 kO
  obtain ⟨u4, q4, v4, -⟩ := MV6.out 4 kO
  obtain ⟨t2, r2, y2, -⟩ := HM6.out 2 kO
  obtain ⟨t3, r3, y3, -⟩ := HM6.out 3 kO
  obtain ⟨t4, r4, y4, -⟩ := HM6.out 4 kO
  have v2' : U 2 = .slice u2 ((heldM m).mem 2).length q2 := v2
  have v3' : U 3 = .slice u3 ((heldM m).mem 3).length q3 := v3
  have v4' : U 4 = .slice u4 ((heldM m).mem 4).length q4 := v4
  rw [v2'] at x32 E2
  rw [v3'] at x33 E3
  rw [v4'] at x34 E4
  rw [y2] at m32 E2
  rw [y3] at m33 E3
  rw [y4] at m34 E4
  generalize ((heldM m).mem 2).length = n2 at *
  generalize ((heldM m).mem 3).length = n3 at *
  generalize ((heldM m).mem 4).length = n4 at *
  clear v2 v3 v4 v2' v3' v4' y2 y3 y4 HM6 MV6 LG HM KS6
  simp only [List.append_eq, List.cons_append, List.nil_append] at *
  go_wp2_with (first | ((with_reducible show wpList _ _ _ _ _ _); first | (refine lA 25 32 rfl rfl (w2.heap.size) (0) 15 rfl 41 (machC U (mkY Y (heldM m))) (cpuC (heldM m).mc) kB Tryz.underlying25 ?_) | (refine lA 25 34 rfl rfl (w.heap.size) (0) 15 rfl 41 (machC V (heldM m)) (cpuC (heldM m).mc) kB Tryz.underlying25 ?_) | (refine lG 25 38 (by rfl) rfl (w2.heap.size) (15) 15 rfl 41 (machC U (mkY Y (heldM m))) (cpuC (heldM m).ac) kB Tryz.underlying25 ?_) | (refine lG 25 40 (by rfl) rfl (w.heap.size) (15) 15 rfl 41 (machC V (heldM m)) (cpuC (heldM m).ac) kB Tryz.underlying25 ?_) | (refine lG 39 72 (by rfl) rfl (w2.heap.size) (69) 2 rfl 41 (machC U (mkY Y (heldM m))) #[.int .u8 (heldM m).m0, .int .u8 (heldM m).m1] kB Tryz.underlying39 ?_) | (refine lG 39 74 (by rfl) rfl (w.heap.size) (69) 2 rfl 41 (machC V (heldM m)) #[.int .u8 (heldM m).m0, .int .u8 (heldM m).m1] kB Tryz.underlying39 ?_) | (refine lG 29 79 (by rfl) rfl (w2.heap.size) (35) 6 rfl 41 (machC U (mkY Y (heldM m))) #[.int .u8 (heldM m).p0.dn, .bool (heldM m).p0.la, .int .u8 (heldM m).p0.sh, .int .u8 (heldM m).p1.dn, .bool (heldM m).p1.la, .int .u8 (heldM m).p1.sh] kB Tryz.underlying29 ?_) | (refine lG 29 81 (by rfl) rfl (w.heap.size) (35) 6 rfl 41 (machC V (heldM m)) #[.int .u8 (heldM m).p0.dn, .bool (heldM m).p0.la, .int .u8 (heldM m).p0.sh, .int .u8 (heldM m).p1.dn, .bool (heldM m).p1.la, .int .u8 (heldM m).p1.sh] kB Tryz.underlying29 ?_)))
  refine E2.out.mono ?_
  rintro e w7 ⟨rfl, rfl⟩
  go_wp2_with (first | ((with_reducible show wpList _ _ _ _ _ _); first | (refine lA 25 32 rfl rfl (w2.heap.size) (0) 15 rfl 41 (machC U (mkY Y (heldM m))) (cpuC (heldM m).mc) kB Tryz.underlying25 ?_) | (refine lA 25 34 rfl rfl (w.heap.size) (0) 15 rfl 41 (machC V (heldM m)) (cpuC (heldM m).mc) kB Tryz.underlying25 ?_) | (refine lG 25 38 (by rfl) rfl (w2.heap.size) (15) 15 rfl 41 (machC U (mkY Y (heldM m))) (cpuC (heldM m).ac) kB Tryz.underlying25 ?_) | (refine lG 25 40 (by rfl) rfl (w.heap.size) (15) 15 rfl 41 (machC V (heldM m)) (cpuC (heldM m).ac) kB Tryz.underlying25 ?_) | (refine lG 39 72 (by rfl) rfl (w2.heap.size) (69) 2 rfl 41 (machC U (mkY Y (heldM m))) #[.int .u8 (heldM m).m0, .int .u8 (heldM m).m1] kB Tryz.underlying39 ?_) | (refine lG 39 74 (by rfl) rfl (w.heap.size) (69) 2 rfl 41 (machC V (heldM m)) #[.int .u8 (heldM m).m0, .int .u8 (heldM m).m1] kB Tryz.underlying39 ?_) | (refine lG 29 79 (by rfl) rfl (w2.heap.size) (35) 6 rfl 41 (machC U (mkY Y (heldM m))) #[.int .u8 (heldM m).p0.dn, .bool (heldM m).p0.la, .int .u8 (heldM m).p0.sh, .int .u8 (heldM m).p1.dn, .bool (heldM m).p1.la, .int .u8 (heldM m).p1.sh] kB Tryz.underlying29 ?_) | (refine lG 29 81 (by rfl) rfl (w.heap.size) (35) 6 rfl 41 (machC V (heldM m)) #[.int .u8 (heldM m).p0.dn, .bool (heldM m).p0.la, .int .u8 (heldM m).p0.sh, .int .u8 (heldM m).p1.dn, .bool (heldM m).p1.la, .int .u8 (heldM m).p1.sh] kB Tryz.underlying29 ?_)))
  refine E3.out.mono ?_
  rintro e w8 ⟨rfl, rfl⟩
  go_wp2_with (first | ((with_reducible show wpList _ _ _ _ _ _); first | (refine lA 25 32 rfl rfl (w2.heap.size) (0) 15 rfl 41 (machC U (mkY Y (heldM m))) (cpuC (heldM m).mc) kB Tryz.underlying25 ?_) | (refine lA 25 34 rfl rfl (w.heap.size) (0) 15 rfl 41 (machC V (heldM m)) (cpuC (heldM m).mc) kB Tryz.underlying25 ?_) | (refine lG 25 38 (by rfl) rfl (w2.heap.size) (15) 15 rfl 41 (machC U (mkY Y (heldM m))) (cpuC (heldM m).ac) kB Tryz.underlying25 ?_) | (refine lG 25 40 (by rfl) rfl (w.heap.size) (15) 15 rfl 41 (machC V (heldM m)) (cpuC (heldM m).ac) kB Tryz.underlying25 ?_) | (refine lG 39 72 (by rfl) rfl (w2.heap.size) (69) 2 rfl 41 (machC U (mkY Y (heldM m))) #[.int .u8 (heldM m).m0, .int .u8 (heldM m).m1] kB Tryz.underlying39 ?_) | (refine lG 39 74 (by rfl) rfl (w.heap.size) (69) 2 rfl 41 (machC V (heldM m)) #[.int .u8 (heldM m).m0, .int .u8 (heldM m).m1] kB Tryz.underlying39 ?_) | (refine lG 29 79 (by rfl) rfl (w2.heap.size) (35) 6 rfl 41 (machC U (mkY Y (heldM m))) #[.int .u8 (heldM m).p0.dn, .bool (heldM m).p0.la, .int .u8 (heldM m).p0.sh, .int .u8 (heldM m).p1.dn, .bool (heldM m).p1.la, .int .u8 (heldM m).p1.sh] kB Tryz.underlying29 ?_) | (refine lG 29 81 (by rfl) rfl (w.heap.size) (35) 6 rfl 41 (machC V (heldM m)) #[.int .u8 (heldM m).p0.dn, .bool (heldM m).p0.la, .int .u8 (heldM m).p0.sh, .int .u8 (heldM m).p1.dn, .bool (heldM m).p1.la, .int .u8 (heldM m).p1.sh] kB Tryz.underlying29 ?_)))
  refine E4.out.mono ?_
  rintro e w9 ⟨rfl, rfl⟩
  go_wp2_with (first | ((with_reducible show wpList _ _ _ _ _ _); first | (refine lA 25 32 rfl rfl (w2.heap.size) (0) 15 rfl 41 (machC U (mkY Y (heldM m))) (cpuC (heldM m).mc) kB Tryz.underlying25 ?_) | (refine lA 25 34 rfl rfl (w.heap.size) (0) 15 rfl 41 (machC V (heldM m)) (cpuC (heldM m).mc) kB Tryz.underlying25 ?_) | (refine lG 25 38 (by rfl) rfl (w2.heap.size) (15) 15 rfl 41 (machC U (mkY Y (heldM m))) (cpuC (heldM m).ac) kB Tryz.underlying25 ?_) | (refine lG 25 40 (by rfl) rfl (w.heap.size) (15) 15 rfl 41 (machC V (heldM m)) (cpuC (heldM m).ac) kB Tryz.underlying25 ?_) | (refine lG 39 72 (by rfl) rfl (w2.heap.size) (69) 2 rfl 41 (machC U (mkY Y (heldM m))) #[.int .u8 (heldM m).m0, .int .u8 (heldM m).m1] kB Tryz.underlying39 ?_) | (refine lG 39 74 (by rfl) rfl (w.heap.size) (69) 2 rfl 41 (machC V (heldM m)) #[.int .u8 (heldM m).m0, .int .u8 (heldM m).m1] kB Tryz.underlying39 ?_) | (refine lG 29 79 (by rfl) rfl (w2.heap.size) (35) 6 rfl 41 (machC U (mkY Y (heldM m))) #[.int .u8 (heldM m).p0.dn, .bool (heldM m).p0.la, .int .u8 (heldM m).p0.sh, .int .u8 (heldM m).p1.dn, .bool (heldM m).p1.la, .int .u8 (heldM m).p1.sh] kB Tryz.underlying29 ?_) | (refine lG 29 81 (by rfl) rfl (w.heap.size) (35) 6 rfl 41 (machC V (heldM m)) #[.int .u8 (heldM m).p0.dn, .bool (heldM m).p0.la, .int .u8 (heldM m).p0.sh, .int .u8 (heldM m).p1.dn, .bool (heldM m).p1.la, .int .u8 (heldM m).p1.sh] kB Tryz.underlying29 ?_)))
  go_ret
  exact ⟨rfl, B6⟩
theorem walk (V : Nat → Value) (m : Mach) (n : Int) (w : World) (hm : MV w V m) (hi : m.In) (hn : I64 n) (hL : Lk w) : Calls Tryz.prog 3 #[.agg (machC V m), .int .i64 n] w fun e w' => e = .returned (.bool true) ∧ Below w.heap.size w w' := by
 by_cases h : errL (heldM m) [] n = 0
 ·obtain ⟨h1, -, h2, h3, h4⟩ := errL_ok h
  obtain ⟨n, rfl⟩ := Int.eq_ofNat_of_zero_le h2
  exact good V m n w hm hi hL h1 kO h4
 ·exact bad V m n w hm hi hn hL h
end Go.Proofs.YtmppkjkmocecmaaGreatDoor.lockHeld
