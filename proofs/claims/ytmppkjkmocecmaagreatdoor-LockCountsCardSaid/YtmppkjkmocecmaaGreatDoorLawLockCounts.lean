/- The law LockCounts answers true for every input. Conditions: the machine's memories, and what is pressed, lie in memory; the library's variables hold what they were laid with. -/
import Derived.Test.YtmppkjkmocecmaaGreatDoorSq
import Derived.Test.YtmppkjkmocecmaaGreatDoorSh
import Derived.Test.YtmppkjkmocecmaaGreatDoorP34
import Derived.Test.YtmppkjkmocecmaaGreatDoorP43
import Derived.Test.YtmppkjkmocecmaaGreatDoorP50
namespace Go.Proofs.YtmppkjkmocecmaaGreatDoor.lockCounts
open Go.RowKit Go.Mq
set_option linter.unusedVariables false
set_option linter.unusedSimpArgs false
set_option maxHeartbeats 4000000
set_option maxRecDepth 100000
theorem bad (V : Nat → Value) (m : Mach) (v : Value) (ins : List Inp) (n : Int) (w : World) (hm : MV w V m) (hi : m.In) (hI : InpsAt w v ins) (hn : I64 n) (hL : Lk w) (h : errL m ins n ≠ 0) : Calls Tryz.prog 4 #[.agg (machC V m), v, .int .i64 n] w fun e w' => e = .returned (.bool true) ∧ Below w.heap.size w w' := by
 have LB := Lib.hid (fun W (k : Below w.heap.size w W) => lock_bad V m v ins n W (hm.below k) (hI.below k) h)
 obtain ⟨c, ec⟩ : ∃ c, c = errL m ins n := ⟨_, rfl⟩
 rw [← ec] at LB h
 have hcb : (c != 0) = true := by rw [bne_iff_ne]; exact h
 have ON0 := Lib.hid (machC_one m (fun i hi => hm.one i hi))
 have ONZ := zeroM_one
 have HL := Lib.hid hL
 clear hm hi hL h ec hI
 go_enter Tryz.func4, Tryz.ntmps4
 go_wp2_with (first | ((with_reducible show wpList _ _ _ _ _ _); refine lW 41 3 rfl rfl (w.heap.size) rfl (machC V m) kB Tryz.underlying41 ?_))
 refine (LB.out _ kL).mono ?_
 rintro e w2 ⟨rfl, hb2⟩
 have B2 : Below w.heap.size w w2 := kL
 have s2 := B2.size
 clear hb2
 go_wp2_with (first | ((with_reducible show wpList _ _ _ _ _ _); first | (refine sW 41 7 22 rfl rfl (w2.heap.size) Tryz.zeroCells41 rfl rfl Tryz.zeroCells41 kB ?_; intro w3 hp_w3 K_w3) | (refine sW 45 8 23 rfl rfl (w2.heap.size + 1) #[.slice none 0 0, .slice none 0 0, .slice none 0 0] rfl rfl #[.slice none 0 0, .slice none 0 0, .slice none 0 0] kB ?_; intro w4 hp_w4 K_w4)))
 have B4 : Below w.heap.size w w4 := kL
 clear hp_w3 hp_w4 K_w3 K_w4 B2
 refine (locked_any _ (HL.out.below B4)).mono ?_
 rintro e w5 ⟨rfl, hb5⟩
 have B5 := below_then B4 hb5
 clear hb5 B4
 go_wp2_with fail
 refine (locked_any _ (HL.out.below B5)).mono ?_
 rintro e w6 ⟨rfl, hb6⟩
 go_wp2
 go_ret
 exact ⟨rfl, kL⟩
theorem k_ai {a n : Nat} (h : a < n) : (a : Int) < n := Int.ofNat_lt.2 h
theorem k_le {a n : Nat} (h : a < n) (hn : n ≤ 20000) : a ≤ 20000 := by omega
theorem k_wa {a n : Nat} (h : a < n) (hn : n ≤ 20000) : wrap64 ((a : Int) + 64) = a + 64 := wrap64_id _ kO kO
theorem k_wc {c L : Nat} (h : c < L) (hn : L ≤ 20000) : wrap64 ((c : Int) + 1) = c + 1 := wrap64_id _ kO kO
theorem k_han {a n : Nat} (h : a < n) : a + 64 ≤ n + 63 := by omega
theorem k_ms {a n : Nat} (h : a < n) : n + 64 - (intOf (.int .i64 ((a : Int) + 64))).toNat < n + 64 - (intOf (.int .i64 (a : Int))).toNat := by
 show n + 64 - ((a : Int) + 64).toNat < n + 64 - (a : Int).toNat
 omega
theorem k_pos {c L : Nat} (h : c < L) : 0 < L := by omega
theorem k_gd {c L : Nat} (h : c < L) : decide ((L : Int) ≤ c) = false := decide_eq_false kO
theorem k_ge {a n : Nat} (h : ¬ a < n) : n ≤ a := by omega
theorem k_nl {a n : Nat} (h : ¬ a < n) : ¬ ((a : Int) < n) := by omega
theorem k_up {b : Bm} (hb : b.Ok) (a : Nat) (h : a ≤ 20000) (w : World) : Calls Tryz.prog 13 #[.agg #[.int .i64 b.ln, .int .i64 b.pt, .bool b.rg, .int .i64 b.fr], .int .i64 a] w fun e w' => e = .returned (.tuple #[.agg #[.int .i64 (runBm b a).ln, .int .i64 (runBm b a).pt, .bool (runBm b a).rg, .int .i64 (runBm b a).fr], .int .i64 0]) ∧ Below w.heap.size w w' :=
 beamrun_ok b a hb kO kO w
theorem good (V : Nat → Value) (m : Mach) (v : Value) (ins : List Inp) (n : Nat) (w : World) (hm : MV w V m) (hi : m.In) (hI : InpsAt w v ins) (hL : Lk w) (hr : m.Right) (hc : chkI ins m.ck = 0) (hn : n ≤ 20000) (hk : m.ck + n ≤ 200000) :
  Calls Tryz.prog 4 #[.agg (machC V m), v, .int .i64 n] w fun e w' => e = .returned (.bool true) ∧ Below w.heap.size w w' := by
 have hc0 : chkFrom m.ck ins = 0 := by
  unfold chkI at hc
  split at hc
  ·cases hc
  ·exact hc
 have hd : ∀ i ∈ ins, U8 i.dn := by
  obtain ⟨_, _, _, _, _, h, _⟩ := hI
  exact fun i hi => (h i hi).2.2
 have hck := hr.time.1
 have A0 := at_start hi hr hc0 hd
 have hbm := hr.bm
 have PL := Lib.hid (fun (f1 : m.bm.fr ≤ 19000) => drN_run A0 (bt_start (ins := ins) hbm.1) rfl n hbm.1 hck.1 kO hbm.2.1 kO hn)
 have AN := A0.run n hck.1 kO
 rw [Nat.zero_add] at AN
 have PC := Lib.hid AN.ck
 have h0 : Sn m 0 (cnI m ins) := ⟨rfl, rfl⟩
 have PS : Hid (((lkN (cn0 m ins) n).ss.length : Int) = if m.sd.wt < n then (n - m.sd.wt - 1) / 16 + 1 else 0) := Lib.hid (by
  rw [← smp_length m.sd ⟨hi.sd, hr.wt⟩ n]
  exact congrArg Int.ofNat (h0.run A0 n hck.1 kO).ss)
 have RN := Lib.hid (fun W (k : Below w.heap.size w W) => lock_ok V m v ins n W (hm.below k) hi hr (hI.below k) hc hn hk)
 have eI : cnI m ins = cn0 m ins := rfl
 rw [eI] at PL PC
 obtain ⟨F, hF⟩ : ∃ F, F = lkN (cn0 m ins) n := ⟨_, rfl⟩
 rw [← hF] at RN PL PC PS
 obtain ⟨wt0, wt1⟩ := hr.wt
 have HB := Lib.hid hbm
 have ON0 := Lib.hid (machC_one m (fun i hi => hm.one i hi))
 have ONZ := zeroM_one
 have LG := Lib.hid (fun W => long_any V m n W ON0.out)
 have HL := Lib.hid hL
 obtain ⟨N, hN⟩ : ∃ N : Int, N = n := ⟨_, rfl⟩
 rw [← hN] at RN PC PS LG ⊢
 have n20 : N ≤ 20000 := by omega
 have n0 : 0 ≤ N := by omega
 have HNN := Lib.hid hN
 have ck0 := hck.1
 have ck1 := hck.2
 have HN := Lib.hid hn
 clear hm hi hI hL hr hc hc0 hd A0 AN h0 hF eI hbm hn hk hck hN
 go_enter Tryz.func4, Tryz.ntmps4
 go_wp2_with (first | ((with_reducible show wpList _ _ _ _ _ _); refine lW 41 3 rfl rfl (w.heap.size) rfl (machC V m) kB Tryz.underlying41 ?_))
 refine (RN.out _ kL).mono ?_
 rintro e w2 ⟨U, lv, sv, wv, rfl, TD⟩
 have hb2 := TD.told.below
 have K2 := Lib.hid (show Blk w2 w.heap.size (machC V m) 41 from kB)
 have B2 : Below w.heap.size w w2 := kL
 have s2 := B2.size
 have ON2 := run_one TD
 have OS2 := shown_one TD
 have LN2 := Lib.hid (TD.lns.lines TD.ok.1)
 obtain ⟨a1, c1, e1⟩ := own_shape TD.lns
 obtain ⟨a2, c2, e2⟩ := own_shape TD.sms
 subst e1 e2
 clear hb2 TD RN
 go_wp2_with (first | ((with_reducible show wpList _ _ _ _ _ _); first | (refine sW 41 7 22 rfl rfl (w2.heap.size) (machC U F.x.m) rfl rfl Tryz.zeroCells41 kB ?_; intro w3 hp_w3 K_w3) | (refine sW 45 8 23 rfl rfl (w2.heap.size + 1) (#[.slice a1 F.ls.length c1, .slice a2 F.ss.length c2, wv]) rfl rfl #[.slice none 0 0, .slice none 0 0, .slice none 0 0] kB ?_; intro w4 hp_w4 K_w4)))
 have b24 : Below w2.heap.size w2 w4 := kL
 have B4 : Below w.heap.size w w4 := kL
 have KX4 := Lib.hid (K_w3.out.put hp_w4 (Nat.ne_of_lt (Nat.lt_succ_self _)))
 have KS4 := Lib.hid K_w4.out
 have KM4 := Lib.hid (K2.out.below b24)
 have LN4 := Lib.hid (LN2.out.below b24)
 clear hp_w3 hp_w4 K_w3 K_w4 B2 s2 b24 K2 LN2
 refine (locked_any _ (HL.out.below B4)).mono ?_
 rintro e w5 ⟨rfl, hb5⟩
 have B5 := below_then B4 hb5
 have KX5 := Lib.hid (KX4.out.below hb5)
 have KS5 := Lib.hid (KS4.out.below hb5)
 have KM5 := Lib.hid (KM4.out.below hb5)
 have LN5 := Lib.hid (LN4.out.below hb5)
 clear hb5 B4 KX4 KS4 KM4 LN4
 go_wp2_with (first | ((with_reducible show wpList _ _ _ _ _ _); refine lG 41 3 (by rfl) rfl (w.heap.size) (0) 75 rfl 41 (machC V m) (machC V m) kB Tryz.underlying41 ?_))
 refine (LG.out _).mono ?_
 rintro e w6 ⟨rfl, hb6⟩
 have B6 := below_then B5 hb6
 have KX6 := Lib.hid (KX5.out.below hb6)
 have KS6 := Lib.hid (KS5.out.below hb6)
 have KM6 := Lib.hid (KM5.out.below hb6)
 have LN6 := Lib.hid (LN5.out.below hb6)
 clear hb6 B5 KX5 KS5 KM5 LN5 LG
 by_cases hl : 19000 < m.bm.fr
 ·go_wp2_with (first | ((with_reducible show wpList _ _ _ _ _ _); refine lG 41 3 (by rfl) rfl (w.heap.size) (0) 75 rfl 41 (machC V m) (machC V m) kB Tryz.underlying41 ?_))
  refine (locked_any _ (HL.out.below B6)).mono ?_
  rintro e w7 ⟨rfl, hb7⟩
  go_wp2_with (first | ((with_reducible show wpList _ _ _ _ _ _); refine lG 41 3 (by rfl) rfl (w.heap.size) (0) 75 rfl 41 (machC V m) (machC V m) kB Tryz.underlying41 ?_) | go_in)
  go_ret
  exact ⟨rfl, kL⟩
 ·have PL := Lib.hid (PL.out kO)
  have hlen := congrArg List.length PL.out
  rw [List.length_map] at hlen
  have HLEN := Lib.hid hlen
  have LIM : Hid (F.ls.length ≤ 20000) := Lib.hid (by
   rw [hlen]
   clear hlen
   have : ∀ k, (drN m.bm k).length ≤ k := by
    intro k
    induction k with
    | zero => simp [drN]
    | succ k ih =>
     show (drN m.bm k ++ drB _).length ≤ _
     rw [List.length_append]
     have : (drB (runBm m.bm k)).length ≤ 1 := by unfold drB; split <;> simp
     omega
   have := this n
   have := HN.out
   omega)
  clear hlen HL
  obtain ⟨L, hLL⟩ : ∃ L, L = F.ls.length := ⟨_, rfl⟩
  obtain ⟨S, hSS⟩ : ∃ S, S = F.ss.length := ⟨_, rfl⟩
  rw [← hLL] at KS6 LIM HLEN
  rw [← hSS] at KS6 PS
  have HLL := Lib.hid hLL
  obtain ⟨ck, hck⟩ : ∃ ck, ck = F.x.m.ck := ⟨_, rfl⟩
  rw [← hck] at PC
  have m60 := (KM6.out.cell 60).trans (mx60 V _)
  have ml := KM6.out.lt
  have xl := KX6.out.lt
  have X72 : Hid (w6.cell? ⟨w2.heap.size, 72, none⟩ = some (.int .i64 ck)) := Lib.hid (by rw [hck]; exact (KX6.out.cell 72).trans (mx72 U _))
  have BM := Lib.hid (fun W => bnext_ok m.bm HB.out W)
  have BR := Lib.hid (fun (a : Nat) (h : a ≤ 20000) W => k_up HB.out a h W)
  obtain ⟨a0, ha0, ha63, CT0⟩ := ctAt_start HB.out.1 n
  rw [← ha0] at BM
  have CT0 := Lib.hid CT0
  clear hLL hSS hck ha0 KX6
  have A63 := Lib.hid (show a0 ≤ n + 63 by omega)
  have hck : (ck == m.ck + N) = true := by rw [PC.out]; simp
  have hwk : wrap64 (m.ck + N) = m.ck + N := wrap64_id _ kO kO
  have hX : (m.sd.wt < N ∧ (((N - m.sd.wt - 1).tdiv 16) = (N - m.sd.wt - 1) / 16) ∧ ((S : Int) == (N - m.sd.wt - 1) / 16 + 1) = true) ∨ (¬ m.sd.wt < N ∧ ((S : Int) == 0) = true) := by
   by_cases h : m.sd.wt < N
   ·exact .inl ⟨h, Int.tdiv_eq_ediv_of_nonneg kO, by rw [PS.out, if_pos h]; simp⟩
   ·exact .inr ⟨h, by rw [PS.out, if_neg h]; rfl⟩
  clear PS PC
  rcases hX with ⟨hw, hq, hX⟩ | ⟨hw, hX⟩
  all_goals
   go_wp2_with (first | ((with_reducible show wpList _ _ _ _ _ _); refine lA 38 51 rfl rfl (w.heap.size) (61) 4 rfl 41 (machC V m) #[.int .i64 m.bm.ln, .int .i64 m.bm.pt, .bool m.bm.rg, .int .i64 m.bm.fr] kB Tryz.underlying38 ?_))
   refine (BM.out _).mono ?_
   rintro e w7 ⟨rfl, hb7⟩
   have B7 := below_then B6 hb7
   have KS7 := Lib.hid (KS6.out.below hb7)
   have KM7 := Lib.hid (KM6.out.below hb7)
   have LN7 := Lib.hid (LN6.out.below hb7)
   have X7 := Lib.hid ((hb7.cell (p := ⟨w2.heap.size, 72, none⟩) xl).trans X72.out)
   have xl7 : w2.heap.size < w7.heap.size := Nat.lt_of_lt_of_le xl hb7.size
   clear hb7 B6 KS6 KM6 LN6 X72 xl BM
   go_wp2_with (first | ((with_reducible show wpList _ _ _ _ _ _); refine lA 38 51 rfl rfl (w.heap.size) (61) 4 rfl 41 (machC V m) #[.int .i64 m.bm.ln, .int .i64 m.bm.pt, .bool m.bm.rg, .int .i64 m.bm.fr] kB Tryz.underlying38 ?_))
   go_loopw [11, 14] (fun c a wr => ∃ (cc aa : Nat) (A : Int), c = .int .i64 cc ∧ a = .int .i64 A ∧ Hid (A = aa) ∧ Hid (aa ≤ n + 63) ∧ Hid (CtAt m.bm n aa cc) ∧ Below w7.heap.size w7 wr) (fun _ a _ => n + 64 - (intOf a).toNat)
   case atStart => exact ⟨0, a0, a0, rfl, rfl, Lib.hid rfl, A63, CT0, Below.refl _ _⟩
   case round =>
    obtain ⟨c, a, A, rfl, rfl, hA, han, hct, hb⟩ := hrel
    have KS := Lib.hid (KS7.out.below hb)
    have KM := Lib.hid (KM7.out.below hb)
    have LN := Lib.hid (LN7.out.below hb)
    have XR := (hb.cell (p := ⟨w2.heap.size, 72, none⟩) xl7).trans X7.out
    by_cases hlt : a < n
    ·have hai : A < N := by rw [hA.out, HNN.out]; exact k_ai hlt
     have WA : wrap64 (A + 64) = A + 64 := by rw [hA.out]; exact k_wa hlt HN.out
     have HLT := Lib.hid hlt
     have CN := Lib.hid (hct.out.next HB.out.1 hlt)
     have CG := Lib.hid (fun h => hct.out.get HB.out.1 hlt h PL.out)
     have BA := Lib.hid (BR.out a (k_le hlt HN.out))
     obtain ⟨bm, hbm⟩ : ∃ b, b = runBm m.bm a := ⟨_, rfl⟩
     rw [← hbm] at CN CG BA
     rw [← hA.out] at BA
     clear hbm hct XR hlt han
     go_wp2_with (first | ((with_reducible show wpList _ _ _ _ _ _); refine lA 38 67 rfl rfl (w.heap.size) (61) 4 rfl 41 (machC V m) #[.int .i64 m.bm.ln, .int .i64 m.bm.pt, .bool m.bm.rg, .int .i64 m.bm.fr] kB Tryz.underlying38 ?_))
     refine (BA.out _).mono ?_
     rintro e w8 ⟨rfl, hb8⟩
     have KS8 := Lib.hid (KS.out.below hb8)
     have LN8 := Lib.hid (LN.out.below hb8)
     have hb8' := below_then hb hb8
     clear hb8 hb KS LN KM BA
     go_upto_region 15 with (first | ((with_reducible show wpList _ _ _ _ _ _); refine sW 38 15 71 rfl rfl (w8.heap.size) #[.int .i64 bm.ln, .int .i64 bm.pt, .bool bm.rg, .int .i64 bm.fr] rfl rfl #[.int .i64 0, .int .i64 0, .bool false, .int .i64 0] kB ?_; intro w9 hp_w9 K_w9))
     have b89 : Below w8.heap.size w8 w9 := kL
     have KS9 := Lib.hid (KS8.out.below b89)
     have LN9 := Lib.hid (LN8.out.below b89)
     have hb9 := below_then hb8' b89
     have KB9 := Lib.hid K_w9.out
     have z0 : w9.cell? ⟨w8.heap.size, 0, none⟩ = some (.int .i64 bm.ln) := KB9.out.cell 0
     have z3 : w9.cell? ⟨w8.heap.size, 3, none⟩ = some (.int .i64 bm.fr) := KB9.out.cell 3
     have zl := KB9.out.lt
     clear b89 KS8 LN8 hb8' K_w9 hp_w9
     by_cases h8 : bm.ln < 8
     ·obtain ⟨g1, g2, g3⟩ := CG.out h8
      obtain ⟨a', cap', ea, -, -, -, q4⟩ := LN9.out
      injection ea with ea1 ea2 ea3
      subst ea1
      obtain ⟨g, off, ea, gl, gc⟩ := q4 (k_pos g1)
      obtain ⟨y0, y1, -⟩ := gc c g1
      rw [g2] at y0
      rw [g3] at y1
      rw [if_pos h8] at CN
      rw [← HLL.out] at g1
      subst ea
      have s0 : w9.cell? ⟨w2.heap.size + 1, 0, none⟩ = some (.slice (some ⟨g, off, none⟩) L c1) := KS9.out.cell 0
      have sl := KS9.out.lt
      have gi := k_ai g1
      have hgd := k_gd g1
      have hgd2 : decide (L ≤ c) = false := decide_eq_false (Nat.not_le.2 g1)
      have WC := k_wc g1 LIM.out
      clear g2 g3 gc q4 ea2 ea3 CG g1
      go_wp2_with (first | ((with_reducible show wpList _ _ _ _ _ _); refine lA 38 67 rfl rfl (w.heap.size) (61) 4 rfl 41 (machC V m) #[.int .i64 m.bm.ln, .int .i64 m.bm.pt, .bool m.bm.rg, .int .i64 m.bm.fr] kB Tryz.underlying38 ?_))
      go_quiet (fail)
      go_wp2_with (first | ((with_reducible show wpList _ _ _ _ _ _); refine lA 38 67 rfl rfl (w.heap.size) (61) 4 rfl 41 (machC V m) #[.int .i64 m.bm.ln, .int .i64 m.bm.pt, .bool m.bm.rg, .int .i64 m.bm.fr] kB Tryz.underlying38 ?_) | go_in)
      go_roundw
      case rel => exact ⟨c + 1, a + 64, A + 64, by rw [WC]; rfl, by rw [WA], Lib.hid (by rw [hA.out]; rfl), Lib.hid (k_han HLT.out), CN, Go.Mq.below_drewN hb9 _⟩
      case measure => rw [WA, hA.out]; exact k_ms HLT.out
     ·rw [if_neg h8] at CN
      clear CG LN9
      go_wp2_with (first | ((with_reducible show wpList _ _ _ _ _ _); refine lA 38 67 rfl rfl (w.heap.size) (61) 4 rfl 41 (machC V m) #[.int .i64 m.bm.ln, .int .i64 m.bm.pt, .bool m.bm.rg, .int .i64 m.bm.fr] kB Tryz.underlying38 ?_) | go_in)
      go_roundw
      case rel => exact ⟨c, a + 64, A + 64, rfl, by rw [WA], Lib.hid (by rw [hA.out]; rfl), Lib.hid (k_han HLT.out), CN, kL⟩
      case measure => rw [WA, hA.out]; exact k_ms HLT.out
    ·have hc := hct.out.last (k_ge hlt)
     rw [← HLEN.out] at hc
     subst hc
     have hge : ¬ A < N := by rw [hA.out, HNN.out]; exact k_nl hlt
     clear hlt han
     have s0 : wr.cell? ⟨w2.heap.size + 1, 0, none⟩ = some (.slice a1 c c1) := KS.out.cell 0
     have s1 : wr.cell? ⟨w2.heap.size + 1, 1, none⟩ = some (.slice a2 S c2) := KS.out.cell 1
     have sl := KS.out.lt
     have k72 := (KM.out.cell 72).trans (mx72 V m)
     have BZ := below_then B7 hb
     clear hct KS KM LN HLL HLEN PL LIM
     go_wp2_with (first | ((with_reducible show wpList _ _ _ _ _ _); refine lA 38 67 rfl rfl (w.heap.size) (61) 4 rfl 41 (machC V m) #[.int .i64 m.bm.ln, .int .i64 m.bm.pt, .bool m.bm.rg, .int .i64 m.bm.fr] kB Tryz.underlying38 ?_) | go_in)
     go_ret
     exact ⟨rfl, BZ⟩
theorem walk (V : Nat → Value) (m : Mach) (v : Value) (ins : List Inp) (n : Int) (w : World) (hm : MV w V m) (hi : m.In) (hI : InpsAt w v ins) (hn : I64 n) (hL : Lk w) : Calls Tryz.prog 4 #[.agg (machC V m), v, .int .i64 n] w fun e w' => e = .returned (.bool true) ∧ Below w.heap.size w w' := by
 by_cases h : errL m ins n = 0
 ·obtain ⟨h1, h5, h2, h3, h4⟩ := errL_ok h
  obtain ⟨n, rfl⟩ := Int.eq_ofNat_of_zero_le h2
  exact good V m v ins n w hm hi hI hL h1 h5 kO h4
 ·exact bad V m v ins n w hm hi hI hn hL h
end Go.Proofs.YtmppkjkmocecmaaGreatDoor.lockCounts
