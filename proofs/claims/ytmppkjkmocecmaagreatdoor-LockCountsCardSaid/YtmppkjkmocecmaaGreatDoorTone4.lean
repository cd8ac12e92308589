/- The samples of sounds. Conditions: the fields are words, bytes, truths. -/
import Derived.Test.YtmppkjkmocecmaaGreatDoorSq
import Derived.Test.YtmppkjkmocecmaaGreatDoorSh
import Derived.Test.YtmppkjkmocecmaaGreatDoorP21
import Derived.StillTailTactics
namespace Go.Proofs.YtmppkjkmocecmaaGreatDoor
open Go.RowKit Go.Mq
set_option linter.unusedVariables false
set_option linter.unusedSimpArgs false
set_option maxHeartbeats 4000000
set_option maxRecDepth 100000
theorem infoU8 : (Tryz.prog.info? 5).map (fun i => (i.zero, i.size, i.bytes)) = some (some (.int .u8 0), 1, 1) := by kernel_rfl
theorem vrun_int (v : Vc) (hv : v.Ok) (n : Int) (h0 : 0 ≤ n) (hn : n ≤ 20000) (w : World) :
  Calls Tryz.prog 53 #[.agg #[.int .u16 v.pd, .int .u16 v.ct, .int .u8 v.ld, .bool v.hi, .int .u16 v.nz], .int .i64 n] w fun e w' => e = .returned (.tuple #[.agg #[.int .u16 (runV v n.toNat).pd, .int .u16 (runV v n.toNat).ct, .int .u8 (runV v n.toNat).ld, .bool (runV v n.toNat).hi, .int .u16 (runV v n.toNat).nz], .int .i64 0]) ∧ Below w.heap.size w w' := by
 have := vrun_ok v hv n.toNat kO w
 rw [show ((n.toNat : Nat) : Int) = n from by omega] at this
 exact this
theorem samples_ok (s : Sd) (hs : s.Ok) (n : Nat) (hn : n ≤ 20000) (w : World) :
  Calls Tryz.prog 27 #[.agg #[.int .u16 s.a.pd, .int .u16 s.a.ct, .int .u8 s.a.ld, .bool s.a.hi, .int .u16 s.a.nz, .int .u16 s.b.pd, .int .u16 s.b.ct, .int .u8 s.b.ld, .bool s.b.hi, .int .u16 s.b.nz, .int .u16 s.c.pd, .int .u16 s.c.ct, .int .u8 s.c.ld, .bool s.c.hi, .int .u16 s.c.nz, .int .i64 s.wt], .int .i64 n] w fun e w' => ∃ ao cp, e = .returned (.tuple #[.slice ao (smp s n).length cp, .agg #[.int .u16 ((runS s n).a).pd, .int .u16 ((runS s n).a).ct, .int .u8 ((runS s n).a).ld, .bool ((runS s n).a).hi, .int .u16 ((runS s n).a).nz, .int .u16 ((runS s n).b).pd, .int .u16 ((runS s n).b).ct, .int .u8 ((runS s n).b).ld, .bool ((runS s n).b).hi, .int .u16 ((runS s n).b).nz, .int .u16 ((runS s n).c).pd, .int .u16 ((runS s n).c).ct, .int .u8 ((runS s n).c).ld, .bool ((runS s n).c).hi, .int .u16 ((runS s n).c).nz, .int .i64 (runS s n).wt], .int .i64 0]) ∧
   w'.ownsRow w.heap.size 5 1 (.slice ao (smp s n).length cp) (smp s n).length ((smp s n).map (Value.int .u8)) ∧ Below w.heap.size w w' := by
 have hc := scheck_ok s hs.2.1 hs.2.2
 have HC := Lib.hid hc
 have n0 : (0 : Int) ≤ n := by omega
 have n1 : (n : Int) ≤ 20000 := by omega
 have HS := Lib.hid hs
 have hle : (smp s n).length ≤ 20000 := Nat.le_trans (smp_le s hs n) hn
 generalize hX : smp s n = X at *
 generalize hY : runS s n = Y at *
 have HX := Lib.hid hX
 have HY := Lib.hid hY
 clear hX hY hc hs
 obtain ⟨i0, hi, hz0, hz1, hz2⟩ := info_parts infoU8
 have HI := Lib.hid (And.intro hi (And.intro hz0 (And.intro hz1 hz2)))
 clear hi hz0 hz1 hz2
 go_enter Tryz.func27, Tryz.ntmps27
 go_wp2_with (first | ((with_reducible show wpList _ _ _ _ _ _); refine lA 36 2 rfl rfl (w.heap.size) (0) 16 rfl 36 #[.int .u16 s.a.pd, .int .u16 s.a.ct, .int .u8 s.a.ld, .bool s.a.hi, .int .u16 s.a.nz, .int .u16 s.b.pd, .int .u16 s.b.ct, .int .u8 s.b.ld, .bool s.b.hi, .int .u16 s.b.nz, .int .u16 s.c.pd, .int .u16 s.c.ct, .int .u8 s.c.ld, .bool s.c.hi, .int .u16 s.c.nz, .int .i64 s.wt] #[.int .u16 s.a.pd, .int .u16 s.a.ct, .int .u8 s.a.ld, .bool s.a.hi, .int .u16 s.a.nz, .int .u16 s.b.pd, .int .u16 s.b.ct, .int .u8 s.b.ld, .bool s.b.hi, .int .u16 s.b.nz, .int .u16 s.c.pd, .int .u16 s.c.ct, .int .u8 s.c.ld, .bool s.c.hi, .int .u16 s.c.nz, .int .i64 s.wt] kB Tryz.underlying36 ?_))
 refine (HC.out _).mono ?_
 rintro e w1 ⟨rfl, hb1⟩
 have Kw1_0 : Hid (Blk w1 (w.heap.size) #[.int .u16 s.a.pd, .int .u16 s.a.ct, .int .u8 s.a.ld, .bool s.a.hi, .int .u16 s.a.nz, .int .u16 s.b.pd, .int .u16 s.b.ct, .int .u8 s.b.ld, .bool s.b.hi, .int .u16 s.b.nz, .int .u16 s.c.pd, .int .u16 s.c.ct, .int .u8 s.c.ld, .bool s.c.hi, .int .u16 s.c.nz, .int .i64 s.wt] 36) := Lib.hid kB
 have Kw1_1 : Hid (Blk w1 (w.heap.size + 1) #[.int .u16 0, .int .u16 0, .int .u8 0, .bool false, .int .u16 0, .int .u16 0, .int .u16 0, .int .u8 0, .bool false, .int .u16 0, .int .u16 0, .int .u16 0, .int .u8 0, .bool false, .int .u16 0, .int .i64 0] 36) := Lib.hid kB
 obtain ⟨lw1_0, cw1_0, fw1_0⟩ := Kw1_0.out.use
 obtain ⟨lw1_1, cw1_1, fw1_1⟩ := Kw1_1.out.use
 go_wp2_with (first | ((with_reducible show wpList _ _ _ _ _ _); refine lA 36 2 rfl rfl (w.heap.size) (0) 16 rfl 36 #[.int .u16 s.a.pd, .int .u16 s.a.ct, .int .u8 s.a.ld, .bool s.a.hi, .int .u16 s.a.nz, .int .u16 s.b.pd, .int .u16 s.b.ct, .int .u8 s.b.ld, .bool s.b.hi, .int .u16 s.b.nz, .int .u16 s.c.pd, .int .u16 s.c.ct, .int .u8 s.c.ld, .bool s.c.hi, .int .u16 s.c.nz, .int .i64 s.wt] #[.int .u16 s.a.pd, .int .u16 s.a.ct, .int .u8 s.a.ld, .bool s.a.hi, .int .u16 s.a.nz, .int .u16 s.b.pd, .int .u16 s.b.ct, .int .u8 s.b.ld, .bool s.b.hi, .int .u16 s.b.nz, .int .u16 s.c.pd, .int .u16 s.c.ct, .int .u8 s.c.ld, .bool s.c.hi, .int .u16 s.c.nz, .int .i64 s.wt] kB Tryz.underlying36 ?_))
 refine wp_mark (R := fun W => Below w.heap.size w W ∧ Hid (Blk W (w.heap.size) (#[.int .u16 s.a.pd, .int .u16 s.a.ct, .int .u8 s.a.ld, .bool s.a.hi, .int .u16 s.a.nz, .int .u16 s.b.pd, .int .u16 s.b.ct, .int .u8 s.b.ld, .bool s.b.hi, .int .u16 s.b.nz, .int .u16 s.c.pd, .int .u16 s.c.ct, .int .u8 s.c.ld, .bool s.c.hi, .int .u16 s.c.nz, .int .i64 s.wt]) 36) ∧ Hid (Blk W (w.heap.size + 1) (#[.int .u16 0, .int .u16 0, .int .u8 0, .bool false, .int .u16 0, .int .u16 0, .int .u16 0, .int .u8 0, .bool false, .int .u16 0, .int .u16 0, .int .u16 0, .int .u8 0, .bool false, .int .u16 0, .int .i64 0]) 36)) ⟨kL, Lib.hid kB, Lib.hid kB⟩ ?_
 rintro w2 ⟨hbw2, Kw2_0, Kw2_1⟩
 clear Kw1_0 cw1_0 fw1_0 Kw1_1 cw1_1 fw1_1
 obtain ⟨lw2_0, cw2_0, fw2_0⟩ := Kw2_0.out.use
 obtain ⟨lw2_1, cw2_1, fw2_1⟩ := Kw2_1.out.use
 go_loopw [1, 4] (fun i v wr => ∃ m : Nat, ∃ u : Sd, ∃ xs : List Int, ∃ ao cp, m ≤ 20000 ∧ u.Ok ∧ Hid (xs ++ smp u m = X) ∧ Hid (runS u m = Y) ∧ i = .int .i64 m ∧ v = .slice ao xs.length cp ∧ Below w.heap.size w wr ∧ Hid (Blk wr w.heap.size #[.int .u16 u.a.pd, .int .u16 u.a.ct, .int .u8 u.a.ld, .bool u.a.hi, .int .u16 u.a.nz, .int .u16 u.b.pd, .int .u16 u.b.ct, .int .u8 u.b.ld, .bool u.b.hi, .int .u16 u.b.nz, .int .u16 u.c.pd, .int .u16 u.c.ct, .int .u8 u.c.ld, .bool u.c.hi, .int .u16 u.c.nz, .int .i64 u.wt] 36) ∧ Hid (Blk wr (w.heap.size + 1) #[.int .u16 0, .int .u16 0, .int .u8 0, .bool false, .int .u16 0, .int .u16 0, .int .u16 0, .int .u8 0, .bool false, .int .u16 0, .int .u16 0, .int .u16 0, .int .u8 0, .bool false, .int .u16 0, .int .i64 0] 36) ∧
  Hid (wr.ownsRow (w.heap.size + 2) 5 1 (.slice ao xs.length cp) xs.length (xs.map (Value.int .u8)))) (fun i _ _ => (intOf i).toNat)
 case atStart => exact ⟨n, s, [], none, 0, hn, HS.out, Lib.hid (by rw [List.nil_append]; exact HX.out), HY, rfl, rfl, hbw2, Kw2_0, Kw2_1, Lib.hid (World.ownsRow_nil _ _ _ _)⟩
 case round =>
  obtain ⟨m, u, xs, ao, cp, hm, hu, hx, hy, rfl, rfl, hbr, KA, KB, KO⟩ := hrel
  clear Kw2_0 Kw2_1 cw2_0 cw2_1 fw2_0 fw2_1 lw2_0 lw2_1
  have HU := Lib.hid hu
  obtain ⟨⟨ua, ub, uc⟩, u0, u1⟩ := hu
  obtain ⟨lA, cA, fA⟩ := KA.out.use
  obtain ⟨lB, cB, fB⟩ := KB.out.use
  have hxl : xs.length ≤ 20000 := by
   have := congrArg List.length hx.out
   rw [List.length_append] at this
   omega
  by_cases hm0 : m = 0
  ·subst hm0
   have hX' : X = xs := by have := hx.out; simp [smp] at this; exact this.symm
   have hY' : Y = u := by have := hy.out; simp [runS] at this; exact this.symm
   subst hX'
   subst hY'
   have KO1 := KO
   go_wp2_with fail
   refine wp_region_still_tail 3 kR kR ?_
   simp only [List.take_succ_cons, List.take_zero, List.drop_succ_cons, List.drop_zero]
   still_step
   change wpStill _ _ wr.drew _ _ _
   (refine wpStill_loadA rfl 36 (.tmp 2) rfl (w.heap.size) (0) 16 rfl 36 #[.int .u16 Y.a.pd, .int .u16 Y.a.ct, .int .u8 Y.a.ld, .bool Y.a.hi, .int .u16 Y.a.nz, .int .u16 Y.b.pd, .int .u16 Y.b.ct, .int .u8 Y.b.ld, .bool Y.b.hi, .int .u16 Y.b.nz, .int .u16 Y.c.pd, .int .u16 Y.c.ct, .int .u8 Y.c.ld, .bool Y.c.hi, .int .u16 Y.c.nz, .int .i64 Y.wt] #[.int .u16 Y.a.pd, .int .u16 Y.a.ct, .int .u8 Y.a.ld, .bool Y.a.hi, .int .u16 Y.a.nz, .int .u16 Y.b.pd, .int .u16 Y.b.ct, .int .u8 Y.b.ld, .bool Y.b.hi, .int .u16 Y.b.nz, .int .u16 Y.c.pd, .int .u16 Y.c.ct, .int .u8 Y.c.ld, .bool Y.c.hi, .int .u16 Y.c.nz, .int .i64 Y.wt] (show Blk _ (w.heap.size) #[.int .u16 Y.a.pd, .int .u16 Y.a.ct, .int .u8 Y.a.ld, .bool Y.a.hi, .int .u16 Y.a.nz, .int .u16 Y.b.pd, .int .u16 Y.b.ct, .int .u8 Y.b.ld, .bool Y.b.hi, .int .u16 Y.b.nz, .int .u16 Y.c.pd, .int .u16 Y.c.ct, .int .u8 Y.c.ld, .bool Y.c.hi, .int .u16 Y.c.nz, .int .i64 Y.wt] 36 from kB) _ Tryz.underlying36 rfl kR rfl rfl ?_)
   still_step
   refine wpStill_nil ?_
   change wpList _ _ _ _ _ wr.drew
   go_wp2_with ((with_reducible show wpList _ _ _ _ _ _); refine sW 36 5 64 rfl rfl (w.heap.size + 1) #[.int .u16 Y.a.pd, .int .u16 Y.a.ct, .int .u8 Y.a.ld, .bool Y.a.hi, .int .u16 Y.a.nz, .int .u16 Y.b.pd, .int .u16 Y.b.ct, .int .u8 Y.b.ld, .bool Y.b.hi, .int .u16 Y.b.nz, .int .u16 Y.c.pd, .int .u16 Y.c.ct, .int .u8 Y.c.ld, .bool Y.c.hi, .int .u16 Y.c.nz, .int .i64 Y.wt] rfl rfl #[.int .u16 0, .int .u16 0, .int .u8 0, .bool false, .int .u16 0, .int .u16 0, .int .u16 0, .int .u8 0, .bool false, .int .u16 0, .int .u16 0, .int .u16 0, .int .u8 0, .bool false, .int .u16 0, .int .i64 0] kB ?_; intro w7 hp_w7 K_w7)
   have K7 := (by with_reducible assumption : Hid (Blk _ (w.heap.size + 1) #[.int .u16 Y.a.pd, .int .u16 Y.a.ct, .int .u8 Y.a.ld, .bool Y.a.hi, .int .u16 Y.a.nz, .int .u16 Y.b.pd, .int .u16 Y.b.ct, .int .u8 Y.b.ld, .bool Y.b.hi, .int .u16 Y.b.nz, .int .u16 Y.c.pd, .int .u16 Y.c.ct, .int .u8 Y.c.ld, .bool Y.c.hi, .int .u16 Y.c.nz, .int .i64 Y.wt] 36))
   refine bodyPost_ret (results_tct Tryz.results27 _ _ (w.heap.size + 1) 36 #[.int .u16 Y.a.pd, .int .u16 Y.a.ct, .int .u8 Y.a.ld, .bool Y.a.hi, .int .u16 Y.a.nz, .int .u16 Y.b.pd, .int .u16 Y.b.ct, .int .u8 Y.b.ld, .bool Y.b.hi, .int .u16 Y.b.nz, .int .u16 Y.c.pd, .int .u16 Y.c.ct, .int .u8 Y.c.ld, .bool Y.c.hi, .int .u16 Y.c.nz, .int .i64 Y.wt] _ rfl K7.out Tryz.underlying36 rfl kR) rfl ⟨ao, cp, rfl, ?_, kL⟩
   exact own_base (base := w.heap.size + 2) kOw kO
  ·have hm1 : 1 ≤ (m : Int) := by omega
   by_cases hw0 : u.wt = 0
   ·have hl := lev_any u ⟨ua, ub, uc⟩
    have hlv := levS_in u
    generalize hL : levS u = L at *
    have HL := Lib.hid hL
    have HLV := Lib.hid hl
    clear hl hL
    rw [hw0] at cA KA HLV
    go_wp2_with (first | ((with_reducible show wpList _ _ _ _ _ _); refine lA 36 2 rfl rfl (w.heap.size) (0) 16 rfl 36 #[.int .u16 u.a.pd, .int .u16 u.a.ct, .int .u8 u.a.ld, .bool u.a.hi, .int .u16 u.a.nz, .int .u16 u.b.pd, .int .u16 u.b.ct, .int .u8 u.b.ld, .bool u.b.hi, .int .u16 u.b.nz, .int .u16 u.c.pd, .int .u16 u.c.ct, .int .u8 u.c.ld, .bool u.c.hi, .int .u16 u.c.nz, .int .i64 0] #[.int .u16 u.a.pd, .int .u16 u.a.ct, .int .u8 u.a.ld, .bool u.a.hi, .int .u16 u.a.nz, .int .u16 u.b.pd, .int .u16 u.b.ct, .int .u8 u.b.ld, .bool u.b.hi, .int .u16 u.b.nz, .int .u16 u.c.pd, .int .u16 u.c.ct, .int .u8 u.c.ld, .bool u.c.hi, .int .u16 u.c.nz, .int .i64 0] kB Tryz.underlying36 ?_))
    refine (HLV.out _).mono ?_
    rintro e w3 ⟨rfl, hb3⟩
    have KA3 := Lib.hid (KA.out.below hb3)
    have KB3 := Lib.hid (KB.out.below hb3)
    have KO3 := Lib.hid (own_below KO.out hb3)
    obtain ⟨lA3, cA3, fA3⟩ := KA3.out.use
    clear cA fA cB fB lA lB
    go_wp2_with (first
     | (at_builtin; refine wpList_append_own _ rfl (.tmp 29) (.tmp 32) 26 rfl (w.heap.size + 2) 5 i0 (.int .u8 0) 1 1 Tryz.underlying26 HI.out.1 HI.out.2.1 HI.out.2.2.1 HI.out.2.2.2 rfl kD _ _ _ rfl (KO3.out.alloc _) ⟨w3.heap.size, 0, none⟩ 1 1 [.int .u8 L] rfl rfl ?c1 ?c2 ?c3 ?c4 ?c5 ?_)
     | fail)
    case c1 =>
     intro j u hj
     match j, hj with
     | 0, hj => simp at hj; subst hj; simp [Addr.add]
    case c2 => intro u hu; simp at hu; subst hu; rfl
    case c3 => unfold maxLen; omega
    case c4 => omega
    case c5 => have := hbr.size; have := hb3.size; have := KB.out.lt; simp; omega
    intro v' w5 hown hgrow _
    obtain ⟨ao', cp', rfl⟩ := own_shape hown
    have hsz : w.heap.size + 2 ≤ w3.heap.size := by have := hb3.size; have := KB.out.lt; omega
    have KA5 := Lib.hid ((KA3.out.alloc _).grown hgrow (KO3.out.alloc _) kO)
    have KB5 := Lib.hid ((KB3.out.alloc _).grown hgrow (KO3.out.alloc _) kO)
    have hb5 : Below w.heap.size w w5 := below_grown (below_alloc (below_then hbr hb3) _) (by simp; omega) hgrow (KO3.out.alloc _) kO
    have hs5 : w.heap.size + 2 ≤ w5.heap.size := by have := hgrow.size; simp at this; omega
    have KO5 := Lib.hid hown
    obtain ⟨lA5, cA5, fA5⟩ := KA5.out.use
    clear hown hgrow KA KB KA3 KB3 KO3 cA3 fA3 lA3
    by_cases hK : (m : Int) ≤ 16
    ·have hK0 : (0 : Int) ≤ (m : Int) := by omega
     have hK1 : ((m : Int) : Int) ≤ 20000 := by omega
     have RA := Lib.hid (vrun_int u.a ua ((m : Int)) hK0 hK1)
     have RB := Lib.hid (vrun_int u.b ub ((m : Int)) hK0 hK1)
     have RC := Lib.hid (vrun_int u.c uc ((m : Int)) hK0 hK1)
     obtain ⟨gok, gx, gy⟩ := heard_step u HU.out m (((m : Int) : Int).toNat) hw0 kO kO kO
     rw [show goSd u (((m : Int) : Int).toNat) (16 - ((((m : Int) : Int).toNat : Nat) : Int)) = ⟨runV u.a (((m : Int) : Int).toNat), runV u.b (((m : Int) : Int).toNat), runV u.c (((m : Int) : Int).toNat), 16 - (m : Int)⟩ from by unfold goSd; first | (congr 1; done) | (congr 1; omega)] at gok gx gy
     generalize runV u.a (((m : Int) : Int).toNat) = A at *
     generalize runV u.b (((m : Int) : Int).toNat) = B at *
     generalize runV u.c (((m : Int) : Int).toNat) = C at *
     have GO := Lib.hid gok
     have GX := Lib.hid gx
     have GY := Lib.hid gy
     clear gok gx gy
     go_wp2_with (first | ((with_reducible show wpList _ _ _ _ _ _); refine lA 34 39 rfl rfl (w.heap.size) (0) 15 rfl 36 #[.int .u16 u.a.pd, .int .u16 u.a.ct, .int .u8 u.a.ld, .bool u.a.hi, .int .u16 u.a.nz, .int .u16 u.b.pd, .int .u16 u.b.ct, .int .u8 u.b.ld, .bool u.b.hi, .int .u16 u.b.nz, .int .u16 u.c.pd, .int .u16 u.c.ct, .int .u8 u.c.ld, .bool u.c.hi, .int .u16 u.c.nz, .int .i64 16] #[.int .u16 u.a.pd, .int .u16 u.a.ct, .int .u8 u.a.ld, .bool u.a.hi, .int .u16 u.a.nz, .int .u16 u.b.pd, .int .u16 u.b.ct, .int .u8 u.b.ld, .bool u.b.hi, .int .u16 u.b.nz, .int .u16 u.c.pd, .int .u16 u.c.ct, .int .u8 u.c.ld, .bool u.c.hi, .int .u16 u.c.nz] kB Tryz.underlying34 ?_))
     refine wp_loop_rounds 4 ?_
     rw [rounds_succ]
     refine wp_mark (R := fun W => Below w.heap.size w W ∧ Hid (Blk W (w.heap.size) (#[.int .u16 u.a.pd, .int .u16 u.a.ct, .int .u8 u.a.ld, .bool u.a.hi, .int .u16 u.a.nz, .int .u16 u.b.pd, .int .u16 u.b.ct, .int .u8 u.b.ld, .bool u.b.hi, .int .u16 u.b.nz, .int .u16 u.c.pd, .int .u16 u.c.ct, .int .u8 u.c.ld, .bool u.c.hi, .int .u16 u.c.nz, .int .i64 (16)]) 36) ∧ Hid (Blk W (w.heap.size + 1) (#[.int .u16 0, .int .u16 0, .int .u8 0, .bool false, .int .u16 0, .int .u16 0, .int .u16 0, .int .u8 0, .bool false, .int .u16 0, .int .u16 0, .int .u16 0, .int .u8 0, .bool false, .int .u16 0, .int .i64 0]) 36) ∧ Hid (W.ownsRow (w.heap.size + 2) 5 1 (.slice ao' (xs.length + 1) cp') (xs.length + 1) (xs.map (Value.int .u8) ++ [.int .u8 L]))) ⟨kL, Lib.hid kB, Lib.hid kB, Lib.hid kOw⟩ ?_
     rintro w6 ⟨hbw6, Kw6_0, Kw6_1, KO6⟩
     obtain ⟨lw6_0, cw6_0, fw6_0⟩ := Kw6_0.out.use
     obtain ⟨lw6_1, cw6_1, fw6_1⟩ := Kw6_1.out.use
     have vi := fun w => (vidx u w).1
     go_wp2_with (first | ((with_reducible show wpList _ _ _ _ _ _); refine lA 34 39 rfl rfl (w.heap.size) (0) 15 rfl 36 #[.int .u16 u.a.pd, .int .u16 u.a.ct, .int .u8 u.a.ld, .bool u.a.hi, .int .u16 u.a.nz, .int .u16 u.b.pd, .int .u16 u.b.ct, .int .u8 u.b.ld, .bool u.b.hi, .int .u16 u.b.nz, .int .u16 u.c.pd, .int .u16 u.c.ct, .int .u8 u.c.ld, .bool u.c.hi, .int .u16 u.c.nz, .int .i64 16] #[.int .u16 u.a.pd, .int .u16 u.a.ct, .int .u8 u.a.ld, .bool u.a.hi, .int .u16 u.a.nz, .int .u16 u.b.pd, .int .u16 u.b.ct, .int .u8 u.b.ld, .bool u.b.hi, .int .u16 u.b.nz, .int .u16 u.c.pd, .int .u16 u.c.ct, .int .u8 u.c.ld, .bool u.c.hi, .int .u16 u.c.nz] kB Tryz.underlying34 ?_))
     refine (RA.out _).mono ?_
     rintro e w7 ⟨rfl, hb7⟩
     clear vi
     have Kw7_0 : Hid (Blk w7 (w.heap.size) #[.int .u16 u.a.pd, .int .u16 u.a.ct, .int .u8 u.a.ld, .bool u.a.hi, .int .u16 u.a.nz, .int .u16 u.b.pd, .int .u16 u.b.ct, .int .u8 u.b.ld, .bool u.b.hi, .int .u16 u.b.nz, .int .u16 u.c.pd, .int .u16 u.c.ct, .int .u8 u.c.ld, .bool u.c.hi, .int .u16 u.c.nz, .int .i64 (16)] 36) := Lib.hid kB
     have Kw7_1 : Hid (Blk w7 (w.heap.size + 1) #[.int .u16 0, .int .u16 0, .int .u8 0, .bool false, .int .u16 0, .int .u16 0, .int .u16 0, .int .u8 0, .bool false, .int .u16 0, .int .u16 0, .int .u16 0, .int .u8 0, .bool false, .int .u16 0, .int .i64 0] 36) := Lib.hid kB
     clear Kw6_0 cw6_0 fw6_0 Kw6_1 cw6_1 fw6_1
     obtain ⟨lw7_0, cw7_0, fw7_0⟩ := Kw7_0.out.use
     obtain ⟨lw7_1, cw7_1, fw7_1⟩ := Kw7_1.out.use
     go_wp2_with (first | ((with_reducible show wpList _ _ _ _ _ _); refine lA 34 39 rfl rfl (w.heap.size) (0) 15 rfl 36 #[.int .u16 u.a.pd, .int .u16 u.a.ct, .int .u8 u.a.ld, .bool u.a.hi, .int .u16 u.a.nz, .int .u16 u.b.pd, .int .u16 u.b.ct, .int .u8 u.b.ld, .bool u.b.hi, .int .u16 u.b.nz, .int .u16 u.c.pd, .int .u16 u.c.ct, .int .u8 u.c.ld, .bool u.c.hi, .int .u16 u.c.nz, .int .i64 16] #[.int .u16 u.a.pd, .int .u16 u.a.ct, .int .u8 u.a.ld, .bool u.a.hi, .int .u16 u.a.nz, .int .u16 u.b.pd, .int .u16 u.b.ct, .int .u8 u.b.ld, .bool u.b.hi, .int .u16 u.b.nz, .int .u16 u.c.pd, .int .u16 u.c.ct, .int .u8 u.c.ld, .bool u.c.hi, .int .u16 u.c.nz] kB Tryz.underlying34 ?_))
     rw [rounds_succ]
     refine wp_mark (R := fun W => Below w.heap.size w W ∧ Hid (Blk W (w.heap.size) (#[.int .u16 A.pd, .int .u16 A.ct, .int .u8 A.ld, .bool A.hi, .int .u16 A.nz, .int .u16 u.b.pd, .int .u16 u.b.ct, .int .u8 u.b.ld, .bool u.b.hi, .int .u16 u.b.nz, .int .u16 u.c.pd, .int .u16 u.c.ct, .int .u8 u.c.ld, .bool u.c.hi, .int .u16 u.c.nz, .int .i64 (16)]) 36) ∧ Hid (Blk W (w.heap.size + 1) (#[.int .u16 0, .int .u16 0, .int .u8 0, .bool false, .int .u16 0, .int .u16 0, .int .u16 0, .int .u8 0, .bool false, .int .u16 0, .int .u16 0, .int .u16 0, .int .u8 0, .bool false, .int .u16 0, .int .i64 0]) 36) ∧ Hid (W.ownsRow (w.heap.size + 2) 5 1 (.slice ao' (xs.length + 1) cp') (xs.length + 1) (xs.map (Value.int .u8) ++ [.int .u8 L]))) ⟨kL, Lib.hid kB, Lib.hid kB, Lib.hid kOw⟩ ?_
     rintro w8 ⟨hbw8, Kw8_0, Kw8_1, KO8⟩
     clear Kw7_0 cw7_0 fw7_0 Kw7_1 cw7_1 fw7_1
     obtain ⟨lw8_0, cw8_0, fw8_0⟩ := Kw8_0.out.use
     obtain ⟨lw8_1, cw8_1, fw8_1⟩ := Kw8_1.out.use
     have vi := fun w => (vidx u w).2.1
     go_wp2_with (first | ((with_reducible show wpList _ _ _ _ _ _); refine lA 34 39 rfl rfl (w.heap.size) (0) 15 rfl 36 #[.int .u16 u.a.pd, .int .u16 u.a.ct, .int .u8 u.a.ld, .bool u.a.hi, .int .u16 u.a.nz, .int .u16 u.b.pd, .int .u16 u.b.ct, .int .u8 u.b.ld, .bool u.b.hi, .int .u16 u.b.nz, .int .u16 u.c.pd, .int .u16 u.c.ct, .int .u8 u.c.ld, .bool u.c.hi, .int .u16 u.c.nz, .int .i64 16] #[.int .u16 u.a.pd, .int .u16 u.a.ct, .int .u8 u.a.ld, .bool u.a.hi, .int .u16 u.a.nz, .int .u16 u.b.pd, .int .u16 u.b.ct, .int .u8 u.b.ld, .bool u.b.hi, .int .u16 u.b.nz, .int .u16 u.c.pd, .int .u16 u.c.ct, .int .u8 u.c.ld, .bool u.c.hi, .int .u16 u.c.nz] kB Tryz.underlying34 ?_))
     refine (RB.out _).mono ?_
     rintro e w9 ⟨rfl, hb9⟩
     clear vi
     have Kw9_0 : Hid (Blk w9 (w.heap.size) #[.int .u16 A.pd, .int .u16 A.ct, .int .u8 A.ld, .bool A.hi, .int .u16 A.nz, .int .u16 u.b.pd, .int .u16 u.b.ct, .int .u8 u.b.ld, .bool u.b.hi, .int .u16 u.b.nz, .int .u16 u.c.pd, .int .u16 u.c.ct, .int .u8 u.c.ld, .bool u.c.hi, .int .u16 u.c.nz, .int .i64 (16)] 36) := Lib.hid kB
     have Kw9_1 : Hid (Blk w9 (w.heap.size + 1) #[.int .u16 0, .int .u16 0, .int .u8 0, .bool false, .int .u16 0, .int .u16 0, .int .u16 0, .int .u8 0, .bool false, .int .u16 0, .int .u16 0, .int .u16 0, .int .u8 0, .bool false, .int .u16 0, .int .i64 0] 36) := Lib.hid kB
     clear Kw8_0 cw8_0 fw8_0 Kw8_1 cw8_1 fw8_1
     obtain ⟨lw9_0, cw9_0, fw9_0⟩ := Kw9_0.out.use
     obtain ⟨lw9_1, cw9_1, fw9_1⟩ := Kw9_1.out.use
     go_wp2_with (first | ((with_reducible show wpList _ _ _ _ _ _); refine lA 34 39 rfl rfl (w.heap.size) (0) 15 rfl 36 #[.int .u16 u.a.pd, .int .u16 u.a.ct, .int .u8 u.a.ld, .bool u.a.hi, .int .u16 u.a.nz, .int .u16 u.b.pd, .int .u16 u.b.ct, .int .u8 u.b.ld, .bool u.b.hi, .int .u16 u.b.nz, .int .u16 u.c.pd, .int .u16 u.c.ct, .int .u8 u.c.ld, .bool u.c.hi, .int .u16 u.c.nz, .int .i64 16] #[.int .u16 u.a.pd, .int .u16 u.a.ct, .int .u8 u.a.ld, .bool u.a.hi, .int .u16 u.a.nz, .int .u16 u.b.pd, .int .u16 u.b.ct, .int .u8 u.b.ld, .bool u.b.hi, .int .u16 u.b.nz, .int .u16 u.c.pd, .int .u16 u.c.ct, .int .u8 u.c.ld, .bool u.c.hi, .int .u16 u.c.nz] kB Tryz.underlying34 ?_))
     rw [rounds_succ]
     refine wp_mark (R := fun W => Below w.heap.size w W ∧ Hid (Blk W (w.heap.size) (#[.int .u16 A.pd, .int .u16 A.ct, .int .u8 A.ld, .bool A.hi, .int .u16 A.nz, .int .u16 B.pd, .int .u16 B.ct, .int .u8 B.ld, .bool B.hi, .int .u16 B.nz, .int .u16 u.c.pd, .int .u16 u.c.ct, .int .u8 u.c.ld, .bool u.c.hi, .int .u16 u.c.nz, .int .i64 (16)]) 36) ∧ Hid (Blk W (w.heap.size + 1) (#[.int .u16 0, .int .u16 0, .int .u8 0, .bool false, .int .u16 0, .int .u16 0, .int .u16 0, .int .u8 0, .bool false, .int .u16 0, .int .u16 0, .int .u16 0, .int .u8 0, .bool false, .int .u16 0, .int .i64 0]) 36) ∧ Hid (W.ownsRow (w.heap.size + 2) 5 1 (.slice ao' (xs.length + 1) cp') (xs.length + 1) (xs.map (Value.int .u8) ++ [.int .u8 L]))) ⟨kL, Lib.hid kB, Lib.hid kB, Lib.hid kOw⟩ ?_
     rintro w10 ⟨hbw10, Kw10_0, Kw10_1, KO10⟩
     clear Kw9_0 cw9_0 fw9_0 Kw9_1 cw9_1 fw9_1
     obtain ⟨lw10_0, cw10_0, fw10_0⟩ := Kw10_0.out.use
     obtain ⟨lw10_1, cw10_1, fw10_1⟩ := Kw10_1.out.use
     have vi := fun w => (vidx u w).2.2
     go_wp2_with (first | ((with_reducible show wpList _ _ _ _ _ _); refine lA 34 39 rfl rfl (w.heap.size) (0) 15 rfl 36 #[.int .u16 u.a.pd, .int .u16 u.a.ct, .int .u8 u.a.ld, .bool u.a.hi, .int .u16 u.a.nz, .int .u16 u.b.pd, .int .u16 u.b.ct, .int .u8 u.b.ld, .bool u.b.hi, .int .u16 u.b.nz, .int .u16 u.c.pd, .int .u16 u.c.ct, .int .u8 u.c.ld, .bool u.c.hi, .int .u16 u.c.nz, .int .i64 16] #[.int .u16 u.a.pd, .int .u16 u.a.ct, .int .u8 u.a.ld, .bool u.a.hi, .int .u16 u.a.nz, .int .u16 u.b.pd, .int .u16 u.b.ct, .int .u8 u.b.ld, .bool u.b.hi, .int .u16 u.b.nz, .int .u16 u.c.pd, .int .u16 u.c.ct, .int .u8 u.c.ld, .bool u.c.hi, .int .u16 u.c.nz] kB Tryz.underlying34 ?_))
     refine (RC.out _).mono ?_
     rintro e w11 ⟨rfl, hb11⟩
     clear vi
     have Kw11_0 : Hid (Blk w11 (w.heap.size) #[.int .u16 A.pd, .int .u16 A.ct, .int .u8 A.ld, .bool A.hi, .int .u16 A.nz, .int .u16 B.pd, .int .u16 B.ct, .int .u8 B.ld, .bool B.hi, .int .u16 B.nz, .int .u16 u.c.pd, .int .u16 u.c.ct, .int .u8 u.c.ld, .bool u.c.hi, .int .u16 u.c.nz, .int .i64 (16)] 36) := Lib.hid kB
     have Kw11_1 : Hid (Blk w11 (w.heap.size + 1) #[.int .u16 0, .int .u16 0, .int .u8 0, .bool false, .int .u16 0, .int .u16 0, .int .u16 0, .int .u8 0, .bool false, .int .u16 0, .int .u16 0, .int .u16 0, .int .u8 0, .bool false, .int .u16 0, .int .i64 0] 36) := Lib.hid kB
     clear Kw10_0 cw10_0 fw10_0 Kw10_1 cw10_1 fw10_1
     obtain ⟨lw11_0, cw11_0, fw11_0⟩ := Kw11_0.out.use
     obtain ⟨lw11_1, cw11_1, fw11_1⟩ := Kw11_1.out.use
     go_wp2_with (first | ((with_reducible show wpList _ _ _ _ _ _); refine lA 34 39 rfl rfl (w.heap.size) (0) 15 rfl 36 #[.int .u16 u.a.pd, .int .u16 u.a.ct, .int .u8 u.a.ld, .bool u.a.hi, .int .u16 u.a.nz, .int .u16 u.b.pd, .int .u16 u.b.ct, .int .u8 u.b.ld, .bool u.b.hi, .int .u16 u.b.nz, .int .u16 u.c.pd, .int .u16 u.c.ct, .int .u8 u.c.ld, .bool u.c.hi, .int .u16 u.c.nz, .int .i64 16] #[.int .u16 u.a.pd, .int .u16 u.a.ct, .int .u8 u.a.ld, .bool u.a.hi, .int .u16 u.a.nz, .int .u16 u.b.pd, .int .u16 u.b.ct, .int .u8 u.b.ld, .bool u.b.hi, .int .u16 u.b.nz, .int .u16 u.c.pd, .int .u16 u.c.ct, .int .u8 u.c.ld, .bool u.c.hi, .int .u16 u.c.nz] kB Tryz.underlying34 ?_))
     rw [rounds_succ]
     refine wp_mark (R := fun W => Below w.heap.size w W ∧ Hid (Blk W (w.heap.size) (#[.int .u16 A.pd, .int .u16 A.ct, .int .u8 A.ld, .bool A.hi, .int .u16 A.nz, .int .u16 B.pd, .int .u16 B.ct, .int .u8 B.ld, .bool B.hi, .int .u16 B.nz, .int .u16 C.pd, .int .u16 C.ct, .int .u8 C.ld, .bool C.hi, .int .u16 C.nz, .int .i64 (16)]) 36) ∧ Hid (Blk W (w.heap.size + 1) (#[.int .u16 0, .int .u16 0, .int .u8 0, .bool false, .int .u16 0, .int .u16 0, .int .u16 0, .int .u8 0, .bool false, .int .u16 0, .int .u16 0, .int .u16 0, .int .u8 0, .bool false, .int .u16 0, .int .i64 0]) 36) ∧ Hid (W.ownsRow (w.heap.size + 2) 5 1 (.slice ao' (xs.length + 1) cp') (xs.length + 1) (xs.map (Value.int .u8) ++ [.int .u8 L]))) ⟨kL, Lib.hid kB, Lib.hid kB, Lib.hid kOw⟩ ?_
     rintro w12 ⟨hbw12, Kw12_0, Kw12_1, KO12⟩
     clear Kw11_0 cw11_0 fw11_0 Kw11_1 cw11_1 fw11_1
     obtain ⟨lw12_0, cw12_0, fw12_0⟩ := Kw12_0.out.use
     obtain ⟨lw12_1, cw12_1, fw12_1⟩ := Kw12_1.out.use
     have KO := Lib.hid (KO12.out)
     go_wp2_with (first | ((with_reducible show wpList _ _ _ _ _ _); refine lA 34 39 rfl rfl (w.heap.size) (0) 15 rfl 36 #[.int .u16 u.a.pd, .int .u16 u.a.ct, .int .u8 u.a.ld, .bool u.a.hi, .int .u16 u.a.nz, .int .u16 u.b.pd, .int .u16 u.b.ct, .int .u8 u.b.ld, .bool u.b.hi, .int .u16 u.b.nz, .int .u16 u.c.pd, .int .u16 u.c.ct, .int .u8 u.c.ld, .bool u.c.hi, .int .u16 u.c.nz, .int .i64 16] #[.int .u16 u.a.pd, .int .u16 u.a.ct, .int .u8 u.a.ld, .bool u.a.hi, .int .u16 u.a.nz, .int .u16 u.b.pd, .int .u16 u.b.ct, .int .u8 u.b.ld, .bool u.b.hi, .int .u16 u.b.nz, .int .u16 u.c.pd, .int .u16 u.c.ct, .int .u8 u.c.ld, .bool u.c.hi, .int .u16 u.c.nz] kB Tryz.underlying34 ?_) | go_in)
     go_roundw
     case rel =>
      refine ⟨m - (((m : Int) : Int).toNat), ⟨A, B, C, 16 - (m : Int)⟩, xs ++ [L], ao', cp', by omega, GO.out, Lib.hid ?_, Lib.hid ?_, ?_, ?_, kL, Lib.hid kB, Lib.hid kB, Lib.hid ?_⟩
      ·rw [← hx.out, ← GX.out]; simp [HL.out]
      ·rw [← hy.out, ← GY.out]
      ·congr 1; omega
      ·simp
      ·have KO2 := KO.out
       simp only [List.map_append, List.length_append, List.map_cons, List.map_nil, List.length_cons, List.length_nil, Nat.zero_add]
       have KO3 := Lib.hid KO2
       exact kOw
     case measure => simp [intOf]; omega
    ·have hK' : 16 < (m : Int) := by omega
     clear hK
     have hK0 : (0 : Int) ≤ 16 := by omega
     have hK1 : (16 : Int) ≤ 20000 := by omega
     have RA := Lib.hid (vrun_int u.a ua (16) hK0 hK1)
     have RB := Lib.hid (vrun_int u.b ub (16) hK0 hK1)
     have RC := Lib.hid (vrun_int u.c uc (16) hK0 hK1)
     obtain ⟨gok, gx, gy⟩ := heard_step u HU.out m ((16 : Int).toNat) hw0 kO kO kO
     rw [show goSd u ((16 : Int).toNat) (16 - (((16 : Int).toNat : Nat) : Int)) = ⟨runV u.a ((16 : Int).toNat), runV u.b ((16 : Int).toNat), runV u.c ((16 : Int).toNat), 16 - 16⟩ from by unfold goSd; first | (congr 1; done) | (congr 1; omega)] at gok gx gy
     generalize runV u.a ((16 : Int).toNat) = A at *
     generalize runV u.b ((16 : Int).toNat) = B at *
     generalize runV u.c ((16 : Int).toNat) = C at *
     have GO := Lib.hid gok
     have GX := Lib.hid gx
     have GY := Lib.hid gy
     clear gok gx gy
     go_wp2_with (first | ((with_reducible show wpList _ _ _ _ _ _); refine lA 34 39 rfl rfl (w.heap.size) (0) 15 rfl 36 #[.int .u16 u.a.pd, .int .u16 u.a.ct, .int .u8 u.a.ld, .bool u.a.hi, .int .u16 u.a.nz, .int .u16 u.b.pd, .int .u16 u.b.ct, .int .u8 u.b.ld, .bool u.b.hi, .int .u16 u.b.nz, .int .u16 u.c.pd, .int .u16 u.c.ct, .int .u8 u.c.ld, .bool u.c.hi, .int .u16 u.c.nz, .int .i64 16] #[.int .u16 u.a.pd, .int .u16 u.a.ct, .int .u8 u.a.ld, .bool u.a.hi, .int .u16 u.a.nz, .int .u16 u.b.pd, .int .u16 u.b.ct, .int .u8 u.b.ld, .bool u.b.hi, .int .u16 u.b.nz, .int .u16 u.c.pd, .int .u16 u.c.ct, .int .u8 u.c.ld, .bool u.c.hi, .int .u16 u.c.nz] kB Tryz.underlying34 ?_))
     refine wp_loop_rounds 4 ?_
     rw [rounds_succ]
     refine wp_mark (R := fun W => Below w.heap.size w W ∧ Hid (Blk W (w.heap.size) (#[.int .u16 u.a.pd, .int .u16 u.a.ct, .int .u8 u.a.ld, .bool u.a.hi, .int .u16 u.a.nz, .int .u16 u.b.pd, .int .u16 u.b.ct, .int .u8 u.b.ld, .bool u.b.hi, .int .u16 u.b.nz, .int .u16 u.c.pd, .int .u16 u.c.ct, .int .u8 u.c.ld, .bool u.c.hi, .int .u16 u.c.nz, .int .i64 (16)]) 36) ∧ Hid (Blk W (w.heap.size + 1) (#[.int .u16 0, .int .u16 0, .int .u8 0, .bool false, .int .u16 0, .int .u16 0, .int .u16 0, .int .u8 0, .bool false, .int .u16 0, .int .u16 0, .int .u16 0, .int .u8 0, .bool false, .int .u16 0, .int .i64 0]) 36) ∧ Hid (W.ownsRow (w.heap.size + 2) 5 1 (.slice ao' (xs.length + 1) cp') (xs.length + 1) (xs.map (Value.int .u8) ++ [.int .u8 L]))) ⟨kL, Lib.hid kB, Lib.hid kB, Lib.hid kOw⟩ ?_
     rintro w6 ⟨hbw6, Kw6_0, Kw6_1, KO6⟩
     obtain ⟨lw6_0, cw6_0, fw6_0⟩ := Kw6_0.out.use
     obtain ⟨lw6_1, cw6_1, fw6_1⟩ := Kw6_1.out.use
     have vi := fun w => (vidx u w).1
     go_wp2_with (first | ((with_reducible show wpList _ _ _ _ _ _); refine lA 34 39 rfl rfl (w.heap.size) (0) 15 rfl 36 #[.int .u16 u.a.pd, .int .u16 u.a.ct, .int .u8 u.a.ld, .bool u.a.hi, .int .u16 u.a.nz, .int .u16 u.b.pd, .int .u16 u.b.ct, .int .u8 u.b.ld, .bool u.b.hi, .int .u16 u.b.nz, .int .u16 u.c.pd, .int .u16 u.c.ct, .int .u8 u.c.ld, .bool u.c.hi, .int .u16 u.c.nz, .int .i64 16] #[.int .u16 u.a.pd, .int .u16 u.a.ct, .int .u8 u.a.ld, .bool u.a.hi, .int .u16 u.a.nz, .int .u16 u.b.pd, .int .u16 u.b.ct, .int .u8 u.b.ld, .bool u.b.hi, .int .u16 u.b.nz, .int .u16 u.c.pd, .int .u16 u.c.ct, .int .u8 u.c.ld, .bool u.c.hi, .int .u16 u.c.nz] kB Tryz.underlying34 ?_))
     refine (RA.out _).mono ?_
     rintro e w7 ⟨rfl, hb7⟩
     clear vi
     have Kw7_0 : Hid (Blk w7 (w.heap.size) #[.int .u16 u.a.pd, .int .u16 u.a.ct, .int .u8 u.a.ld, .bool u.a.hi, .int .u16 u.a.nz, .int .u16 u.b.pd, .int .u16 u.b.ct, .int .u8 u.b.ld, .bool u.b.hi, .int .u16 u.b.nz, .int .u16 u.c.pd, .int .u16 u.c.ct, .int .u8 u.c.ld, .bool u.c.hi, .int .u16 u.c.nz, .int .i64 (16)] 36) := Lib.hid kB
     have Kw7_1 : Hid (Blk w7 (w.heap.size + 1) #[.int .u16 0, .int .u16 0, .int .u8 0, .bool false, .int .u16 0, .int .u16 0, .int .u16 0, .int .u8 0, .bool false, .int .u16 0, .int .u16 0, .int .u16 0, .int .u8 0, .bool false, .int .u16 0, .int .i64 0] 36) := Lib.hid kB
     clear Kw6_0 cw6_0 fw6_0 Kw6_1 cw6_1 fw6_1
     obtain ⟨lw7_0, cw7_0, fw7_0⟩ := Kw7_0.out.use
     obtain ⟨lw7_1, cw7_1, fw7_1⟩ := Kw7_1.out.use
     go_wp2_with (first | ((with_reducible show wpList _ _ _ _ _ _); refine lA 34 39 rfl rfl (w.heap.size) (0) 15 rfl 36 #[.int .u16 u.a.pd, .int .u16 u.a.ct, .int .u8 u.a.ld, .bool u.a.hi, .int .u16 u.a.nz, .int .u16 u.b.pd, .int .u16 u.b.ct, .int .u8 u.b.ld, .bool u.b.hi, .int .u16 u.b.nz, .int .u16 u.c.pd, .int .u16 u.c.ct, .int .u8 u.c.ld, .bool u.c.hi, .int .u16 u.c.nz, .int .i64 16] #[.int .u16 u.a.pd, .int .u16 u.a.ct, .int .u8 u.a.ld, .bool u.a.hi, .int .u16 u.a.nz, .int .u16 u.b.pd, .int .u16 u.b.ct, .int .u8 u.b.ld, .bool u.b.hi, .int .u16 u.b.nz, .int .u16 u.c.pd, .int .u16 u.c.ct, .int .u8 u.c.ld, .bool u.c.hi, .int .u16 u.c.nz] kB Tryz.underlying34 ?_))
     rw [rounds_succ]
     refine wp_mark (R := fun W => Below w.heap.size w W ∧ Hid (Blk W (w.heap.size) (#[.int .u16 A.pd, .int .u16 A.ct, .int .u8 A.ld, .bool A.hi, .int .u16 A.nz, .int .u16 u.b.pd, .int .u16 u.b.ct, .int .u8 u.b.ld, .bool u.b.hi, .int .u16 u.b.nz, .int .u16 u.c.pd, .int .u16 u.c.ct, .int .u8 u.c.ld, .bool u.c.hi, .int .u16 u.c.nz, .int .i64 (16)]) 36) ∧ Hid (Blk W (w.heap.size + 1) (#[.int .u16 0, .int .u16 0, .int .u8 0, .bool false, .int .u16 0, .int .u16 0, .int .u16 0, .int .u8 0, .bool false, .int .u16 0, .int .u16 0, .int .u16 0, .int .u8 0, .bool false, .int .u16 0, .int .i64 0]) 36) ∧ Hid (W.ownsRow (w.heap.size + 2) 5 1 (.slice ao' (xs.length + 1) cp') (xs.length + 1) (xs.map (Value.int .u8) ++ [.int .u8 L]))) ⟨kL, Lib.hid kB, Lib.hid kB, Lib.hid kOw⟩ ?_
     rintro w8 ⟨hbw8, Kw8_0, Kw8_1, KO8⟩
     clear Kw7_0 cw7_0 fw7_0 Kw7_1 cw7_1 fw7_1
     obtain ⟨lw8_0, cw8_0, fw8_0⟩ := Kw8_0.out.use
     obtain ⟨lw8_1, cw8_1, fw8_1⟩ := Kw8_1.out.use
     have vi := fun w => (vidx u w).2.1
     go_wp2_with (first | ((with_reducible show wpList _ _ _ _ _ _); refine lA 34 39 rfl rfl (w.heap.size) (0) 15 rfl 36 #[.int .u16 u.a.pd, .int .u16 u.a.ct, .int .u8 u.a.ld, .bool u.a.hi, .int .u16 u.a.nz, .int .u16 u.b.pd, .int .u16 u.b.ct, .int .u8 u.b.ld, .bool u.b.hi, .int .u16 u.b.nz, .int .u16 u.c.pd, .int .u16 u.c.ct, .int .u8 u.c.ld, .bool u.c.hi, .int .u16 u.c.nz, .int .i64 16] #[.int .u16 u.a.pd, .int .u16 u.a.ct, .int .u8 u.a.ld, .bool u.a.hi, .int .u16 u.a.nz, .int .u16 u.b.pd, .int .u16 u.b.ct, .int .u8 u.b.ld, .bool u.b.hi, .int .u16 u.b.nz, .int .u16 u.c.pd, .int .u16 u.c.ct, .int .u8 u.c.ld, .bool u.c.hi, .int .u16 u.c.nz] kB Tryz.underlying34 ?_))
     refine (RB.out _).mono ?_
     rintro e w9 ⟨rfl, hb9⟩
     clear vi
     have Kw9_0 : Hid (Blk w9 (w.heap.size) #[.int .u16 A.pd, .int .u16 A.ct, .int .u8 A.ld, .bool A.hi, .int .u16 A.nz, .int .u16 u.b.pd, .int .u16 u.b.ct, .int .u8 u.b.ld, .bool u.b.hi, .int .u16 u.b.nz, .int .u16 u.c.pd, .int .u16 u.c.ct, .int .u8 u.c.ld, .bool u.c.hi, .int .u16 u.c.nz, .int .i64 (16)] 36) := Lib.hid kB
     have Kw9_1 : Hid (Blk w9 (w.heap.size + 1) #[.int .u16 0, .int .u16 0, .int .u8 0, .bool false, .int .u16 0, .int .u16 0, .int .u16 0, .int .u8 0, .bool false, .int .u16 0, .int .u16 0, .int .u16 0, .int .u8 0, .bool false, .int .u16 0, .int .i64 0] 36) := Lib.hid kB
     clear Kw8_0 cw8_0 fw8_0 Kw8_1 cw8_1 fw8_1
     obtain ⟨lw9_0, cw9_0, fw9_0⟩ := Kw9_0.out.use
     obtain ⟨lw9_1, cw9_1, fw9_1⟩ := Kw9_1.out.use
     go_wp2_with (first | ((with_reducible show wpList _ _ _ _ _ _); refine lA 34 39 rfl rfl (w.heap.size) (0) 15 rfl 36 #[.int .u16 u.a.pd, .int .u16 u.a.ct, .int .u8 u.a.ld, .bool u.a.hi, .int .u16 u.a.nz, .int .u16 u.b.pd, .int .u16 u.b.ct, .int .u8 u.b.ld, .bool u.b.hi, .int .u16 u.b.nz, .int .u16 u.c.pd, .int .u16 u.c.ct, .int .u8 u.c.ld, .bool u.c.hi, .int .u16 u.c.nz, .int .i64 16] #[.int .u16 u.a.pd, .int .u16 u.a.ct, .int .u8 u.a.ld, .bool u.a.hi, .int .u16 u.a.nz, .int .u16 u.b.pd, .int .u16 u.b.ct, .int .u8 u.b.ld, .bool u.b.hi, .int .u16 u.b.nz, .int .u16 u.c.pd, .int .u16 u.c.ct, .int .u8 u.c.ld, .bool u.c.hi, .int .u16 u.c.nz] kB Tryz.underlying34 ?_))
     rw [rounds_succ]
     refine wp_mark (R := fun W => Below w.heap.size w W ∧ Hid (Blk W (w.heap.size) (#[.int .u16 A.pd, .int .u16 A.ct, .int .u8 A.ld, .bool A.hi, .int .u16 A.nz, .int .u16 B.pd, .int .u16 B.ct, .int .u8 B.ld, .bool B.hi, .int .u16 B.nz, .int .u16 u.c.pd, .int .u16 u.c.ct, .int .u8 u.c.ld, .bool u.c.hi, .int .u16 u.c.nz, .int .i64 (16)]) 36) ∧ Hid (Blk W (w.heap.size + 1) (#[.int .u16 0, .int .u16 0, .int .u8 0, .bool false, .int .u16 0, .int .u16 0, .int .u16 0, .int .u8 0, .bool false, .int .u16 0, .int .u16 0, .int .u16 0, .int .u8 0, .bool false, .int .u16 0, .int .i64 0]) 36) ∧ Hid (W.ownsRow (w.heap.size + 2) 5 1 (.slice ao' (xs.length + 1) cp') (xs.length + 1) (xs.map (Value.int .u8) ++ [.int .u8 L]))) ⟨kL, Lib.hid kB, Lib.hid kB, Lib.hid kOw⟩ ?_
     rintro w10 ⟨hbw10, Kw10_0, Kw10_1, KO10⟩
     clear Kw9_0 cw9_0 fw9_0 Kw9_1 cw9_1 fw9_1
     obtain ⟨lw10_0, cw10_0, fw10_0⟩ := Kw10_0.out.use
     obtain ⟨lw10_1, cw10_1, fw10_1⟩ := Kw10_1.out.use
     have vi := fun w => (vidx u w).2.2
     go_wp2_with (first | ((with_reducible show wpList _ _ _ _ _ _); refine lA 34 39 rfl rfl (w.heap.size) (0) 15 rfl 36 #[.int .u16 u.a.pd, .int .u16 u.a.ct, .int .u8 u.a.ld, .bool u.a.hi, .int .u16 u.a.nz, .int .u16 u.b.pd, .int .u16 u.b.ct, .int .u8 u.b.ld, .bool u.b.hi, .int .u16 u.b.nz, .int .u16 u.c.pd, .int .u16 u.c.ct, .int .u8 u.c.ld, .bool u.c.hi, .int .u16 u.c.nz, .int .i64 16] #[.int .u16 u.a.pd, .int .u16 u.a.ct, .int .u8 u.a.ld, .bool u.a.hi, .int .u16 u.a.nz, .int .u16 u.b.pd, .int .u16 u.b.ct, .int .u8 u.b.ld, .bool u.b.hi, .int .u16 u.b.nz, .int .u16 u.c.pd, .int .u16 u.c.ct, .int .u8 u.c.ld, .bool u.c.hi, .int .u16 u.c.nz] kB Tryz.underlying34 ?_))
     refine (RC.out _).mono ?_
     rintro e w11 ⟨rfl, hb11⟩
     clear vi
     have Kw11_0 : Hid (Blk w11 (w.heap.size) #[.int .u16 A.pd, .int .u16 A.ct, .int .u8 A.ld, .bool A.hi, .int .u16 A.nz, .int .u16 B.pd, .int .u16 B.ct, .int .u8 B.ld, .bool B.hi, .int .u16 B.nz, .int .u16 u.c.pd, .int .u16 u.c.ct, .int .u8 u.c.ld, .bool u.c.hi, .int .u16 u.c.nz, .int .i64 (16)] 36) := Lib.hid kB
     have Kw11_1 : Hid (Blk w11 (w.heap.size + 1) #[.int .u16 0, .int .u16 0, .int .u8 0, .bool false, .int .u16 0, .int .u16 0, .int .u16 0, .int .u8 0, .bool false, .int .u16 0, .int .u16 0, .int .u16 0, .int .u8 0, .bool false, .int .u16 0, .int .i64 0] 36) := Lib.hid kB
     clear Kw10_0 cw10_0 fw10_0 Kw10_1 cw10_1 fw10_1
     obtain ⟨lw11_0, cw11_0, fw11_0⟩ := Kw11_0.out.use
     obtain ⟨lw11_1, cw11_1, fw11_1⟩ := Kw11_1.out.use
     go_wp2_with (first | ((with_reducible show wpList _ _ _ _ _ _); refine lA 34 39 rfl rfl (w.heap.size) (0) 15 rfl 36 #[.int .u16 u.a.pd, .int .u16 u.a.ct, .int .u8 u.a.ld, .bool u.a.hi, .int .u16 u.a.nz, .int .u16 u.b.pd, .int .u16 u.b.ct, .int .u8 u.b.ld, .bool u.b.hi, .int .u16 u.b.nz, .int .u16 u.c.pd, .int .u16 u.c.ct, .int .u8 u.c.ld, .bool u.c.hi, .int .u16 u.c.nz, .int .i64 16] #[.int .u16 u.a.pd, .int .u16 u.a.ct, .int .u8 u.a.ld, .bool u.a.hi, .int .u16 u.a.nz, .int .u16 u.b.pd, .int .u16 u.b.ct, .int .u8 u.b.ld, .bool u.b.hi, .int .u16 u.b.nz, .int .u16 u.c.pd, .int .u16 u.c.ct, .int .u8 u.c.ld, .bool u.c.hi, .int .u16 u.c.nz] kB Tryz.underlying34 ?_))
     rw [rounds_succ]
     refine wp_mark (R := fun W => Below w.heap.size w W ∧ Hid (Blk W (w.heap.size) (#[.int .u16 A.pd, .int .u16 A.ct, .int .u8 A.ld, .bool A.hi, .int .u16 A.nz, .int .u16 B.pd, .int .u16 B.ct, .int .u8 B.ld, .bool B.hi, .int .u16 B.nz, .int .u16 C.pd, .int .u16 C.ct, .int .u8 C.ld, .bool C.hi, .int .u16 C.nz, .int .i64 (16)]) 36) ∧ Hid (Blk W (w.heap.size + 1) (#[.int .u16 0, .int .u16 0, .int .u8 0, .bool false, .int .u16 0, .int .u16 0, .int .u16 0, .int .u8 0, .bool false, .int .u16 0, .int .u16 0, .int .u16 0, .int .u8 0, .bool false, .int .u16 0, .int .i64 0]) 36) ∧ Hid (W.ownsRow (w.heap.size + 2) 5 1 (.slice ao' (xs.length + 1) cp') (xs.length + 1) (xs.map (Value.int .u8) ++ [.int .u8 L]))) ⟨kL, Lib.hid kB, Lib.hid kB, Lib.hid kOw⟩ ?_
     rintro w12 ⟨hbw12, Kw12_0, Kw12_1, KO12⟩
     clear Kw11_0 cw11_0 fw11_0 Kw11_1 cw11_1 fw11_1
     obtain ⟨lw12_0, cw12_0, fw12_0⟩ := Kw12_0.out.use
     obtain ⟨lw12_1, cw12_1, fw12_1⟩ := Kw12_1.out.use
     have KO := Lib.hid (KO12.out)
     go_wp2_with (first | ((with_reducible show wpList _ _ _ _ _ _); refine lA 34 39 rfl rfl (w.heap.size) (0) 15 rfl 36 #[.int .u16 u.a.pd, .int .u16 u.a.ct, .int .u8 u.a.ld, .bool u.a.hi, .int .u16 u.a.nz, .int .u16 u.b.pd, .int .u16 u.b.ct, .int .u8 u.b.ld, .bool u.b.hi, .int .u16 u.b.nz, .int .u16 u.c.pd, .int .u16 u.c.ct, .int .u8 u.c.ld, .bool u.c.hi, .int .u16 u.c.nz, .int .i64 16] #[.int .u16 u.a.pd, .int .u16 u.a.ct, .int .u8 u.a.ld, .bool u.a.hi, .int .u16 u.a.nz, .int .u16 u.b.pd, .int .u16 u.b.ct, .int .u8 u.b.ld, .bool u.b.hi, .int .u16 u.b.nz, .int .u16 u.c.pd, .int .u16 u.c.ct, .int .u8 u.c.ld, .bool u.c.hi, .int .u16 u.c.nz] kB Tryz.underlying34 ?_) | go_in)
     go_roundw
     case rel =>
      refine ⟨m - ((16 : Int).toNat), ⟨A, B, C, 16 - 16⟩, xs ++ [L], ao', cp', by omega, GO.out, Lib.hid ?_, Lib.hid ?_, ?_, ?_, kL, Lib.hid kB, Lib.hid kB, Lib.hid ?_⟩
      ·rw [← hx.out, ← GX.out]; simp [HL.out]
      ·rw [← hy.out, ← GY.out]
      ·congr 1; omega
      ·simp
      ·have KO2 := KO.out
       simp only [List.map_append, List.length_append, List.map_cons, List.map_nil, List.length_cons, List.length_nil, Nat.zero_add]
       have KO3 := Lib.hid KO2
       exact kOw
     case measure => simp [intOf]; omega
   ·have hw1 : 1 ≤ u.wt := by omega
    have KO0 := KO
    by_cases hK : (m : Int) ≤ u.wt
    ·have hK0 : (0 : Int) ≤ (m : Int) := by omega
     have hK1 : ((m : Int) : Int) ≤ 20000 := by omega
     have RA := Lib.hid (vrun_int u.a ua ((m : Int)) hK0 hK1)
     have RB := Lib.hid (vrun_int u.b ub ((m : Int)) hK0 hK1)
     have RC := Lib.hid (vrun_int u.c uc ((m : Int)) hK0 hK1)
     obtain ⟨gok, gx, gy⟩ := wait_step u HU.out m (((m : Int) : Int).toNat) kO kO
     rw [show goSd u (((m : Int) : Int).toNat) (u.wt - ((((m : Int) : Int).toNat : Nat) : Int)) = ⟨runV u.a (((m : Int) : Int).toNat), runV u.b (((m : Int) : Int).toNat), runV u.c (((m : Int) : Int).toNat), u.wt - (m : Int)⟩ from by unfold goSd; first | (congr 1; done) | (congr 1; omega)] at gok gx gy
     generalize runV u.a (((m : Int) : Int).toNat) = A at *
     generalize runV u.b (((m : Int) : Int).toNat) = B at *
     generalize runV u.c (((m : Int) : Int).toNat) = C at *
     have GO := Lib.hid gok
     have GX := Lib.hid gx
     have GY := Lib.hid gy
     clear gok gx gy
     go_wp2_with (first | ((with_reducible show wpList _ _ _ _ _ _); refine lA 34 39 rfl rfl (w.heap.size) (0) 15 rfl 36 #[.int .u16 u.a.pd, .int .u16 u.a.ct, .int .u8 u.a.ld, .bool u.a.hi, .int .u16 u.a.nz, .int .u16 u.b.pd, .int .u16 u.b.ct, .int .u8 u.b.ld, .bool u.b.hi, .int .u16 u.b.nz, .int .u16 u.c.pd, .int .u16 u.c.ct, .int .u8 u.c.ld, .bool u.c.hi, .int .u16 u.c.nz, .int .i64 u.wt] #[.int .u16 u.a.pd, .int .u16 u.a.ct, .int .u8 u.a.ld, .bool u.a.hi, .int .u16 u.a.nz, .int .u16 u.b.pd, .int .u16 u.b.ct, .int .u8 u.b.ld, .bool u.b.hi, .int .u16 u.b.nz, .int .u16 u.c.pd, .int .u16 u.c.ct, .int .u8 u.c.ld, .bool u.c.hi, .int .u16 u.c.nz] kB Tryz.underlying34 ?_))
     refine wp_loop_rounds 4 ?_
     rw [rounds_succ]
     refine wp_mark (R := fun W => Below w.heap.size w W ∧ Hid (Blk W (w.heap.size) (#[.int .u16 u.a.pd, .int .u16 u.a.ct, .int .u8 u.a.ld, .bool u.a.hi, .int .u16 u.a.nz, .int .u16 u.b.pd, .int .u16 u.b.ct, .int .u8 u.b.ld, .bool u.b.hi, .int .u16 u.b.nz, .int .u16 u.c.pd, .int .u16 u.c.ct, .int .u8 u.c.ld, .bool u.c.hi, .int .u16 u.c.nz, .int .i64 (u.wt)]) 36) ∧ Hid (Blk W (w.heap.size + 1) (#[.int .u16 0, .int .u16 0, .int .u8 0, .bool false, .int .u16 0, .int .u16 0, .int .u16 0, .int .u8 0, .bool false, .int .u16 0, .int .u16 0, .int .u16 0, .int .u8 0, .bool false, .int .u16 0, .int .i64 0]) 36) ∧ Hid (W.ownsRow (w.heap.size + 2) 5 1 (.slice ao xs.length cp) xs.length (xs.map (Value.int .u8)))) ⟨kL, Lib.hid kB, Lib.hid kB, Lib.hid kOw⟩ ?_
     rintro w6 ⟨hbw6, Kw6_0, Kw6_1, KO6⟩
     obtain ⟨lw6_0, cw6_0, fw6_0⟩ := Kw6_0.out.use
     obtain ⟨lw6_1, cw6_1, fw6_1⟩ := Kw6_1.out.use
     have vi := fun w => (vidx u w).1
     go_wp2_with (first | ((with_reducible show wpList _ _ _ _ _ _); refine lA 34 39 rfl rfl (w.heap.size) (0) 15 rfl 36 #[.int .u16 u.a.pd, .int .u16 u.a.ct, .int .u8 u.a.ld, .bool u.a.hi, .int .u16 u.a.nz, .int .u16 u.b.pd, .int .u16 u.b.ct, .int .u8 u.b.ld, .bool u.b.hi, .int .u16 u.b.nz, .int .u16 u.c.pd, .int .u16 u.c.ct, .int .u8 u.c.ld, .bool u.c.hi, .int .u16 u.c.nz, .int .i64 u.wt] #[.int .u16 u.a.pd, .int .u16 u.a.ct, .int .u8 u.a.ld, .bool u.a.hi, .int .u16 u.a.nz, .int .u16 u.b.pd, .int .u16 u.b.ct, .int .u8 u.b.ld, .bool u.b.hi, .int .u16 u.b.nz, .int .u16 u.c.pd, .int .u16 u.c.ct, .int .u8 u.c.ld, .bool u.c.hi, .int .u16 u.c.nz] kB Tryz.underlying34 ?_))
     refine (RA.out _).mono ?_
     rintro e w7 ⟨rfl, hb7⟩
     clear vi
     have Kw7_0 : Hid (Blk w7 (w.heap.size) #[.int .u16 u.a.pd, .int .u16 u.a.ct, .int .u8 u.a.ld, .bool u.a.hi, .int .u16 u.a.nz, .int .u16 u.b.pd, .int .u16 u.b.ct, .int .u8 u.b.ld, .bool u.b.hi, .int .u16 u.b.nz, .int .u16 u.c.pd, .int .u16 u.c.ct, .int .u8 u.c.ld, .bool u.c.hi, .int .u16 u.c.nz, .int .i64 (u.wt)] 36) := Lib.hid kB
     have Kw7_1 : Hid (Blk w7 (w.heap.size + 1) #[.int .u16 0, .int .u16 0, .int .u8 0, .bool false, .int .u16 0, .int .u16 0, .int .u16 0, .int .u8 0, .bool false, .int .u16 0, .int .u16 0, .int .u16 0, .int .u8 0, .bool false, .int .u16 0, .int .i64 0] 36) := Lib.hid kB
     clear Kw6_0 cw6_0 fw6_0 Kw6_1 cw6_1 fw6_1
     obtain ⟨lw7_0, cw7_0, fw7_0⟩ := Kw7_0.out.use
     obtain ⟨lw7_1, cw7_1, fw7_1⟩ := Kw7_1.out.use
     go_wp2_with (first | ((with_reducible show wpList _ _ _ _ _ _); refine lA 34 39 rfl rfl (w.heap.size) (0) 15 rfl 36 #[.int .u16 u.a.pd, .int .u16 u.a.ct, .int .u8 u.a.ld, .bool u.a.hi, .int .u16 u.a.nz, .int .u16 u.b.pd, .int .u16 u.b.ct, .int .u8 u.b.ld, .bool u.b.hi, .int .u16 u.b.nz, .int .u16 u.c.pd, .int .u16 u.c.ct, .int .u8 u.c.ld, .bool u.c.hi, .int .u16 u.c.nz, .int .i64 u.wt] #[.int .u16 u.a.pd, .int .u16 u.a.ct, .int .u8 u.a.ld, .bool u.a.hi, .int .u16 u.a.nz, .int .u16 u.b.pd, .int .u16 u.b.ct, .int .u8 u.b.ld, .bool u.b.hi, .int .u16 u.b.nz, .int .u16 u.c.pd, .int .u16 u.c.ct, .int .u8 u.c.ld, .bool u.c.hi, .int .u16 u.c.nz] kB Tryz.underlying34 ?_))
     rw [rounds_succ]
     refine wp_mark (R := fun W => Below w.heap.size w W ∧ Hid (Blk W (w.heap.size) (#[.int .u16 A.pd, .int .u16 A.ct, .int .u8 A.ld, .bool A.hi, .int .u16 A.nz, .int .u16 u.b.pd, .int .u16 u.b.ct, .int .u8 u.b.ld, .bool u.b.hi, .int .u16 u.b.nz, .int .u16 u.c.pd, .int .u16 u.c.ct, .int .u8 u.c.ld, .bool u.c.hi, .int .u16 u.c.nz, .int .i64 (u.wt)]) 36) ∧ Hid (Blk W (w.heap.size + 1) (#[.int .u16 0, .int .u16 0, .int .u8 0, .bool false, .int .u16 0, .int .u16 0, .int .u16 0, .int .u8 0, .bool false, .int .u16 0, .int .u16 0, .int .u16 0, .int .u8 0, .bool false, .int .u16 0, .int .i64 0]) 36) ∧ Hid (W.ownsRow (w.heap.size + 2) 5 1 (.slice ao xs.length cp) xs.length (xs.map (Value.int .u8)))) ⟨kL, Lib.hid kB, Lib.hid kB, Lib.hid kOw⟩ ?_
     rintro w8 ⟨hbw8, Kw8_0, Kw8_1, KO8⟩
     clear Kw7_0 cw7_0 fw7_0 Kw7_1 cw7_1 fw7_1
     obtain ⟨lw8_0, cw8_0, fw8_0⟩ := Kw8_0.out.use
     obtain ⟨lw8_1, cw8_1, fw8_1⟩ := Kw8_1.out.use
     have vi := fun w => (vidx u w).2.1
     go_wp2_with (first | ((with_reducible show wpList _ _ _ _ _ _); refine lA 34 39 rfl rfl (w.heap.size) (0) 15 rfl 36 #[.int .u16 u.a.pd, .int .u16 u.a.ct, .int .u8 u.a.ld, .bool u.a.hi, .int .u16 u.a.nz, .int .u16 u.b.pd, .int .u16 u.b.ct, .int .u8 u.b.ld, .bool u.b.hi, .int .u16 u.b.nz, .int .u16 u.c.pd, .int .u16 u.c.ct, .int .u8 u.c.ld, .bool u.c.hi, .int .u16 u.c.nz, .int .i64 u.wt] #[.int .u16 u.a.pd, .int .u16 u.a.ct, .int .u8 u.a.ld, .bool u.a.hi, .int .u16 u.a.nz, .int .u16 u.b.pd, .int .u16 u.b.ct, .int .u8 u.b.ld, .bool u.b.hi, .int .u16 u.b.nz, .int .u16 u.c.pd, .int .u16 u.c.ct, .int .u8 u.c.ld, .bool u.c.hi, .int .u16 u.c.nz] kB Tryz.underlying34 ?_))
     refine (RB.out _).mono ?_
     rintro e w9 ⟨rfl, hb9⟩
     clear vi
     have Kw9_0 : Hid (Blk w9 (w.heap.size) #[.int .u16 A.pd, .int .u16 A.ct, .int .u8 A.ld, .bool A.hi, .int .u16 A.nz, .int .u16 u.b.pd, .int .u16 u.b.ct, .int .u8 u.b.ld, .bool u.b.hi, .int .u16 u.b.nz, .int .u16 u.c.pd, .int .u16 u.c.ct, .int .u8 u.c.ld, .bool u.c.hi, .int .u16 u.c.nz, .int .i64 (u.wt)] 36) := Lib.hid kB
     have Kw9_1 : Hid (Blk w9 (w.heap.size + 1) #[.int .u16 0, .int .u16 0, .int .u8 0, .bool false, .int .u16 0, .int .u16 0, .int .u16 0, .int .u8 0, .bool false, .int .u16 0, .int .u16 0, .int .u16 0, .int .u8 0, .bool false, .int .u16 0, .int .i64 0] 36) := Lib.hid kB
     clear Kw8_0 cw8_0 fw8_0 Kw8_1 cw8_1 fw8_1
     obtain ⟨lw9_0, cw9_0, fw9_0⟩ := Kw9_0.out.use
     obtain ⟨lw9_1, cw9_1, fw9_1⟩ := Kw9_1.out.use
     go_wp2_with (first | ((with_reducible show wpList _ _ _ _ _ _); refine lA 34 39 rfl rfl (w.heap.size) (0) 15 rfl 36 #[.int .u16 u.a.pd, .int .u16 u.a.ct, .int .u8 u.a.ld, .bool u.a.hi, .int .u16 u.a.nz, .int .u16 u.b.pd, .int .u16 u.b.ct, .int .u8 u.b.ld, .bool u.b.hi, .int .u16 u.b.nz, .int .u16 u.c.pd, .int .u16 u.c.ct, .int .u8 u.c.ld, .bool u.c.hi, .int .u16 u.c.nz, .int .i64 u.wt] #[.int .u16 u.a.pd, .int .u16 u.a.ct, .int .u8 u.a.ld, .bool u.a.hi, .int .u16 u.a.nz, .int .u16 u.b.pd, .int .u16 u.b.ct, .int .u8 u.b.ld, .bool u.b.hi, .int .u16 u.b.nz, .int .u16 u.c.pd, .int .u16 u.c.ct, .int .u8 u.c.ld, .bool u.c.hi, .int .u16 u.c.nz] kB Tryz.underlying34 ?_))
     rw [rounds_succ]
     refine wp_mark (R := fun W => Below w.heap.size w W ∧ Hid (Blk W (w.heap.size) (#[.int .u16 A.pd, .int .u16 A.ct, .int .u8 A.ld, .bool A.hi, .int .u16 A.nz, .int .u16 B.pd, .int .u16 B.ct, .int .u8 B.ld, .bool B.hi, .int .u16 B.nz, .int .u16 u.c.pd, .int .u16 u.c.ct, .int .u8 u.c.ld, .bool u.c.hi, .int .u16 u.c.nz, .int .i64 (u.wt)]) 36) ∧ Hid (Blk W (w.heap.size + 1) (#[.int .u16 0, .int .u16 0, .int .u8 0, .bool false, .int .u16 0, .int .u16 0, .int .u16 0, .int .u8 0, .bool false, .int .u16 0, .int .u16 0, .int .u16 0, .int .u8 0, .bool false, .int .u16 0, .int .i64 0]) 36) ∧ Hid (W.ownsRow (w.heap.size + 2) 5 1 (.slice ao xs.length cp) xs.length (xs.map (Value.int .u8)))) ⟨kL, Lib.hid kB, Lib.hid kB, Lib.hid kOw⟩ ?_
     rintro w10 ⟨hbw10, Kw10_0, Kw10_1, KO10⟩
     clear Kw9_0 cw9_0 fw9_0 Kw9_1 cw9_1 fw9_1
     obtain ⟨lw10_0, cw10_0, fw10_0⟩ := Kw10_0.out.use
     obtain ⟨lw10_1, cw10_1, fw10_1⟩ := Kw10_1.out.use
     have vi := fun w => (vidx u w).2.2
     go_wp2_with (first | ((with_reducible show wpList _ _ _ _ _ _); refine lA 34 39 rfl rfl (w.heap.size) (0) 15 rfl 36 #[.int .u16 u.a.pd, .int .u16 u.a.ct, .int .u8 u.a.ld, .bool u.a.hi, .int .u16 u.a.nz, .int .u16 u.b.pd, .int .u16 u.b.ct, .int .u8 u.b.ld, .bool u.b.hi, .int .u16 u.b.nz, .int .u16 u.c.pd, .int .u16 u.c.ct, .int .u8 u.c.ld, .bool u.c.hi, .int .u16 u.c.nz, .int .i64 u.wt] #[.int .u16 u.a.pd, .int .u16 u.a.ct, .int .u8 u.a.ld, .bool u.a.hi, .int .u16 u.a.nz, .int .u16 u.b.pd, .int .u16 u.b.ct, .int .u8 u.b.ld, .bool u.b.hi, .int .u16 u.b.nz, .int .u16 u.c.pd, .int .u16 u.c.ct, .int .u8 u.c.ld, .bool u.c.hi, .int .u16 u.c.nz] kB Tryz.underlying34 ?_))
     refine (RC.out _).mono ?_
     rintro e w11 ⟨rfl, hb11⟩
     clear vi
     have Kw11_0 : Hid (Blk w11 (w.heap.size) #[.int .u16 A.pd, .int .u16 A.ct, .int .u8 A.ld, .bool A.hi, .int .u16 A.nz, .int .u16 B.pd, .int .u16 B.ct, .int .u8 B.ld, .bool B.hi, .int .u16 B.nz, .int .u16 u.c.pd, .int .u16 u.c.ct, .int .u8 u.c.ld, .bool u.c.hi, .int .u16 u.c.nz, .int .i64 (u.wt)] 36) := Lib.hid kB
     have Kw11_1 : Hid (Blk w11 (w.heap.size + 1) #[.int .u16 0, .int .u16 0, .int .u8 0, .bool false, .int .u16 0, .int .u16 0, .int .u16 0, .int .u8 0, .bool false, .int .u16 0, .int .u16 0, .int .u16 0, .int .u8 0, .bool false, .int .u16 0, .int .i64 0] 36) := Lib.hid kB
     clear Kw10_0 cw10_0 fw10_0 Kw10_1 cw10_1 fw10_1
     obtain ⟨lw11_0, cw11_0, fw11_0⟩ := Kw11_0.out.use
     obtain ⟨lw11_1, cw11_1, fw11_1⟩ := Kw11_1.out.use
     go_wp2_with (first | ((with_reducible show wpList _ _ _ _ _ _); refine lA 34 39 rfl rfl (w.heap.size) (0) 15 rfl 36 #[.int .u16 u.a.pd, .int .u16 u.a.ct, .int .u8 u.a.ld, .bool u.a.hi, .int .u16 u.a.nz, .int .u16 u.b.pd, .int .u16 u.b.ct, .int .u8 u.b.ld, .bool u.b.hi, .int .u16 u.b.nz, .int .u16 u.c.pd, .int .u16 u.c.ct, .int .u8 u.c.ld, .bool u.c.hi, .int .u16 u.c.nz, .int .i64 u.wt] #[.int .u16 u.a.pd, .int .u16 u.a.ct, .int .u8 u.a.ld, .bool u.a.hi, .int .u16 u.a.nz, .int .u16 u.b.pd, .int .u16 u.b.ct, .int .u8 u.b.ld, .bool u.b.hi, .int .u16 u.b.nz, .int .u16 u.c.pd, .int .u16 u.c.ct, .int .u8 u.c.ld, .bool u.c.hi, .int .u16 u.c.nz] kB Tryz.underlying34 ?_))
     rw [rounds_succ]
     refine wp_mark (R := fun W => Below w.heap.size w W ∧ Hid (Blk W (w.heap.size) (#[.int .u16 A.pd, .int .u16 A.ct, .int .u8 A.ld, .bool A.hi, .int .u16 A.nz, .int .u16 B.pd, .int .u16 B.ct, .int .u8 B.ld, .bool B.hi, .int .u16 B.nz, .int .u16 C.pd, .int .u16 C.ct, .int .u8 C.ld, .bool C.hi, .int .u16 C.nz, .int .i64 (u.wt)]) 36) ∧ Hid (Blk W (w.heap.size + 1) (#[.int .u16 0, .int .u16 0, .int .u8 0, .bool false, .int .u16 0, .int .u16 0, .int .u16 0, .int .u8 0, .bool false, .int .u16 0, .int .u16 0, .int .u16 0, .int .u8 0, .bool false, .int .u16 0, .int .i64 0]) 36) ∧ Hid (W.ownsRow (w.heap.size + 2) 5 1 (.slice ao xs.length cp) xs.length (xs.map (Value.int .u8)))) ⟨kL, Lib.hid kB, Lib.hid kB, Lib.hid kOw⟩ ?_
     rintro w12 ⟨hbw12, Kw12_0, Kw12_1, KO12⟩
     clear Kw11_0 cw11_0 fw11_0 Kw11_1 cw11_1 fw11_1
     obtain ⟨lw12_0, cw12_0, fw12_0⟩ := Kw12_0.out.use
     obtain ⟨lw12_1, cw12_1, fw12_1⟩ := Kw12_1.out.use
     have KO := Lib.hid (KO12.out)
     go_wp2_with (first | ((with_reducible show wpList _ _ _ _ _ _); refine lA 34 39 rfl rfl (w.heap.size) (0) 15 rfl 36 #[.int .u16 u.a.pd, .int .u16 u.a.ct, .int .u8 u.a.ld, .bool u.a.hi, .int .u16 u.a.nz, .int .u16 u.b.pd, .int .u16 u.b.ct, .int .u8 u.b.ld, .bool u.b.hi, .int .u16 u.b.nz, .int .u16 u.c.pd, .int .u16 u.c.ct, .int .u8 u.c.ld, .bool u.c.hi, .int .u16 u.c.nz, .int .i64 u.wt] #[.int .u16 u.a.pd, .int .u16 u.a.ct, .int .u8 u.a.ld, .bool u.a.hi, .int .u16 u.a.nz, .int .u16 u.b.pd, .int .u16 u.b.ct, .int .u8 u.b.ld, .bool u.b.hi, .int .u16 u.b.nz, .int .u16 u.c.pd, .int .u16 u.c.ct, .int .u8 u.c.ld, .bool u.c.hi, .int .u16 u.c.nz] kB Tryz.underlying34 ?_) | go_in)
     go_roundw
     case rel =>
      refine ⟨m - (((m : Int) : Int).toNat), ⟨A, B, C, u.wt - (m : Int)⟩, xs, ao, cp, by omega, GO.out, Lib.hid ?_, Lib.hid ?_, ?_, ?_, kL, Lib.hid kB, Lib.hid kB, Lib.hid ?_⟩
      ·rw [← hx.out, ← GX.out]
      ·rw [← hy.out, ← GY.out]
      ·congr 1; omega
      ·rfl
      ·have KO2 := KO.out
       skip
       have KO3 := Lib.hid KO2
       exact kOw
     case measure => simp [intOf]; omega
    ·have hK' : u.wt < (m : Int) := by omega
     clear hK
     have hK0 : (0 : Int) ≤ u.wt := by omega
     have hK1 : (u.wt : Int) ≤ 20000 := by omega
     have RA := Lib.hid (vrun_int u.a ua (u.wt) hK0 hK1)
     have RB := Lib.hid (vrun_int u.b ub (u.wt) hK0 hK1)
     have RC := Lib.hid (vrun_int u.c uc (u.wt) hK0 hK1)
     obtain ⟨gok, gx, gy⟩ := wait_step u HU.out m ((u.wt : Int).toNat) kO kO
     rw [show goSd u ((u.wt : Int).toNat) (u.wt - (((u.wt : Int).toNat : Nat) : Int)) = ⟨runV u.a ((u.wt : Int).toNat), runV u.b ((u.wt : Int).toNat), runV u.c ((u.wt : Int).toNat), 0⟩ from by unfold goSd; first | (congr 1; done) | (congr 1; omega)] at gok gx gy
     generalize runV u.a ((u.wt : Int).toNat) = A at *
     generalize runV u.b ((u.wt : Int).toNat) = B at *
     generalize runV u.c ((u.wt : Int).toNat) = C at *
     have GO := Lib.hid gok
     have GX := Lib.hid gx
     have GY := Lib.hid gy
     clear gok gx gy
     go_wp2_with (first | ((with_reducible show wpList _ _ _ _ _ _); refine lA 34 39 rfl rfl (w.heap.size) (0) 15 rfl 36 #[.int .u16 u.a.pd, .int .u16 u.a.ct, .int .u8 u.a.ld, .bool u.a.hi, .int .u16 u.a.nz, .int .u16 u.b.pd, .int .u16 u.b.ct, .int .u8 u.b.ld, .bool u.b.hi, .int .u16 u.b.nz, .int .u16 u.c.pd, .int .u16 u.c.ct, .int .u8 u.c.ld, .bool u.c.hi, .int .u16 u.c.nz, .int .i64 u.wt] #[.int .u16 u.a.pd, .int .u16 u.a.ct, .int .u8 u.a.ld, .bool u.a.hi, .int .u16 u.a.nz, .int .u16 u.b.pd, .int .u16 u.b.ct, .int .u8 u.b.ld, .bool u.b.hi, .int .u16 u.b.nz, .int .u16 u.c.pd, .int .u16 u.c.ct, .int .u8 u.c.ld, .bool u.c.hi, .int .u16 u.c.nz] kB Tryz.underlying34 ?_))
     refine wp_loop_rounds 4 ?_
     rw [rounds_succ]
     refine wp_mark (R := fun W => Below w.heap.size w W ∧ Hid (Blk W (w.heap.size) (#[.int .u16 u.a.pd, .int .u16 u.a.ct, .int .u8 u.a.ld, .bool u.a.hi, .int .u16 u.a.nz, .int .u16 u.b.pd, .int .u16 u.b.ct, .int .u8 u.b.ld, .bool u.b.hi, .int .u16 u.b.nz, .int .u16 u.c.pd, .int .u16 u.c.ct, .int .u8 u.c.ld, .bool u.c.hi, .int .u16 u.c.nz, .int .i64 (u.wt)]) 36) ∧ Hid (Blk W (w.heap.size + 1) (#[.int .u16 0, .int .u16 0, .int .u8 0, .bool false, .int .u16 0, .int .u16 0, .int .u16 0, .int .u8 0, .bool false, .int .u16 0, .int .u16 0, .int .u16 0, .int .u8 0, .bool false, .int .u16 0, .int .i64 0]) 36) ∧ Hid (W.ownsRow (w.heap.size + 2) 5 1 (.slice ao xs.length cp) xs.length (xs.map (Value.int .u8)))) ⟨kL, Lib.hid kB, Lib.hid kB, Lib.hid kOw⟩ ?_
     rintro w6 ⟨hbw6, Kw6_0, Kw6_1, KO6⟩
     obtain ⟨lw6_0, cw6_0, fw6_0⟩ := Kw6_0.out.use
     obtain ⟨lw6_1, cw6_1, fw6_1⟩ := Kw6_1.out.use
     have vi := fun w => (vidx u w).1
     go_wp2_with (first | ((with_reducible show wpList _ _ _ _ _ _); refine lA 34 39 rfl rfl (w.heap.size) (0) 15 rfl 36 #[.int .u16 u.a.pd, .int .u16 u.a.ct, .int .u8 u.a.ld, .bool u.a.hi, .int .u16 u.a.nz, .int .u16 u.b.pd, .int .u16 u.b.ct, .int .u8 u.b.ld, .bool u.b.hi, .int .u16 u.b.nz, .int .u16 u.c.pd, .int .u16 u.c.ct, .int .u8 u.c.ld, .bool u.c.hi, .int .u16 u.c.nz, .int .i64 u.wt] #[.int .u16 u.a.pd, .int .u16 u.a.ct, .int .u8 u.a.ld, .bool u.a.hi, .int .u16 u.a.nz, .int .u16 u.b.pd, .int .u16 u.b.ct, .int .u8 u.b.ld, .bool u.b.hi, .int .u16 u.b.nz, .int .u16 u.c.pd, .int .u16 u.c.ct, .int .u8 u.c.ld, .bool u.c.hi, .int .u16 u.c.nz] kB Tryz.underlying34 ?_))
     refine (RA.out _).mono ?_
     rintro e w7 ⟨rfl, hb7⟩
     clear vi
     have Kw7_0 : Hid (Blk w7 (w.heap.size) #[.int .u16 u.a.pd, .int .u16 u.a.ct, .int .u8 u.a.ld, .bool u.a.hi, .int .u16 u.a.nz, .int .u16 u.b.pd, .int .u16 u.b.ct, .int .u8 u.b.ld, .bool u.b.hi, .int .u16 u.b.nz, .int .u16 u.c.pd, .int .u16 u.c.ct, .int .u8 u.c.ld, .bool u.c.hi, .int .u16 u.c.nz, .int .i64 (u.wt)] 36) := Lib.hid kB
     have Kw7_1 : Hid (Blk w7 (w.heap.size + 1) #[.int .u16 0, .int .u16 0, .int .u8 0, .bool false, .int .u16 0, .int .u16 0, .int .u16 0, .int .u8 0, .bool false, .int .u16 0, .int .u16 0, .int .u16 0, .int .u8 0, .bool false, .int .u16 0, .int .i64 0] 36) := Lib.hid kB
     clear Kw6_0 cw6_0 fw6_0 Kw6_1 cw6_1 fw6_1
     obtain ⟨lw7_0, cw7_0, fw7_0⟩ := Kw7_0.out.use
     obtain ⟨lw7_1, cw7_1, fw7_1⟩ := Kw7_1.out.use
     go_wp2_with (first | ((with_reducible show wpList _ _ _ _ _ _); refine lA 34 39 rfl rfl (w.heap.size) (0) 15 rfl 36 #[.int .u16 u.a.pd, .int .u16 u.a.ct, .int .u8 u.a.ld, .bool u.a.hi, .int .u16 u.a.nz, .int .u16 u.b.pd, .int .u16 u.b.ct, .int .u8 u.b.ld, .bool u.b.hi, .int .u16 u.b.nz, .int .u16 u.c.pd, .int .u16 u.c.ct, .int .u8 u.c.ld, .bool u.c.hi, .int .u16 u.c.nz, .int .i64 u.wt] #[.int .u16 u.a.pd, .int .u16 u.a.ct, .int .u8 u.a.ld, .bool u.a.hi, .int .u16 u.a.nz, .int .u16 u.b.pd, .int .u16 u.b.ct, .int .u8 u.b.ld, .bool u.b.hi, .int .u16 u.b.nz, .int .u16 u.c.pd, .int .u16 u.c.ct, .int .u8 u.c.ld, .bool u.c.hi, .int .u16 u.c.nz] kB Tryz.underlying34 ?_))
     rw [rounds_succ]
     refine wp_mark (R := fun W => Below w.heap.size w W ∧ Hid (Blk W (w.heap.size) (#[.int .u16 A.pd, .int .u16 A.ct, .int .u8 A.ld, .bool A.hi, .int .u16 A.nz, .int .u16 u.b.pd, .int .u16 u.b.ct, .int .u8 u.b.ld, .bool u.b.hi, .int .u16 u.b.nz, .int .u16 u.c.pd, .int .u16 u.c.ct, .int .u8 u.c.ld, .bool u.c.hi, .int .u16 u.c.nz, .int .i64 (u.wt)]) 36) ∧ Hid (Blk W (w.heap.size + 1) (#[.int .u16 0, .int .u16 0, .int .u8 0, .bool false, .int .u16 0, .int .u16 0, .int .u16 0, .int .u8 0, .bool false, .int .u16 0, .int .u16 0, .int .u16 0, .int .u8 0, .bool false, .int .u16 0, .int .i64 0]) 36) ∧ Hid (W.ownsRow (w.heap.size + 2) 5 1 (.slice ao xs.length cp) xs.length (xs.map (Value.int .u8)))) ⟨kL, Lib.hid kB, Lib.hid kB, Lib.hid kOw⟩ ?_
     rintro w8 ⟨hbw8, Kw8_0, Kw8_1, KO8⟩
     clear Kw7_0 cw7_0 fw7_0 Kw7_1 cw7_1 fw7_1
     obtain ⟨lw8_0, cw8_0, fw8_0⟩ := Kw8_0.out.use
     obtain ⟨lw8_1, cw8_1, fw8_1⟩ := Kw8_1.out.use
     have vi := fun w => (vidx u w).2.1
     go_wp2_with (first | ((with_reducible show wpList _ _ _ _ _ _); refine lA 34 39 rfl rfl (w.heap.size) (0) 15 rfl 36 #[.int .u16 u.a.pd, .int .u16 u.a.ct, .int .u8 u.a.ld, .bool u.a.hi, .int .u16 u.a.nz, .int .u16 u.b.pd, .int .u16 u.b.ct, .int .u8 u.b.ld, .bool u.b.hi, .int .u16 u.b.nz, .int .u16 u.c.pd, .int .u16 u.c.ct, .int .u8 u.c.ld, .bool u.c.hi, .int .u16 u.c.nz, .int .i64 u.wt] #[.int .u16 u.a.pd, .int .u16 u.a.ct, .int .u8 u.a.ld, .bool u.a.hi, .int .u16 u.a.nz, .int .u16 u.b.pd, .int .u16 u.b.ct, .int .u8 u.b.ld, .bool u.b.hi, .int .u16 u.b.nz, .int .u16 u.c.pd, .int .u16 u.c.ct, .int .u8 u.c.ld, .bool u.c.hi, .int .u16 u.c.nz] kB Tryz.underlying34 ?_))
     refine (RB.out _).mono ?_
     rintro e w9 ⟨rfl, hb9⟩
     clear vi
     have Kw9_0 : Hid (Blk w9 (w.heap.size) #[.int .u16 A.pd, .int .u16 A.ct, .int .u8 A.ld, .bool A.hi, .int .u16 A.nz, .int .u16 u.b.pd, .int .u16 u.b.ct, .int .u8 u.b.ld, .bool u.b.hi, .int .u16 u.b.nz, .int .u16 u.c.pd, .int .u16 u.c.ct, .int .u8 u.c.ld, .bool u.c.hi, .int .u16 u.c.nz, .int .i64 (u.wt)] 36) := Lib.hid kB
     have Kw9_1 : Hid (Blk w9 (w.heap.size + 1) #[.int .u16 0, .int .u16 0, .int .u8 0, .bool false, .int .u16 0, .int .u16 0, .int .u16 0, .int .u8 0, .bool false, .int .u16 0, .int .u16 0, .int .u16 0, .int .u8 0, .bool false, .int .u16 0, .int .i64 0] 36) := Lib.hid kB
     clear Kw8_0 cw8_0 fw8_0 Kw8_1 cw8_1 fw8_1
     obtain ⟨lw9_0, cw9_0, fw9_0⟩ := Kw9_0.out.use
     obtain ⟨lw9_1, cw9_1, fw9_1⟩ := Kw9_1.out.use
     go_wp2_with (first | ((with_reducible show wpList _ _ _ _ _ _); refine lA 34 39 rfl rfl (w.heap.size) (0) 15 rfl 36 #[.int .u16 u.a.pd, .int .u16 u.a.ct, .int .u8 u.a.ld, .bool u.a.hi, .int .u16 u.a.nz, .int .u16 u.b.pd, .int .u16 u.b.ct, .int .u8 u.b.ld, .bool u.b.hi, .int .u16 u.b.nz, .int .u16 u.c.pd, .int .u16 u.c.ct, .int .u8 u.c.ld, .bool u.c.hi, .int .u16 u.c.nz, .int .i64 u.wt] #[.int .u16 u.a.pd, .int .u16 u.a.ct, .int .u8 u.a.ld, .bool u.a.hi, .int .u16 u.a.nz, .int .u16 u.b.pd, .int .u16 u.b.ct, .int .u8 u.b.ld, .bool u.b.hi, .int .u16 u.b.nz, .int .u16 u.c.pd, .int .u16 u.c.ct, .int .u8 u.c.ld, .bool u.c.hi, .int .u16 u.c.nz] kB Tryz.underlying34 ?_))
     rw [rounds_succ]
     refine wp_mark (R := fun W => Below w.heap.size w W ∧ Hid (Blk W (w.heap.size) (#[.int .u16 A.pd, .int .u16 A.ct, .int .u8 A.ld, .bool A.hi, .int .u16 A.nz, .int .u16 B.pd, .int .u16 B.ct, .int .u8 B.ld, .bool B.hi, .int .u16 B.nz, .int .u16 u.c.pd, .int .u16 u.c.ct, .int .u8 u.c.ld, .bool u.c.hi, .int .u16 u.c.nz, .int .i64 (u.wt)]) 36) ∧ Hid (Blk W (w.heap.size + 1) (#[.int .u16 0, .int .u16 0, .int .u8 0, .bool false, .int .u16 0, .int .u16 0, .int .u16 0, .int .u8 0, .bool false, .int .u16 0, .int .u16 0, .int .u16 0, .int .u8 0, .bool false, .int .u16 0, .int .i64 0]) 36) ∧ Hid (W.ownsRow (w.heap.size + 2) 5 1 (.slice ao xs.length cp) xs.length (xs.map (Value.int .u8)))) ⟨kL, Lib.hid kB, Lib.hid kB, Lib.hid kOw⟩ ?_
     rintro w10 ⟨hbw10, Kw10_0, Kw10_1, KO10⟩
     clear Kw9_0 cw9_0 fw9_0 Kw9_1 cw9_1 fw9_1
     obtain ⟨lw10_0, cw10_0, fw10_0⟩ := Kw10_0.out.use
     obtain ⟨lw10_1, cw10_1, fw10_1⟩ := Kw10_1.out.use
     have vi := fun w => (vidx u w).2.2
     go_wp2_with (first | ((with_reducible show wpList _ _ _ _ _ _); refine lA 34 39 rfl rfl (w.heap.size) (0) 15 rfl 36 #[.int .u16 u.a.pd, .int .u16 u.a.ct, .int .u8 u.a.ld, .bool u.a.hi, .int .u16 u.a.nz, .int .u16 u.b.pd, .int .u16 u.b.ct, .int .u8 u.b.ld, .bool u.b.hi, .int .u16 u.b.nz, .int .u16 u.c.pd, .int .u16 u.c.ct, .int .u8 u.c.ld, .bool u.c.hi, .int .u16 u.c.nz, .int .i64 u.wt] #[.int .u16 u.a.pd, .int .u16 u.a.ct, .int .u8 u.a.ld, .bool u.a.hi, .int .u16 u.a.nz, .int .u16 u.b.pd, .int .u16 u.b.ct, .int .u8 u.b.ld, .bool u.b.hi, .int .u16 u.b.nz, .int .u16 u.c.pd, .int .u16 u.c.ct, .int .u8 u.c.ld, .bool u.c.hi, .int .u16 u.c.nz] kB Tryz.underlying34 ?_))
     refine (RC.out _).mono ?_
     rintro e w11 ⟨rfl, hb11⟩
     clear vi
     have Kw11_0 : Hid (Blk w11 (w.heap.size) #[.int .u16 A.pd, .int .u16 A.ct, .int .u8 A.ld, .bool A.hi, .int .u16 A.nz, .int .u16 B.pd, .int .u16 B.ct, .int .u8 B.ld, .bool B.hi, .int .u16 B.nz, .int .u16 u.c.pd, .int .u16 u.c.ct, .int .u8 u.c.ld, .bool u.c.hi, .int .u16 u.c.nz, .int .i64 (u.wt)] 36) := Lib.hid kB
     have Kw11_1 : Hid (Blk w11 (w.heap.size + 1) #[.int .u16 0, .int .u16 0, .int .u8 0, .bool false, .int .u16 0, .int .u16 0, .int .u16 0, .int .u8 0, .bool false, .int .u16 0, .int .u16 0, .int .u16 0, .int .u8 0, .bool false, .int .u16 0, .int .i64 0] 36) := Lib.hid kB
     clear Kw10_0 cw10_0 fw10_0 Kw10_1 cw10_1 fw10_1
     obtain ⟨lw11_0, cw11_0, fw11_0⟩ := Kw11_0.out.use
     obtain ⟨lw11_1, cw11_1, fw11_1⟩ := Kw11_1.out.use
     go_wp2_with (first | ((with_reducible show wpList _ _ _ _ _ _); refine lA 34 39 rfl rfl (w.heap.size) (0) 15 rfl 36 #[.int .u16 u.a.pd, .int .u16 u.a.ct, .int .u8 u.a.ld, .bool u.a.hi, .int .u16 u.a.nz, .int .u16 u.b.pd, .int .u16 u.b.ct, .int .u8 u.b.ld, .bool u.b.hi, .int .u16 u.b.nz, .int .u16 u.c.pd, .int .u16 u.c.ct, .int .u8 u.c.ld, .bool u.c.hi, .int .u16 u.c.nz, .int .i64 u.wt] #[.int .u16 u.a.pd, .int .u16 u.a.ct, .int .u8 u.a.ld, .bool u.a.hi, .int .u16 u.a.nz, .int .u16 u.b.pd, .int .u16 u.b.ct, .int .u8 u.b.ld, .bool u.b.hi, .int .u16 u.b.nz, .int .u16 u.c.pd, .int .u16 u.c.ct, .int .u8 u.c.ld, .bool u.c.hi, .int .u16 u.c.nz] kB Tryz.underlying34 ?_))
     rw [rounds_succ]
     refine wp_mark (R := fun W => Below w.heap.size w W ∧ Hid (Blk W (w.heap.size) (#[.int .u16 A.pd, .int .u16 A.ct, .int .u8 A.ld, .bool A.hi, .int .u16 A.nz, .int .u16 B.pd, .int .u16 B.ct, .int .u8 B.ld, .bool B.hi, .int .u16 B.nz, .int .u16 C.pd, .int .u16 C.ct, .int .u8 C.ld, .bool C.hi, .int .u16 C.nz, .int .i64 (u.wt)]) 36) ∧ Hid (Blk W (w.heap.size + 1) (#[.int .u16 0, .int .u16 0, .int .u8 0, .bool false, .int .u16 0, .int .u16 0, .int .u16 0, .int .u8 0, .bool false, .int .u16 0, .int .u16 0, .int .u16 0, .int .u8 0, .bool false, .int .u16 0, .int .i64 0]) 36) ∧ Hid (W.ownsRow (w.heap.size + 2) 5 1 (.slice ao xs.length cp) xs.length (xs.map (Value.int .u8)))) ⟨kL, Lib.hid kB, Lib.hid kB, Lib.hid kOw⟩ ?_
     rintro w12 ⟨hbw12, Kw12_0, Kw12_1, KO12⟩
     clear Kw11_0 cw11_0 fw11_0 Kw11_1 cw11_1 fw11_1
     obtain ⟨lw12_0, cw12_0, fw12_0⟩ := Kw12_0.out.use
     obtain ⟨lw12_1, cw12_1, fw12_1⟩ := Kw12_1.out.use
     have KO := Lib.hid (KO12.out)
     go_wp2_with (first | ((with_reducible show wpList _ _ _ _ _ _); refine lA 34 39 rfl rfl (w.heap.size) (0) 15 rfl 36 #[.int .u16 u.a.pd, .int .u16 u.a.ct, .int .u8 u.a.ld, .bool u.a.hi, .int .u16 u.a.nz, .int .u16 u.b.pd, .int .u16 u.b.ct, .int .u8 u.b.ld, .bool u.b.hi, .int .u16 u.b.nz, .int .u16 u.c.pd, .int .u16 u.c.ct, .int .u8 u.c.ld, .bool u.c.hi, .int .u16 u.c.nz, .int .i64 u.wt] #[.int .u16 u.a.pd, .int .u16 u.a.ct, .int .u8 u.a.ld, .bool u.a.hi, .int .u16 u.a.nz, .int .u16 u.b.pd, .int .u16 u.b.ct, .int .u8 u.b.ld, .bool u.b.hi, .int .u16 u.b.nz, .int .u16 u.c.pd, .int .u16 u.c.ct, .int .u8 u.c.ld, .bool u.c.hi, .int .u16 u.c.nz] kB Tryz.underlying34 ?_) | go_in)
     go_roundw
     case rel =>
      refine ⟨m - ((u.wt : Int).toNat), ⟨A, B, C, 0⟩, xs, ao, cp, by omega, GO.out, Lib.hid ?_, Lib.hid ?_, ?_, ?_, kL, Lib.hid kB, Lib.hid kB, Lib.hid ?_⟩
      ·rw [← hx.out, ← GX.out]
      ·rw [← hy.out, ← GY.out]
      ·congr 1; omega
      ·rfl
      ·have KO2 := KO.out
       skip
       have KO3 := Lib.hid KO2
       exact kOw
     case measure => simp [intOf]; omega
end Go.Proofs.YtmppkjkmocecmaaGreatDoor
