/- The closed fact of the laws of the run clock by clock; is a frame's number great? Conditions: the library's variables hold what they were laid with. -/
import Derived.Test.YtmppkjkmocecmaaGreatDoorSq
import Derived.Test.YtmppkjkmocecmaaGreatDoorSh
import Derived.Test.YtmppkjkmocecmaaGreatDoorLockRn
import Derived.Test.YtmppkjkmocecmaaGreatDoorP41
import Derived.Test.YtmppkjkmocecmaaGreatDoorBusM
import Derived.Test.YtmppkjkmocecmaaGreatDoorP25
import Derived.Test.YtmppkjkmocecmaaGreatDoorRows
import Derived.Test.YtmppkjkmocecmaaGreatDoorBase
import Derived.Laws.BytesArg
import Derived.Lib.Bytes
import Derived.Test.YtmppkjkmocecmaaGreatDoorP07
import Derived.ChangeKeysEq
import Derived.Laws.StructEq
import Derived.Test.YtmppkjkmocecmaaGreatDoorP26
import Derived.Test.YtmppkjkmocecmaaGreatDoorP08
namespace Go.Proofs.YtmppkjkmocecmaaGreatDoor
open Go.RowKit Go.Mq
set_option linter.unusedVariables false
set_option linter.unusedSimpArgs false
set_option maxHeartbeats 4000000
set_option maxRecDepth 100000
def lkR : List Int := [0, 6, 0, 0, 0, 0, 17, 0, 128, 0, 49, 33, 216, 0]
theorem bld_l : buildF [46, 119, 111, 114, 100, 32, 54, 10, 46, 119, 111, 114, 100, 32, 48, 10, 46, 119, 111, 114, 100, 32, 48, 10, 108, 100, 105, 32, 114, 49, 44, 32, 51, 50, 55, 54, 56, 10, 115, 116, 98, 32, 114, 49, 44, 32, 114, 49, 44, 32, 49, 10, 104, 108, 116, 10] = (lkR, 0, 0) := by decide +kernel
def lkM : Mach := newMach lkR []
def lkF : Cn := lkN (cn0 lkM []) 64
theorem lkF_ls : lkF.ls.length = 1 := by decide +kernel
theorem lkF_ss : lkF.ss.length = 4 := by decide +kernel
theorem lkF_wt : lkF.x.m.mc.wt = true := by decide +kernel
theorem lkF_ck : lkF.x.m.ck = 64 := by decide +kernel
theorem lkF_ln : lkF.x.m.bm.ln = 1 := by decide +kernel
theorem lkM_lit : lkM.sd.wt = 0 ∧ lkM.bm.ln = 0 ∧ lkM.bm.pt = 0 ∧ lkM.bm.fr = 0 ∧ lkM.ck = 0 ∧ lkM.mr = 0 ∧ lkM.ar = 0 := by decide +kernel
theorem nil_inps (w : World) : InpsAt w (.slice none 0 0) [] := ⟨none, 0, rfl, by simp, by simp [maxLen], by simp, fun h => by simp at h⟩
theorem run_one {w w' : World} {U : Nat → Value} {lv sv wv : Value} {m : Mach} {ls : List Ln} {ss : List Int} {ws : List Wr} (h : RunTold w w' U lv sv wv m ls ss ws) : (machC U m).all (·.oneCell') = true := told_one h.told
theorem shown_one {w w' : World} {U : Nat → Value} {lv sv wv : Value} {m : Mach} {ls : List Ln} {ss : List Int} {ws : List Wr} (h : RunTold w w' U lv sv wv m ls ss ws) : (#[lv, sv, wv] : Array Value).all (·.oneCell') = true := by
 obtain ⟨a1, c1, rfl⟩ := own_shape h.lns
 obtain ⟨a2, c2, rfl⟩ := own_shape h.sms
 obtain ⟨a3, c3, rfl⟩ := own_shape h.wrs
 simp [Value.oneCell']
theorem long_any (V : Nat → Value) (m : Mach) (n : Int) (w : World) (h1 : (machC V m).all (·.oneCell') = true) :
  Calls Tryz.prog 10 #[.agg (machC V m), .int .i64 n] w fun e w' => e = .returned (.bool (decide (19000 < m.bm.fr))) ∧ Below w.heap.size w w' := by
 have ON := Lib.hid h1
 have c64 : (w.alloc (.cells (machC V m) 41)).cell? ⟨w.heap.size, 64, none⟩ = some (.int .i64 m.bm.fr) := ((Blk.new w _ _).cell 64).trans (mx64 ..)
 generalize m.bm.fr = f at *
 clear h1
 go_enter Tryz.func10, Tryz.ntmps10
 go_wp2
 go_ret
 exact ⟨rfl, kL⟩
theorem locked_any (w : World) (hL : Lk w) : Calls Tryz.prog 9 #[] w fun e w' => e = .returned (.bool true) ∧ Below w.heap.size w w' := by
 have HL := Lib.hid hL
 have BA := Lib.hid (build_any [46, 119, 111, 114, 100, 32, 54, 10, 46, 119, 111, 114, 100, 32, 48, 10, 46, 119, 111, 114, 100, 32, 48, 10, 108, 100, 105, 32, 114, 49, 44, 32, 51, 50, 55, 54, 56, 10, 115, 116, 98, 32, 114, 49, 44, 32, 114, 49, 44, 32, 49, 10, 104, 108, 116, 10] kD)
 have ZE := zeroM_one
 have by1 : Bytes8 lkR := by unfold Bytes8 lkR; decide
 have by2 : Bytes8 [] := fun x h => (List.not_mem_nil h).elim
 have BY := Lib.hid (And.intro by1 by2)
 clear hL by1 by2
 go_enter Tryz.func9, Tryz.ntmps9
 go_wp2_with fail
 refine (BA.out _ HL.out).mono ?_
 rintro e w1 ⟨v, rfl, hs, hb1⟩
 rw [bld_l] at hs ⊢
 have HS := Lib.hid hs
 have B1 := hb1
 clear hs hb1 BA HL
 go_wp2_with fail
 refine (new_ok v (.slice none 0 0) lkR [] _ BY.out.1 BY.out.2 HS.out (nil_bytes _) kD kD).mono ?_
 rintro e w2 ⟨U0, rfl, T0⟩
 have e0 : newMach lkR [] = lkM := rfl
 rw [e0] at T0 ⊢
 have hb2 := T0.below
 have z2 : w.heap.size ≤ w2.heap.size := (below_then B1 hb2).size
 have s2 := hb2.size
 have B2 : Below w.heap.size w w2 := below_then B1 hb2
 have TT0 := Lib.hid T0
 have ON0 := told_one T0
 clear hb2 T0 B1 HS
 go_wp2_with (first | ((with_reducible show wpList _ _ _ _ _ _); first | (refine sW 41 4 16 rfl rfl (w2.heap.size) (machC U0 lkM) rfl rfl Tryz.zeroCells41 kB ?_; intro w3 hp_w3 K_w3) | (refine lW 41 4 rfl rfl (w2.heap.size) rfl (machC U0 lkM) kB Tryz.underlying41 ?_)))
 have b23 : Below w2.heap.size w2 w3 := kL
 have sz3 : w2.heap.size + 1 ≤ w3.heap.size := by have := hp_w3.size; simp at this; omega
 have B3 : Below w.heap.size w w3 := B2.trans (b23.mono B2.size)
 have KK3 := Lib.hid K_w3.out
 have RN := Lib.hid (lock_ok U0 lkM (.slice none 0 0) [] 64 w3 (TT0.out.mv.below b23) TT0.out.inn (right_of TT0.out.fit lkM_lit) (nil_inps w3) rfl kD (by rw [lkM_lit.2.2.2.2.1]; decide))
 rw [show lkN (cn0 lkM []) 64 = lkF from rfl] at RN
 clear K_w3 hp_w3 b23 B2
 refine RN.out.mono ?_
 rintro e w4 ⟨U1, lv, sv, wv, rfl, T1⟩
 have hb4 := T1.told.below
 have s4 := hb4.size
 have ON1 := run_one T1
 have OS1 := shown_one T1
 have KK4 := Lib.hid (KK3.out.below hb4)
 have B4 : Below w.heap.size w w4 := below_then B3 hb4
 have z4 := B4.size
 obtain ⟨a1, c1, e1⟩ := own_shape T1.lns
 obtain ⟨a2, c2, e2⟩ := own_shape T1.sms
 rw [lkF_ls] at e1
 rw [lkF_ss] at e2
 subst e1 e2
 clear hb4 T1 RN KK3 TT0 B3
 go_upto_region 4 with (first | ((with_reducible show wpList _ _ _ _ _ _); first | (refine sW 41 4 21 rfl rfl (w2.heap.size) (machC U1 lkF.x.m) rfl rfl (machC U0 lkM) kB ?_; intro w5 hp_w5 K_w5) | (refine sW 45 6 22 rfl rfl (w4.heap.size) (#[.slice a1 1 c1, .slice a2 4 c2, wv]) rfl rfl (#[.slice none 0 0, .slice none 0 0, .slice none 0 0]) kB ?_; intro w6 hp_w6 K_w6)))
 have KM := Lib.hid (K_w5.out.put hp_w6 (Nat.ne_of_lt kO))
 have c14 : w6.cell? ⟨w2.heap.size, 14, none⟩ = some (.bool true) := (KM.out.cell 14).trans ((mx14 ..).trans (by rw [lkF_wt]))
 have c72 : w6.cell? ⟨w2.heap.size, 72, none⟩ = some (.int .i64 64) := (KM.out.cell 72).trans ((mx72 ..).trans (by rw [lkF_ck]))
 have c61 : w6.cell? ⟨w2.heap.size, 61, none⟩ = some (.int .i64 1) := (KM.out.cell 61).trans ((mx61 ..).trans (by rw [lkF_ln]))
 have d0 : w6.cell? ⟨w4.heap.size, 0, none⟩ = some (.slice a1 1 c1) := K_w6.out.cell 0
 have d1 : w6.cell? ⟨w4.heap.size, 1, none⟩ = some (.slice a2 4 c2) := K_w6.out.cell 1
 have BB : Below w.heap.size w w6 := kL
 clear K_w5 K_w6 hp_w5 hp_w6 KM KK4
 go_wp2_with (first | ((with_reducible show wpList _ _ _ _ _ _); first | (refine sW 41 4 21 rfl rfl (w2.heap.size) (machC U1 lkF.x.m) rfl rfl (machC U0 lkM) kB ?_; intro w5 hp_w5 K_w5) | (refine sW 45 6 22 rfl rfl (w4.heap.size) (#[.slice a1 1 c1, .slice a2 4 c2, wv]) rfl rfl (#[.slice none 0 0, .slice none 0 0, .slice none 0 0]) kB ?_; intro w6 hp_w6 K_w6)) | go_in)
 go_ret
 exact ⟨rfl, kL⟩
/-- what stands -/
structure Stands (m : Mach) (c : Cn) : Prop where
 ins : c.ins = []
 ws : c.x.ws = []
 hd : c.x.m.hd = true
 mc : c.x.m.mc = m.mc
 ac : c.x.m.ac = m.ac
 mem : c.x.m.mem = m.mem
 p0 : c.x.m.p0 = m.p0
 p1 : c.x.m.p1 = m.p1
 m0 : c.x.m.m0 = m.m0
 m1 : c.x.m.m1 = m.m1
 ar : c.x.m.ar = m.ar
theorem rest_M (x : Bx) (c : Cp) (r : Bool) (hw : c.wt = true) (hm : c.may = false) : dM busM x c r = x ∧ dC busM x c r = c := by
 unfold dM dC
 rw [hm, Bool.and_false, if_neg Bool.false_ne_true, if_neg Bool.false_ne_true, if_pos hw, if_pos hw]
 exact ⟨rfl, rfl⟩
theorem Stands.next {m : Mach} {c : Cn} (h : Stands m c) (hw : m.mc.wt = true) (hm : m.mc.may = false) : Stands m (lk1 c) := by
 obtain ⟨⟨cm, cws, cdl⟩, ls, ss, ins⟩ := c
 obtain ⟨h1, h2, h3, h4, h5, h6, h7, h8, h9, h10, h11⟩ := h
 simp only at h1 h2 h3 h4 h5 h6 h7 h8 h9 h10 h11
 subst h1 h2
 have hD : ∃ a d, doX ⟨cm, [], cdl⟩ = ⟨{ cm with mr := a }, [], d⟩ := by
  have hM : ∃ a d, doM ⟨cm, [], cdl⟩ = ⟨{ cm with mr := a }, [], d⟩ := by
   unfold doM
   split
   ·have k := rest_M ⟨cm, [], 0⟩ cm.mc (cm.tm.rg || cm.bm.rg) (by rw [h4]; exact hw) (by rw [h4]; exact hm)
    refine ⟨wrap64 (wrap64 (cm.ck + dN busM ⟨cm, [], 0⟩ cm.mc (cm.tm.rg || cm.bm.rg) * 3) + 0), 0, ?_⟩
    show ({ dM busM ⟨cm, [], 0⟩ cm.mc (cm.tm.rg || cm.bm.rg) with m := { (dM busM ⟨cm, [], 0⟩ cm.mc (cm.tm.rg || cm.bm.rg)).m with
     mc := dC busM ⟨cm, [], 0⟩ cm.mc (cm.tm.rg || cm.bm.rg)
     mr := wrap64 (wrap64 (cm.ck + dN busM ⟨cm, [], 0⟩ cm.mc (cm.tm.rg || cm.bm.rg) * 3) + (dM busM ⟨cm, [], 0⟩ cm.mc (cm.tm.rg || cm.bm.rg)).dl) } } : Bx) = _
    rw [k.1, k.2]
   ·exact ⟨cm.mr, cdl, rfl⟩
  obtain ⟨a, d, e⟩ := hM
  refine ⟨a, d, ?_⟩
  show doA (doM ⟨cm, [], cdl⟩) = _
  rw [e]
  unfold doA
  rw [if_neg (fun k => by have k1 : cm.hd = false := k.1; rw [h3] at k1; cases k1)]
 obtain ⟨a, d, e⟩ := hD
 have eX : lkX ⟨cm, [], cdl⟩ [] = ⟨tickM { cm with mr := a }, [], d⟩ := by
  show (doX ⟨cm, [], cdl⟩).setM (tickM (doX ⟨cm, [], cdl⟩).m) = _
  rw [e]
  rfl
 have e1 : (lk1 ⟨⟨cm, [], cdl⟩, ls, ss, []⟩).x = ⟨tickM { cm with mr := a }, [], d⟩ := eX
 exact ⟨rfl, by rw [e1], by rw [e1]; exact h3, by rw [e1]; exact h4, by rw [e1]; exact h5, by rw [e1]; exact h6, by rw [e1]; exact h7, by rw [e1]; exact h8, by rw [e1]; exact h9, by rw [e1]; exact h10, by rw [e1]; exact h11⟩
theorem stands_run (m : Mach) (hh : m.hd = true) (hw : m.mc.wt = true) (hm : m.mc.may = false) (n : Nat) : Stands m (lkN ⟨⟨m, [], 0⟩, [], [], []⟩ n) := by
 induction n with
 | zero => exact ⟨rfl, rfl, hh, rfl, rfl, rfl, rfl, rfl, rfl, rfl, rfl⟩
 | succ n ih => rw [lkN_last]; exact ih.next hw hm
theorem conv_any {w : World} {v : Value} {xs : List Int} (h : SliceAt w .u8 v xs) : (convert 26 9 v).run Tryz.prog w = .ok (.string (strOfNums xs)) w := by
 obtain ⟨a, cap, rfl, h1, h2, hwf, h3⟩ := h
 by_cases h0 : 0 < xs.length
 ·obtain ⟨b, off, rfl, hlt, hc⟩ := h3 h0
  exact run_convert_bytes_arg w _ _ Tryz.underlying26 Tryz.underlying5 b off xs.length cap xs rfl hc _ Tryz.underlying9
 ·have hn : xs = [] := List.length_eq_zero_iff.1 kO
  subst hn
  cases a with
  | none => exact run_convert_bytes_nil w _ _ Tryz.underlying26 Tryz.underlying5 0 cap _ Tryz.underlying9
  | some ad =>
   rw [run_convert_bytes_string w _ _ _ _ _ _ Tryz.underlying26 Tryz.underlying5 Tryz.underlying9]
   have hl : (loadCells ad 0).run Tryz.prog w = .ok #[] w := rfl
   simp [Conv.bytesToString, hl, strOfNums]
   rfl
theorem byte_in {x : Int} (h : (Lit.int .u8 x).wf = true) : 0 ≤ x ∧ x ≤ 255 := by
 have := bounds_u8 h
 omega
theorem str_inj {xs ys : List Int} (hx : ∀ x ∈ xs, (Lit.int .u8 x).wf = true) (hy : ∀ x ∈ ys, (Lit.int .u8 x).wf = true) (h : (strOfNums xs).toList = (strOfNums ys).toList) : xs = ys := by
 have h' := h
 rw [Lib.strOfNums_toList, Lib.strOfNums_toList] at h'
 unfold Lib.bytesOf at h'
 clear h
 induction xs generalizing ys with
 | nil => cases ys with
  | nil => rfl
  | cons y ys => simp at h'
 | cons x xs ih =>
  cases ys with
  | nil => simp at h'
  | cons y ys =>
   simp only [List.map_cons, List.cons.injEq] at h'
   have b1 := byte_in (hx x kS)
   have b2 := byte_in (hy y kS)
   have e : x = y := by
    have := congrArg UInt8.toNat h'.1
    simp at this
    omega
   rw [e, ih (fun z hz => hx z (by simp [hz])) (fun z hz => hy z (by simp [hz])) h'.2]
theorem str_eq {xs ys : List Int} (hx : ∀ x ∈ xs, (Lit.int .u8 x).wf = true) (hy : ∀ x ∈ ys, (Lit.int .u8 x).wf = true) : ((strOfNums xs).toList == (strOfNums ys).toList) = decide (xs = ys) := by
 by_cases h : xs = ys
 ·subst h; simp
 ·rw [decide_eq_false h, beq_eq_false_iff_ne]
  exact fun e => h (str_inj hx hy e)
theorem bytesEqual_any (v u : Value) (xs ys : List Int) (w : World) (h1 : SliceAt w .u8 v xs) (h2 : SliceAt w .u8 u ys) :
  Calls Tryz.prog 11 #[v, u] w fun e w' => e = .returned (.bool (decide (xs = ys))) ∧ w = w' := by
 have c1 := conv_any h1
 have c2 := conv_any h2
 have hw : ∀ {v : Value} {xs : List Int}, SliceAt w .u8 v xs → ∀ x ∈ xs, (Lit.int .u8 x).wf = true := fun h => by obtain ⟨_, _, _, _, _, hwf, _⟩ := h; exact hwf
 have he := str_eq (hw h1) (hw h2)
 obtain ⟨a, cap, rfl, h1', -⟩ := h1
 obtain ⟨a', cap', rfl, h2', -⟩ := h2
 generalize strOfNums xs = S1 at *
 generalize strOfNums ys = S2 at *
 rw [← he]
 clear he hw
 go_enter Tryz.func11, Tryz.ntmps11
 go_wp2
 go_ret
 exact ⟨rfl, rfl⟩
/-- a processor of its fields -/
def mkC (r0 r1 r2 r3 r4 r5 r6 r7 pc : Int) (z n c v may wt : Bool) : Cp := ⟨fun i => match i with | 0 => r0 | 1 => r1 | 2 => r2 | 3 => r3 | 4 => r4 | 5 => r5 | 6 => r6 | 7 => r7 | _ => 0, pc, z, n, c, v, may, wt⟩
theorem regs_self (c : Cp) (w : World) : (Op.equalIn 9999 23 (.agg #[.int .u16 (c.r 0), .int .u16 (c.r 1), .int .u16 (c.r 2), .int .u16 (c.r 3), .int .u16 (c.r 4), .int .u16 (c.r 5), .int .u16 (c.r 6), .int .u16 (c.r 7)]) (.agg #[.int .u16 (c.r 0), .int .u16 (c.r 1), .int .u16 (c.r 2), .int .u16 (c.r 3), .int .u16 (c.r 4), .int .u16 (c.r 5), .int .u16 (c.r 6), .int .u16 (c.r 7)])).run Tryz.prog w = .ok true w := by
 obtain ⟨i, hi⟩ : ∃ i, (Tryz.prog).info? 22 = some i := Option.isSome_iff_exists.1 kR
 rw [run_equalIn_array w 9998 _ _ Tryz.underlying23 hi]
 have hc : (Tryz.prog).cellsOf 22 = 1 := by kernel_rfl
 rw [hc]
 simp [Op.eqItems, List.range, List.range.loop, go_sem]
theorem cpu_self (c : Cp) (w : World) : (Op.equalIn 10000 25 (.agg (cpuC c)) (.agg (cpuC c))).run Tryz.prog w = .ok true w := by
 have H := regs_self c
 have hf : (Tryz.prog).underlying 25 = some (.struct ((Tryz.prog).fieldsOf 25)) := by kernel_rfl
 rw [run_equalIn_struct w 9999 _ _ _ hf kR]
 unfold cpuC
 simp [Program.fieldsOf, Tryz.underlying25, Op.eqFields, go_sem, H]
end Go.Proofs.YtmppkjkmocecmaaGreatDoor
namespace Go.Mq
open Go.RowKit
end Go.Mq
namespace Go.Proofs.YtmppkjkmocecmaaGreatDoor
open Go.RowKit Go.Mq
set_option linter.unusedVariables false
set_option linter.unusedSimpArgs false
set_option maxHeartbeats 4000000
set_option maxRecDepth 100000
theorem pads_self (p q : Pd) (w : World) : (Op.equalIn 10000 29 (.agg #[.int .u8 p.dn, .bool p.la, .int .u8 p.sh, .int .u8 q.dn, .bool q.la, .int .u8 q.sh]) (.agg #[.int .u8 p.dn, .bool p.la, .int .u8 p.sh, .int .u8 q.dn, .bool q.la, .int .u8 q.sh])).run Tryz.prog w = .ok true w := by
 obtain ⟨i, hi⟩ : ∃ i, (Tryz.prog).info? 28 = some i := Option.isSome_iff_exists.1 kR
 rw [run_equalIn_array w 9999 _ _ Tryz.underlying29 hi]
 have hc : (Tryz.prog).cellsOf 28 = 3 := by kernel_rfl
 rw [hc]
 simp [Op.eqItems, List.range, List.range.loop, go_sem]
theorem mail_self (a b : Int) (w : World) : (Op.equalIn 10000 39 (.agg #[.int .u8 a, .int .u8 b]) (.agg #[.int .u8 a, .int .u8 b])).run Tryz.prog w = .ok true w := by
 obtain ⟨i, hi⟩ : ∃ i, (Tryz.prog).info? 5 = some i := Option.isSome_iff_exists.1 kR
 rw [run_equalIn_array w 9999 _ _ Tryz.underlying39 hi]
 have hc : (Tryz.prog).cellsOf 5 = 1 := by kernel_rfl
 rw [hc]
 simp [Op.eqItems, List.range, List.range.loop, go_sem]
end Go.Proofs.YtmppkjkmocecmaaGreatDoor
