/- The document lists a program. Conditions: an even number of bytes, not too many; the library's variables hold what they were laid with. -/
import Derived.Test.YtmpdoiilakjmbaaDoorAsmLst
import Derived.Test.YtmpdoiilakjmbaaDoorRefTxt
import Derived.Test.YtmpdoiilakjmbaaDoorOrdWo
import Derived.Test.YtmpdoiilakjmbaaDoorCkPl
import Derived.Lib.ItoaLen
import Derived.Deep.DeepCutAuto
namespace Go.Proofs.YtmpdoiilakjmbaaDoor
open Go.RowKit Go.Mq
set_option linter.unusedVariables false
set_option linter.unusedSimpArgs false
set_option maxHeartbeats 2000000
set_option maxRecDepth 100000
theorem slice_drp {W0 : World} {xs : List Int} {b off c : Nat} (k : Nat) (h : k ≤ xs.length) (hc1 : xs.length ≤ c) (hc2 : c ≤ maxLen) (hwf : ∀ x ∈ xs, (Lit.int .u8 x).wf = true) (hlt : b < W0.heap.size) (hcell : ∀ i, i < xs.length → W0.cell? ⟨b, off + i, none⟩ = some (.int .u8 (xs.getD i 0))) (a : Option Addr) (ha : k < c → a = some ⟨b, off + k, none⟩) :
    SliceAt W0 .u8 (.slice a (xs.length - k) (c - k)) (xs.drop k) := by
  refine ⟨a, c - k, by rw [List.length_drop], by rw [List.length_drop]; omega, by omega, fun x hx => hwf x (List.mem_of_mem_drop hx), fun h0 => ?_⟩
  rw [List.length_drop] at h0
  refine ⟨b, off + k, ha (by omega), hlt, fun i hi => ?_⟩
  rw [List.length_drop] at hi
  rw [Nat.add_assoc, hcell (k + i) (by omega), List.getD_eq_getElem?_getD, List.getD_eq_getElem?_getD, List.getElem?_drop]
theorem of_any_ord (a b : Int) (ha : U16 a) (hb : U16 b) (w : World) (hL : Lk9 w) : Calls Tryd.prog 43 #[.int .u16 a, .int .u16 b] w fun e w' =>
    e = .returned (.tuple #[.agg #[.int .i64 (readO a b).op, .int .i64 (readO a b).d, .int .i64 (readO a b).s, .int .i64 (readO a b).n, .int .i64 (readO a b).w], .int .i64 (readL a)]) ∧ Below w.heap.size w w' := by
  obtain ⟨K, hK⟩ : ∃ K : Nat, a / 2048 = K := ⟨(a / 2048).toNat, by unfold U16 at ha; omega⟩
  have hk : K < 32 := by unfold U16 at ha; omega
  by_cases h30 : K = 30
  · subst h30
    have := of_30 a b ha hK w
    refine this.mono ?_
    rintro e w' ⟨rfl, hw⟩
    refine ⟨?_, hw⟩
    simp only [readO, readL, hK]
    rfl
  · obtain ⟨e0, e1, e2, e3, e4, e5⟩ := fold_read a b K hK hk h30
    have := of_some_k a b ha hb K hK hk h30 w hL
    rw [e1, e2, e3, e4, e5, ← e0] at this
    exact this
theorem words_ref (o : Od) (h : checkO o = 0) (w : World) (hL : Lk9 w) : Calls Tryd.prog 22 #[.agg #[.int .i64 o.op, .int .i64 o.d, .int .i64 o.s, .int .i64 o.n, .int .i64 o.w]] w fun e w' => ∃ v, e = .returned v ∧ w'.ownsRow w.heap.size 48 1 v (wordsO o).length ((wordsO o).map (Value.int .u16)) ∧ Below w.heap.size w w' := by
  obtain ⟨⟨b0, b1, b2⟩, ⟨d0, d1⟩, ⟨s0, s1⟩, ⟨n0, n1⟩, ⟨w0, w1⟩, _⟩ := right_in o h
  obtain ⟨K, hK⟩ : ∃ K : Nat, o.op = K := ⟨o.op.toNat, by omega⟩
  have := wordsof_any K o.d o.s o.n o.w (by omega) (by omega) d0 d1 s0 s1 n0 n1 w0 w1 w hL
  rw [hK]
  refine this.mono ?_
  rintro e w' ⟨v, rfl, hown, hb⟩
  refine ⟨v, rfl, ?_, hb⟩
  unfold wordsO wordO
  rw [hK]
  cases hh : hasW (K : Int) <;> rw [hh] at hown <;> simpa [hh] using hown
theorem text_ref (o : Od) (h : checkO o = 0) (w : World) (hL : Lk9 w) : Calls Tryd.prog 44 #[.agg #[.int .i64 o.op, .int .i64 o.d, .int .i64 o.s, .int .i64 o.n, .int .i64 o.w]] w fun e w' => e = .returned (.string ⟨(textO o).toArray⟩) ∧ Below w.heap.size w w' := by
  obtain ⟨⟨b0, b1, b2⟩, ⟨d0, d1⟩, ⟨s0, s1⟩, ⟨n0, n1⟩, ⟨w0, w1⟩, _⟩ := right_in o h
  obtain ⟨K, hK⟩ : ∃ K : Nat, o.op = K := ⟨o.op.toNat, by omega⟩
  have := reft_any K o.d o.s o.n o.w (by omega) (by omega) (by unfold I64; omega) (by unfold I64; omega) (by unfold I64; omega) (by unfold I64; omega) w hL
  rw [← hK] at this
  exact this
def lenV : Value → Nat
  | .slice _ l _ => l
  | _ => 0
theorem pair_drop (xs : List Int) (k j : Nat) : pairW (xs.drop k) j = pairW xs (k + j) := by
  unfold pairW
  rw [List.length_drop]
  simp only [List.getD_eq_getElem?_getD, List.getElem?_drop]
  rw [show k + (j + 1) = k + j + 1 from by omega]
  by_cases h : k + j + 1 < xs.length
  · rw [if_pos h, if_pos (by omega)]
  · rw [if_neg h, if_neg (by omega)]
theorem listed_any (v : Value) (xs : List Int) (w : World) (hL : Lk9 w) (hx : SliceAt w .u8 v xs) (h0 : xs.length ≤ 1024) (h1 : xs.length % 2 = 0) : Calls Tryd.prog 24 #[v] w fun e w' => e = .returned (.string ⟨(listF xs).toArray⟩) ∧ Below w.heap.size w w' := by
  have HX := Lib.hid hx
  have HL := Lib.hid hL
  have H0 := Lib.hid (And.intro h0 h1)
  obtain ⟨a0, cp0, rfl, hl1, hl2, hwf, hcs⟩ := hx
  have hlm : xs.length ≤ maxLen := by omega
  unfold maxLen at hlm
  clear hL h0 h1 hl1 hl2 hwf hcs
  go_enter Tryd.func24, Tryd.ntmps24
  go_wp2_with fail
  go_loopw [0, 3] (fun v s wr => ∃ (k f : Nat) (acc : List UInt8), s = .string ⟨acc.toArray⟩ ∧ Hid (k ≤ xs.length ∧ listF xs = acc ++ lst f xs k ∧ xs.length ≤ f + k ∧ acc.length ≤ 600 * k ∧ k % 2 = 0) ∧ Hid (SliceAt wr .u8 v (xs.drop k)) ∧ Hid (Below w.heap.size w wr)) (fun v _ _ => lenV v)
  case atStart => exact ⟨0, xs.length, [], rfl, Lib.hid ⟨by omega, rfl, by omega, by simp, rfl⟩, HX, Lib.hid (Below.refl _ _)⟩
  case round =>
    obtain ⟨k, f, acc, rfl, hq, hs, hb⟩ := hrel
    obtain ⟨ys, hys⟩ : ∃ x, x = xs.drop k := ⟨_, rfl⟩
    have hyl : Hid (ys.length = xs.length - k) := Lib.hid (by rw [hys, List.length_drop])
    rw [← hys] at hs
    have HU := Lib.hid (slice_u8 hs.out)
    have P0 : Hid (pairW xs k = pairW ys 0) := Lib.hid (by rw [hys, pair_drop]; rfl)
    have P2 : Hid (pairW xs (k + 2) = pairW ys 2) := Lib.hid (by rw [hys, pair_drop])
    have PU : Hid (U16 (pairW ys 0) ∧ U16 (pairW ys 2)) := Lib.hid ⟨pairW_u HU.out 0, pairW_u HU.out 2⟩
    have DR : Hid (∀ j, ys.drop j = xs.drop (k + j)) := Lib.hid (fun j => by rw [hys, List.drop_drop])
    replace hys := Lib.hid hys
    have HS := hs
    obtain ⟨a, cp, rfl, g1, g2, gwf, gcs⟩ := hs.out
    have hylm : ys.length ≤ 1024 := by rw [hyl.out]; have := H0.out; omega
    have LE : Hid (ys.length % 2 = 0) := Lib.hid (by rw [hyl.out]; have := H0.out; have := hq.out; omega)
    clear hs
    by_cases hy0 : 0 < ys.length
    · obtain ⟨b, off, rfl, hlt, hc⟩ := gcs hy0
      have HC := Lib.hid (And.intro g1 (And.intro g2 (And.intro gwf (And.intro hlt hc))))
      have hy1 : 2 ≤ ys.length := by have := LE.out; omega
      have c0 := hc 0 (by omega)
      have c1 := hc 1 (by omega)
      rw [Nat.add_zero] at c0
      have u0 := HU.out (ys.getD 0 0) (by rw [List.getD_eq_getElem?_getD, List.getElem?_eq_getElem (by omega)]; exact List.getElem_mem _)
      have u1 := HU.out (ys.getD 1 0) (by rw [List.getD_eq_getElem?_getD, List.getElem?_eq_getElem (by omega)]; exact List.getElem_mem _)
      have XE : Hid (pairW ys 0 = ys.getD 0 0 * 256 + ys.getD 1 0) := Lib.hid (by unfold pairW; rw [if_pos (by omega)])
      obtain ⟨x0, hx0⟩ : ∃ x, x = ys.getD 0 0 := ⟨_, rfl⟩
      obtain ⟨x1, hx1⟩ : ∃ x, x = ys.getD 1 0 := ⟨_, rfl⟩
      rw [← hx0] at XE c0 u0
      rw [← hx1] at XE c1 u1
      obtain ⟨u00, u01⟩ := u0
      obtain ⟨u10, u11⟩ := u1
      have v1 : IntKind.u16.wrap x0 = x0 := by rw [wrap16]; omega
      have v2 : IntKind.u16.wrap (x0 * 256) = x0 * 256 := by rw [wrap16]; omega
      have v3 : IntKind.u16.wrap x1 = x1 := by rw [wrap16]; omega
      have v4 : IntKind.u16.wrap (x0 * 256 + x1) = x0 * 256 + x1 := by rw [wrap16]; omega
      have hyi : (0 : Int) < ys.length := by omega
      have hyj : (1 : Int) < ys.length := by omega
      clear u00 u01 u10 u11 hx0 hx1 gcs gwf g1 g2
      go_wp2_with fail
      go_quiet (fail)
      go_upto_if 23 with (fail)
      obtain ⟨x, hx⟩ : ∃ x, x = x0 * 256 + x1 := ⟨_, rfl⟩
      rw [← hx] at XE ⊢
      have XE0 : Hid (x = pairW ys 0) := Lib.hid XE.out.symm
      clear hx v4 XE
      go_cut [5] from 21 to 33 (fun bv wx => bv = .int .u16 (pairW ys 2) ∧ Drew wr wx)
      case first =>
        by_cases h2 : 2 < ys.length
        · have hy3 : 4 ≤ ys.length := by have := LE.out; omega
          have hi2 : (2 : Int) < ys.length := by omega
          have hi3 : (3 : Int) < ys.length := by omega
          have c2 := HC.out.2.2.2.2 2 h2
          have c3 := HC.out.2.2.2.2 3 (by omega)
          have u0 := HU.out (ys.getD 2 0) (by rw [List.getD_eq_getElem?_getD, List.getElem?_eq_getElem (by omega)]; exact List.getElem_mem _)
          have u1 := HU.out (ys.getD 3 0) (by rw [List.getD_eq_getElem?_getD, List.getElem?_eq_getElem (by omega)]; exact List.getElem_mem _)
          have YE : Hid (pairW ys 2 = ys.getD 2 0 * 256 + ys.getD 3 0) := Lib.hid (by unfold pairW; rw [if_pos (by omega)])
          obtain ⟨y0, hy0⟩ : ∃ x, x = ys.getD 2 0 := ⟨_, rfl⟩
          obtain ⟨y1, hy1⟩ : ∃ x, x = ys.getD 3 0 := ⟨_, rfl⟩
          rw [← hy0] at YE c2 u0
          rw [← hy1] at YE c3 u1
          obtain ⟨u00, u01⟩ := u0
          obtain ⟨u10, u11⟩ := u1
          have v1 : IntKind.u16.wrap y0 = y0 := by rw [wrap16]; omega
          have v2 : IntKind.u16.wrap (y0 * 256) = y0 * 256 := by rw [wrap16]; omega
          have v3 : IntKind.u16.wrap y1 = y1 := by rw [wrap16]; omega
          have v4 : IntKind.u16.wrap (y0 * 256 + y1) = y0 * 256 + y1 := by rw [wrap16]; omega
          clear u00 u01 u10 u11 hy0 hy1 c0 c1 h2
          go_wp2_with fail
          go_quiet (fail)
          go_wp2_with fail
          go_meet
          exact ⟨by rw [YE.out], by first | exact Drew.refl _ | exact (Drew.refl _).drewN _ | exact ((Drew.refl _).drewN _).drewN _⟩
        · have hi2 : ¬ (2 : Int) < ys.length := by omega
          have YE : Hid (pairW ys 2 = 0) := Lib.hid (by unfold pairW; rw [if_neg (by omega)])
          clear h2
          go_wp2_with fail
          go_meet
          exact ⟨by rw [YE.out], by first | exact Drew.refl _ | exact (Drew.refl _).drewN _ | exact ((Drew.refl _).drewN _).drewN _⟩
      case rest =>
        obtain ⟨rfl, hdw⟩ := hcut
        obtain ⟨o, ho⟩ : ∃ o, o = readO (pairW ys 0) (pairW ys 2) := ⟨_, rfl⟩
        obtain ⟨n, hn⟩ : ∃ n, n = readL (pairW ys 0) := ⟨_, rfl⟩
        have hn2 : n = 1 ∨ n = 2 := by rw [hn]; exact readL_two _
        have OF := Lib.hid (of_any_ord (pairW ys 0) (pairW ys 2) PU.out.1 PU.out.2)
        have CK := Lib.hid (read_right (pairW ys 0) (pairW ys 2) PU.out.1 PU.out.2)
        obtain ⟨y, hy⟩ : ∃ x, x = pairW ys 2 := ⟨_, rfl⟩
        rw [← XE0.out] at OF CK ho hn
        rw [← ho, ← hn] at OF
        rw [← ho] at CK
        rw [← hy] at OF ⊢
        have WD := Lib.hid (words_ref o CK.out)
        replace ho := Lib.hid ho
        replace hn := Lib.hid hn
        replace hy := Lib.hid hy
        have BRC : Hid (Below wr.heap.size wr wc) := Lib.hid (hdw.below _)
        have SD : Hid (∀ (j : Nat) a, j ≤ ys.length → (j < cp → a = some ⟨b, off + j, none⟩) → SliceAt wr .u8 (.slice a (ys.length - j) (cp - j)) (xs.drop (k + j))) := Lib.hid (fun j a hj ha => by
          rw [← DR.out j]
          exact slice_drp j hj HC.out.1 HC.out.2.1 HC.out.2.2.1 HC.out.2.2.2.1 HC.out.2.2.2.2 a ha)
        have BW := Lib.hid (hb.out.trans (hdw.below _))
        go_wp2_with fail
        refine (OF.out _ (HL.out.below BW.out)).mono ?_
        rintro e w4 ⟨rfl, hb4⟩
        have bx4 : Below wc.heap.size wc w4 := hb4
        clear hb4 hdw
        go_wp2_with fail
        have BX := Lib.hid bx4
        have KO5 := Lib.hid (Blk.new w4 #[.int .i64 o.op, .int .i64 o.d, .int .i64 o.s, .int .i64 o.n, .int .i64 o.w] 33)
        have B5 : Hid (Below w.heap.size w (w4.alloc (.cells #[.int .i64 o.op, .int .i64 o.d, .int .i64 o.s, .int .i64 o.n, .int .i64 o.w] 33))) := Lib.hid (below_alloc (below_then BW.out BX.out) _)
        have Bc5 : Hid (Below wc.heap.size wc (w4.alloc (.cells #[.int .i64 o.op, .int .i64 o.d, .int .i64 o.s, .int .i64 o.n, .int .i64 o.w] 33))) := Lib.hid (below_alloc BX.out _)
        refine (WD.out _ (HL.out.below B5.out)).mono ?_
        rintro e w6 ⟨lv, rfl, hlv, hb6⟩
        have KO6 := Lib.hid (KO5.out.below hb6)
        have B6 : Hid (Below w.heap.size w w6) := Lib.hid (below_then B5.out hb6)
        have Bc6 : Hid (Below wc.heap.size wc w6) := Lib.hid (below_then Bc5.out hb6)
        obtain ⟨la, lc, ev⟩ := own_shape hlv
        subst ev
        obtain ⟨q, rfl, hql, hqc⟩ := own_at1 hlv (k := 0) (u := .int .u16 (wordO o)) (words_pos o) (words_hd o)
        have hw0 := words_pos o
        obtain ⟨z, hz⟩ : ∃ z, z = wordO o := ⟨_, rfl⟩
        rw [← hz] at hqc
        replace hz := Lib.hid hz
        obtain ⟨on, hon⟩ : ∃ x, x = w4.heap.size := ⟨_, rfl⟩
        rw [← hon] at KO6 ⊢
        clear hon KO5 B5 hb6 hlv bx4
        have g1 : IntKind.i64.wrap (2 * n) = 2 * n := by rw [IntKind.wrap_i64]; omega
        obtain ⟨f, rfl⟩ : ∃ f', f = f' + 1 := ⟨f - 1, by have := hq.out.2.2.1; have := hyl.out; omega⟩
        have hkn : k < xs.length := by have := hyl.out; omega
        have AO : Hid (asOrder xs k = (wordO o == x && decide ((k : Int) + 2 * n ≤ xs.length))) := Lib.hid (by unfold asOrder; rw [P0.out, P2.out, ← XE0.out, ← ho.out, ← hn.out])
        have LS : Hid (lst (f + 1) xs k = if asOrder xs k then textO o ++ [10] ++ lst f xs (k + 2 * n.toNat) else wrdT x ++ lst f xs (k + 2)) := Lib.hid (by rw [lst_step f xs k hkn, P0.out, P2.out, ← XE0.out, ← ho.out, ← hn.out])
        rw [← hz.out] at AO
        have HY : Hid ((ys.length : Int) = xs.length - k) := Lib.hid (by have := hyl.out; omega)
        have PX : Hid (0 ≤ x ∧ x ≤ 65535) := Lib.hid (by have := PU.out.1; rw [← XE0.out] at this; exact this)
        clear hkn
        by_cases hA : z = x
        · have qA : (z == x) = true := by simp [hA]
          by_cases hN : 2 * n ≤ ys.length
          · have NO : Hid (asOrder xs k = true) := Lib.hid (by rw [AO.out]; have := HY.out; simp [hA]; omega)
            have NT : Hid (n = (n.toNat : Int) ∧ n.toNat ≤ 2 ∧ 1 ≤ n.toNat ∧ 2 * n.toNat ≤ ys.length) := Lib.hid (by omega)
            have TX := Lib.hid (text_ref o CK.out)
            have TL : Hid ((textO o).length ≤ 500) := Lib.hid (text_len o CK.out)
            obtain ⟨tx, htx⟩ : ∃ x, x = textO o := ⟨_, rfl⟩
            rw [← htx] at LS TX TL
            have n1 : ¬ (9223372036854775807 < tx.length + 1) := by have := TL.out; omega
            have n2 : ¬ (9223372036854775807 < acc.length + (tx.length + 1)) := by have := TL.out; have := hq.out; have := H0.out; omega
            have e1 : (⟨tx.toArray⟩ : ByteArray) ++ ⟨#[10]⟩ = ⟨(tx ++ [10]).toArray⟩ := str_app2 tx [10]
            have e2 : (⟨acc.toArray⟩ : ByteArray) ++ ⟨(tx ++ [10]).toArray⟩ = ⟨(acc ++ (tx ++ [10])).toArray⟩ := str_app2 _ _
            clear hA htx
            go_wp2_with (first | ((with_reducible show wpList _ _ _ _ _ _); refine wpList_loadW rfl 33 (.tmp 6) rfl (on) rfl 33 #[.int .i64 o.op, .int .i64 o.d, .int .i64 o.s, .int .i64 o.n, .int .i64 o.w] (show Blk _ (on) #[.int .i64 o.op, .int .i64 o.d, .int .i64 o.s, .int .i64 o.n, .int .i64 o.w] 33 from (by repeat' (first | (with_reducible first | exact Hid.out (by assumption) | exact Blk.new _ _ _ | (refine Blk.new_at _ _ _ _ ?_; simp; done) | refine Blk.alloc ?_ _ | refine Blk.drewN ?_ _ | refine Blk.drew ?_ | apply Blk.set | refine Blk.put ?_ (by assumption) (by first | (simp; done) | (simp; omega) | omega) | refine Blk.below ?_ (by assumption)) | (refine Blk.setAt ?_ (by first | (simp; done) | (simp; omega))) | rfl))) _ Tryd.underlying33 rfl (by kernel_rfl) ?_))
            refine (TX.out _ (HL.out.below B6.out)).mono ?_
            rintro e w7 ⟨rfl, hb7⟩
            have B7 : Hid (Below w.heap.size w w7) := Lib.hid (below_then B6.out hb7)
            have Bc7 : Hid (Below wc.heap.size wc w7) := Lib.hid (below_then Bc6.out hb7)
            have E10 : Hid (listF xs = (acc ++ (tx ++ [10])) ++ lst f xs (k + 2 * n.toNat)) := Lib.hid (by rw [hq.out.2.1, LS.out, NO.out, if_pos rfl]; simp)
            clear hb7
            go_wp2_with fail
            have e2n : (2 * n).toNat = 2 * n.toNat := by have := NT.out; omega
            rw [e2n]
            exact ⟨⟨k + 2 * n.toNat, f, acc ++ (tx ++ [10]), rfl, Lib.hid ⟨by have := NT.out; have := hq.out; have := hyl.out; omega, E10.out, by have := NT.out; have := hq.out; omega, by have := NT.out; have := hq.out; have := TL.out; simp only [List.length_append, List.length_cons, List.length_nil]; omega, by have := hq.out; omega⟩, Lib.hid ((SD.out (2 * n.toNat) _ NT.out.2.2.2 (fun hj => by rw [if_neg (by omega)])).below (below_then BRC.out Bc7.out)), B7⟩, by have := NT.out; simp only [lenV]; omega⟩
          · have NO : Hid (asOrder xs k = false) := Lib.hid (by rw [AO.out]; have := HY.out; simp; omega)
            clear hA
            have IT := Lib.hid (itoa_any x (by have := PX.out; unfold I64; omega))
            have l1 := Lib.itoa_length_le x (by have := PX.out; omega) (by have := PX.out; omega)
            have n1 : ¬ (9223372036854775807 < 6 + (Lib.itoa x).length) := by omega
            have n2 : ¬ (9223372036854775807 < 6 + (Lib.itoa x).length + 1) := by omega
            have n3 : ¬ (9223372036854775807 < acc.length + (wrdT x).length) := by have := hq.out; have := H0.out; have := wrd_len x (by have := PX.out; unfold I64; omega); omega
            have w3x : wrap64 x = x := by have := PX.out; unfold wrap64; omega
            have e1 := wrd_str x
            have e2 : (⟨acc.toArray⟩ : ByteArray) ++ ⟨(wrdT x).toArray⟩ = ⟨(acc ++ wrdT x).toArray⟩ := str_app2 _ _
            go_wp2_with fail
            refine (IT.out _ (HL.out.lk.below B6.out)).mono ?_
            rintro e w7 ⟨rfl, hb7⟩
            have B7 : Hid (Below w.heap.size w w7) := Lib.hid (below_then B6.out hb7)
            have Bc7 : Hid (Below wc.heap.size wc w7) := Lib.hid (below_then Bc6.out hb7)
            have E10 : Hid (listF xs = (acc ++ wrdT x) ++ lst f xs (k + 2)) := Lib.hid (by rw [hq.out.2.1, LS.out, NO.out, if_neg (by simp), List.append_assoc])
            clear hb7
            go_wp2_with fail
            exact ⟨⟨k + 2, f, acc ++ wrdT x, rfl, Lib.hid ⟨by have := hq.out; have := hyl.out; omega, E10.out, by have := hq.out; omega, by have := hq.out; have := wrd_len x (by have := PX.out; unfold I64; omega); rw [List.length_append]; omega, by have := hq.out; omega⟩, Lib.hid ((SD.out 2 _ (by omega) (fun hj => by rw [if_neg (by omega)])).below (below_then BRC.out Bc7.out)), B7⟩, by simp only [lenV]; omega⟩
        · have qA : (z == x) = false := by simpa using hA
          have NO : Hid (asOrder xs k = false) := Lib.hid (by rw [AO.out]; simp [hA])
          clear hA
          have IT := Lib.hid (itoa_any x (by have := PX.out; unfold I64; omega))
          have l1 := Lib.itoa_length_le x (by have := PX.out; omega) (by have := PX.out; omega)
          have n1 : ¬ (9223372036854775807 < 6 + (Lib.itoa x).length) := by omega
          have n2 : ¬ (9223372036854775807 < 6 + (Lib.itoa x).length + 1) := by omega
          have n3 : ¬ (9223372036854775807 < acc.length + (wrdT x).length) := by have := hq.out; have := H0.out; have := wrd_len x (by have := PX.out; unfold I64; omega); omega
          have w3x : wrap64 x = x := by have := PX.out; unfold wrap64; omega
          have e1 := wrd_str x
          have e2 : (⟨acc.toArray⟩ : ByteArray) ++ ⟨(wrdT x).toArray⟩ = ⟨(acc ++ wrdT x).toArray⟩ := str_app2 _ _
          go_wp2_with fail
          refine (IT.out _ (HL.out.lk.below B6.out)).mono ?_
          rintro e w7 ⟨rfl, hb7⟩
          have B7 : Hid (Below w.heap.size w w7) := Lib.hid (below_then B6.out hb7)
          have Bc7 : Hid (Below wc.heap.size wc w7) := Lib.hid (below_then Bc6.out hb7)
          have E10 : Hid (listF xs = (acc ++ wrdT x) ++ lst f xs (k + 2)) := Lib.hid (by rw [hq.out.2.1, LS.out, NO.out, if_neg (by simp), List.append_assoc])
          clear hb7
          go_wp2_with fail
          exact ⟨⟨k + 2, f, acc ++ wrdT x, rfl, Lib.hid ⟨by have := hq.out; have := hyl.out; omega, E10.out, by have := hq.out; omega, by have := hq.out; have := wrd_len x (by have := PX.out; unfold I64; omega); rw [List.length_append]; omega, by have := hq.out; omega⟩, Lib.hid ((SD.out 2 _ (by omega) (fun hj => by rw [if_neg (by omega)])).below (below_then BRC.out Bc7.out)), B7⟩, by simp only [lenV]; omega⟩
    · have hyi : ¬ (0 : Int) < ys.length := by omega
      have EE : Hid (listF xs = acc) := Lib.hid (by rw [hq.out.2.1, lst_end f xs k (by have := hyl.out; have := hq.out; omega), List.append_nil])
      clear hy0 gcs gwf g1 g2
      go_wp2_with fail
      go_ret
      exact ⟨by rw [EE.out]; rfl, hb.out⟩
end Go.Proofs.YtmpdoiilakjmbaaDoor
