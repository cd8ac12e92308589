/- What the program's pad, and the document's, compute. Conditions: the pad's bytes are bytes. -/
import Derived.Test.YtegilgnpkcjhpaaRows
import Derived.Test.YtegilgnpkcjhpaaPadPure
namespace Go.Proofs.Ytegilgnpkcjhpaa
open Go.RowKit Go.Mq
set_option linter.unusedVariables false
set_option linter.unusedSimpArgs false

theorem press_any (p : Pd) (hp : p.Ok) (d : Int) (w : World) :
    Calls Try.prog 39 #[.agg #[.int .u8 p.dn, .bool p.la, .int .u8 p.sh], .int .u8 d] w fun e w' => e = .returned (.agg #[.int .u8 (pressP p d).dn, .bool (pressP p d).la, .int .u8 (pressP p d).sh]) ∧ Below w.heap.size w w' := by
  obtain ⟨dn, la, sh⟩ := p
  clear hp
  unfold pressP
  cases la
  · simp only [Bool.false_eq_true, if_false]
    go_enter Try.func39, Try.ntmps39
    go_wp2
    refine bodyPost_ret (v := .agg #[.int .u8 d, .bool false, .int .u8 sh]) (by simp [results, Try.results39, go_sem]) rfl ⟨rfl, ?_⟩
    exact by repeat' (first | exact Below.refl _ _ | assumption | refine below_alloc ?_ _ | refine Below.drew ?_ | refine below_drewN ?_ _ | refine below_then ?_ (by assumption) | refine Below.setCell ?_ ?_ _ | (simp; done) | (simp; omega) | omega)
  · simp only [if_true]
    go_enter Try.func39, Try.ntmps39
    go_wp2
    refine bodyPost_ret (v := .agg #[.int .u8 d, .bool true, .int .u8 d]) (by simp [results, Try.results39, go_sem]) rfl ⟨rfl, ?_⟩
    exact by repeat' (first | exact Below.refl _ _ | assumption | refine below_alloc ?_ _ | refine Below.drew ?_ | refine below_drewN ?_ _ | refine below_then ?_ (by assumption) | refine Below.setCell ?_ ?_ _ | (simp; done) | (simp; omega) | omega)

theorem refpress_any (p : Pd) (hp : p.Ok) (d : Int) (w : World) :
    Calls Try.prog 40 #[.agg #[.int .u8 p.dn, .bool p.la, .int .u8 p.sh], .int .u8 d] w fun e w' => e = .returned (.agg #[.int .u8 (pressP p d).dn, .bool (pressP p d).la, .int .u8 (pressP p d).sh]) ∧ Below w.heap.size w w' := by
  obtain ⟨dn, la, sh⟩ := p
  clear hp
  unfold pressP
  cases la
  · simp only [Bool.false_eq_true, if_false]
    go_enter Try.func40, Try.ntmps40
    go_wp2
    refine bodyPost_ret (v := .agg #[.int .u8 d, .bool false, .int .u8 sh]) (by simp [results, Try.results40, go_sem]) rfl ⟨rfl, ?_⟩
    exact by repeat' (first | exact Below.refl _ _ | assumption | refine below_alloc ?_ _ | refine Below.drew ?_ | refine below_drewN ?_ _ | refine below_then ?_ (by assumption) | refine Below.setCell ?_ ?_ _ | (simp; done) | (simp; omega) | omega)
  · simp only [if_true]
    go_enter Try.func40, Try.ntmps40
    go_wp2
    refine bodyPost_ret (v := .agg #[.int .u8 d, .bool true, .int .u8 d]) (by simp [results, Try.results40, go_sem]) rfl ⟨rfl, ?_⟩
    exact by repeat' (first | exact Below.refl _ _ | assumption | refine below_alloc ?_ _ | refine Below.drew ?_ | refine below_drewN ?_ _ | refine below_then ?_ (by assumption) | refine Below.setCell ?_ ?_ _ | (simp; done) | (simp; omega) | omega)

theorem write_any (p : Pd) (b : Int) (hb : U8 b) (w : World) :
    Calls Try.prog 37 #[.agg #[.int .u8 p.dn, .bool p.la, .int .u8 p.sh], .int .u8 b] w fun e w' => e = .returned (.agg #[.int .u8 (writeP p b).dn, .bool (writeP p b).la, .int .u8 (writeP p b).sh]) ∧ Below w.heap.size w w' := by
  obtain ⟨dn, la, sh⟩ := p
  obtain ⟨hb0, hb1⟩ := hb
  unfold writeP
  by_cases h : b % 2 = 1
  · have e1 : (bits .and .u8 b 1 == 1) = true := by
      rw [u8_and b 1 hb0 (by omega) (by omega) (by omega), show (1 : Int).toNat = 1 from rfl, nat_mask1, beq_iff_eq]; omega
    simp only [if_pos h]
    clear h
    go_enter Try.func37, Try.ntmps37
    go_wp2
    refine bodyPost_ret (v := .agg #[.int .u8 dn, .bool true, .int .u8 dn]) (by simp [results, Try.results37, go_sem]) rfl ⟨rfl, ?_⟩
    exact by repeat' (first | exact Below.refl _ _ | assumption | refine below_alloc ?_ _ | refine Below.drew ?_ | refine below_drewN ?_ _ | refine below_then ?_ (by assumption) | refine Below.setCell ?_ ?_ _ | (simp; done) | (simp; omega) | omega)
  · have e1 : (bits .and .u8 b 1 == 1) = false := by
      rw [u8_and b 1 hb0 (by omega) (by omega) (by omega), show (1 : Int).toNat = 1 from rfl, nat_mask1, beq_eq_false_iff_ne]; omega
    simp only [if_neg h]
    clear h
    go_enter Try.func37, Try.ntmps37
    go_wp2
    refine bodyPost_ret (v := .agg #[.int .u8 dn, .bool false, .int .u8 sh]) (by simp [results, Try.results37, go_sem]) rfl ⟨rfl, ?_⟩
    exact by repeat' (first | exact Below.refl _ _ | assumption | refine below_alloc ?_ _ | refine Below.drew ?_ | refine below_drewN ?_ _ | refine below_then ?_ (by assumption) | refine Below.setCell ?_ ?_ _ | (simp; done) | (simp; omega) | omega)

theorem refwrite_any (p : Pd) (b : Int) (hb : U8 b) (w : World) :
    Calls Try.prog 38 #[.agg #[.int .u8 p.dn, .bool p.la, .int .u8 p.sh], .int .u8 b] w fun e w' => e = .returned (.agg #[.int .u8 (writeP p b).dn, .bool (writeP p b).la, .int .u8 (writeP p b).sh]) ∧ Below w.heap.size w w' := by
  obtain ⟨dn, la, sh⟩ := p
  obtain ⟨hb0, hb1⟩ := hb
  unfold writeP
  by_cases h : b % 2 = 1
  · have e1 : (b % 2 == 1) = true := by rw [beq_iff_eq]; omega
    simp only [if_pos h]
    clear h
    go_enter Try.func38, Try.ntmps38
    go_wp2
    refine bodyPost_ret (v := .agg #[.int .u8 dn, .bool true, .int .u8 dn]) (by simp [results, Try.results38, go_sem]) rfl ⟨rfl, ?_⟩
    exact by repeat' (first | exact Below.refl _ _ | assumption | refine below_alloc ?_ _ | refine Below.drew ?_ | refine below_drewN ?_ _ | refine below_then ?_ (by assumption) | refine Below.setCell ?_ ?_ _ | (simp; done) | (simp; omega) | omega)
  · have e1 : (b % 2 == 1) = false := by rw [beq_eq_false_iff_ne]; omega
    simp only [if_neg h]
    clear h
    go_enter Try.func38, Try.ntmps38
    go_wp2
    refine bodyPost_ret (v := .agg #[.int .u8 dn, .bool false, .int .u8 sh]) (by simp [results, Try.results38, go_sem]) rfl ⟨rfl, ?_⟩
    exact by repeat' (first | exact Below.refl _ _ | assumption | refine below_alloc ?_ _ | refine Below.drew ?_ | refine below_drewN ?_ _ | refine below_then ?_ (by assumption) | refine Below.setCell ?_ ?_ _ | (simp; done) | (simp; omega) | omega)

theorem read_any (p : Pd) (hp : p.Ok) (w : World) :
    Calls Try.prog 33 #[.agg #[.int .u8 p.dn, .bool p.la, .int .u8 p.sh]] w fun e w' => e = .returned (.tuple #[.int .u8 (bitP p), .agg #[.int .u8 (readP p).dn, .bool (readP p).la, .int .u8 (readP p).sh]]) ∧ Below w.heap.size w w' := by
  obtain ⟨dn, la, sh⟩ := p
  obtain ⟨⟨d0, d1⟩, ⟨s0, s1⟩⟩ := hp
  simp only at d0 d1 s0 s1
  unfold bitP readP
  cases la
  · simp only [Bool.false_eq_true, if_false]
    have e1 : IntKind.u8.wrap (sh * 2) = sh * 2 % 256 := wrap8 _
    have e2 : bits .or .u8 (sh * 2 % 256) 1 = sh * 2 % 256 + 1 := or1 _ (by omega) (by omega) (by omega)
    go_enter Try.func33, Try.ntmps33
    go_wp2
    go_region
    go_wp2
    refine bodyPost_ret (v := .tuple #[.int .u8 (sh / 128), .agg #[.int .u8 dn, .bool false, .int .u8 (sh * 2 % 256 + 1)]]) (by simp [results, Try.results33, go_sem]) rfl ⟨rfl, ?_⟩
    exact by repeat' (first | exact Below.refl _ _ | assumption | refine below_alloc ?_ _ | refine Below.drew ?_ | refine below_drewN ?_ _ | refine below_then ?_ (by assumption) | refine Below.setCell ?_ ?_ _ | (simp; done) | (simp; omega) | omega)
  · simp only [if_true]
    go_enter Try.func33, Try.ntmps33
    go_wp2
    go_region
    go_wp2
    refine bodyPost_ret (v := .tuple #[.int .u8 (dn / 128), .agg #[.int .u8 dn, .bool true, .int .u8 sh]]) (by simp [results, Try.results33, go_sem]) rfl ⟨rfl, ?_⟩
    exact by repeat' (first | exact Below.refl _ _ | assumption | refine below_alloc ?_ _ | refine Below.drew ?_ | refine below_drewN ?_ _ | refine below_then ?_ (by assumption) | refine Below.setCell ?_ ?_ _ | (simp; done) | (simp; omega) | omega)

theorem refread_any (p : Pd) (hp : p.Ok) (w : World) :
    Calls Try.prog 35 #[.agg #[.int .u8 p.dn, .bool p.la, .int .u8 p.sh]] w fun e w' => e = .returned (.tuple #[.int .u8 (bitP p), .agg #[.int .u8 (readP p).dn, .bool (readP p).la, .int .u8 (readP p).sh]]) ∧ Below w.heap.size w w' := by
  obtain ⟨dn, la, sh⟩ := p
  obtain ⟨⟨d0, d1⟩, ⟨s0, s1⟩⟩ := hp
  simp only at d0 d1 s0 s1
  unfold bitP readP
  cases la
  · simp only [Bool.false_eq_true, if_false]
    have e1 : IntKind.u8.wrap (sh * 2) = sh * 2 % 256 := wrap8 _
    go_enter Try.func35, Try.ntmps35
    go_wp2
    go_region
    go_wp2
    refine bodyPost_ret (v := .tuple #[.int .u8 (sh / 128), .agg #[.int .u8 dn, .bool false, .int .u8 (sh * 2 % 256 + 1)]]) (by simp [results, Try.results35, go_sem]) rfl ⟨rfl, ?_⟩
    exact by repeat' (first | exact Below.refl _ _ | assumption | refine below_alloc ?_ _ | refine Below.drew ?_ | refine below_drewN ?_ _ | refine below_then ?_ (by assumption) | refine Below.setCell ?_ ?_ _ | (simp; done) | (simp; omega) | omega)
  · simp only [if_true]
    go_enter Try.func35, Try.ntmps35
    go_wp2
    go_region
    go_wp2
    refine bodyPost_ret (v := .tuple #[.int .u8 (dn / 128), .agg #[.int .u8 dn, .bool true, .int .u8 sh]]) (by simp [results, Try.results35, go_sem]) rfl ⟨rfl, ?_⟩
    exact by repeat' (first | exact Below.refl _ _ | assumption | refine below_alloc ?_ _ | refine Below.drew ?_ | refine below_drewN ?_ _ | refine below_then ?_ (by assumption) | refine Below.setCell ?_ ?_ _ | (simp; done) | (simp; omega) | omega)

theorem all_any (p : Pd) (hp : p.Ok) (w : World) :
    Calls Try.prog 34 #[.agg #[.int .u8 p.dn, .bool p.la, .int .u8 p.sh]] w fun e w' => e = .returned (.tuple #[.int .u8 p.dn, .agg #[.int .u8 p.dn, .bool false, .int .u8 255]]) ∧ Below w.heap.size w w' := by
  obtain ⟨dn, la, sh⟩ := p
  have h1 := write_any ⟨dn, la, sh⟩ 1 ⟨by omega, by omega⟩
  have h2 := write_any ⟨dn, true, dn⟩ 0 ⟨by omega, by omega⟩
  simp [writeP] at h1 h2
  have H1 := Lib.hid h1
  have H2 := Lib.hid h2
  have hd := hp.dn
  simp only at hd
  clear h1 h2 hp
  simp only
  go_enter Try.func34, Try.ntmps34
  go_wp2_with fail
  refine (H1.out _).mono ?_
  rintro e w1 ⟨rfl, hb1⟩
  have Kw1_0 : Hid (Blk w1 (w.heap.size) #[.int .u8 dn, .bool la, .int .u8 sh] 51) := Lib.hid (by repeat' (first | (with_reducible first | exact Hid.out (by assumption) | exact Blk.new _ _ _ | exact Blk.new_at _ _ _ _ (by simp; done) | refine Blk.alloc ?_ _ | refine Blk.drewN ?_ _ | apply Blk.set | refine Blk.below ?_ (by assumption)) | refine Blk.setAt ?_ (by first | (simp; done) | (simp; omega)) | rfl))
  have Kw1_1 : Hid (Blk w1 (w.heap.size + 1) #[.int .u8 0, .bool false, .int .u8 0] 51) := Lib.hid (by repeat' (first | (with_reducible first | exact Hid.out (by assumption) | exact Blk.new _ _ _ | exact Blk.new_at _ _ _ _ (by simp; done) | refine Blk.alloc ?_ _ | refine Blk.drewN ?_ _ | apply Blk.set | refine Blk.below ?_ (by assumption)) | refine Blk.setAt ?_ (by first | (simp; done) | (simp; omega)) | rfl))
  obtain ⟨lw1_0, cw1_0, fw1_0⟩ := Kw1_0.out.use
  obtain ⟨lw1_1, cw1_1, fw1_1⟩ := Kw1_1.out.use
  go_wp2_with fail
  refine (H2.out _).mono ?_
  rintro e w2 ⟨rfl, hb2⟩
  have Kw2_0 : Hid (Blk w2 (w.heap.size) #[.int .u8 dn, .bool la, .int .u8 sh] 51) := Lib.hid (by repeat' (first | (with_reducible first | exact Hid.out (by assumption) | exact Blk.new _ _ _ | exact Blk.new_at _ _ _ _ (by simp; done) | refine Blk.alloc ?_ _ | refine Blk.drewN ?_ _ | apply Blk.set | refine Blk.below ?_ (by assumption)) | refine Blk.setAt ?_ (by first | (simp; done) | (simp; omega)) | rfl))
  have Kw2_1 : Hid (Blk w2 (w.heap.size + 1) #[.int .u8 0, .bool false, .int .u8 0] 51) := Lib.hid (by repeat' (first | (with_reducible first | exact Hid.out (by assumption) | exact Blk.new _ _ _ | exact Blk.new_at _ _ _ _ (by simp; done) | refine Blk.alloc ?_ _ | refine Blk.drewN ?_ _ | apply Blk.set | refine Blk.below ?_ (by assumption)) | refine Blk.setAt ?_ (by first | (simp; done) | (simp; omega)) | rfl))
  clear Kw1_0 cw1_0 fw1_0 Kw1_1 cw1_1 fw1_1
  obtain ⟨lw2_0, cw2_0, fw2_0⟩ := Kw2_0.out.use
  obtain ⟨lw2_1, cw2_1, fw2_1⟩ := Kw2_1.out.use
  go_wp2_with fail
  refine wp_mark (R := fun W => Below w.heap.size w W ∧ Hid (Blk W (w.heap.size) (#[.int .u8 dn, .bool false, .int .u8 dn]) 51) ∧ Hid (Blk W (w.heap.size + 1) (#[.int .u8 0, .bool false, .int .u8 0]) 51)) ⟨by repeat' (first | exact Below.refl _ _ | assumption | refine below_alloc ?_ _ | refine Below.drew ?_ | refine below_drewN ?_ _ | refine below_then ?_ (by assumption) | refine Below.setCell ?_ ?_ _ | (simp; done) | (simp; omega) | omega), Lib.hid (by repeat' (first | (with_reducible first | exact Hid.out (by assumption) | exact Blk.new _ _ _ | exact Blk.new_at _ _ _ _ (by simp; done) | refine Blk.alloc ?_ _ | refine Blk.drewN ?_ _ | apply Blk.set | refine Blk.below ?_ (by assumption)) | refine Blk.setAt ?_ (by first | (simp; done) | (simp; omega)) | rfl)), Lib.hid (by repeat' (first | (with_reducible first | exact Hid.out (by assumption) | exact Blk.new _ _ _ | exact Blk.new_at _ _ _ _ (by simp; done) | refine Blk.alloc ?_ _ | refine Blk.drewN ?_ _ | apply Blk.set | refine Blk.below ?_ (by assumption)) | refine Blk.setAt ?_ (by first | (simp; done) | (simp; omega)) | rfl))⟩ ?_
  rintro w3 ⟨hbw3, Kw3_0, Kw3_1⟩
  clear Kw2_0 cw2_0 fw2_0 Kw2_1 cw2_1 fw2_1
  obtain ⟨lw3_0, cw3_0, fw3_0⟩ := Kw3_0.out.use
  obtain ⟨lw3_1, cw3_1, fw3_1⟩ := Kw3_1.out.use
  go_loopw [4, 9] (fun x i wr => ∃ k : Nat, k ≤ 8 ∧ i = .int .i64 k ∧ x = .int .u8 (rdK dn k) ∧ Below w.heap.size w wr ∧ Hid (Blk wr w.heap.size #[.int .u8 dn, .bool false, .int .u8 (shK dn k)] 51) ∧ Hid (Blk wr (w.heap.size + 1) #[.int .u8 0, .bool false, .int .u8 0] 51)) (fun _ i _ => 8 - (intOf i).toNat)
  case atStart => exact ⟨0, by omega, rfl, by rw [rdK_zero dn hd], hbw3, Lib.hid (by rw [shK_zero dn hd]; exact Kw3_0.out), Kw3_1⟩
  case round =>
    obtain ⟨k, hk, rfl, rfl, hbr, KA, KB⟩ := hrel
    clear Kw3_0 Kw3_1 cw3_0 cw3_1 fw3_0 fw3_1
    obtain ⟨lA, cA, fA⟩ := KA.out.use
    obtain ⟨lB, cB, fB⟩ := KB.out.use
    by_cases hlt : k < 8
    · have hs := read_any ⟨dn, false, shK dn k⟩ ⟨hd, shK_u dn hd k (by omega)⟩
      simp only [bitP, readP, Bool.false_eq_true, if_false] at hs
      rw [shK_succ dn hd k hlt] at hs
      have hr := rdK_succ dn hd k hlt
      have hs1 := shK_u dn hd k (by omega)
      have hr0 := rdK_u dn hd k (by omega)
      have hr1 := rdK_u dn hd (k + 1) (by omega)
      unfold U8 at hs1 hr0 hr1
      have hj : bits .or .u8 (rdK dn k * 2) (shK dn k / 128) = rdK dn (k + 1) := by rw [join_bit _ _ (by omega) (by omega) (by omega) (by omega), hr]
      have hw : IntKind.u8.wrap (rdK dn k * 2) = rdK dn k * 2 := by rw [wrap8]; omega
      have HS := Lib.hid hs
      clear hs hr
      generalize rdK dn k = r at *
      generalize hr' : rdK dn (k + 1) = r' at *
      have HR := Lib.hid hr'
      clear hr'
      generalize shK dn k = s at *
      generalize hs' : shK dn (k + 1) = s' at *
      have HS' := Lib.hid hs'
      clear hs'
      go_wp2_with fail
      refine (HS.out _).mono ?_
      rintro e w4 ⟨rfl, hb4⟩
      have K4 : Hid (Blk w4 w.heap.size #[.int .u8 dn, .bool false, .int .u8 s] 51) := Lib.hid (KA.out.below hb4)
      have K5 : Hid (Blk w4 (w.heap.size + 1) #[.int .u8 0, .bool false, .int .u8 0] 51) := Lib.hid (KB.out.below hb4)
      obtain ⟨l4, c4, f4⟩ := K4.out.use
      obtain ⟨l5, c5, f5⟩ := K5.out.use
      have hs4 := hb4.size
      go_wp2
      go_roundw
      case rel =>
        refine ⟨k + 1, by omega, by go_num, by rw [HR.out], by repeat' (first | exact Below.refl _ _ | assumption | refine below_alloc ?_ _ | refine Below.drew ?_ | refine below_drewN ?_ _ | refine below_then ?_ (by assumption) | refine Below.setCell ?_ ?_ _ | (simp; done) | (simp; omega) | omega), Lib.hid ?_, Lib.hid ?_⟩
        · rw [HS'.out]
          exact Blk.set (Blk.set (Blk.set K4.out rfl) rfl) rfl
        · exact Blk.setAt (Blk.setAt (Blk.setAt K5.out (by simp)) (by simp)) (by simp)
      case measure => simp [intOf]; omega
    · have hk8 : k = 8 := by omega
      subst hk8
      rw [shK_all dn hd] at KA cA
      rw [rdK_all]
      go_wp2
      go_region
      go_wp2
      refine bodyPost_ret (v := .tuple #[.int .u8 dn, .agg #[.int .u8 dn, .bool false, .int .u8 255]]) (by simp [results, Try.results34, go_sem, cB, fB, lB]) rfl ⟨rfl, ?_⟩
      exact by repeat' (first | exact Below.refl _ _ | assumption | refine below_alloc ?_ _ | refine Below.drew ?_ | refine below_drewN ?_ _ | refine below_then ?_ (by assumption) | refine Below.setCell ?_ ?_ _ | (simp; done) | (simp; omega) | omega)

theorem pressed_any (w : World) :
    Calls Try.prog 36 #[] w fun e w' => e = .returned (.bool true) ∧ Below w.heap.size w w' := by
  have h1 := all_any ⟨144, false, 0⟩ ⟨⟨by simp, by simp⟩, ⟨by simp, by simp⟩⟩
  have H1 := Lib.hid h1
  clear h1
  go_enter Try.func36, Try.ntmps36
  go_wp2_with fail
  refine (H1.out _).mono ?_
  rintro e w1 ⟨rfl, hb1⟩
  go_wp2
  go_ret
  exact ⟨rfl, by repeat' (first | exact Below.refl _ _ | assumption | refine below_alloc ?_ _ | refine Below.drew ?_ | refine below_drewN ?_ _ | refine below_then ?_ (by assumption) | refine Below.setCell ?_ ?_ _ | (simp; done) | (simp; omega) | omega)⟩

end Go.Proofs.Ytegilgnpkcjhpaa
