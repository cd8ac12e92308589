/- PadTells: for every pad, script and byte the law answers true. Conditions: none. -/
import Derived.Test.YtegilgnpkcjhpaaPad
namespace Go.Proofs.Ytegilgnpkcjhpaa.padTells
open Go.RowKit Go.Mq
set_option linter.unusedVariables false
set_option linter.unusedSimpArgs false

theorem press_dn (p : Pd) (d : Int) : (pressP p d).dn = d := by unfold pressP; split <;> rfl

set_option maxHeartbeats 2000000 in
set_option maxRecDepth 100000 in
theorem walk (dn : Int) (la : Bool) (sh : Int) (v : Value) (xs : List Int) (d : Int) (w : World) (hdn : U8 dn) (hsh : U8 sh) (hx : SliceAt w .u8 v xs) (hd : U8 d) :
    Calls Try.prog 9 #[.agg #[.int .u8 dn, .bool la, .int .u8 sh], v, .int .u8 d] w fun e w' => e = .returned (.bool true) ∧ Below w.heap.size w w' := by
  obtain ⟨a, cap, rfl, h1, h2, h3, h4⟩ := hx
  unfold maxLen at h2
  have H3 := Lib.hid h3
  have H4 := Lib.hid h4
  clear h3 h4
  go_enter Try.func9, Try.ntmps9
  go_wp2_with fail
  refine wp_mark (R := fun W => Below w.heap.size w W ∧ Hid (Blk W (w.heap.size) (#[.int .u8 dn, .bool la, .int .u8 sh]) 51)) ⟨by repeat' (first | exact Below.refl _ _ | assumption | refine below_alloc ?_ _ | refine Below.drew ?_ | refine below_drewN ?_ _ | refine below_then ?_ (by assumption) | refine Below.setCell ?_ ?_ _ | (simp; done) | (simp; omega) | omega), Lib.hid (by repeat' (first | (with_reducible first | exact Hid.out (by assumption) | exact Blk.new _ _ _ | (refine Blk.new_at _ _ _ _ ?_; simp; done) | refine Blk.alloc ?_ _ | refine Blk.drewN ?_ _ | refine Blk.drew ?_ | apply Blk.set | refine Blk.below ?_ (by assumption)) | (refine Blk.setAt ?_ ?_; rotate_left; (first | (simp; done) | (simp; omega))) | rfl))⟩ ?_
  rintro w0 ⟨hbw0, Kw0_0⟩
  obtain ⟨lw0_0, cw0_0, fw0_0⟩ := Kw0_0.out.use
  go_loopw [14] (fun i wr => ∃ (k : Nat) (p : Pd), k ≤ xs.length ∧ i = .int .i64 k ∧ p.Ok ∧ Below w.heap.size w wr ∧ Hid (Blk wr w.heap.size #[.int .u8 p.dn, .bool p.la, .int .u8 p.sh] 51)) (fun i _ => xs.length - (intOf i).toNat)
  case atStart => exact ⟨0, ⟨dn, la, sh⟩, by omega, rfl, ⟨hdn, hsh⟩, hbw0, Kw0_0⟩
  case round =>
    obtain ⟨k, p, hk, rfl, hp, hbr, KA⟩ := hrel
    clear Kw0_0 cw0_0 fw0_0
    obtain ⟨lA, cA, fA⟩ := KA.out.use
    have HP := Lib.hid hp
    clear hp
    by_cases hlt : k < xs.length
    · obtain ⟨b, off, ha, hbl, hc⟩ := H4.out (by omega)
      have hc := hc k hlt
      have hxw := H3.out (xs.getD k 0) (by rw [List.getD_eq_getElem?_getD, List.getElem?_eq_getElem hlt]; exact List.getElem_mem hlt)
      rw [← hbr.cell (p := ⟨b, off + k, none⟩) hbl] at hc
      generalize xs.getD k 0 = x at hc hxw
      obtain ⟨x0, x1⟩ := bounds_u8 hxw
      subst ha
      clear hxw
      by_cases m0 : x % 3 = 0
      · have t0 : (x % 3 == 0) = true := by rw [beq_iff_eq]; exact m0
        have hs := write_any p (x / 3) ⟨by omega, by omega⟩
        have hok := writeP_ok p (x / 3) HP.out
        generalize writeP p (x / 3) = q at hs hok
        have HS := Lib.hid hs
        have HQ := Lib.hid hok
        clear hs hok m0
        go_wp2_with fail
        refine (HS.out _).mono ?_
        rintro e w4 ⟨rfl, hb4⟩
        have K4 : Hid (Blk w4 w.heap.size #[.int .u8 p.dn, .bool p.la, .int .u8 p.sh] 51) := Lib.hid (KA.out.below hb4)
        obtain ⟨l4, c4, f4⟩ := K4.out.use
        have hs4 := hb4.size
        go_wp2
        go_roundw
        case rel => exact ⟨k + 1, q, by omega, by go_num, HQ.out, by repeat' (first | exact Below.refl _ _ | assumption | refine below_alloc ?_ _ | refine Below.drew ?_ | refine below_drewN ?_ _ | refine below_then ?_ (by assumption) | refine Below.setCell ?_ ?_ _ | (simp; done) | (simp; omega) | omega), Lib.hid (Blk.set (Blk.set (Blk.set K4.out rfl) rfl) rfl)⟩
        case measure => simp [intOf]; omega
      · by_cases m1 : x % 3 = 1
        · have t0 : (x % 3 == 0) = false := by rw [beq_eq_false_iff_ne]; exact m0
          have t1 : (x % 3 == 1) = true := by rw [beq_iff_eq]; exact m1
          have hs := read_any p HP.out
          have hok := readP_ok p HP.out
          generalize readP p = q at hs hok
          have HS := Lib.hid hs
          have HQ := Lib.hid hok
          clear hs hok m0 m1
          go_wp2_with fail
          refine (HS.out _).mono ?_
          rintro e w4 ⟨rfl, hb4⟩
          have K4 : Hid (Blk w4 w.heap.size #[.int .u8 p.dn, .bool p.la, .int .u8 p.sh] 51) := Lib.hid (KA.out.below hb4)
          obtain ⟨l4, c4, f4⟩ := K4.out.use
          have hs4 := hb4.size
          go_wp2
          go_roundw
          case rel => exact ⟨k + 1, q, by omega, by go_num, HQ.out, by repeat' (first | exact Below.refl _ _ | assumption | refine below_alloc ?_ _ | refine Below.drew ?_ | refine below_drewN ?_ _ | refine below_then ?_ (by assumption) | refine Below.setCell ?_ ?_ _ | (simp; done) | (simp; omega) | omega), Lib.hid (Blk.set (Blk.set (Blk.set K4.out rfl) rfl) rfl)⟩
          case measure => simp [intOf]; omega
        · have t0 : (x % 3 == 0) = false := by rw [beq_eq_false_iff_ne]; exact m0
          have t1 : (x % 3 == 1) = false := by rw [beq_eq_false_iff_ne]; exact m1
          have t2 : (x % 3 == 2) = true := by rw [beq_iff_eq]; omega
          have hs := press_any p HP.out x
          have hok := pressP_ok p x HP.out ⟨x0, x1⟩
          generalize pressP p x = q at hs hok
          have HS := Lib.hid hs
          have HQ := Lib.hid hok
          clear hs hok m0 m1
          go_wp2_with fail
          refine (HS.out _).mono ?_
          rintro e w4 ⟨rfl, hb4⟩
          have K4 : Hid (Blk w4 w.heap.size #[.int .u8 p.dn, .bool p.la, .int .u8 p.sh] 51) := Lib.hid (KA.out.below hb4)
          obtain ⟨l4, c4, f4⟩ := K4.out.use
          have hs4 := hb4.size
          go_wp2
          go_roundw
          case rel => exact ⟨k + 1, q, by omega, by go_num, HQ.out, by repeat' (first | exact Below.refl _ _ | assumption | refine below_alloc ?_ _ | refine Below.drew ?_ | refine below_drewN ?_ _ | refine below_then ?_ (by assumption) | refine Below.setCell ?_ ?_ _ | (simp; done) | (simp; omega) | omega), Lib.hid (Blk.set (Blk.set (Blk.set K4.out rfl) rfl) rfl)⟩
          case measure => simp [intOf]; omega
    · have hk' : k = xs.length := by omega
      have hs1 := press_any p HP.out d
      have hs2 := all_any (pressP p d) (pressP_ok p d HP.out hd)
      have hs3 := read_any ⟨d, false, 255⟩ ⟨hd, ⟨by simp, by simp⟩⟩
      rw [press_dn] at hs2
      rw [press_dn] at hs1
      simp [bitP, readP] at hs3
      have S1 := Lib.hid hs1
      have S2 := Lib.hid hs2
      have S3 := Lib.hid hs3
      clear hs1 hs2 hs3
      subst hk'
      go_wp2_with fail
      refine (S1.out _).mono ?_
      rintro e w4 ⟨rfl, hb4⟩
      have K4 : Hid (Blk w4 w.heap.size #[.int .u8 p.dn, .bool p.la, .int .u8 p.sh] 51) := Lib.hid (KA.out.below hb4)
      go_wp2_with fail
      refine (S2.out _).mono ?_
      rintro e w5 ⟨rfl, hb5⟩
      have K5 : Hid (Blk w5 w.heap.size #[.int .u8 p.dn, .bool p.la, .int .u8 p.sh] 51) := Lib.hid (K4.out.below hb5)
      obtain ⟨l5, c5, f5⟩ := K5.out.use
      go_wp2_with fail
      refine (S3.out _).mono ?_
      rintro e w6 ⟨rfl, hb6⟩
      go_wp2_with fail
      refine (pressed_any _).mono ?_
      rintro e w7 ⟨rfl, hb7⟩
      go_wp2
      go_ret
      exact ⟨rfl, by repeat' (first | exact Below.refl _ _ | assumption | refine below_alloc ?_ _ | refine Below.drew ?_ | refine below_drewN ?_ _ | refine below_then ?_ (by assumption) | refine Below.setCell ?_ ?_ _ | (simp; done) | (simp; omega) | omega)⟩
end Go.Proofs.Ytegilgnpkcjhpaa.padTells
