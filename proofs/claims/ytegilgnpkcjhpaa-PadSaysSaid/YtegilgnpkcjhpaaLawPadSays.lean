/- PadSays: for every pad and every two bytes the law answers true. Conditions: none. -/
import Derived.Test.YtegilgnpkcjhpaaPad
namespace Go.Proofs.Ytegilgnpkcjhpaa.padSays
open Go.RowKit Go.Mq
set_option linter.unusedVariables false
set_option linter.unusedSimpArgs false

set_option maxHeartbeats 4000000 in
set_option maxRecDepth 100000 in
theorem walk (dn : Int) (la : Bool) (sh : Int) (d b : Int) (hdn : U8 dn) (hsh : U8 sh) (hd : U8 d) (hb : U8 b) (w : World) :
    Calls Try.prog 8 #[.agg #[.int .u8 dn, .bool la, .int .u8 sh], .int .u8 d, .int .u8 b] w fun e w' => e = .returned (.bool true) ∧ Below w.heap.size w w' := by
  have hp : (⟨dn, la, sh⟩ : Pd).Ok := ⟨hdn, hsh⟩
  have h1 := read_any ⟨dn, la, sh⟩ hp
  have h2 := all_any ⟨dn, la, sh⟩ hp
  have h3 := refread_any ⟨dn, la, sh⟩ hp
  have h4 := write_any ⟨dn, la, sh⟩ b hb
  have h5 := refwrite_any ⟨dn, la, sh⟩ b hb
  have h6 := press_any ⟨dn, la, sh⟩ hp d
  have h7 := refpress_any ⟨dn, la, sh⟩ hp d
  have h8 := refwrite_any ⟨dn, la, sh⟩ 1 ⟨by omega, by omega⟩
  have h9 := refwrite_any ⟨dn, true, dn⟩ 0 ⟨by omega, by omega⟩
  simp [writeP] at h8 h9
  generalize readP ⟨dn, la, sh⟩ = q at h1 h3
  generalize bitP ⟨dn, la, sh⟩ = n at h1 h3
  generalize writeP ⟨dn, la, sh⟩ b = q2 at h4 h5
  generalize pressP ⟨dn, la, sh⟩ d = q3 at h6 h7
  simp only at h1 h2 h3 h4 h5 h6 h7
  have H1 := Lib.hid h1
  have H2 := Lib.hid h2
  have H3 := Lib.hid h3
  have H4 := Lib.hid h4
  have H5 := Lib.hid h5
  have H6 := Lib.hid h6
  have H7 := Lib.hid h7
  have H8 := Lib.hid h8
  have H9 := Lib.hid h9
  clear h1 h2 h3 h4 h5 h6 h7 h8 h9 hp
  go_enter Try.func8, Try.ntmps8
  go_wp2_with fail
  refine (H1.out _).mono ?_
  rintro e w1 ⟨rfl, hb1⟩
  have Kw1_0 : Hid (Blk w1 (w.heap.size) #[.int .u8 dn, .bool la, .int .u8 sh] 51) := Lib.hid (by repeat' (first | (with_reducible first | exact Hid.out (by assumption) | exact Blk.new _ _ _ | (refine Blk.new_at _ _ _ _ ?_; simp; done) | refine Blk.alloc ?_ _ | refine Blk.drewN ?_ _ | refine Blk.drew ?_ | apply Blk.set | refine Blk.below ?_ (by assumption)) | (refine Blk.setAt ?_ ?_; rotate_left; (first | (simp; done) | (simp; omega))) | rfl))
  obtain ⟨lw1_0, cw1_0, fw1_0⟩ := Kw1_0.out.use
  go_wp2_with fail
  refine (H2.out _).mono ?_
  rintro e w2 ⟨rfl, hb2⟩
  have Kw2_0 : Hid (Blk w2 (w.heap.size) #[.int .u8 dn, .bool la, .int .u8 sh] 51) := Lib.hid (by repeat' (first | (with_reducible first | exact Hid.out (by assumption) | exact Blk.new _ _ _ | (refine Blk.new_at _ _ _ _ ?_; simp; done) | refine Blk.alloc ?_ _ | refine Blk.drewN ?_ _ | refine Blk.drew ?_ | apply Blk.set | refine Blk.below ?_ (by assumption)) | (refine Blk.setAt ?_ ?_; rotate_left; (first | (simp; done) | (simp; omega))) | rfl))
  have Kw2_1 : Hid (Blk w2 (w1.heap.size) #[.int .u8 q.dn, .bool q.la, .int .u8 q.sh] 51) := Lib.hid (by repeat' (first | (with_reducible first | exact Hid.out (by assumption) | exact Blk.new _ _ _ | (refine Blk.new_at _ _ _ _ ?_; simp; done) | refine Blk.alloc ?_ _ | refine Blk.drewN ?_ _ | refine Blk.drew ?_ | apply Blk.set | refine Blk.below ?_ (by assumption)) | (refine Blk.setAt ?_ ?_; rotate_left; (first | (simp; done) | (simp; omega))) | rfl))
  clear Kw1_0 cw1_0 fw1_0
  obtain ⟨lw2_0, cw2_0, fw2_0⟩ := Kw2_0.out.use
  obtain ⟨lw2_1, cw2_1, fw2_1⟩ := Kw2_1.out.use
  go_wp2_with fail
  refine (H3.out _).mono ?_
  rintro e w3 ⟨rfl, hb3⟩
  have Kw3_0 : Hid (Blk w3 (w.heap.size) #[.int .u8 dn, .bool la, .int .u8 sh] 51) := Lib.hid (by repeat' (first | (with_reducible first | exact Hid.out (by assumption) | exact Blk.new _ _ _ | (refine Blk.new_at _ _ _ _ ?_; simp; done) | refine Blk.alloc ?_ _ | refine Blk.drewN ?_ _ | refine Blk.drew ?_ | apply Blk.set | refine Blk.below ?_ (by assumption)) | (refine Blk.setAt ?_ ?_; rotate_left; (first | (simp; done) | (simp; omega))) | rfl))
  have Kw3_1 : Hid (Blk w3 (w1.heap.size) #[.int .u8 q.dn, .bool q.la, .int .u8 q.sh] 51) := Lib.hid (by repeat' (first | (with_reducible first | exact Hid.out (by assumption) | exact Blk.new _ _ _ | (refine Blk.new_at _ _ _ _ ?_; simp; done) | refine Blk.alloc ?_ _ | refine Blk.drewN ?_ _ | refine Blk.drew ?_ | apply Blk.set | refine Blk.below ?_ (by assumption)) | (refine Blk.setAt ?_ ?_; rotate_left; (first | (simp; done) | (simp; omega))) | rfl))
  have Kw3_2 : Hid (Blk w3 (w2.heap.size) #[.int .u8 dn, .bool false, .int .u8 255] 51) := Lib.hid (by repeat' (first | (with_reducible first | exact Hid.out (by assumption) | exact Blk.new _ _ _ | (refine Blk.new_at _ _ _ _ ?_; simp; done) | refine Blk.alloc ?_ _ | refine Blk.drewN ?_ _ | refine Blk.drew ?_ | apply Blk.set | refine Blk.below ?_ (by assumption)) | (refine Blk.setAt ?_ ?_; rotate_left; (first | (simp; done) | (simp; omega))) | rfl))
  clear Kw2_0 cw2_0 fw2_0 Kw2_1 cw2_1 fw2_1
  obtain ⟨lw3_0, cw3_0, fw3_0⟩ := Kw3_0.out.use
  obtain ⟨lw3_1, cw3_1, fw3_1⟩ := Kw3_1.out.use
  obtain ⟨lw3_2, cw3_2, fw3_2⟩ := Kw3_2.out.use
  go_wp2_with fail
  refine wp_mark (R := fun W => Below w.heap.size w W ∧ Hid (Blk W (w.heap.size) (#[.int .u8 dn, .bool la, .int .u8 sh]) 51) ∧ Hid (Blk W (w1.heap.size) (#[.int .u8 q.dn, .bool q.la, .int .u8 q.sh]) 51) ∧ Hid (Blk W (w2.heap.size) (#[.int .u8 dn, .bool false, .int .u8 255]) 51) ∧ Hid (Blk W (w3.heap.size) (#[.int .u8 q.dn, .bool q.la, .int .u8 q.sh]) 51)) ⟨by repeat' (first | exact Below.refl _ _ | assumption | refine below_alloc ?_ _ | refine Below.drew ?_ | refine below_drewN ?_ _ | refine below_then ?_ (by assumption) | refine Below.setCell ?_ ?_ _ | (simp; done) | (simp; omega) | omega), Lib.hid (by repeat' (first | (with_reducible first | exact Hid.out (by assumption) | exact Blk.new _ _ _ | (refine Blk.new_at _ _ _ _ ?_; simp; done) | refine Blk.alloc ?_ _ | refine Blk.drewN ?_ _ | refine Blk.drew ?_ | apply Blk.set | refine Blk.below ?_ (by assumption)) | (refine Blk.setAt ?_ ?_; rotate_left; (first | (simp; done) | (simp; omega))) | rfl)), Lib.hid (by repeat' (first | (with_reducible first | exact Hid.out (by assumption) | exact Blk.new _ _ _ | (refine Blk.new_at _ _ _ _ ?_; simp; done) | refine Blk.alloc ?_ _ | refine Blk.drewN ?_ _ | refine Blk.drew ?_ | apply Blk.set | refine Blk.below ?_ (by assumption)) | (refine Blk.setAt ?_ ?_; rotate_left; (first | (simp; done) | (simp; omega))) | rfl)), Lib.hid (by repeat' (first | (with_reducible first | exact Hid.out (by assumption) | exact Blk.new _ _ _ | (refine Blk.new_at _ _ _ _ ?_; simp; done) | refine Blk.alloc ?_ _ | refine Blk.drewN ?_ _ | refine Blk.drew ?_ | apply Blk.set | refine Blk.below ?_ (by assumption)) | (refine Blk.setAt ?_ ?_; rotate_left; (first | (simp; done) | (simp; omega))) | rfl)), Lib.hid (by repeat' (first | (with_reducible first | exact Hid.out (by assumption) | exact Blk.new _ _ _ | (refine Blk.new_at _ _ _ _ ?_; simp; done) | refine Blk.alloc ?_ _ | refine Blk.drewN ?_ _ | refine Blk.drew ?_ | apply Blk.set | refine Blk.below ?_ (by assumption)) | (refine Blk.setAt ?_ ?_; rotate_left; (first | (simp; done) | (simp; omega))) | rfl))⟩ ?_
  rintro w4 ⟨hbw4, Kw4_0, Kw4_1, Kw4_2, Kw4_3⟩
  clear Kw3_0 cw3_0 fw3_0 Kw3_1 cw3_1 fw3_1 Kw3_2 cw3_2 fw3_2
  obtain ⟨lw4_0, cw4_0, fw4_0⟩ := Kw4_0.out.use
  obtain ⟨lw4_1, cw4_1, fw4_1⟩ := Kw4_1.out.use
  obtain ⟨lw4_2, cw4_2, fw4_2⟩ := Kw4_2.out.use
  obtain ⟨lw4_3, cw4_3, fw4_3⟩ := Kw4_3.out.use
  have S0 := held3_of (Below.refl w4.heap.size w4) (show Blk w4 (w.heap.size) (#[.int .u8 dn, .bool la, .int .u8 sh]) 51 from (by repeat' (first | (with_reducible first | exact Hid.out (by assumption) | exact Blk.new _ _ _ | (refine Blk.new_at _ _ _ _ ?_; simp; done) | refine Blk.alloc ?_ _ | refine Blk.drewN ?_ _ | refine Blk.drew ?_ | apply Blk.set | refine Blk.below ?_ (by assumption)) | (refine Blk.setAt ?_ ?_; rotate_left; (first | (simp; done) | (simp; omega))) | rfl))) (show Blk w4 (w1.heap.size) (#[.int .u8 q.dn, .bool q.la, .int .u8 q.sh]) 51 from (by repeat' (first | (with_reducible first | exact Hid.out (by assumption) | exact Blk.new _ _ _ | (refine Blk.new_at _ _ _ _ ?_; simp; done) | refine Blk.alloc ?_ _ | refine Blk.drewN ?_ _ | refine Blk.drew ?_ | apply Blk.set | refine Blk.below ?_ (by assumption)) | (refine Blk.setAt ?_ ?_; rotate_left; (first | (simp; done) | (simp; omega))) | rfl))) (show Blk w4 (w3.heap.size) (#[.int .u8 q.dn, .bool q.la, .int .u8 q.sh]) 51 from (by repeat' (first | (with_reducible first | exact Hid.out (by assumption) | exact Blk.new _ _ _ | (refine Blk.new_at _ _ _ _ ?_; simp; done) | refine Blk.alloc ?_ _ | refine Blk.drewN ?_ _ | refine Blk.drew ?_ | apply Blk.set | refine Blk.below ?_ (by assumption)) | (refine Blk.setAt ?_ ?_; rotate_left; (first | (simp; done) | (simp; omega))) | rfl)))
  go_region_held3 (fun w' => Below w4.heap.size w4 w' ∧ Blk w' (w.heap.size) (#[.int .u8 dn, .bool la, .int .u8 sh]) 51 ∧ (∀ i, w'.cell? ⟨w.heap.size, i, none⟩ = (#[.int .u8 dn, .bool la, .int .u8 sh] : Array Value)[i]?) ∧ w.heap.size < w'.heap.size ∧ Blk w' (w1.heap.size) (#[.int .u8 q.dn, .bool q.la, .int .u8 q.sh]) 51 ∧ (∀ i, w'.cell? ⟨w1.heap.size, i, none⟩ = (#[.int .u8 q.dn, .bool q.la, .int .u8 q.sh] : Array Value)[i]?) ∧ w1.heap.size < w'.heap.size ∧ Blk w' (w3.heap.size) (#[.int .u8 q.dn, .bool q.la, .int .u8 q.sh]) 51 ∧ (∀ i, w'.cell? ⟨w3.heap.size, i, none⟩ = (#[.int .u8 q.dn, .bool q.la, .int .u8 q.sh] : Array Value)[i]?) ∧ w3.heap.size < w'.heap.size) ((first | exact held3_drew S0 | exact held3_below (by assumption) (by assumption))) (first | (go_at_call 36; refine (pressed_any _).mono ?_; rintro e w5 ⟨rfl, hb_w5⟩) | (go_at_call 37; refine (H4.out _).mono ?_; rintro e w5 ⟨rfl, hb_w5⟩) | (go_at_call 38; refine (H5.out _).mono ?_; rintro e w5 ⟨rfl, hb_w5⟩) | (go_at_call 39; refine (H6.out _).mono ?_; rintro e w5 ⟨rfl, hb_w5⟩) | (go_at_call 40; refine (H7.out _).mono ?_; rintro e w5 ⟨rfl, hb_w5⟩))
  have hbw5 : Below w4.heap.size w4 w5 := And.left (show Below w4.heap.size w4 w5 ∧ Blk w5 (w.heap.size) (#[.int .u8 dn, .bool la, .int .u8 sh]) 51 ∧ (∀ i, w5.cell? ⟨w.heap.size, i, none⟩ = (#[.int .u8 dn, .bool la, .int .u8 sh] : Array Value)[i]?) ∧ w.heap.size < w5.heap.size ∧ Blk w5 (w1.heap.size) (#[.int .u8 q.dn, .bool q.la, .int .u8 q.sh]) 51 ∧ (∀ i, w5.cell? ⟨w1.heap.size, i, none⟩ = (#[.int .u8 q.dn, .bool q.la, .int .u8 q.sh] : Array Value)[i]?) ∧ w1.heap.size < w5.heap.size ∧ Blk w5 (w3.heap.size) (#[.int .u8 q.dn, .bool q.la, .int .u8 q.sh]) 51 ∧ (∀ i, w5.cell? ⟨w3.heap.size, i, none⟩ = (#[.int .u8 q.dn, .bool q.la, .int .u8 q.sh] : Array Value)[i]?) ∧ w3.heap.size < w5.heap.size by assumption)
  clear S0
  have Kw5_0 : Hid (Blk w5 (w.heap.size) #[.int .u8 dn, .bool la, .int .u8 sh] 51) := Lib.hid (by repeat' (first | (with_reducible first | exact Hid.out (by assumption) | exact Blk.new _ _ _ | (refine Blk.new_at _ _ _ _ ?_; simp; done) | refine Blk.alloc ?_ _ | refine Blk.drewN ?_ _ | refine Blk.drew ?_ | apply Blk.set | refine Blk.below ?_ (by assumption)) | (refine Blk.setAt ?_ ?_; rotate_left; (first | (simp; done) | (simp; omega))) | rfl))
  have Kw5_1 : Hid (Blk w5 (w2.heap.size) #[.int .u8 dn, .bool false, .int .u8 255] 51) := Lib.hid (by repeat' (first | (with_reducible first | exact Hid.out (by assumption) | exact Blk.new _ _ _ | (refine Blk.new_at _ _ _ _ ?_; simp; done) | refine Blk.alloc ?_ _ | refine Blk.drewN ?_ _ | refine Blk.drew ?_ | apply Blk.set | refine Blk.below ?_ (by assumption)) | (refine Blk.setAt ?_ ?_; rotate_left; (first | (simp; done) | (simp; omega))) | rfl))
  clear Kw4_0 cw4_0 fw4_0 Kw4_1 cw4_1 fw4_1 Kw4_2 cw4_2 fw4_2 Kw4_3 cw4_3 fw4_3
  obtain ⟨lw5_0, cw5_0, fw5_0⟩ := Kw5_0.out.use
  obtain ⟨lw5_1, cw5_1, fw5_1⟩ := Kw5_1.out.use
  go_wp2_with fail
  refine (H8.out _).mono ?_
  rintro e w6 ⟨rfl, hb6⟩
  have Kw6_0 : Hid (Blk w6 (w.heap.size) #[.int .u8 dn, .bool la, .int .u8 sh] 51) := Lib.hid (by repeat' (first | (with_reducible first | exact Hid.out (by assumption) | exact Blk.new _ _ _ | (refine Blk.new_at _ _ _ _ ?_; simp; done) | refine Blk.alloc ?_ _ | refine Blk.drewN ?_ _ | refine Blk.drew ?_ | apply Blk.set | refine Blk.below ?_ (by assumption)) | (refine Blk.setAt ?_ ?_; rotate_left; (first | (simp; done) | (simp; omega))) | rfl))
  have Kw6_1 : Hid (Blk w6 (w2.heap.size) #[.int .u8 dn, .bool false, .int .u8 255] 51) := Lib.hid (by repeat' (first | (with_reducible first | exact Hid.out (by assumption) | exact Blk.new _ _ _ | (refine Blk.new_at _ _ _ _ ?_; simp; done) | refine Blk.alloc ?_ _ | refine Blk.drewN ?_ _ | refine Blk.drew ?_ | apply Blk.set | refine Blk.below ?_ (by assumption)) | (refine Blk.setAt ?_ ?_; rotate_left; (first | (simp; done) | (simp; omega))) | rfl))
  clear Kw5_0 cw5_0 fw5_0 Kw5_1 cw5_1 fw5_1
  obtain ⟨lw6_0, cw6_0, fw6_0⟩ := Kw6_0.out.use
  obtain ⟨lw6_1, cw6_1, fw6_1⟩ := Kw6_1.out.use
  go_wp2_with fail
  refine (H9.out _).mono ?_
  rintro e w7 ⟨rfl, hb7⟩
  have Kw7_0 : Hid (Blk w7 (w2.heap.size) #[.int .u8 dn, .bool false, .int .u8 255] 51) := Lib.hid (by repeat' (first | (with_reducible first | exact Hid.out (by assumption) | exact Blk.new _ _ _ | (refine Blk.new_at _ _ _ _ ?_; simp; done) | refine Blk.alloc ?_ _ | refine Blk.drewN ?_ _ | refine Blk.drew ?_ | apply Blk.set | refine Blk.below ?_ (by assumption)) | (refine Blk.setAt ?_ ?_; rotate_left; (first | (simp; done) | (simp; omega))) | rfl))
  clear Kw6_0 cw6_0 fw6_0 Kw6_1 cw6_1 fw6_1
  obtain ⟨lw7_0, cw7_0, fw7_0⟩ := Kw7_0.out.use
  go_wp2_with fail
  refine wp_mark (R := fun W => Below w.heap.size w W ∧ Hid (Blk W (w2.heap.size) (#[.int .u8 dn, .bool false, .int .u8 255]) 51) ∧ Hid (Blk W (w7.heap.size) (#[.int .u8 dn, .bool false, .int .u8 dn]) 51)) ⟨by repeat' (first | exact Below.refl _ _ | assumption | refine below_alloc ?_ _ | refine Below.drew ?_ | refine below_drewN ?_ _ | refine below_then ?_ (by assumption) | refine Below.setCell ?_ ?_ _ | (simp; done) | (simp; omega) | omega), Lib.hid (by repeat' (first | (with_reducible first | exact Hid.out (by assumption) | exact Blk.new _ _ _ | (refine Blk.new_at _ _ _ _ ?_; simp; done) | refine Blk.alloc ?_ _ | refine Blk.drewN ?_ _ | refine Blk.drew ?_ | apply Blk.set | refine Blk.below ?_ (by assumption)) | (refine Blk.setAt ?_ ?_; rotate_left; (first | (simp; done) | (simp; omega))) | rfl)), Lib.hid (by repeat' (first | (with_reducible first | exact Hid.out (by assumption) | exact Blk.new _ _ _ | (refine Blk.new_at _ _ _ _ ?_; simp; done) | refine Blk.alloc ?_ _ | refine Blk.drewN ?_ _ | refine Blk.drew ?_ | apply Blk.set | refine Blk.below ?_ (by assumption)) | (refine Blk.setAt ?_ ?_; rotate_left; (first | (simp; done) | (simp; omega))) | rfl))⟩ ?_
  rintro w8 ⟨hbw8, Kw8_0, Kw8_1⟩
  clear Kw7_0 cw7_0 fw7_0
  obtain ⟨lw8_0, cw8_0, fw8_0⟩ := Kw8_0.out.use
  obtain ⟨lw8_1, cw8_1, fw8_1⟩ := Kw8_1.out.use
  have hne : w2.heap.size < w7.heap.size := lw7_0
  go_loopw [14, 65] (fun x i wr => ∃ k : Nat, k ≤ 8 ∧ i = .int .i64 k ∧ x = .int .i64 (rdK dn k) ∧ Below w.heap.size w wr ∧ Hid (Blk wr w2.heap.size #[.int .u8 dn, .bool false, .int .u8 255] 51) ∧ Hid (Blk wr w7.heap.size #[.int .u8 dn, .bool false, .int .u8 (shK dn k)] 51)) (fun _ i _ => 8 - (intOf i).toNat)
  case atStart => exact ⟨0, by omega, rfl, by rw [rdK_zero dn hdn], hbw8, Kw8_0, Lib.hid (by rw [shK_zero dn hdn]; exact Kw8_1.out)⟩
  case round =>
    obtain ⟨k, hk, rfl, rfl, hbr, KB, KA⟩ := hrel
    clear Kw8_0 Kw8_1 cw8_0 cw8_1 fw8_0 fw8_1
    obtain ⟨lA, cA, fA⟩ := KA.out.use
    obtain ⟨lB, cB, fB⟩ := KB.out.use
    by_cases hlt : k < 8
    · have hs := refread_any ⟨dn, false, shK dn k⟩ ⟨hdn, shK_u dn hdn k (by omega)⟩
      simp only [bitP, readP, Bool.false_eq_true, if_false] at hs
      rw [shK_succ dn hdn k hlt] at hs
      have hr := rdK_succ dn hdn k hlt
      have hs1 := shK_u dn hdn k (by omega)
      have hr0 := rdK_u dn hdn k (by omega)
      unfold U8 at hs1 hr0
      have HS := Lib.hid hs
      have HR := Lib.hid hr
      clear hs hr
      generalize rdK dn k = r at *
      generalize shK dn k = s at *
      generalize hs' : shK dn (k + 1) = s' at *
      have HS' := Lib.hid hs'
      clear hs'
      go_wp2_with fail
      refine (HS.out _).mono ?_
      rintro e w9 ⟨rfl, hb9⟩
      have K4 : Hid (Blk w9 w7.heap.size #[.int .u8 dn, .bool false, .int .u8 s] 51) := Lib.hid (KA.out.below hb9)
      have K5 : Hid (Blk w9 w2.heap.size #[.int .u8 dn, .bool false, .int .u8 255] 51) := Lib.hid (KB.out.below hb9)
      obtain ⟨l4, c4, f4⟩ := K4.out.use
      obtain ⟨l5, c5, f5⟩ := K5.out.use
      have hs4 := hb9.size
      go_wp2
      go_region
      go_wp2
      go_roundw
      case rel =>
        refine ⟨k + 1, by omega, by go_num, by rw [← HR.out], by repeat' (first | exact Below.refl _ _ | assumption | refine below_alloc ?_ _ | refine Below.drew ?_ | refine below_drewN ?_ _ | refine below_then ?_ (by assumption) | refine Below.setCell ?_ ?_ _ | (simp; done) | (simp; omega) | omega), Lib.hid ?_, Lib.hid ?_⟩
        · exact (by repeat' (first | (with_reducible first | exact Hid.out (by assumption) | exact Blk.new _ _ _ | (refine Blk.new_at _ _ _ _ ?_; simp; done) | refine Blk.alloc ?_ _ | refine Blk.drewN ?_ _ | refine Blk.drew ?_ | apply Blk.set | refine Blk.below ?_ (by assumption)) | (refine Blk.setAt ?_ ?_; rotate_left; (first | (simp; done) | (simp; omega))) | rfl))
        · rw [HS'.out]
          exact (by repeat' (first | (with_reducible first | exact Hid.out (by assumption) | exact Blk.new _ _ _ | (refine Blk.new_at _ _ _ _ ?_; simp; done) | refine Blk.alloc ?_ _ | refine Blk.drewN ?_ _ | refine Blk.drew ?_ | apply Blk.set | refine Blk.below ?_ (by assumption)) | (refine Blk.setAt ?_ ?_; rotate_left; (first | (simp; done) | (simp; omega))) | rfl))
      case measure => simp [intOf]; omega
    · have hk8 : k = 8 := by omega
      subst hk8
      rw [shK_all dn hdn] at KA cA
      rw [rdK_all]
      obtain ⟨dn0, dn1⟩ := id hdn
      go_wp2
      go_ret
      exact ⟨rfl, hbr⟩
end Go.Proofs.Ytegilgnpkcjhpaa.padSays
