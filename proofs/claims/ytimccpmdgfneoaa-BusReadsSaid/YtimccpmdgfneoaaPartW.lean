/- What the program's pad, and the document's, compute. Conditions: the pad's bytes are bytes. -/
import Derived.Test.YtimccpmdgfneoaaRows
import Derived.Test.YtimccpmdgfneoaaPartP
namespace Go.Proofs.Ytimccpmdgfneoaa
open Go.RowKit Go.Mq
set_option linter.unusedVariables false
set_option linter.unusedSimpArgs false

theorem padwrite_any (p : Pd) (b : Int) (hb : U8 b) (w : World) :
    Calls Try.prog 54 #[.agg #[.int .u8 p.dn, .bool p.la, .int .u8 p.sh], .int .u8 b] w fun e w' => e = .returned (.agg #[.int .u8 (writeP p b).dn, .bool (writeP p b).la, .int .u8 (writeP p b).sh]) ∧ Below w.heap.size w w' := by
  obtain ⟨dn, la, sh⟩ := p
  obtain ⟨hb0, hb1⟩ := hb
  unfold writeP
  by_cases h : b % 2 = 1
  · have e1 : (bits .and .u8 b 1 == 1) = true := by
      rw [u8_and b 1 hb0 (by omega) (by omega) (by omega), show (1 : Int).toNat = 1 from rfl, nat_mask1, beq_iff_eq]; omega
    simp only [if_pos h]
    clear h
    go_enter Try.func54, Try.ntmps54
    go_wp2
    refine bodyPost_ret (v := .agg #[.int .u8 dn, .bool true, .int .u8 dn]) (by simp [results, Try.results54, go_sem]) rfl ⟨rfl, ?_⟩
    exact by repeat' (first | (with_reducible first | exact Below.refl _ _ | assumption | refine below_alloc ?_ _ | refine Below.drew ?_ | refine below_drewN ?_ _ | refine below_then ?_ (by assumption) | refine below_put ?_ (by assumption) (by first | (simp; done) | (simp; omega) | omega) | refine Below.setCell ?_ ?_ _) | (simp; done) | (simp; omega) | omega)
  · have e1 : (bits .and .u8 b 1 == 1) = false := by
      rw [u8_and b 1 hb0 (by omega) (by omega) (by omega), show (1 : Int).toNat = 1 from rfl, nat_mask1, beq_eq_false_iff_ne]; omega
    simp only [if_neg h]
    clear h
    go_enter Try.func54, Try.ntmps54
    go_wp2
    refine bodyPost_ret (v := .agg #[.int .u8 dn, .bool false, .int .u8 sh]) (by simp [results, Try.results54, go_sem]) rfl ⟨rfl, ?_⟩
    exact by repeat' (first | (with_reducible first | exact Below.refl _ _ | assumption | refine below_alloc ?_ _ | refine Below.drew ?_ | refine below_drewN ?_ _ | refine below_then ?_ (by assumption) | refine below_put ?_ (by assumption) (by first | (simp; done) | (simp; omega) | omega) | refine Below.setCell ?_ ?_ _) | (simp; done) | (simp; omega) | omega)

theorem refwrite_any (p : Pd) (b : Int) (hb : U8 b) (w : World) :
    Calls Try.prog 39 #[.agg #[.int .u8 p.dn, .bool p.la, .int .u8 p.sh], .int .u8 b] w fun e w' => e = .returned (.agg #[.int .u8 (writeP p b).dn, .bool (writeP p b).la, .int .u8 (writeP p b).sh]) ∧ Below w.heap.size w w' := by
  obtain ⟨dn, la, sh⟩ := p
  obtain ⟨hb0, hb1⟩ := hb
  unfold writeP
  by_cases h : b % 2 = 1
  · have e1 : (b % 2 == 1) = true := by rw [beq_iff_eq]; omega
    simp only [if_pos h]
    clear h
    go_enter Try.func39, Try.ntmps39
    go_wp2
    refine bodyPost_ret (v := .agg #[.int .u8 dn, .bool true, .int .u8 dn]) (by simp [results, Try.results39, go_sem]) rfl ⟨rfl, ?_⟩
    exact by repeat' (first | (with_reducible first | exact Below.refl _ _ | assumption | refine below_alloc ?_ _ | refine Below.drew ?_ | refine below_drewN ?_ _ | refine below_then ?_ (by assumption) | refine below_put ?_ (by assumption) (by first | (simp; done) | (simp; omega) | omega) | refine Below.setCell ?_ ?_ _) | (simp; done) | (simp; omega) | omega)
  · have e1 : (b % 2 == 1) = false := by rw [beq_eq_false_iff_ne]; omega
    simp only [if_neg h]
    clear h
    go_enter Try.func39, Try.ntmps39
    go_wp2
    refine bodyPost_ret (v := .agg #[.int .u8 dn, .bool false, .int .u8 sh]) (by simp [results, Try.results39, go_sem]) rfl ⟨rfl, ?_⟩
    exact by repeat' (first | (with_reducible first | exact Below.refl _ _ | assumption | refine below_alloc ?_ _ | refine Below.drew ?_ | refine below_drewN ?_ _ | refine below_then ?_ (by assumption) | refine below_put ?_ (by assumption) (by first | (simp; done) | (simp; omega) | omega) | refine Below.setCell ?_ ?_ _) | (simp; done) | (simp; omega) | omega)

theorem padread_any (p : Pd) (hp : p.Ok) (w : World) :
    Calls Try.prog 52 #[.agg #[.int .u8 p.dn, .bool p.la, .int .u8 p.sh]] w fun e w' => e = .returned (.tuple #[.int .u8 (bitP p), .agg #[.int .u8 (readP p).dn, .bool (readP p).la, .int .u8 (readP p).sh]]) ∧ Below w.heap.size w w' := by
  obtain ⟨dn, la, sh⟩ := p
  obtain ⟨⟨d0, d1⟩, ⟨s0, s1⟩⟩ := hp
  simp only at d0 d1 s0 s1
  unfold bitP readP
  cases la
  · simp only [Bool.false_eq_true, if_false]
    have e1 : IntKind.u8.wrap (sh * 2) = sh * 2 % 256 := wrap8 _
    have e2 : bits .or .u8 (sh * 2 % 256) 1 = sh * 2 % 256 + 1 := or1 _ (by omega) (by omega) (by omega)
    go_enter Try.func52, Try.ntmps52
    go_wp2
    go_region
    go_wp2
    refine bodyPost_ret (v := .tuple #[.int .u8 (sh / 128), .agg #[.int .u8 dn, .bool false, .int .u8 (sh * 2 % 256 + 1)]]) (by simp [results, Try.results52, go_sem]) rfl ⟨rfl, ?_⟩
    exact by repeat' (first | (with_reducible first | exact Below.refl _ _ | assumption | refine below_alloc ?_ _ | refine Below.drew ?_ | refine below_drewN ?_ _ | refine below_then ?_ (by assumption) | refine below_put ?_ (by assumption) (by first | (simp; done) | (simp; omega) | omega) | refine Below.setCell ?_ ?_ _) | (simp; done) | (simp; omega) | omega)
  · simp only [if_true]
    go_enter Try.func52, Try.ntmps52
    go_wp2
    go_region
    go_wp2
    refine bodyPost_ret (v := .tuple #[.int .u8 (dn / 128), .agg #[.int .u8 dn, .bool true, .int .u8 sh]]) (by simp [results, Try.results52, go_sem]) rfl ⟨rfl, ?_⟩
    exact by repeat' (first | (with_reducible first | exact Below.refl _ _ | assumption | refine below_alloc ?_ _ | refine Below.drew ?_ | refine below_drewN ?_ _ | refine below_then ?_ (by assumption) | refine below_put ?_ (by assumption) (by first | (simp; done) | (simp; omega) | omega) | refine Below.setCell ?_ ?_ _) | (simp; done) | (simp; omega) | omega)

theorem refread_any (p : Pd) (hp : p.Ok) (w : World) :
    Calls Try.prog 34 #[.agg #[.int .u8 p.dn, .bool p.la, .int .u8 p.sh]] w fun e w' => e = .returned (.tuple #[.int .u8 (bitP p), .agg #[.int .u8 (readP p).dn, .bool (readP p).la, .int .u8 (readP p).sh]]) ∧ Below w.heap.size w w' := by
  obtain ⟨dn, la, sh⟩ := p
  obtain ⟨⟨d0, d1⟩, ⟨s0, s1⟩⟩ := hp
  simp only at d0 d1 s0 s1
  unfold bitP readP
  cases la
  · simp only [Bool.false_eq_true, if_false]
    have e1 : IntKind.u8.wrap (sh * 2) = sh * 2 % 256 := wrap8 _
    go_enter Try.func34, Try.ntmps34
    go_wp2
    go_region
    go_wp2
    refine bodyPost_ret (v := .tuple #[.int .u8 (sh / 128), .agg #[.int .u8 dn, .bool false, .int .u8 (sh * 2 % 256 + 1)]]) (by simp [results, Try.results34, go_sem]) rfl ⟨rfl, ?_⟩
    exact by repeat' (first | (with_reducible first | exact Below.refl _ _ | assumption | refine below_alloc ?_ _ | refine Below.drew ?_ | refine below_drewN ?_ _ | refine below_then ?_ (by assumption) | refine below_put ?_ (by assumption) (by first | (simp; done) | (simp; omega) | omega) | refine Below.setCell ?_ ?_ _) | (simp; done) | (simp; omega) | omega)
  · simp only [if_true]
    go_enter Try.func34, Try.ntmps34
    go_wp2
    go_region
    go_wp2
    refine bodyPost_ret (v := .tuple #[.int .u8 (dn / 128), .agg #[.int .u8 dn, .bool true, .int .u8 sh]]) (by simp [results, Try.results34, go_sem]) rfl ⟨rfl, ?_⟩
    exact by repeat' (first | (with_reducible first | exact Below.refl _ _ | assumption | refine below_alloc ?_ _ | refine Below.drew ?_ | refine below_drewN ?_ _ | refine below_then ?_ (by assumption) | refine below_put ?_ (by assumption) (by first | (simp; done) | (simp; omega) | omega) | refine Below.setCell ?_ ?_ _) | (simp; done) | (simp; omega) | omega)

end Go.Proofs.Ytimccpmdgfneoaa

/- What the program's timer, and the document's, compute. Conditions: the timer's words are words. -/
namespace Go.Proofs.Ytimccpmdgfneoaa
open Go.RowKit Go.Mq

theorem tmset_any (t : Tim) (ht : t.Ok) (b : Bool) (w : World) :
    Calls Try.prog 56 #[.agg #[.int .u16 t.rl, .int .u16 t.ct, .bool t.on, .bool t.rg], .bool b] w fun e w' => e = .returned (.agg #[.int .u16 (setTm t b).rl, .int .u16 (setTm t b).ct, .bool (setTm t b).on, .bool (setTm t b).rg]) ∧ Below w.heap.size w w' := by
  obtain ⟨⟨hr0, hr1⟩, ⟨hc0, hc1⟩⟩ := id ht
  obtain ⟨rl, ct, on, rg⟩ := t
  simp only at hr0 hr1 hc0 hc1
  clear ht
  unfold setTm
  cases b
  · simp only [Bool.false_eq_true, if_false]
    go_enter Try.func56, Try.ntmps56
    go_wp2
    refine bodyPost_ret (v := .agg #[.int .u16 rl, .int .u16 ct, .bool false, .bool rg]) (by simp [results, Try.results56, go_sem]) rfl ⟨rfl, ?_⟩
    exact by repeat' (first | (with_reducible first | exact Below.refl _ _ | assumption | refine below_alloc ?_ _ | refine Below.drew ?_ | refine below_drewN ?_ _ | refine below_then ?_ (by assumption) | refine below_put ?_ (by assumption) (by first | (simp; done) | (simp; omega) | omega) | refine Below.setCell ?_ ?_ _) | (simp; done) | (simp; omega) | omega)
  · simp only [if_true]
    go_enter Try.func56, Try.ntmps56
    go_wp2
    refine bodyPost_ret (v := .agg #[.int .u16 rl, .int .u16 rl, .bool true, .bool rg]) (by simp [results, Try.results56, go_sem]) rfl ⟨rfl, ?_⟩
    exact by repeat' (first | (with_reducible first | exact Below.refl _ _ | assumption | refine below_alloc ?_ _ | refine Below.drew ?_ | refine below_drewN ?_ _ | refine below_then ?_ (by assumption) | refine below_put ?_ (by assumption) (by first | (simp; done) | (simp; omega) | omega) | refine Below.setCell ?_ ?_ _) | (simp; done) | (simp; omega) | omega)

end Go.Proofs.Ytimccpmdgfneoaa

/- What the program's beam, and the document's, compute. Conditions: the fields are ints. -/
namespace Go.Proofs.Ytimccpmdgfneoaa
open Go.RowKit Go.Mq
set_option linter.unusedVariables false
set_option linter.unusedSimpArgs false
set_option maxHeartbeats 2000000

theorem bcheck_ok (b : Bm) (hb : b.Ok) (w : World) :
    Calls Try.prog 25 #[.agg #[.int .i64 b.ln, .int .i64 b.pt, .bool b.rg, .int .i64 b.fr]] w fun e w' => e = .returned (.int .i64 0) ∧ Below w.heap.size w w' := by
  obtain ⟨ln, pt, rg, fr⟩ := b
  obtain ⟨⟨h1, h2, h3, h4⟩, h5, h6⟩ := hb
  simp only at h1 h2 h3 h4 h5 h6
  go_enter Try.func25, Try.ntmps25
  go_wp2
  go_ret
  exact ⟨rfl, by repeat' (first | (with_reducible first | exact Below.refl _ _ | assumption | refine below_alloc ?_ _ | refine Below.drew ?_ | refine below_drewN ?_ _ | refine below_then ?_ (by assumption) | refine below_put ?_ (by assumption) (by first | (simp; done) | (simp; omega) | omega) | refine Below.setCell ?_ ?_ _) | (simp; done) | (simp; omega) | omega)⟩

/-- which test says no first -/
def BadAt (ln pt fr : Int) (k : Nat) : Prop :=
  match k with
  | 0 => ln < 0
  | 1 => 0 ≤ ln ∧ 10 ≤ ln
  | 2 => 0 ≤ ln ∧ ln < 10 ∧ pt < 0
  | 3 => 0 ≤ ln ∧ ln < 10 ∧ 0 ≤ pt ∧ 64 ≤ pt
  | 4 => 0 ≤ ln ∧ ln < 10 ∧ 0 ≤ pt ∧ pt < 64 ∧ fr < 0
  | _ => 0 ≤ ln ∧ ln < 10 ∧ 0 ≤ pt ∧ pt < 64 ∧ 0 ≤ fr ∧ 20000 < fr
theorem badAt_of (b : Bm) (h : ¬ b.Ok) : ∃ k, k < 6 ∧ BadAt b.ln b.pt b.fr k := by
  unfold Bm.Ok Bm.In at h
  by_cases h0 : b.ln < 0
  · exact ⟨0, by omega, h0⟩
  by_cases h1 : 10 ≤ b.ln
  · exact ⟨1, by omega, by omega, h1⟩
  by_cases h2 : b.pt < 0
  · exact ⟨2, by omega, by omega, by omega, h2⟩
  by_cases h3 : 64 ≤ b.pt
  · exact ⟨3, by omega, by omega, by omega, by omega, h3⟩
  by_cases h4 : b.fr < 0
  · exact ⟨4, by omega, by omega, by omega, by omega, by omega, h4⟩
  · exact ⟨5, by omega, by omega, by omega, by omega, by omega, by omega, by omega⟩

theorem bcheck_bad (b : Bm) (hb : ¬ b.Ok) (w : World) :
    Calls Try.prog 25 #[.agg #[.int .i64 b.ln, .int .i64 b.pt, .bool b.rg, .int .i64 b.fr]] w fun e w' => e = .returned (.int .i64 3) ∧ Below w.heap.size w w' := by
  obtain ⟨k, hk, h⟩ := badAt_of b hb
  obtain ⟨ln, pt, rg, fr⟩ := b
  clear hb
  simp only at h
  rcases (by omega : k = 0 ∨ k = 1 ∨ k = 2 ∨ k = 3 ∨ k = 4 ∨ k = 5) with rfl | rfl | rfl | rfl | rfl | rfl
  · have g0 : ln < 0 := h
    clear h
    go_enter Try.func25, Try.ntmps25
    go_wp2
    go_ret
    exact ⟨rfl, by repeat' (first | (with_reducible first | exact Below.refl _ _ | assumption | refine below_alloc ?_ _ | refine Below.drew ?_ | refine below_drewN ?_ _ | refine below_then ?_ (by assumption) | refine below_put ?_ (by assumption) (by first | (simp; done) | (simp; omega) | omega) | refine Below.setCell ?_ ?_ _) | (simp; done) | (simp; omega) | omega)⟩
  · obtain ⟨g0, g1⟩ := h
    go_enter Try.func25, Try.ntmps25
    go_wp2
    go_ret
    exact ⟨rfl, by repeat' (first | (with_reducible first | exact Below.refl _ _ | assumption | refine below_alloc ?_ _ | refine Below.drew ?_ | refine below_drewN ?_ _ | refine below_then ?_ (by assumption) | refine below_put ?_ (by assumption) (by first | (simp; done) | (simp; omega) | omega) | refine Below.setCell ?_ ?_ _) | (simp; done) | (simp; omega) | omega)⟩
  · obtain ⟨g0, g1, g2⟩ := h
    go_enter Try.func25, Try.ntmps25
    go_wp2
    go_ret
    exact ⟨rfl, by repeat' (first | (with_reducible first | exact Below.refl _ _ | assumption | refine below_alloc ?_ _ | refine Below.drew ?_ | refine below_drewN ?_ _ | refine below_then ?_ (by assumption) | refine below_put ?_ (by assumption) (by first | (simp; done) | (simp; omega) | omega) | refine Below.setCell ?_ ?_ _) | (simp; done) | (simp; omega) | omega)⟩
  · obtain ⟨g0, g1, g2, g3⟩ := h
    go_enter Try.func25, Try.ntmps25
    go_wp2
    go_ret
    exact ⟨rfl, by repeat' (first | (with_reducible first | exact Below.refl _ _ | assumption | refine below_alloc ?_ _ | refine Below.drew ?_ | refine below_drewN ?_ _ | refine below_then ?_ (by assumption) | refine below_put ?_ (by assumption) (by first | (simp; done) | (simp; omega) | omega) | refine Below.setCell ?_ ?_ _) | (simp; done) | (simp; omega) | omega)⟩
  · obtain ⟨g0, g1, g2, g3, g4⟩ := h
    go_enter Try.func25, Try.ntmps25
    go_wp2
    go_ret
    exact ⟨rfl, by repeat' (first | (with_reducible first | exact Below.refl _ _ | assumption | refine below_alloc ?_ _ | refine Below.drew ?_ | refine below_drewN ?_ _ | refine below_then ?_ (by assumption) | refine below_put ?_ (by assumption) (by first | (simp; done) | (simp; omega) | omega) | refine Below.setCell ?_ ?_ _) | (simp; done) | (simp; omega) | omega)⟩
  · obtain ⟨g0, g1, g2, g3, g4, g5⟩ := h
    go_enter Try.func25, Try.ntmps25
    go_wp2
    go_ret
    exact ⟨rfl, by repeat' (first | (with_reducible first | exact Below.refl _ _ | assumption | refine below_alloc ?_ _ | refine Below.drew ?_ | refine below_drewN ?_ _ | refine below_then ?_ (by assumption) | refine below_put ?_ (by assumption) (by first | (simp; done) | (simp; omega) | omega) | refine Below.setCell ?_ ?_ _) | (simp; done) | (simp; omega) | omega)⟩

end Go.Proofs.Ytimccpmdgfneoaa
