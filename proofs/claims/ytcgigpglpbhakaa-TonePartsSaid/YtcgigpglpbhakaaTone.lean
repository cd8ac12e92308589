/- What the program's voices, and the document's, compute. Conditions: the fields are words, bytes, truths. -/
import Derived.Test.YtcgigpglpbhakaaRows
import Derived.Test.YtcgigpglpbhakaaTonePure
namespace Go.Proofs.Ytcgigpglpbhakaa
open Go.RowKit Go.Mq
set_option linter.unusedVariables false
set_option linter.unusedSimpArgs false
set_option maxHeartbeats 2000000
set_option maxRecDepth 100000

theorem and1 (n : Int) (h : U16 n) : bits .and .u16 n 1 = n % 2 := by
  have := bits_mask .u16 16 (by decide) (fun n h h' => by rw [wrap16]; omega) 1 (by omega) n h.1 (by unfold U16 at h; omega)
  simpa using this
theorem and15 (n : Int) (h : U8 n) : bits .and .u8 n 15 = n % 16 := by
  have := bits_mask .u8 8 (by decide) (fun n h h' => by rw [wrap8]; omega) 4 (by omega) n h.1 (by unfold U8 at h; omega)
  simpa using this

theorem vstep_any (v : Vc) (h : v.Ok) (w : World) :
    Calls Try.prog 41 #[.agg #[.int .u16 v.pd, .int .u16 v.ct, .int .u8 v.ld, .bool v.hi, .int .u16 v.nz]] w fun e w' => e = .returned (.agg #[.int .u16 (stepV v).pd, .int .u16 (stepV v).ct, .int .u8 (stepV v).ld, .bool (stepV v).hi, .int .u16 (stepV v).nz]) ∧ Below w.heap.size w w' := by
  obtain ⟨pd, ct, ld, hi, nz⟩ := v
  obtain ⟨h1, h2, h3, h4⟩ := h
  simp only at h1 h2 h3 h4
  have ha := and1 nz h4
  have hx : bits .xor .u16 (nz / 2) 46080 = xorV nz := rfl
  generalize xorV nz = x at hx
  unfold stepV
  obtain ⟨b0, b1⟩ := h4
  by_cases e0 : nz = 0
  · subst e0
    simp only [if_true]
    clear ha hx
    go_enter Try.func41, Try.ntmps41
    go_wp2
    refine bodyPost_ret (v := .agg #[.int .u16 pd, .int .u16 pd, .int .u8 ld, .bool (!hi), .int .u16 0]) (by simp [results, Try.results41, go_sem]) rfl ⟨rfl, ?_⟩
    exact by repeat' (first | (with_reducible first | exact Below.refl _ _ | assumption | refine below_alloc ?_ _ | refine Below.drew ?_ | refine below_drewN ?_ _ | refine below_then ?_ (by assumption) | refine below_put ?_ (by assumption) (by first | (simp; done) | (simp; omega) | omega) | refine Below.setCell ?_ ?_ _) | (simp; done) | (simp; omega) | omega)
  · by_cases e1 : nz % 2 = 1
    · simp only [if_neg e0, if_pos e1]
      have t1 : (nz == 0) = false := by rw [beq_eq_false_iff_ne]; exact e0
      have t2 : (bits .and .u16 nz 1 == 1) = true := by rw [ha, e1]; rfl
      clear ha
      have hx' : xorV nz = x := by unfold xorV; exact hx
      rw [hx']
      clear hx'
      have E1 := Lib.hid e1
      clear e1
      go_enter Try.func41, Try.ntmps41
      go_wp2
      refine bodyPost_ret (v := .agg #[.int .u16 pd, .int .u16 pd, .int .u8 ld, .bool true, .int .u16 x]) (by simp [results, Try.results41, go_sem]) rfl ⟨rfl, ?_⟩
      exact by repeat' (first | (with_reducible first | exact Below.refl _ _ | assumption | refine below_alloc ?_ _ | refine Below.drew ?_ | refine below_drewN ?_ _ | refine below_then ?_ (by assumption) | refine below_put ?_ (by assumption) (by first | (simp; done) | (simp; omega) | omega) | refine Below.setCell ?_ ?_ _) | (simp; done) | (simp; omega) | omega)
    · simp only [if_neg e0, if_neg e1]
      have t1 : (nz == 0) = false := by rw [beq_eq_false_iff_ne]; exact e0
      have t2 : (bits .and .u16 nz 1 == 1) = false := by rw [ha, beq_eq_false_iff_ne]; exact e1
      clear ha hx
      have E1 := Lib.hid e1
      clear e1
      go_enter Try.func41, Try.ntmps41
      go_wp2
      refine bodyPost_ret (v := .agg #[.int .u16 pd, .int .u16 pd, .int .u8 ld, .bool false, .int .u16 (nz / 2)]) (by simp [results, Try.results41, go_sem]) rfl ⟨rfl, ?_⟩
      exact by repeat' (first | (with_reducible first | exact Below.refl _ _ | assumption | refine below_alloc ?_ _ | refine Below.drew ?_ | refine below_drewN ?_ _ | refine below_then ?_ (by assumption) | refine below_put ?_ (by assumption) (by first | (simp; done) | (simp; omega) | omega) | refine Below.setCell ?_ ?_ _) | (simp; done) | (simp; omega) | omega)

theorem vtick_any (v : Vc) (h : v.Ok) (w : World) :
    Calls Try.prog 17 #[.agg #[.int .u16 v.pd, .int .u16 v.ct, .int .u8 v.ld, .bool v.hi, .int .u16 v.nz]] w fun e w' => e = .returned (.agg #[.int .u16 (tickV v).pd, .int .u16 (tickV v).ct, .int .u8 (tickV v).ld, .bool (tickV v).hi, .int .u16 (tickV v).nz]) ∧ Below w.heap.size w w' := by
  have hs := vstep_any v h
  obtain ⟨pd, ct, ld, hi, nz⟩ := v
  obtain ⟨h1, ⟨h2, h2'⟩, h3, h4⟩ := h
  simp only at h1 h2 h3 h4 h2' hs
  unfold tickV
  by_cases e0 : ct = 0
  · subst e0
    simp only [if_true]
    generalize stepV ⟨pd, 0, ld, hi, nz⟩ = X at hs ⊢
    have HS := Lib.hid hs
    clear hs
    go_enter Try.func17, Try.ntmps17
    go_wp2_with fail
    refine (HS.out _).mono ?_
    rintro e w1 ⟨rfl, hb1⟩
    have Kw1_0 : Hid (Blk w1 (w.heap.size + 1) #[.int .u16 0, .int .u16 0, .int .u8 0, .bool false, .int .u16 0] 33) := Lib.hid (by repeat' (first | (with_reducible first | exact Hid.out (by assumption) | exact Blk.new _ _ _ | (refine Blk.new_at _ _ _ _ ?_; simp; done) | refine Blk.alloc ?_ _ | refine Blk.drewN ?_ _ | refine Blk.drew ?_ | apply Blk.set | refine Blk.put ?_ (by assumption) (by first | (simp; done) | (simp; omega) | omega) | refine Blk.below ?_ (by assumption)) | (refine Blk.setAt ?_ (by first | (simp; done) | (simp; omega))) | rfl))
    obtain ⟨lw1_0, cw1_0, fw1_0⟩ := Kw1_0.out.use
    go_wp2
    refine bodyPost_ret (v := .agg #[.int .u16 X.pd, .int .u16 X.ct, .int .u8 X.ld, .bool X.hi, .int .u16 X.nz]) (by simp [results, Try.results17, go_sem, cw1_0, fw1_0, lw1_0]) rfl ⟨rfl, ?_⟩
    exact by repeat' (first | (with_reducible first | exact Below.refl _ _ | assumption | refine below_alloc ?_ _ | refine Below.drew ?_ | refine below_drewN ?_ _ | refine below_then ?_ (by assumption) | refine below_put ?_ (by assumption) (by first | (simp; done) | (simp; omega) | omega) | refine Below.setCell ?_ ?_ _) | (simp; done) | (simp; omega) | omega)
  · simp only [if_neg e0]
    have t1 : (ct == 0) = false := by rw [beq_eq_false_iff_ne]; exact e0
    have c0 : 1 ≤ ct := by omega
    clear hs
    go_enter Try.func17, Try.ntmps17
    go_wp2
    refine bodyPost_ret (v := .agg #[.int .u16 pd, .int .u16 (ct - 1), .int .u8 ld, .bool hi, .int .u16 nz]) (by simp [results, Try.results17, go_sem]) rfl ⟨rfl, ?_⟩
    exact by repeat' (first | (with_reducible first | exact Below.refl _ _ | assumption | refine below_alloc ?_ _ | refine Below.drew ?_ | refine below_drewN ?_ _ | refine below_then ?_ (by assumption) | refine below_put ?_ (by assumption) (by first | (simp; done) | (simp; omega) | omega) | refine Below.setCell ?_ ?_ _) | (simp; done) | (simp; omega) | omega)

theorem vref_any (v : Vc) (h : v.Ok) (w : World) :
    Calls Try.prog 18 #[.agg #[.int .u16 v.pd, .int .u16 v.ct, .int .u8 v.ld, .bool v.hi, .int .u16 v.nz]] w fun e w' => e = .returned (.agg #[.int .u16 (tickV v).pd, .int .u16 (tickV v).ct, .int .u8 (tickV v).ld, .bool (tickV v).hi, .int .u16 (tickV v).nz]) ∧ Below w.heap.size w w' := by
  obtain ⟨pd, ct, ld, hi, nz⟩ := v
  obtain ⟨h1, ⟨h2, h2'⟩, h3, h4⟩ := h
  simp only at h1 h2 h3 h4 h2'
  have hq : IntKind.u16.wrap (nz.tdiv 2) = nz / 2 := by unfold U16 at h4; rw [wrap16, Int.tdiv_eq_ediv_of_nonneg (by omega)]; omega
  have hx : bits .xor .u16 (nz / 2) 46080 = xorV nz := rfl
  generalize xorV nz = x at hx
  unfold tickV stepV
  obtain ⟨b0, b1⟩ := h4
  by_cases c0 : ct = 0
  · subst c0
    simp only [if_true]
    by_cases e0 : nz = 0
    · subst e0
      simp only [if_true]
      clear hx
      go_enter Try.func18, Try.ntmps18
      go_wp2
      refine bodyPost_ret (v := .agg #[.int .u16 pd, .int .u16 pd, .int .u8 ld, .bool (!hi), .int .u16 0]) (by simp [results, Try.results18, go_sem]) rfl ⟨rfl, ?_⟩
      exact by repeat' (first | (with_reducible first | exact Below.refl _ _ | assumption | refine below_alloc ?_ _ | refine Below.drew ?_ | refine below_drewN ?_ _ | refine below_then ?_ (by assumption) | refine below_put ?_ (by assumption) (by first | (simp; done) | (simp; omega) | omega) | refine Below.setCell ?_ ?_ _) | (simp; done) | (simp; omega) | omega)
    · by_cases e1 : nz % 2 = 1
      · simp only [if_neg e0, if_pos e1]
        have t1 : (nz == 0) = false := by rw [beq_eq_false_iff_ne]; exact e0
        have t2 : (nz % 2 == 1) = true := by rw [e1]; rfl
        have hx' : xorV nz = x := by unfold xorV; exact hx
        rw [hx']
        clear hx'
        have E1 := Lib.hid e1
        clear e1
        go_enter Try.func18, Try.ntmps18
        go_wp2
        refine bodyPost_ret (v := .agg #[.int .u16 pd, .int .u16 pd, .int .u8 ld, .bool true, .int .u16 x]) (by simp [results, Try.results18, go_sem, hq, hx]) rfl ⟨rfl, ?_⟩
        exact by repeat' (first | (with_reducible first | exact Below.refl _ _ | assumption | refine below_alloc ?_ _ | refine Below.drew ?_ | refine below_drewN ?_ _ | refine below_then ?_ (by assumption) | refine below_put ?_ (by assumption) (by first | (simp; done) | (simp; omega) | omega) | refine Below.setCell ?_ ?_ _) | (simp; done) | (simp; omega) | omega)
      · simp only [if_neg e0, if_neg e1]
        have t1 : (nz == 0) = false := by rw [beq_eq_false_iff_ne]; exact e0
        have t2 : (nz % 2 == 1) = false := by rw [beq_eq_false_iff_ne]; exact e1
        clear hx
        have E1 := Lib.hid e1
        clear e1
        go_enter Try.func18, Try.ntmps18
        go_wp2
        refine bodyPost_ret (v := .agg #[.int .u16 pd, .int .u16 pd, .int .u8 ld, .bool false, .int .u16 (nz / 2)]) (by simp [results, Try.results18, go_sem, hq]) rfl ⟨rfl, ?_⟩
        exact by repeat' (first | (with_reducible first | exact Below.refl _ _ | assumption | refine below_alloc ?_ _ | refine Below.drew ?_ | refine below_drewN ?_ _ | refine below_then ?_ (by assumption) | refine below_put ?_ (by assumption) (by first | (simp; done) | (simp; omega) | omega) | refine Below.setCell ?_ ?_ _) | (simp; done) | (simp; omega) | omega)
  · simp only [if_neg c0]
    have t1 : (ct == 0) = false := by rw [beq_eq_false_iff_ne]; exact c0
    have c1 : 1 ≤ ct := by omega
    have c2 : 0 < ct := by omega
    clear hx
    go_enter Try.func18, Try.ntmps18
    go_wp2
    refine bodyPost_ret (v := .agg #[.int .u16 pd, .int .u16 (ct - 1), .int .u8 ld, .bool hi, .int .u16 nz]) (by simp [results, Try.results18, go_sem]) rfl ⟨rfl, ?_⟩
    exact by repeat' (first | (with_reducible first | exact Below.refl _ _ | assumption | refine below_alloc ?_ _ | refine Below.drew ?_ | refine below_drewN ?_ _ | refine below_then ?_ (by assumption) | refine below_put ?_ (by assumption) (by first | (simp; done) | (simp; omega) | omega) | refine Below.setCell ?_ ?_ _) | (simp; done) | (simp; omega) | omega)
end Go.Proofs.Ytcgigpglpbhakaa
