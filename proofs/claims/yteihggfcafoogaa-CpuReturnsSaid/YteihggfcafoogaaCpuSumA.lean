/- An order that moves a register's bits, or is no sum. Conditions: the fields are words, the order's parts in their ranges. -/
import Derived.Test.YteihggfcafoogaaCpuSumDef
namespace Go.Proofs.Yteihggfcafoogaa
open Go.RowKit Go.Mq
set_option linter.unusedVariables false
set_option linter.unusedSimpArgs false
set_option maxHeartbeats 4000000
set_option maxRecDepth 100000

theorem sums_a (c : Cp) (op : Int) (D S : Nat) (n v cy : Int) (get put : Value) (hD : D < 8) (hS8 : S < 8) (hn : -16 ≤ n ∧ n ≤ 15) (hsh : op = 12 ∨ op = 13 → 0 ≤ n) (cb db B : Nat) (hBc : B ≤ cb) (hBd : B ≤ db) (hdc : db ≠ cb) (w : World) (hc : Blk w cb (cpuC c) 28) (hd : Blk w db (doC cb get put op D S n v cy) 69) (hi : c.In) (hk : isSum op = true → op = 12 ∨ op = 13) :
    Calls Try.prog 25 #[.pointer (some ⟨db, 0, none⟩)] w fun e w' => e = .returned (.bool (isSum op)) ∧ Blk w' cb (cpuC (sumR c op D S n)) 28 ∧ Kp B (· = cb) w w' ∧ Below cb w w' := by
  have KC := Lib.hid hc
  have KD := Lib.hid hd
  have hDi : (D : Int) < 8 := Int.ofNat_lt.2 hD
  have hSi : (S : Int) < 8 := Int.ofNat_lt.2 hS8
  have hca := hc.lt
  have hda := hd.lt
  have cc := hc.cp hD hS8
  have dd := hd.dn
  obtain ⟨cD, cS, fc, lc, c8, c9, c10, c11, c12, c13, c14⟩ := cc
  obtain ⟨d0, d1, d2, d3, d4, d5, d6, d7, d8, fd, ld⟩ := dd
  clear hc hd
  go_enter Try.func25, Try.ntmps25
  go_wp2_with fail
  apply gcut2 (fun x y W => w.heap.size ≤ x ∧ w.heap.size ≤ y ∧ x ≠ y ∧ Below w.heap.size w W ∧ Hid (Blk W x #[.pointer (some ⟨cb, 0, none⟩)] 65) ∧ Hid (Blk W y #[.int .i64 op, .int .i64 D, .int .i64 S, .int .i64 n, .int .i64 v] 43))
  · intro hk
    go_region
    · obtain ⟨y, hhi⟩ : ∃ g, g = w.heap.size + 1 := ⟨_, rfl⟩
      obtain ⟨x, hlo⟩ : ∃ g, g = w.heap.size := ⟨_, rfl⟩
      refine pmark1 (R := fun W => Below w.heap.size w W ∧ Hid (Blk W w.heap.size #[.pointer (some ⟨cb, 0, none⟩)] 65) ∧ Hid (Blk W (w.heap.size + 1) #[.int .i64 op, .int .i64 D, .int .i64 S, .int .i64 n, .int .i64 v] 43)) (F := fun W => Exit.then _ _ Exit.normal _ W) ⟨by repeat' (first | (with_reducible first | exact Below.refl _ _ | assumption | refine below_alloc ?_ _ | refine Below.drew ?_ | refine below_drewN ?_ _ | refine below_then ?_ (by assumption) | refine below_put ?_ (by assumption) (by first | (simp; done) | (simp; omega) | omega) | refine Below.setCell ?_ ?_ _) | (simp; done) | (simp; omega) | omega), Lib.hid (by repeat' (first | (with_reducible first | exact Hid.out (by assumption) | exact Blk.new _ _ _ | (refine Blk.new_at _ _ _ _ ?_; simp; done) | refine Blk.alloc ?_ _ | refine Blk.drewN ?_ _ | refine Blk.drew ?_ | apply Blk.set | refine Blk.put ?_ (by assumption) (by first | (simp; done) | (simp; omega) | omega) | refine Blk.below ?_ (by assumption)) | (refine Blk.setAt ?_ (by first | (simp; done) | (simp; omega))) | rfl)), Lib.hid (by repeat' (first | (with_reducible first | exact Hid.out (by assumption) | exact Blk.new _ _ _ | (refine Blk.new_at _ _ _ _ ?_; simp; done) | refine Blk.alloc ?_ _ | refine Blk.drewN ?_ _ | refine Blk.drew ?_ | apply Blk.set | refine Blk.put ?_ (by assumption) (by first | (simp; done) | (simp; omega) | omega) | refine Blk.below ?_ (by assumption)) | (refine Blk.setAt ?_ (by first | (simp; done) | (simp; omega))) | rfl))⟩ ?_
      rw [← hhi]
      rw [← hlo]
      intro W h
      refine hk x y W ⟨by omega, by omega, by omega, ?_, h.2.1, h.2.2⟩
      rw [← hlo]
      exact h.1
    · obtain ⟨x, hhi⟩ : ∃ g, g = w.heap.size + 1 := ⟨_, rfl⟩
      obtain ⟨y, hlo⟩ : ∃ g, g = w.heap.size := ⟨_, rfl⟩
      refine pmark1 (R := fun W => Below w.heap.size w W ∧ Hid (Blk W (w.heap.size + 1) #[.pointer (some ⟨cb, 0, none⟩)] 65) ∧ Hid (Blk W w.heap.size #[.int .i64 op, .int .i64 D, .int .i64 S, .int .i64 n, .int .i64 v] 43)) (F := fun W => Exit.then _ _ Exit.normal _ W) ⟨by repeat' (first | (with_reducible first | exact Below.refl _ _ | assumption | refine below_alloc ?_ _ | refine Below.drew ?_ | refine below_drewN ?_ _ | refine below_then ?_ (by assumption) | refine below_put ?_ (by assumption) (by first | (simp; done) | (simp; omega) | omega) | refine Below.setCell ?_ ?_ _) | (simp; done) | (simp; omega) | omega), Lib.hid (by repeat' (first | (with_reducible first | exact Hid.out (by assumption) | exact Blk.new _ _ _ | (refine Blk.new_at _ _ _ _ ?_; simp; done) | refine Blk.alloc ?_ _ | refine Blk.drewN ?_ _ | refine Blk.drew ?_ | apply Blk.set | refine Blk.put ?_ (by assumption) (by first | (simp; done) | (simp; omega) | omega) | refine Blk.below ?_ (by assumption)) | (refine Blk.setAt ?_ (by first | (simp; done) | (simp; omega))) | rfl)), Lib.hid (by repeat' (first | (with_reducible first | exact Hid.out (by assumption) | exact Blk.new _ _ _ | (refine Blk.new_at _ _ _ _ ?_; simp; done) | refine Blk.alloc ?_ _ | refine Blk.drewN ?_ _ | refine Blk.drew ?_ | apply Blk.set | refine Blk.put ?_ (by assumption) (by first | (simp; done) | (simp; omega) | omega) | refine Blk.below ?_ (by assumption)) | (refine Blk.setAt ?_ (by first | (simp; done) | (simp; omega))) | rfl))⟩ ?_
      rw [← hhi]
      rw [← hlo]
      intro W h
      refine hk x y W ⟨by omega, by omega, by omega, ?_, h.2.1, h.2.2⟩
      rw [← hlo]
      exact h.1
  intro x y w1 ⟨hx, hy, hxy, hb1, Kx, Ky⟩
  have KC1 := Lib.hid (KC.out.below hb1)
  have KD1 := Lib.hid (KD.out.below hb1)
  clear cD cS fc lc c8 c9 c10 c11 c12 c13 c14 d0 d1 d2 d3 d4 d5 d6 d7 d8 fd ld
  obtain ⟨cD, cS, fc, lc, c8, c9, c10, c11, c12, c13, c14⟩ := KC1.out.cp hD hS8
  obtain ⟨lx, cx, fx⟩ := Kx.out.use
  obtain ⟨ly, cy', fy⟩ := Ky.out.use
  have hs1 := hb1.size
  go_wp2_with fail
  go_region
  obtain ⟨q, hq⟩ : ∃ g, g = w1.heap.size := ⟨_, rfl⟩
  refine pmark1 (R := fun W => Below w.heap.size w W ∧ Hid (Blk W x #[.pointer (some ⟨cb, 0, none⟩)] 65) ∧ Hid (Blk W y #[.int .i64 op, .int .i64 D, .int .i64 S, .int .i64 n, .int .i64 v] 43) ∧ Hid (Blk W w1.heap.size #[.pointer (some ⟨cb, D, none⟩)] 74) ∧ Hid (Blk W cb (cpuC c) 28)) (F := fun W => Exit.then _ _ Exit.normal _ W) ⟨by repeat' (first | (with_reducible first | exact Below.refl _ _ | assumption | refine below_alloc ?_ _ | refine Below.drew ?_ | refine below_drewN ?_ _ | refine below_then ?_ (by assumption) | refine below_put ?_ (by assumption) (by first | (simp; done) | (simp; omega) | omega) | refine Below.setCell ?_ ?_ _) | (simp; done) | (simp; omega) | omega), Lib.hid (by repeat' (first | (with_reducible first | exact Hid.out (by assumption) | exact Blk.new _ _ _ | (refine Blk.new_at _ _ _ _ ?_; simp; done) | refine Blk.alloc ?_ _ | refine Blk.drewN ?_ _ | refine Blk.drew ?_ | apply Blk.set | refine Blk.put ?_ (by assumption) (by first | (simp; done) | (simp; omega) | omega) | refine Blk.below ?_ (by assumption)) | (refine Blk.setAt ?_ (by first | (simp; done) | (simp; omega))) | rfl)), Lib.hid (by repeat' (first | (with_reducible first | exact Hid.out (by assumption) | exact Blk.new _ _ _ | (refine Blk.new_at _ _ _ _ ?_; simp; done) | refine Blk.alloc ?_ _ | refine Blk.drewN ?_ _ | refine Blk.drew ?_ | apply Blk.set | refine Blk.put ?_ (by assumption) (by first | (simp; done) | (simp; omega) | omega) | refine Blk.below ?_ (by assumption)) | (refine Blk.setAt ?_ (by first | (simp; done) | (simp; omega))) | rfl)), Lib.hid (by repeat' (first | (with_reducible first | exact Hid.out (by assumption) | exact Blk.new _ _ _ | (refine Blk.new_at _ _ _ _ ?_; simp; done) | refine Blk.alloc ?_ _ | refine Blk.drewN ?_ _ | refine Blk.drew ?_ | apply Blk.set | refine Blk.put ?_ (by assumption) (by first | (simp; done) | (simp; omega) | omega) | refine Blk.below ?_ (by assumption)) | (refine Blk.setAt ?_ (by first | (simp; done) | (simp; omega))) | rfl)), Lib.hid (by repeat' (first | (with_reducible first | exact Hid.out (by assumption) | exact Blk.new _ _ _ | (refine Blk.new_at _ _ _ _ ?_; simp; done) | refine Blk.alloc ?_ _ | refine Blk.drewN ?_ _ | refine Blk.drew ?_ | apply Blk.set | refine Blk.put ?_ (by assumption) (by first | (simp; done) | (simp; omega) | omega) | refine Blk.below ?_ (by assumption)) | (refine Blk.setAt ?_ (by first | (simp; done) | (simp; omega))) | rfl))⟩ ?_
  rw [← hq]
  intro w2 ⟨hb2, Kx2, Ky2, Kq2, Kc2⟩
  have hqs : w.heap.size ≤ q := by omega
  have hqx : x < q ∧ y < q := by omega
  have hs2 := hb2.size
  have hl2 := Kq2.out.lt
  have k2 : Kp B (· = cb) w w2 := (Kp.refl _ _ w).below hb2 (Nat.le_refl _)
  have b2 : Below cb w w2 := hb2.mono (by omega)
  clear cD cS fc lc c8 c9 c10 c11 c12 c13 c14 lx cx fx ly cy' fy KC1 KD1 Kx Ky hb1 hs1 hq KD
  obtain ⟨cD, cS, fc, lc, c8, c9, c10, c11, c12, c13, c14⟩ := Kc2.out.cp hD hS8
  obtain ⟨lx, cx, fx⟩ := Kx2.out.use
  obtain ⟨ly, cy', fy⟩ := Ky2.out.use
  obtain ⟨lq, cq, fq⟩ := Kq2.out.use
  by_cases h12 : op = 12
  · subst h12
    have hn0 : 0 ≤ n := hsh (Or.inl rfl)
    have SH := Lib.hid (shl_ok (c.r D) n (hi.1 D) hn0 hn.2)
    have hu : U16 (shlN (c.r D) n.toNat) := shlN_u _ _
    go_wp2_with fail
    refine wp_mark (R := fun W => Kp B (· = cb) w W ∧ Below cb w W ∧ w2.heap.size < W.heap.size ∧ Hid (Blk W x #[.pointer (some ⟨cb, 0, none⟩)] 65) ∧ Hid (Blk W y #[.int .i64 12, .int .i64 D, .int .i64 S, .int .i64 n, .int .i64 v] 43) ∧ Hid (Blk W q #[.pointer (some ⟨cb, D, none⟩)] 74) ∧ Hid (Blk W w2.heap.size #[.func (.func 32) #[] #[.pointer (some ⟨x, 0, none⟩)]] 75) ∧ Hid (Blk W cb (cpuC c) 28)) ⟨(by repeat' (first | (with_reducible first | exact Kp.refl _ _ _ | assumption | refine Kp.alloc ?_ _ | refine Kp.drew ?_ | refine Kp.drewN ?_ _ | refine Kp.setCell ?_ ?_) | (right; rfl) | (left; simp; done) | (left; omega) | (left; simp; omega))), (by repeat' (first | (with_reducible first | exact Below.refl _ _ | assumption | refine Below.alloc ?_ ?_ _ | refine Below.drew ?_ | refine below_drewN ?_ _ | refine Below.setCell ?_ ?_ _) | (simp; done) | omega | (simp; omega))), by first | omega | (simp; done) | (simp; omega), Lib.hid (by repeat' (first | (with_reducible first | exact Hid.out (by assumption) | exact Blk.new _ _ _ | (refine Blk.new_at _ _ _ _ ?_; simp; done) | refine Blk.alloc ?_ _ | refine Blk.drewN ?_ _ | refine Blk.drew ?_ | apply Blk.set | refine Blk.put ?_ (by assumption) (by first | (simp; done) | (simp; omega) | omega) | refine Blk.below ?_ (by assumption)) | (refine Blk.setAt ?_ (by first | (simp; done) | (simp; omega))) | rfl)), Lib.hid (by repeat' (first | (with_reducible first | exact Hid.out (by assumption) | exact Blk.new _ _ _ | (refine Blk.new_at _ _ _ _ ?_; simp; done) | refine Blk.alloc ?_ _ | refine Blk.drewN ?_ _ | refine Blk.drew ?_ | apply Blk.set | refine Blk.put ?_ (by assumption) (by first | (simp; done) | (simp; omega) | omega) | refine Blk.below ?_ (by assumption)) | (refine Blk.setAt ?_ (by first | (simp; done) | (simp; omega))) | rfl)), Lib.hid (by repeat' (first | (with_reducible first | exact Hid.out (by assumption) | exact Blk.new _ _ _ | (refine Blk.new_at _ _ _ _ ?_; simp; done) | refine Blk.alloc ?_ _ | refine Blk.drewN ?_ _ | refine Blk.drew ?_ | apply Blk.set | refine Blk.put ?_ (by assumption) (by first | (simp; done) | (simp; omega) | omega) | refine Blk.below ?_ (by assumption)) | (refine Blk.setAt ?_ (by first | (simp; done) | (simp; omega))) | rfl)), Lib.hid (by repeat' (first | (with_reducible first | exact Hid.out (by assumption) | exact Blk.new _ _ _ | (refine Blk.new_at _ _ _ _ ?_; simp; done) | refine Blk.alloc ?_ _ | refine Blk.drewN ?_ _ | refine Blk.drew ?_ | apply Blk.set | refine Blk.put ?_ (by assumption) (by first | (simp; done) | (simp; omega) | omega) | refine Blk.below ?_ (by assumption)) | (refine Blk.setAt ?_ (by first | (simp; done) | (simp; omega))) | rfl)), Lib.hid (by repeat' (first | (with_reducible first | exact Hid.out (by assumption) | exact Blk.new _ _ _ | (refine Blk.new_at _ _ _ _ ?_; simp; done) | refine Blk.alloc ?_ _ | refine Blk.drewN ?_ _ | refine Blk.drew ?_ | apply Blk.set | refine Blk.put ?_ (by assumption) (by first | (simp; done) | (simp; omega) | omega) | refine Blk.below ?_ (by assumption)) | (refine Blk.setAt ?_ (by first | (simp; done) | (simp; omega))) | rfl))⟩ ?_
    intro w3 ⟨k3, b3, hs3, Kx3, Ky3, Kq3, Kp3, Kc3⟩
    clear cD cS fc lc c8 c9 c10 c11 c12 c13 c14 lx cx fx ly cy' fy lq cq fq
    obtain ⟨cD, cS, fc, lc, c8, c9, c10, c11, c12, c13, c14⟩ := Kc3.out.cp hD hS8
    have MV := Lib.hid (fun w' => moved_any c (shlN (c.r D) n.toNat) 0 hu (shlO (c.r D) n.toNat) D hD cb x B w2.heap.size q hBc (by omega) (by omega) (by omega) (by omega) (by omega) w')
    refine wp_region_held_drew (S := fun W => Blk W (y) (#[.int .i64 12, .int .i64 D, .int .i64 S, .int .i64 n, .int .i64 v]) 43 ∧ Blk W (q) (#[.pointer (some ⟨cb, D, none⟩)]) 74) (by kernel_rfl) ⟨Blk.drew (show Blk _ (y) (#[.int .i64 12, .int .i64 D, .int .i64 S, .int .i64 n, .int .i64 v]) 43 from (by repeat' (first | (with_reducible first | exact Hid.out (by assumption) | exact Blk.new _ _ _ | (refine Blk.new_at _ _ _ _ ?_; simp; done) | refine Blk.alloc ?_ _ | refine Blk.drewN ?_ _ | refine Blk.drew ?_ | apply Blk.set | refine Blk.put ?_ (by assumption) (by first | (simp; done) | (simp; omega) | omega) | refine Blk.below ?_ (by assumption)) | (refine Blk.setAt ?_ (by first | (simp; done) | (simp; omega))) | rfl))), Blk.drew (show Blk _ (q) (#[.pointer (some ⟨cb, D, none⟩)]) 74 from (by repeat' (first | (with_reducible first | exact Hid.out (by assumption) | exact Blk.new _ _ _ | (refine Blk.new_at _ _ _ _ ?_; simp; done) | refine Blk.alloc ?_ _ | refine Blk.drewN ?_ _ | refine Blk.drew ?_ | apply Blk.set | refine Blk.put ?_ (by assumption) (by first | (simp; done) | (simp; omega) | omega) | refine Blk.below ?_ (by assumption)) | (refine Blk.setAt ?_ (by first | (simp; done) | (simp; omega))) | rfl)))⟩ (fun hS => ?_)
    refine wpAnyH_take (i := 0) (v := ?v0_1) rfl (by kernel_rfl) (by kernel_rfl) (by kernel_rfl) (fun _ _ _ h => h) (Or.inl ⟨by rfl, ?y0_1⟩) hS ?_
    case y0_1 => (intro w hSw; go_simp; try with_reducible rfl)
    try simp only [List.getElem_toArray, List.getElem_cons_succ, List.getElem_cons_zero, Act.put, List.setIfInBounds_toArray, List.set_cons_zero, List.set_cons_succ]
    refine wpAnyH_take (i := 1) (v := ?v1_1) rfl (by kernel_rfl) (by kernel_rfl) (by kernel_rfl) (fun _ _ _ h => h) (Or.inl ⟨by rfl, ?y1_1⟩) hS ?_
    case y1_1 => (intro w hSw; have c0 := (hSw.1).cell; have c1 := (hSw.2).cell; go_simp; try with_reducible rfl)
    try simp only [List.getElem_toArray, List.getElem_cons_succ, List.getElem_cons_zero, Act.put, List.setIfInBounds_toArray, List.set_cons_zero, List.set_cons_succ]
    refine wpAnyH_take (i := 2) (v := ?v2_1) rfl (by kernel_rfl) (by kernel_rfl) (by kernel_rfl) (fun _ _ _ h => h) (Or.inl ⟨by rfl, ?y2_1⟩) hS ?_
    case y2_1 => (intro w hSw; go_simp; try with_reducible rfl)
    try simp only [List.getElem_toArray, List.getElem_cons_succ, List.getElem_cons_zero, Act.put, List.setIfInBounds_toArray, List.set_cons_zero, List.set_cons_succ]
    refine wpAnyH_take (i := 4) (v := ?v4_1) rfl (by kernel_rfl) (by kernel_rfl) (by kernel_rfl) (fun _ _ _ h => h) (Or.inl ⟨by rfl, ?y4_1⟩) hS ?_
    case y4_1 => (intro w hSw; go_simp; try with_reducible rfl)
    try simp only [List.getElem_toArray, List.getElem_cons_succ, List.getElem_cons_zero, Act.put, List.setIfInBounds_toArray, List.set_cons_zero, List.set_cons_succ]
    refine wpAnyH_take (i := 5) (v := ?v5_1) rfl (by kernel_rfl) (by kernel_rfl) (by kernel_rfl) (fun _ _ _ h => h) (Or.inl ⟨by rfl, ?y5_1⟩) hS ?_
    case y5_1 => (intro w hSw; have c0 := (hSw.1).cell; have c1 := (hSw.2).cell; go_simp; try with_reducible rfl)
    try simp only [List.getElem_toArray, List.getElem_cons_succ, List.getElem_cons_zero, Act.put, List.setIfInBounds_toArray, List.set_cons_zero, List.set_cons_succ]
    refine wpAnyH_ready (rs := [3]) (by kernel_rfl) (by simp) (AllReadyH.cons rfl (fun K hK => ?_) AllReadyH.nil)
    go_simp
    refine hK.out _ _ ⟨hS.1, hS.2⟩ (fun hS => ?_)
    clear hK K
    try simp only [List.getElem_toArray, List.getElem_cons_succ, List.getElem_cons_zero, Act.put, List.setIfInBounds_toArray, List.set_cons_zero, List.set_cons_succ]
    refine wpAnyH_ready (rs := [6]) (by kernel_rfl) (by simp) (AllReadyH.cons rfl (fun K hK => ?_) AllReadyH.nil)
    go_simp
    refine (SH.out _).mono ?_
    rintro e w4 ⟨rfl, d4⟩
    try go_wp2_with fail
    refine hK.out _ _ ⟨hS.1.below (d4.below _), hS.2.below (d4.below _)⟩ (fun hS => ?_)
    clear hK K
    try simp only [List.getElem_toArray, List.getElem_cons_succ, List.getElem_cons_zero, Act.put, List.setIfInBounds_toArray, List.set_cons_zero, List.set_cons_succ]
    refine wpAnyH_take (i := 7) (v := ?v7_1) rfl (by kernel_rfl) (by kernel_rfl) (by kernel_rfl) (fun _ _ _ h => h) (Or.inl ⟨by rfl, ?y7_1⟩) hS ?_
    case y7_1 => (intro w hSw; go_simp; try with_reducible rfl)
    try simp only [List.getElem_toArray, List.getElem_cons_succ, List.getElem_cons_zero, Act.put, List.setIfInBounds_toArray, List.set_cons_zero, List.set_cons_succ]
    refine wpAnyH_take (i := 8) (v := ?v8_1) rfl (by kernel_rfl) (by kernel_rfl) (by kernel_rfl) (fun _ _ _ h => h) (Or.inl ⟨by rfl, ?y8_1⟩) hS ?_
    case y8_1 => (intro w hSw; go_simp; try with_reducible rfl)
    try simp only [List.getElem_toArray, List.getElem_cons_succ, List.getElem_cons_zero, Act.put, List.setIfInBounds_toArray, List.set_cons_zero, List.set_cons_succ]
    refine wpAnyH_take (i := 9) (v := ?v9_1) rfl (by kernel_rfl) (by kernel_rfl) (by kernel_rfl) (fun _ _ _ h => h) (Or.inl ⟨by rfl, ?y9_1⟩) hS ?_
    case y9_1 => (intro w hSw; go_simp; try with_reducible rfl)
    try simp only [List.getElem_toArray, List.getElem_cons_succ, List.getElem_cons_zero, Act.put, List.setIfInBounds_toArray, List.set_cons_zero, List.set_cons_succ]
    refine wpAnyH_ready (rs := [10]) (by kernel_rfl) (by simp) (AllReadyH.cons rfl (fun K hK => ?_) AllReadyH.nil)
    go_simp
    refine (MV.out _ (Kc3.out.drew.below (d4.below _)) (Kx3.out.drew.below (d4.below _)) (Kp3.out.drew.below (d4.below _)) (Kq3.out.drew.below (d4.below _))).mono ?_
    rintro e w5 ⟨rfl, hc5, k5, b5⟩
    try go_wp2_with fail
    refine hK.out _ _ ⟨hS.1.kp k5 (by omega) (by show ¬ (_ = _); omega), hS.2.kp k5 (by omega) (by show ¬ (_ = _); omega)⟩ (fun hS => ?_)
    clear hK K
    try simp only [List.getElem_toArray, List.getElem_cons_succ, List.getElem_cons_zero, Act.put, List.setIfInBounds_toArray, List.set_cons_zero, List.set_cons_succ]
    refine wpAnyH_done (by kernel_rfl) ?_ _
    go_wp2
    go_ret
    exact ⟨rfl, (show Blk w5 cb (cpuC (sumR c 12 D S n)) 28 from hc5), (k3.drew.below (d4.below _) (Nat.le_of_lt (Nat.lt_of_le_of_lt hs2 hs3))).then k5 (fun _ _ h => h), (b3.drew.trans (d4.below _)).trans b5⟩
  by_cases h13 : op = 13
  · subst h13
    have hn0 : 0 ≤ n := hsh (Or.inr rfl)
    have SH := Lib.hid (shr_ok (c.r D) n (hi.1 D) hn0 hn.2)
    have hu : U16 (shrN (c.r D) n.toNat) := shrN_u _ _ (hi.1 D)
    go_wp2_with fail
    refine wp_mark (R := fun W => Kp B (· = cb) w W ∧ Below cb w W ∧ w2.heap.size < W.heap.size ∧ Hid (Blk W x #[.pointer (some ⟨cb, 0, none⟩)] 65) ∧ Hid (Blk W y #[.int .i64 13, .int .i64 D, .int .i64 S, .int .i64 n, .int .i64 v] 43) ∧ Hid (Blk W q #[.pointer (some ⟨cb, D, none⟩)] 74) ∧ Hid (Blk W w2.heap.size #[.func (.func 32) #[] #[.pointer (some ⟨x, 0, none⟩)]] 75) ∧ Hid (Blk W cb (cpuC c) 28)) ⟨(by repeat' (first | (with_reducible first | exact Kp.refl _ _ _ | assumption | refine Kp.alloc ?_ _ | refine Kp.drew ?_ | refine Kp.drewN ?_ _ | refine Kp.setCell ?_ ?_) | (right; rfl) | (left; simp; done) | (left; omega) | (left; simp; omega))), (by repeat' (first | (with_reducible first | exact Below.refl _ _ | assumption | refine Below.alloc ?_ ?_ _ | refine Below.drew ?_ | refine below_drewN ?_ _ | refine Below.setCell ?_ ?_ _) | (simp; done) | omega | (simp; omega))), by first | omega | (simp; done) | (simp; omega), Lib.hid (by repeat' (first | (with_reducible first | exact Hid.out (by assumption) | exact Blk.new _ _ _ | (refine Blk.new_at _ _ _ _ ?_; simp; done) | refine Blk.alloc ?_ _ | refine Blk.drewN ?_ _ | refine Blk.drew ?_ | apply Blk.set | refine Blk.put ?_ (by assumption) (by first | (simp; done) | (simp; omega) | omega) | refine Blk.below ?_ (by assumption)) | (refine Blk.setAt ?_ (by first | (simp; done) | (simp; omega))) | rfl)), Lib.hid (by repeat' (first | (with_reducible first | exact Hid.out (by assumption) | exact Blk.new _ _ _ | (refine Blk.new_at _ _ _ _ ?_; simp; done) | refine Blk.alloc ?_ _ | refine Blk.drewN ?_ _ | refine Blk.drew ?_ | apply Blk.set | refine Blk.put ?_ (by assumption) (by first | (simp; done) | (simp; omega) | omega) | refine Blk.below ?_ (by assumption)) | (refine Blk.setAt ?_ (by first | (simp; done) | (simp; omega))) | rfl)), Lib.hid (by repeat' (first | (with_reducible first | exact Hid.out (by assumption) | exact Blk.new _ _ _ | (refine Blk.new_at _ _ _ _ ?_; simp; done) | refine Blk.alloc ?_ _ | refine Blk.drewN ?_ _ | refine Blk.drew ?_ | apply Blk.set | refine Blk.put ?_ (by assumption) (by first | (simp; done) | (simp; omega) | omega) | refine Blk.below ?_ (by assumption)) | (refine Blk.setAt ?_ (by first | (simp; done) | (simp; omega))) | rfl)), Lib.hid (by repeat' (first | (with_reducible first | exact Hid.out (by assumption) | exact Blk.new _ _ _ | (refine Blk.new_at _ _ _ _ ?_; simp; done) | refine Blk.alloc ?_ _ | refine Blk.drewN ?_ _ | refine Blk.drew ?_ | apply Blk.set | refine Blk.put ?_ (by assumption) (by first | (simp; done) | (simp; omega) | omega) | refine Blk.below ?_ (by assumption)) | (refine Blk.setAt ?_ (by first | (simp; done) | (simp; omega))) | rfl)), Lib.hid (by repeat' (first | (with_reducible first | exact Hid.out (by assumption) | exact Blk.new _ _ _ | (refine Blk.new_at _ _ _ _ ?_; simp; done) | refine Blk.alloc ?_ _ | refine Blk.drewN ?_ _ | refine Blk.drew ?_ | apply Blk.set | refine Blk.put ?_ (by assumption) (by first | (simp; done) | (simp; omega) | omega) | refine Blk.below ?_ (by assumption)) | (refine Blk.setAt ?_ (by first | (simp; done) | (simp; omega))) | rfl))⟩ ?_
    intro w3 ⟨k3, b3, hs3, Kx3, Ky3, Kq3, Kp3, Kc3⟩
    clear cD cS fc lc c8 c9 c10 c11 c12 c13 c14 lx cx fx ly cy' fy lq cq fq
    obtain ⟨cD, cS, fc, lc, c8, c9, c10, c11, c12, c13, c14⟩ := Kc3.out.cp hD hS8
    have MV := Lib.hid (fun w' => moved_any c (shrN (c.r D) n.toNat) 0 hu (shrO (c.r D) n.toNat) D hD cb x B w2.heap.size q hBc (by omega) (by omega) (by omega) (by omega) (by omega) w')
    refine wp_region_held_drew (S := fun W => Blk W (y) (#[.int .i64 13, .int .i64 D, .int .i64 S, .int .i64 n, .int .i64 v]) 43 ∧ Blk W (q) (#[.pointer (some ⟨cb, D, none⟩)]) 74) (by kernel_rfl) ⟨Blk.drew (show Blk _ (y) (#[.int .i64 13, .int .i64 D, .int .i64 S, .int .i64 n, .int .i64 v]) 43 from (by repeat' (first | (with_reducible first | exact Hid.out (by assumption) | exact Blk.new _ _ _ | (refine Blk.new_at _ _ _ _ ?_; simp; done) | refine Blk.alloc ?_ _ | refine Blk.drewN ?_ _ | refine Blk.drew ?_ | apply Blk.set | refine Blk.put ?_ (by assumption) (by first | (simp; done) | (simp; omega) | omega) | refine Blk.below ?_ (by assumption)) | (refine Blk.setAt ?_ (by first | (simp; done) | (simp; omega))) | rfl))), Blk.drew (show Blk _ (q) (#[.pointer (some ⟨cb, D, none⟩)]) 74 from (by repeat' (first | (with_reducible first | exact Hid.out (by assumption) | exact Blk.new _ _ _ | (refine Blk.new_at _ _ _ _ ?_; simp; done) | refine Blk.alloc ?_ _ | refine Blk.drewN ?_ _ | refine Blk.drew ?_ | apply Blk.set | refine Blk.put ?_ (by assumption) (by first | (simp; done) | (simp; omega) | omega) | refine Blk.below ?_ (by assumption)) | (refine Blk.setAt ?_ (by first | (simp; done) | (simp; omega))) | rfl)))⟩ (fun hS => ?_)
    refine wpAnyH_take (i := 0) (v := ?v0_2) rfl (by kernel_rfl) (by kernel_rfl) (by kernel_rfl) (fun _ _ _ h => h) (Or.inl ⟨by rfl, ?y0_2⟩) hS ?_
    case y0_2 => (intro w hSw; go_simp; try with_reducible rfl)
    try simp only [List.getElem_toArray, List.getElem_cons_succ, List.getElem_cons_zero, Act.put, List.setIfInBounds_toArray, List.set_cons_zero, List.set_cons_succ]
    refine wpAnyH_take (i := 1) (v := ?v1_2) rfl (by kernel_rfl) (by kernel_rfl) (by kernel_rfl) (fun _ _ _ h => h) (Or.inl ⟨by rfl, ?y1_2⟩) hS ?_
    case y1_2 => (intro w hSw; have c0 := (hSw.1).cell; have c1 := (hSw.2).cell; go_simp; try with_reducible rfl)
    try simp only [List.getElem_toArray, List.getElem_cons_succ, List.getElem_cons_zero, Act.put, List.setIfInBounds_toArray, List.set_cons_zero, List.set_cons_succ]
    refine wpAnyH_take (i := 2) (v := ?v2_2) rfl (by kernel_rfl) (by kernel_rfl) (by kernel_rfl) (fun _ _ _ h => h) (Or.inl ⟨by rfl, ?y2_2⟩) hS ?_
    case y2_2 => (intro w hSw; go_simp; try with_reducible rfl)
    try simp only [List.getElem_toArray, List.getElem_cons_succ, List.getElem_cons_zero, Act.put, List.setIfInBounds_toArray, List.set_cons_zero, List.set_cons_succ]
    refine wpAnyH_take (i := 4) (v := ?v4_2) rfl (by kernel_rfl) (by kernel_rfl) (by kernel_rfl) (fun _ _ _ h => h) (Or.inl ⟨by rfl, ?y4_2⟩) hS ?_
    case y4_2 => (intro w hSw; go_simp; try with_reducible rfl)
    try simp only [List.getElem_toArray, List.getElem_cons_succ, List.getElem_cons_zero, Act.put, List.setIfInBounds_toArray, List.set_cons_zero, List.set_cons_succ]
    refine wpAnyH_take (i := 5) (v := ?v5_2) rfl (by kernel_rfl) (by kernel_rfl) (by kernel_rfl) (fun _ _ _ h => h) (Or.inl ⟨by rfl, ?y5_2⟩) hS ?_
    case y5_2 => (intro w hSw; have c0 := (hSw.1).cell; have c1 := (hSw.2).cell; go_simp; try with_reducible rfl)
    try simp only [List.getElem_toArray, List.getElem_cons_succ, List.getElem_cons_zero, Act.put, List.setIfInBounds_toArray, List.set_cons_zero, List.set_cons_succ]
    refine wpAnyH_ready (rs := [3]) (by kernel_rfl) (by simp) (AllReadyH.cons rfl (fun K hK => ?_) AllReadyH.nil)
    go_simp
    refine hK.out _ _ ⟨hS.1, hS.2⟩ (fun hS => ?_)
    clear hK K
    try simp only [List.getElem_toArray, List.getElem_cons_succ, List.getElem_cons_zero, Act.put, List.setIfInBounds_toArray, List.set_cons_zero, List.set_cons_succ]
    refine wpAnyH_ready (rs := [6]) (by kernel_rfl) (by simp) (AllReadyH.cons rfl (fun K hK => ?_) AllReadyH.nil)
    go_simp
    refine (SH.out _).mono ?_
    rintro e w4 ⟨rfl, d4⟩
    try go_wp2_with fail
    refine hK.out _ _ ⟨hS.1.below (d4.below _), hS.2.below (d4.below _)⟩ (fun hS => ?_)
    clear hK K
    try simp only [List.getElem_toArray, List.getElem_cons_succ, List.getElem_cons_zero, Act.put, List.setIfInBounds_toArray, List.set_cons_zero, List.set_cons_succ]
    refine wpAnyH_take (i := 7) (v := ?v7_2) rfl (by kernel_rfl) (by kernel_rfl) (by kernel_rfl) (fun _ _ _ h => h) (Or.inl ⟨by rfl, ?y7_2⟩) hS ?_
    case y7_2 => (intro w hSw; go_simp; try with_reducible rfl)
    try simp only [List.getElem_toArray, List.getElem_cons_succ, List.getElem_cons_zero, Act.put, List.setIfInBounds_toArray, List.set_cons_zero, List.set_cons_succ]
    refine wpAnyH_take (i := 8) (v := ?v8_2) rfl (by kernel_rfl) (by kernel_rfl) (by kernel_rfl) (fun _ _ _ h => h) (Or.inl ⟨by rfl, ?y8_2⟩) hS ?_
    case y8_2 => (intro w hSw; go_simp; try with_reducible rfl)
    try simp only [List.getElem_toArray, List.getElem_cons_succ, List.getElem_cons_zero, Act.put, List.setIfInBounds_toArray, List.set_cons_zero, List.set_cons_succ]
    refine wpAnyH_take (i := 9) (v := ?v9_2) rfl (by kernel_rfl) (by kernel_rfl) (by kernel_rfl) (fun _ _ _ h => h) (Or.inl ⟨by rfl, ?y9_2⟩) hS ?_
    case y9_2 => (intro w hSw; go_simp; try with_reducible rfl)
    try simp only [List.getElem_toArray, List.getElem_cons_succ, List.getElem_cons_zero, Act.put, List.setIfInBounds_toArray, List.set_cons_zero, List.set_cons_succ]
    refine wpAnyH_ready (rs := [10]) (by kernel_rfl) (by simp) (AllReadyH.cons rfl (fun K hK => ?_) AllReadyH.nil)
    go_simp
    refine (MV.out _ (Kc3.out.drew.below (d4.below _)) (Kx3.out.drew.below (d4.below _)) (Kp3.out.drew.below (d4.below _)) (Kq3.out.drew.below (d4.below _))).mono ?_
    rintro e w5 ⟨rfl, hc5, k5, b5⟩
    try go_wp2_with fail
    refine hK.out _ _ ⟨hS.1.kp k5 (by omega) (by show ¬ (_ = _); omega), hS.2.kp k5 (by omega) (by show ¬ (_ = _); omega)⟩ (fun hS => ?_)
    clear hK K
    try simp only [List.getElem_toArray, List.getElem_cons_succ, List.getElem_cons_zero, Act.put, List.setIfInBounds_toArray, List.set_cons_zero, List.set_cons_succ]
    refine wpAnyH_done (by kernel_rfl) ?_ _
    go_wp2
    go_ret
    exact ⟨rfl, (show Blk w5 cb (cpuC (sumR c 13 D S n)) 28 from hc5), (k3.drew.below (d4.below _) (Nat.le_of_lt (Nat.lt_of_le_of_lt hs2 hs3))).then k5 (fun _ _ h => h), (b3.drew.trans (d4.below _)).trans b5⟩
  have h15 : op ≠ 15 := fun h => by subst h; rcases hk rfl with h | h <;> cases h
  have h14 : op ≠ 14 := fun h => by subst h; rcases hk rfl with h | h <;> cases h
  have hf : ¬ isFl op = true := fun h => by rcases hk (by unfold isSum; rw [h]; simp) with h | h; exact h12 h; exact h13 h
  · have t12 : (op == 12) = false := beq_eq_false_iff_ne.2 h12
    have t13 : (op == 13) = false := beq_eq_false_iff_ne.2 h13
    have t15 : (op == 15) = false := beq_eq_false_iff_ne.2 h15
    have hf' : isFl op = false := by simpa using hf
    have hno : NoSum op := by
      simp only [isFl, Bool.or_eq_false_iff] at hf'
      obtain ⟨⟨⟨⟨⟨⟨⟨a1, a2⟩, a3⟩, a4⟩, a5⟩, a6⟩, a7⟩, a8⟩ := hf'
      exact ⟨a1, a7, a2, a6, a3, a4, a5, a8⟩
    have FL := Lib.hid (flags_no op (c.r D) (c.r S) hno)
    have hg1 := Lib.hid (show isSum op = false by unfold isSum; rw [hf', t12, t13]; rfl)
    go_wp2_with fail
    refine wp_mark (R := fun W => Kp B (· = cb) w W ∧ Below cb w W ∧ w2.heap.size < W.heap.size ∧ Hid (Blk W x #[.pointer (some ⟨cb, 0, none⟩)] 65) ∧ Hid (Blk W y #[.int .i64 op, .int .i64 D, .int .i64 S, .int .i64 n, .int .i64 v] 43) ∧ Hid (Blk W q #[.pointer (some ⟨cb, D, none⟩)] 74) ∧ Hid (Blk W w2.heap.size #[.func (.func 32) #[] #[.pointer (some ⟨x, 0, none⟩)]] 75) ∧ Hid (Blk W cb (cpuC c) 28)) ⟨(by repeat' (first | (with_reducible first | exact Kp.refl _ _ _ | assumption | refine Kp.alloc ?_ _ | refine Kp.drew ?_ | refine Kp.drewN ?_ _ | refine Kp.setCell ?_ ?_) | (right; rfl) | (left; simp; done) | (left; omega) | (left; simp; omega))), (by repeat' (first | (with_reducible first | exact Below.refl _ _ | assumption | refine Below.alloc ?_ ?_ _ | refine Below.drew ?_ | refine below_drewN ?_ _ | refine Below.setCell ?_ ?_ _) | (simp; done) | omega | (simp; omega))), by first | omega | (simp; done) | (simp; omega), Lib.hid (by repeat' (first | (with_reducible first | exact Hid.out (by assumption) | exact Blk.new _ _ _ | (refine Blk.new_at _ _ _ _ ?_; simp; done) | refine Blk.alloc ?_ _ | refine Blk.drewN ?_ _ | refine Blk.drew ?_ | apply Blk.set | refine Blk.put ?_ (by assumption) (by first | (simp; done) | (simp; omega) | omega) | refine Blk.below ?_ (by assumption)) | (refine Blk.setAt ?_ (by first | (simp; done) | (simp; omega))) | rfl)), Lib.hid (by repeat' (first | (with_reducible first | exact Hid.out (by assumption) | exact Blk.new _ _ _ | (refine Blk.new_at _ _ _ _ ?_; simp; done) | refine Blk.alloc ?_ _ | refine Blk.drewN ?_ _ | refine Blk.drew ?_ | apply Blk.set | refine Blk.put ?_ (by assumption) (by first | (simp; done) | (simp; omega) | omega) | refine Blk.below ?_ (by assumption)) | (refine Blk.setAt ?_ (by first | (simp; done) | (simp; omega))) | rfl)), Lib.hid (by repeat' (first | (with_reducible first | exact Hid.out (by assumption) | exact Blk.new _ _ _ | (refine Blk.new_at _ _ _ _ ?_; simp; done) | refine Blk.alloc ?_ _ | refine Blk.drewN ?_ _ | refine Blk.drew ?_ | apply Blk.set | refine Blk.put ?_ (by assumption) (by first | (simp; done) | (simp; omega) | omega) | refine Blk.below ?_ (by assumption)) | (refine Blk.setAt ?_ (by first | (simp; done) | (simp; omega))) | rfl)), Lib.hid (by repeat' (first | (with_reducible first | exact Hid.out (by assumption) | exact Blk.new _ _ _ | (refine Blk.new_at _ _ _ _ ?_; simp; done) | refine Blk.alloc ?_ _ | refine Blk.drewN ?_ _ | refine Blk.drew ?_ | apply Blk.set | refine Blk.put ?_ (by assumption) (by first | (simp; done) | (simp; omega) | omega) | refine Blk.below ?_ (by assumption)) | (refine Blk.setAt ?_ (by first | (simp; done) | (simp; omega))) | rfl)), Lib.hid (by repeat' (first | (with_reducible first | exact Hid.out (by assumption) | exact Blk.new _ _ _ | (refine Blk.new_at _ _ _ _ ?_; simp; done) | refine Blk.alloc ?_ _ | refine Blk.drewN ?_ _ | refine Blk.drew ?_ | apply Blk.set | refine Blk.put ?_ (by assumption) (by first | (simp; done) | (simp; omega) | omega) | refine Blk.below ?_ (by assumption)) | (refine Blk.setAt ?_ (by first | (simp; done) | (simp; omega))) | rfl))⟩ ?_
    intro w3 ⟨k3, b3, hs3, Kx3, Ky3, Kq3, Kp3, Kc3⟩
    clear cD cS fc lc c8 c9 c10 c11 c12 c13 c14 lx cx fx ly cy' fy lq cq fq
    obtain ⟨cD, cS, fc, lc, c8, c9, c10, c11, c12, c13, c14⟩ := Kc3.out.cp hD hS8
    refine wp_region_held_drew (S := fun W => Blk W (y) (#[.int .i64 op, .int .i64 D, .int .i64 S, .int .i64 n, .int .i64 v]) 43 ∧ Blk W (q) (#[.pointer (some ⟨cb, D, none⟩)]) 74) (by kernel_rfl) ⟨Blk.drew (show Blk _ (y) (#[.int .i64 op, .int .i64 D, .int .i64 S, .int .i64 n, .int .i64 v]) 43 from (by repeat' (first | (with_reducible first | exact Hid.out (by assumption) | exact Blk.new _ _ _ | (refine Blk.new_at _ _ _ _ ?_; simp; done) | refine Blk.alloc ?_ _ | refine Blk.drewN ?_ _ | refine Blk.drew ?_ | apply Blk.set | refine Blk.put ?_ (by assumption) (by first | (simp; done) | (simp; omega) | omega) | refine Blk.below ?_ (by assumption)) | (refine Blk.setAt ?_ (by first | (simp; done) | (simp; omega))) | rfl))), Blk.drew (show Blk _ (q) (#[.pointer (some ⟨cb, D, none⟩)]) 74 from (by repeat' (first | (with_reducible first | exact Hid.out (by assumption) | exact Blk.new _ _ _ | (refine Blk.new_at _ _ _ _ ?_; simp; done) | refine Blk.alloc ?_ _ | refine Blk.drewN ?_ _ | refine Blk.drew ?_ | apply Blk.set | refine Blk.put ?_ (by assumption) (by first | (simp; done) | (simp; omega) | omega) | refine Blk.below ?_ (by assumption)) | (refine Blk.setAt ?_ (by first | (simp; done) | (simp; omega))) | rfl)))⟩ (fun hS => ?_)
    refine wpAnyH_take (i := 0) (v := ?v0_3) rfl (by kernel_rfl) (by kernel_rfl) (by kernel_rfl) (fun _ _ _ h => h) (Or.inl ⟨by rfl, ?y0_3⟩) hS ?_
    case y0_3 => (intro w hSw; go_simp; try with_reducible rfl)
    try simp only [List.getElem_toArray, List.getElem_cons_succ, List.getElem_cons_zero, Act.put, List.setIfInBounds_toArray, List.set_cons_zero, List.set_cons_succ]
    refine wpAnyH_take (i := 1) (v := ?v1_3) rfl (by kernel_rfl) (by kernel_rfl) (by kernel_rfl) (fun _ _ _ h => h) (Or.inl ⟨by rfl, ?y1_3⟩) hS ?_
    case y1_3 => (intro w hSw; have c0 := (hSw.1).cell; have c1 := (hSw.2).cell; go_simp; try with_reducible rfl)
    try simp only [List.getElem_toArray, List.getElem_cons_succ, List.getElem_cons_zero, Act.put, List.setIfInBounds_toArray, List.set_cons_zero, List.set_cons_succ]
    refine wpAnyH_take (i := 2) (v := ?v2_3) rfl (by kernel_rfl) (by kernel_rfl) (by kernel_rfl) (fun _ _ _ h => h) (Or.inl ⟨by rfl, ?y2_3⟩) hS ?_
    case y2_3 => (intro w hSw; have c0 := (hSw.1).cell; have c1 := (hSw.2).cell; go_simp; try with_reducible rfl)
    try simp only [List.getElem_toArray, List.getElem_cons_succ, List.getElem_cons_zero, Act.put, List.setIfInBounds_toArray, List.set_cons_zero, List.set_cons_succ]
    refine wpAnyH_take (i := 3) (v := ?v3_3) rfl (by kernel_rfl) (by kernel_rfl) (by kernel_rfl) (fun _ _ _ h => h) (Or.inl ⟨by rfl, ?y3_3⟩) hS ?_
    case y3_3 => (intro w hSw; go_simp; try with_reducible rfl)
    try simp only [List.getElem_toArray, List.getElem_cons_succ, List.getElem_cons_zero, Act.put, List.setIfInBounds_toArray, List.set_cons_zero, List.set_cons_succ]
    refine wpAnyH_take (i := 5) (v := ?v5_3) rfl (by kernel_rfl) (by kernel_rfl) (by kernel_rfl) (fun _ _ _ h => h) (Or.inl ⟨by rfl, ?y5_3⟩) hS ?_
    case y5_3 => (intro w hSw; go_simp; try with_reducible rfl)
    try simp only [List.getElem_toArray, List.getElem_cons_succ, List.getElem_cons_zero, Act.put, List.setIfInBounds_toArray, List.set_cons_zero, List.set_cons_succ]
    refine wpAnyH_ready (rs := [4]) (by kernel_rfl) (by simp) (AllReadyH.cons rfl (fun K hK => ?_) AllReadyH.nil)
    go_simp
    refine hK.out _ _ ⟨hS.1, hS.2⟩ (fun hS => ?_)
    clear hK K
    try simp only [List.getElem_toArray, List.getElem_cons_succ, List.getElem_cons_zero, Act.put, List.setIfInBounds_toArray, List.set_cons_zero, List.set_cons_succ]
    refine wpAnyH_ready (rs := [6]) (by kernel_rfl) (by simp) (AllReadyH.cons rfl (fun K hK => ?_) AllReadyH.nil)
    go_simp
    refine (FL.out _).mono ?_
    rintro e w4 ⟨rfl, hb4⟩
    try go_wp2_with fail
    refine hK.out _ _ ⟨hS.1.below hb4, hS.2.below hb4⟩ (fun hS => ?_)
    clear hK K
    try simp only [List.getElem_toArray, List.getElem_cons_succ, List.getElem_cons_zero, Act.put, List.setIfInBounds_toArray, List.set_cons_zero, List.set_cons_succ]
    refine wpAnyH_take (i := 7) (v := ?v7_3) rfl (by kernel_rfl) (by kernel_rfl) (by kernel_rfl) (fun _ _ _ h => h) (Or.inl ⟨by rfl, ?y7_3⟩) hS ?_
    case y7_3 => (intro w hSw; go_simp; try with_reducible rfl)
    try simp only [List.getElem_toArray, List.getElem_cons_succ, List.getElem_cons_zero, Act.put, List.setIfInBounds_toArray, List.set_cons_zero, List.set_cons_succ]
    refine wpAnyH_take (i := 8) (v := ?v8_3) rfl (by kernel_rfl) (by kernel_rfl) (by kernel_rfl) (fun _ _ _ h => h) (Or.inl ⟨by rfl, ?y8_3⟩) hS ?_
    case y8_3 => (intro w hSw; go_simp; try with_reducible rfl)
    try simp only [List.getElem_toArray, List.getElem_cons_succ, List.getElem_cons_zero, Act.put, List.setIfInBounds_toArray, List.set_cons_zero, List.set_cons_succ]
    refine wpAnyH_take (i := 9) (v := ?v9_3) rfl (by kernel_rfl) (by kernel_rfl) (by kernel_rfl) (fun _ _ _ h => h) (Or.inl ⟨by rfl, ?y9_3⟩) hS ?_
    case y9_3 => (intro w hSw; go_simp; try with_reducible rfl)
    try simp only [List.getElem_toArray, List.getElem_cons_succ, List.getElem_cons_zero, Act.put, List.setIfInBounds_toArray, List.set_cons_zero, List.set_cons_succ]
    refine wpAnyH_take (i := 10) (v := ?v10_3) rfl (by kernel_rfl) (by kernel_rfl) (by kernel_rfl) (fun _ _ _ h => h) (Or.inl ⟨by rfl, ?y10_3⟩) hS ?_
    case y10_3 => (intro w hSw; go_simp; try with_reducible rfl)
    try simp only [List.getElem_toArray, List.getElem_cons_succ, List.getElem_cons_zero, Act.put, List.setIfInBounds_toArray, List.set_cons_zero, List.set_cons_succ]
    refine wpAnyH_take (i := 11) (v := ?v11_3) rfl (by kernel_rfl) (by kernel_rfl) (by kernel_rfl) (fun _ _ _ h => h) (Or.inl ⟨by rfl, ?y11_3⟩) hS ?_
    case y11_3 => (intro w hSw; go_simp; try with_reducible rfl)
    try simp only [List.getElem_toArray, List.getElem_cons_succ, List.getElem_cons_zero, Act.put, List.setIfInBounds_toArray, List.set_cons_zero, List.set_cons_succ]
    refine wpAnyH_take (i := 12) (v := ?v12_3) rfl (by kernel_rfl) (by kernel_rfl) (by kernel_rfl) (fun _ _ _ h => h) (Or.inl ⟨by rfl, ?y12_3⟩) hS ?_
    case y12_3 => (intro w hSw; go_simp; try with_reducible rfl)
    try simp only [List.getElem_toArray, List.getElem_cons_succ, List.getElem_cons_zero, Act.put, List.setIfInBounds_toArray, List.set_cons_zero, List.set_cons_succ]
    refine wpAnyH_take (i := 13) (v := ?v13_3) rfl (by kernel_rfl) (by kernel_rfl) (by kernel_rfl) (fun _ _ _ h => h) (Or.inl ⟨by rfl, ?y13_3⟩) hS ?_
    case y13_3 => (intro w hSw; go_simp; try with_reducible rfl)
    try simp only [List.getElem_toArray, List.getElem_cons_succ, List.getElem_cons_zero, Act.put, List.setIfInBounds_toArray, List.set_cons_zero, List.set_cons_succ]
    refine wpAnyH_take (i := 14) (v := ?v14_3) rfl (by kernel_rfl) (by kernel_rfl) (by kernel_rfl) (fun _ _ _ h => h) (Or.inl ⟨by rfl, ?y14_3⟩) hS ?_
    case y14_3 => (intro w hSw; go_simp; try with_reducible rfl)
    try simp only [List.getElem_toArray, List.getElem_cons_succ, List.getElem_cons_zero, Act.put, List.setIfInBounds_toArray, List.set_cons_zero, List.set_cons_succ]
    refine wpAnyH_take (i := 15) (v := ?v15_3) rfl (by kernel_rfl) (by kernel_rfl) (by kernel_rfl) (fun _ _ _ h => h) (Or.inl ⟨by rfl, ?y15_3⟩) hS ?_
    case y15_3 => (intro w hSw; go_simp; try with_reducible rfl)
    try simp only [List.getElem_toArray, List.getElem_cons_succ, List.getElem_cons_zero, Act.put, List.setIfInBounds_toArray, List.set_cons_zero, List.set_cons_succ]
    refine wpAnyH_take (i := 16) (v := ?v16_3) rfl (by kernel_rfl) (by kernel_rfl) (by kernel_rfl) (fun _ _ _ h => h) (Or.inl ⟨by rfl, ?y16_3⟩) hS ?_
    case y16_3 => (intro w hSw; go_simp; try with_reducible rfl)
    try simp only [List.getElem_toArray, List.getElem_cons_succ, List.getElem_cons_zero, Act.put, List.setIfInBounds_toArray, List.set_cons_zero, List.set_cons_succ]
    refine wpAnyH_take (i := 17) (v := ?v17_3) rfl (by kernel_rfl) (by kernel_rfl) (by kernel_rfl) (fun _ _ _ h => h) (Or.inl ⟨by rfl, ?y17_3⟩) hS ?_
    case y17_3 => (intro w hSw; go_simp; try with_reducible rfl)
    try simp only [List.getElem_toArray, List.getElem_cons_succ, List.getElem_cons_zero, Act.put, List.setIfInBounds_toArray, List.set_cons_zero, List.set_cons_succ]
    refine wpAnyH_take (i := 18) (v := ?v18_3) rfl (by kernel_rfl) (by kernel_rfl) (by kernel_rfl) (fun _ _ _ h => h) (Or.inl ⟨by rfl, ?y18_3⟩) hS ?_
    case y18_3 => (intro w hSw; go_simp; try with_reducible rfl)
    try simp only [List.getElem_toArray, List.getElem_cons_succ, List.getElem_cons_zero, Act.put, List.setIfInBounds_toArray, List.set_cons_zero, List.set_cons_succ]
    refine wpAnyH_take (i := 19) (v := ?v19_3) rfl (by kernel_rfl) (by kernel_rfl) (by kernel_rfl) (fun _ _ _ h => h) (Or.inl ⟨by rfl, ?y19_3⟩) hS ?_
    case y19_3 => (intro w hSw; go_simp; try with_reducible rfl)
    try simp only [List.getElem_toArray, List.getElem_cons_succ, List.getElem_cons_zero, Act.put, List.setIfInBounds_toArray, List.set_cons_zero, List.set_cons_succ]
    refine wpAnyH_done (by kernel_rfl) ?_ _
    go_wp2
    go_ret
    refine ⟨by rw [hg1.out]; rfl, ?_, k3.drew.below hb4 (Nat.le_of_lt (Nat.lt_of_le_of_lt hs2 hs3)), b3.drew.trans (hb4.mono (Nat.le_of_lt (show cb < w3.heap.size by omega)))⟩
    rw [sumR_no hg1.out]
    exact Kc3.out.drew.below hb4
end Go.Proofs.Yteihggfcafoogaa
