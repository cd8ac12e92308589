/- An order that moves between registers and places. Conditions: the bus is one, the fields are words, the order's parts in their ranges. -/
import Derived.Test.YteihggfcafoogaaCpuSumDef
namespace Go.Mq
open Go.RowKit
def adr (x n : Int) : Int := (x + n % 65536) % 65536
theorem adr_u (x n : Int) : U16 (adr x n) := by unfold U16 adr; omega
def isMov (op : Int) : Bool := op == 1 || op == 2 || op == 3 || op == 4 || op == 5 || op == 6 || op == 22 || op == 23
def movC {σ : Type} (b : Bus σ) (m : σ) (c : Cp) (op : Int) (D S : Nat) (n v : Int) : Cp :=
  if op = 1 then c.reg D (c.r S) else if op = 2 then c.reg D v else if op = 3 then c.reg D (wV b m (adr (c.r S) n)) else if op = 5 then c.reg D (b.gV m (adr (c.r S) n))
  else if op = 22 then c.reg 7 (sp c) else if op = 23 then (c.reg 7 (spUp c)).reg D (wV b m (c.r 7)) else c
def movS {σ : Type} (b : Bus σ) (m : σ) (c : Cp) (op : Int) (D S : Nat) (n : Int) : σ :=
  if op = 3 then wS b m (adr (c.r S) n) else if op = 4 then pW b m (adr (c.r D) n) (c.r S) else if op = 5 then b.gS m (adr (c.r S) n) else if op = 6 then b.pS m (adr (c.r D) n) (c.r S % 256)
  else if op = 22 then pW b m (sp c) (c.r S) else if op = 23 then wS b m (c.r 7) else m
end Go.Mq
namespace Go.Proofs.Yteihggfcafoogaa
open Go.RowKit Go.Mq
set_option linter.unusedVariables false
set_option linter.unusedSimpArgs false
set_option maxHeartbeats 4000000
set_option maxRecDepth 100000
theorem moves_any {fg fp : FuncId} {cg cp : Value} {σ : Type} {b : Bus σ} {Rel : World → σ → Prop} {B : Nat} (hb : BusOk Try.prog fg fp cg cp b Rel B) (m : σ) (c : Cp) (op : Int) (D S : Nat) (n v cy : Int) (hD : D < 8) (hS8 : S < 8) (hn : -16 ≤ n ∧ n ≤ 15) (hv : U16 v) (cb db : Nat) (hBc : B ≤ cb) (hBd : B ≤ db) (hdc : db ≠ cb) (w : World) (hr : Rel w m) (hc : Blk w cb (cpuC c) 28) (hd : Blk w db (doC cb (.func (.func fg) #[] #[cg]) (.func (.func fp) #[] #[cp]) op D S n v cy) 69) (hi : c.In) :
    Calls Try.prog 26 #[.pointer (some ⟨db, 0, none⟩)] w fun e w' => e = .returned (.bool (isMov op)) ∧ Blk w' cb (cpuC (movC b m c op D S n v)) 28 ∧ Rel w' (movS b m c op D S n) ∧ Kp B (· = cb) w w' := by
  have KC := Lib.hid hc
  have KD := Lib.hid hd
  have HR := Lib.hid (fun w' (h : Below w.heap.size w w') => hb.below hr h (Nat.le_of_lt (Nat.lt_of_le_of_lt hBc hc.lt)))
  have eg := hb.eg
  have ep := hb.ep
  have hDi : (D : Int) < 8 := Int.ofNat_lt.2 hD
  have hSi : (S : Int) < 8 := Int.ofNat_lt.2 hS8
  have hw0 : IntKind.u16.wrap n = n % 65536 := wrap16 n
  have hw1 : IntKind.u16.wrap (c.r S + n % 65536) = adr (c.r S) n := wrap16 _
  have hw2 : IntKind.u16.wrap (c.r D + n % 65536) = adr (c.r D) n := wrap16 _
  have hw3 : IntKind.u16.wrap v = v := by rw [wrap16]; unfold U16 at hv; omega
  have hw4 : IntKind.u8.wrap (c.r S) = c.r S % 256 := wrap8 _
  have hca := hc.lt
  have hda := hd.lt
  obtain ⟨cD, cS, fc, lc, c8, c9, c10, c11, c12, c13, c14⟩ := hc.cp hD hS8
  obtain ⟨d0, d1, d2, d3, d4, d5, d6, d7, d8, fd, ld⟩ := hd.dn
  clear hc hd hr
  go_enter Try.func26, Try.ntmps26
  go_wp2_with fail
  apply gcut2 (fun x y W => w.heap.size ≤ x ∧ w.heap.size ≤ y ∧ x ≠ y ∧ Below w.heap.size w W ∧ Hid (Blk W x #[.func (.func fg) #[] #[cg], .func (.func fp) #[] #[cp]] 52) ∧ Hid (Blk W y #[.int .i64 op, .int .i64 D, .int .i64 S, .int .i64 n, .int .i64 v] 43))
  · intro hk
    go_region
    · obtain ⟨y, hhi⟩ : ∃ g, g = w.heap.size + 1 := ⟨_, rfl⟩
      obtain ⟨x, hlo⟩ : ∃ g, g = w.heap.size := ⟨_, rfl⟩
      refine pmark1 (R := fun W => Below w.heap.size w W ∧ Hid (Blk W w.heap.size #[.func (.func fg) #[] #[cg], .func (.func fp) #[] #[cp]] 52) ∧ Hid (Blk W (w.heap.size + 1) #[.int .i64 op, .int .i64 D, .int .i64 S, .int .i64 n, .int .i64 v] 43)) (F := fun W => Exit.then _ _ Exit.normal _ W) ⟨by repeat' (first | (with_reducible first | exact Below.refl _ _ | assumption | refine below_alloc ?_ _ | refine Below.drew ?_ | refine below_drewN ?_ _ | refine below_then ?_ (by assumption) | refine below_put ?_ (by assumption) (by first | (simp; done) | (simp; omega) | omega) | refine Below.setCell ?_ ?_ _) | (simp; done) | (simp; omega) | omega), Lib.hid (by repeat' (first | (with_reducible first | exact Hid.out (by assumption) | exact Blk.new _ _ _ | (refine Blk.new_at _ _ _ _ ?_; simp; done) | refine Blk.alloc ?_ _ | refine Blk.drewN ?_ _ | refine Blk.drew ?_ | apply Blk.set | refine Blk.put ?_ (by assumption) (by first | (simp; done) | (simp; omega) | omega) | refine Blk.below ?_ (by assumption)) | (refine Blk.setAt ?_ (by first | (simp; done) | (simp; omega))) | rfl)), Lib.hid (by repeat' (first | (with_reducible first | exact Hid.out (by assumption) | exact Blk.new _ _ _ | (refine Blk.new_at _ _ _ _ ?_; simp; done) | refine Blk.alloc ?_ _ | refine Blk.drewN ?_ _ | refine Blk.drew ?_ | apply Blk.set | refine Blk.put ?_ (by assumption) (by first | (simp; done) | (simp; omega) | omega) | refine Blk.below ?_ (by assumption)) | (refine Blk.setAt ?_ (by first | (simp; done) | (simp; omega))) | rfl))⟩ ?_
      rw [← hhi]
      rw [← hlo]
      intro W h
      refine hk x y W ⟨by omega, by omega, by omega, ?_, h.2.1, h.2.2⟩
      rw [← hlo]
      exact h.1
    · obtain ⟨x, hhi⟩ : ∃ g, g = w.heap.size + 1 := ⟨_, rfl⟩
      obtain ⟨y, hlo⟩ : ∃ g, g = w.heap.size := ⟨_, rfl⟩
      refine pmark1 (R := fun W => Below w.heap.size w W ∧ Hid (Blk W (w.heap.size + 1) #[.func (.func fg) #[] #[cg], .func (.func fp) #[] #[cp]] 52) ∧ Hid (Blk W w.heap.size #[.int .i64 op, .int .i64 D, .int .i64 S, .int .i64 n, .int .i64 v] 43)) (F := fun W => Exit.then _ _ Exit.normal _ W) ⟨by repeat' (first | (with_reducible first | exact Below.refl _ _ | assumption | refine below_alloc ?_ _ | refine Below.drew ?_ | refine below_drewN ?_ _ | refine below_then ?_ (by assumption) | refine below_put ?_ (by assumption) (by first | (simp; done) | (simp; omega) | omega) | refine Below.setCell ?_ ?_ _) | (simp; done) | (simp; omega) | omega), Lib.hid (by repeat' (first | (with_reducible first | exact Hid.out (by assumption) | exact Blk.new _ _ _ | (refine Blk.new_at _ _ _ _ ?_; simp; done) | refine Blk.alloc ?_ _ | refine Blk.drewN ?_ _ | refine Blk.drew ?_ | apply Blk.set | refine Blk.put ?_ (by assumption) (by first | (simp; done) | (simp; omega) | omega) | refine Blk.below ?_ (by assumption)) | (refine Blk.setAt ?_ (by first | (simp; done) | (simp; omega))) | rfl)), Lib.hid (by repeat' (first | (with_reducible first | exact Hid.out (by assumption) | exact Blk.new _ _ _ | (refine Blk.new_at _ _ _ _ ?_; simp; done) | refine Blk.alloc ?_ _ | refine Blk.drewN ?_ _ | refine Blk.drew ?_ | apply Blk.set | refine Blk.put ?_ (by assumption) (by first | (simp; done) | (simp; omega) | omega) | refine Blk.below ?_ (by assumption)) | (refine Blk.setAt ?_ (by first | (simp; done) | (simp; omega))) | rfl))⟩ ?_
      rw [← hhi]
      rw [← hlo]
      intro W h
      refine hk x y W ⟨by omega, by omega, by omega, ?_, h.2.1, h.2.2⟩
      rw [← hlo]
      exact h.1
  intro x y w1 ⟨hx, hy, hxy, hb1, Kx, Ky⟩
  have KC1 := Lib.hid (KC.out.below hb1)
  clear cD cS fc lc c8 c9 c10 c11 c12 c13 c14 d0 d1 d2 d3 d4 d5 d6 d7 d8 fd ld
  obtain ⟨cD, cS, fc, lc, c8, c9, c10, c11, c12, c13, c14⟩ := KC1.out.cp hD hS8
  obtain ⟨lx, cx, fx⟩ := Kx.out.use
  obtain ⟨ly, cy', fy⟩ := Ky.out.use
  have hs1 := hb1.size
  go_wp2_with fail
  go_region
  refine pmark1 (R := fun W => Below w.heap.size w W ∧ Hid (Blk W x #[.func (.func fg) #[] #[cg], .func (.func fp) #[] #[cp]] 52) ∧ Hid (Blk W y #[.int .i64 op, .int .i64 D, .int .i64 S, .int .i64 n, .int .i64 v] 43) ∧ Hid (Blk W cb (cpuC c) 28)) (F := fun W => Exit.then _ _ Exit.normal _ W) ⟨by repeat' (first | (with_reducible first | exact Below.refl _ _ | assumption | refine below_alloc ?_ _ | refine Below.drew ?_ | refine below_drewN ?_ _ | refine below_then ?_ (by assumption) | refine below_put ?_ (by assumption) (by first | (simp; done) | (simp; omega) | omega) | refine Below.setCell ?_ ?_ _) | (simp; done) | (simp; omega) | omega), Lib.hid (by repeat' (first | (with_reducible first | exact Hid.out (by assumption) | exact Blk.new _ _ _ | (refine Blk.new_at _ _ _ _ ?_; simp; done) | refine Blk.alloc ?_ _ | refine Blk.drewN ?_ _ | refine Blk.drew ?_ | apply Blk.set | refine Blk.put ?_ (by assumption) (by first | (simp; done) | (simp; omega) | omega) | refine Blk.below ?_ (by assumption)) | (refine Blk.setAt ?_ (by first | (simp; done) | (simp; omega))) | rfl)), Lib.hid (by repeat' (first | (with_reducible first | exact Hid.out (by assumption) | exact Blk.new _ _ _ | (refine Blk.new_at _ _ _ _ ?_; simp; done) | refine Blk.alloc ?_ _ | refine Blk.drewN ?_ _ | refine Blk.drew ?_ | apply Blk.set | refine Blk.put ?_ (by assumption) (by first | (simp; done) | (simp; omega) | omega) | refine Blk.below ?_ (by assumption)) | (refine Blk.setAt ?_ (by first | (simp; done) | (simp; omega))) | rfl)), Lib.hid (by repeat' (first | (with_reducible first | exact Hid.out (by assumption) | exact Blk.new _ _ _ | (refine Blk.new_at _ _ _ _ ?_; simp; done) | refine Blk.alloc ?_ _ | refine Blk.drewN ?_ _ | refine Blk.drew ?_ | apply Blk.set | refine Blk.put ?_ (by assumption) (by first | (simp; done) | (simp; omega) | omega) | refine Blk.below ?_ (by assumption)) | (refine Blk.setAt ?_ (by first | (simp; done) | (simp; omega))) | rfl))⟩ ?_
  intro w2 ⟨hb2, Kx2, Ky2, Kc2⟩
  have hs2 := hb2.size
  have k2 : Kp B (· = cb) w w2 := (Kp.refl _ _ w).below hb2 (Nat.le_refl _)
  have hr2 := HR.out _ hb2
  clear cD cS fc lc c8 c9 c10 c11 c12 c13 c14 lx cx fx ly cy' fy KC1 Kx Ky hb1 hs1 KD
  have hlx := Kx2.out.lt
  obtain ⟨cD, cS, fc, lc, c8, c9, c10, c11, c12, c13, c14⟩ := Kc2.out.cp hD hS8
  obtain ⟨lx, cx, fx⟩ := Kx2.out.use
  obtain ⟨ly, cy', fy⟩ := Ky2.out.use
  by_cases h1 : op = 1
  · subst h1
    go_wp2
    go_ret
    exact ⟨rfl, Blk.set Kc2.out (cpuC_set _ D hD _), hb.stable _ _ _ hr2 (by repeat' (first | (with_reducible first | exact Below.refl _ _ | assumption | refine Below.alloc ?_ ?_ _ | refine Below.drew ?_ | refine below_drewN ?_ _ | refine Below.setCell ?_ ?_ _) | (simp; done) | omega | (simp; omega))), k2.setCell (Or.inr rfl)⟩
  by_cases h2 : op = 2
  · subst h2
    go_wp2
    go_ret
    exact ⟨rfl, Blk.set Kc2.out (cpuC_set _ D hD _), hb.stable _ _ _ hr2 (by repeat' (first | (with_reducible first | exact Below.refl _ _ | assumption | refine Below.alloc ?_ ?_ _ | refine Below.drew ?_ | refine below_drewN ?_ _ | refine Below.setCell ?_ ?_ _) | (simp; done) | omega | (simp; omega))), k2.setCell (Or.inr rfl)⟩
  by_cases h3 : op = 3
  · subst h3
    have WD := Lib.hid (fun w' => word_any hb m (adr (c.r S) n) (adr_u _ _) w')
    go_wp2_with (first | ((with_reducible show wpList _ _ _ _ _ _); refine wpList_loadW rfl 52 (.tmp 4) rfl (x) rfl 52 #[.func (.func fg) #[] #[cg], .func (.func fp) #[] #[cp]] (show Blk _ (x) #[.func (.func fg) #[] #[cg], .func (.func fp) #[] #[cp]] 52 from (by repeat' (first | (with_reducible first | exact Hid.out (by assumption) | exact Blk.new _ _ _ | (refine Blk.new_at _ _ _ _ ?_; simp; done) | refine Blk.alloc ?_ _ | refine Blk.drewN ?_ _ | refine Blk.drew ?_ | apply Blk.set | refine Blk.put ?_ (by assumption) (by first | (simp; done) | (simp; omega) | omega) | refine Blk.below ?_ (by assumption)) | (refine Blk.setAt ?_ (by first | (simp; done) | (simp; omega))) | rfl))) _ Try.underlying52 rfl (by kernel_rfl) ?_))
    refine (WD.out _ (hb.stable _ _ _ hr2 (by repeat' (first | (with_reducible first | exact Below.refl _ _ | assumption | refine Below.alloc ?_ ?_ _ | refine Below.drew ?_ | refine below_drewN ?_ _ | refine Below.setCell ?_ ?_ _) | (simp; done) | omega | (simp; omega)))) (by first | omega | (simp; omega))).mono ?_
    rintro e w3 ⟨rfl, hr3, k3⟩
    have Kc3 := Lib.hid (Kc2.out.kp k3 hBc id)
    have k4 := k2.then k3 (fun _ _ h => h.elim)
    have hs3 := k3.size
    clear cD cS fc lc c8 c9 c10 c11 c12 c13 c14 lx cx fx ly cy' fy
    obtain ⟨cD, cS, fc, lc, c8, c9, c10, c11, c12, c13, c14⟩ := Kc3.out.cp hD hS8
    go_wp2
    go_ret
    exact ⟨rfl, Blk.set Kc3.out (cpuC_set _ D hD _), hb.stable _ _ _ hr3 (by repeat' (first | (with_reducible first | exact Below.refl _ _ | assumption | refine Below.alloc ?_ ?_ _ | refine Below.drew ?_ | refine below_drewN ?_ _ | refine Below.setCell ?_ ?_ _) | (simp; done) | omega | (simp; omega))), k4.setCell (Or.inr rfl)⟩
  by_cases h4 : op = 4
  · subst h4
    have WD := Lib.hid (fun w' => putWord_any hb m (adr (c.r D) n) (c.r S) (adr_u _ _) (hi.1 S) w')
    go_wp2_with fail
    refine wp_region_held_drew (S := fun W => Blk W (x) (#[.func (.func fg) #[] #[cg], .func (.func fp) #[] #[cp]]) 52 ∧ Blk W (y) (#[.int .i64 4, .int .i64 D, .int .i64 S, .int .i64 n, .int .i64 v]) 43) (by kernel_rfl) ⟨Blk.drew (show Blk _ (x) (#[.func (.func fg) #[] #[cg], .func (.func fp) #[] #[cp]]) 52 from (by repeat' (first | (with_reducible first | exact Hid.out (by assumption) | exact Blk.new _ _ _ | (refine Blk.new_at _ _ _ _ ?_; simp; done) | refine Blk.alloc ?_ _ | refine Blk.drewN ?_ _ | refine Blk.drew ?_ | apply Blk.set | refine Blk.put ?_ (by assumption) (by first | (simp; done) | (simp; omega) | omega) | refine Blk.below ?_ (by assumption)) | (refine Blk.setAt ?_ (by first | (simp; done) | (simp; omega))) | rfl))), Blk.drew (show Blk _ (y) (#[.int .i64 4, .int .i64 D, .int .i64 S, .int .i64 n, .int .i64 v]) 43 from (by repeat' (first | (with_reducible first | exact Hid.out (by assumption) | exact Blk.new _ _ _ | (refine Blk.new_at _ _ _ _ ?_; simp; done) | refine Blk.alloc ?_ _ | refine Blk.drewN ?_ _ | refine Blk.drew ?_ | apply Blk.set | refine Blk.put ?_ (by assumption) (by first | (simp; done) | (simp; omega) | omega) | refine Blk.below ?_ (by assumption)) | (refine Blk.setAt ?_ (by first | (simp; done) | (simp; omega))) | rfl)))⟩ (fun hS => ?_)
    refine wpAnyH_take (i := 0) rfl (by kernel_rfl) (by kernel_rfl) (by kernel_rfl) (fun _ _ _ h => h) (yields_loadA (by rfl) 52 (.tmp 4) rfl (x) 0 2 rfl 52 #[.func (.func fg) #[] #[cg], .func (.func fp) #[] #[cp]] #[.func (.func fg) #[] #[cg], .func (.func fp) #[] #[cp]] (fun W hSw => hSw.1) _ Try.underlying52 rfl (by kernel_rfl) rfl rfl) hS ?_
    try simp only [List.getElem_toArray, List.getElem_cons_succ, List.getElem_cons_zero, Act.put, List.setIfInBounds_toArray, List.set_cons_zero, List.set_cons_succ]
    refine wpAnyH_take (i := 1) (v := ?v1_1) rfl (by kernel_rfl) (by kernel_rfl) (by kernel_rfl) (fun _ _ _ h => h) (Or.inl ⟨by rfl, ?y1_1⟩) hS ?_
    case y1_1 => (intro w hSw; go_simp; try with_reducible rfl)
    try simp only [List.getElem_toArray, List.getElem_cons_succ, List.getElem_cons_zero, Act.put, List.setIfInBounds_toArray, List.set_cons_zero, List.set_cons_succ]
    refine wpAnyH_take (i := 2) (v := ?v2_1) rfl (by kernel_rfl) (by kernel_rfl) (by kernel_rfl) (fun _ _ _ h => h) (Or.inl ⟨by rfl, ?y2_1⟩) hS ?_
    case y2_1 => (intro w hSw; go_simp; try with_reducible rfl)
    try simp only [List.getElem_toArray, List.getElem_cons_succ, List.getElem_cons_zero, Act.put, List.setIfInBounds_toArray, List.set_cons_zero, List.set_cons_succ]
    refine wpAnyH_take (i := 4) (v := ?v4_1) rfl (by kernel_rfl) (by kernel_rfl) (by kernel_rfl) (fun _ _ _ h => h) (Or.inl ⟨by rfl, ?y4_1⟩) hS ?_
    case y4_1 => (intro w hSw; go_simp; try with_reducible rfl)
    try simp only [List.getElem_toArray, List.getElem_cons_succ, List.getElem_cons_zero, Act.put, List.setIfInBounds_toArray, List.set_cons_zero, List.set_cons_succ]
    refine wpAnyH_take (i := 5) (v := ?v5_1) rfl (by kernel_rfl) (by kernel_rfl) (by kernel_rfl) (fun _ _ _ h => h) (Or.inl ⟨by rfl, ?y5_1⟩) hS ?_
    case y5_1 => (intro w hSw; have c0 := (hSw.1).cell; have c1 := (hSw.2).cell; go_simp; try with_reducible rfl)
    try simp only [List.getElem_toArray, List.getElem_cons_succ, List.getElem_cons_zero, Act.put, List.setIfInBounds_toArray, List.set_cons_zero, List.set_cons_succ]
    refine wpAnyH_take (i := 6) (v := ?v6_1) rfl (by kernel_rfl) (by kernel_rfl) (by kernel_rfl) (fun _ _ _ h => h) (Or.inl ⟨by rfl, ?y6_1⟩) hS ?_
    case y6_1 => (intro w hSw; go_simp; try with_reducible rfl)
    try simp only [List.getElem_toArray, List.getElem_cons_succ, List.getElem_cons_zero, Act.put, List.setIfInBounds_toArray, List.set_cons_zero, List.set_cons_succ]
    try simp only [hw0]
    refine wpAnyH_take (i := 8) (v := ?v8_1) rfl (by kernel_rfl) (by kernel_rfl) (by kernel_rfl) (fun _ _ _ h => h) (Or.inl ⟨by rfl, ?y8_1⟩) hS ?_
    case y8_1 => (intro w hSw; go_simp; try with_reducible rfl)
    try simp only [List.getElem_toArray, List.getElem_cons_succ, List.getElem_cons_zero, Act.put, List.setIfInBounds_toArray, List.set_cons_zero, List.set_cons_succ]
    refine wpAnyH_ready (rs := [3]) (by kernel_rfl) (by simp) (AllReadyH.cons rfl (fun K hK => ?_) AllReadyH.nil)
    go_simp
    refine hK.out _ _ ⟨hS.1, hS.2⟩ (fun hS => ?_)
    clear hK K
    try simp only [List.getElem_toArray, List.getElem_cons_succ, List.getElem_cons_zero, Act.put, List.setIfInBounds_toArray, List.set_cons_zero, List.set_cons_succ]
    refine wpAnyH_take (i := 7) (v := ?v7_1) rfl (by kernel_rfl) (by kernel_rfl) (by kernel_rfl) (fun _ _ _ h => h) (Or.inl ⟨by rfl, ?y7_1⟩) hS ?_
    case y7_1 => (intro w hSw; go_simp; try with_reducible rfl)
    try simp only [List.getElem_toArray, List.getElem_cons_succ, List.getElem_cons_zero, Act.put, List.setIfInBounds_toArray, List.set_cons_zero, List.set_cons_succ]
    try simp only [hw2]
    refine wpAnyH_ready (rs := [9]) (by kernel_rfl) (by simp) (AllReadyH.cons rfl (fun K hK => ?_) AllReadyH.nil)
    go_simp
    refine (WD.out _ (hb.stable _ _ _ hr2 (by repeat' (first | (with_reducible first | exact Below.refl _ _ | assumption | refine Below.alloc ?_ ?_ _ | refine Below.drew ?_ | refine below_drewN ?_ _ | refine Below.setCell ?_ ?_ _) | (simp; done) | omega | (simp; omega)))) (by first | omega | (simp; omega))).mono ?_
    rintro e w3 ⟨rfl, hr3, k3⟩
    try go_wp2_with fail
    refine hK.out _ _ ⟨hS.1.kp k3 (by first | omega | (simp; omega)) id, hS.2.kp k3 (by first | omega | (simp; omega)) id⟩ (fun hS => ?_)
    clear hK K
    try simp only [List.getElem_toArray, List.getElem_cons_succ, List.getElem_cons_zero, Act.put, List.setIfInBounds_toArray, List.set_cons_zero, List.set_cons_succ]
    refine wpAnyH_done (by kernel_rfl) ?_ _
    have Kc3 := Lib.hid (Kc2.out.drew.kp k3 hBc id)
    have k4 := k2.drew.then k3 (fun _ _ h => h.elim)
    clear cD cS fc lc c8 c9 c10 c11 c12 c13 c14 lx cx fx ly cy' fy
    go_wp2
    go_ret
    exact ⟨rfl, Kc3.out, hr3, k4⟩
  by_cases h5 : op = 5
  · subst h5
    have WD := Lib.hid (fun w' => hb.get w' m (adr (c.r S) n) (adr_u _ _))
    have y1 := hb.byte m (adr (c.r S) n)
    unfold U8 at y1
    go_wp2_with fail
    refine (WD.out _ (hb.stable _ _ _ hr2 (by repeat' (first | (with_reducible first | exact Below.refl _ _ | assumption | refine Below.alloc ?_ ?_ _ | refine Below.drew ?_ | refine below_drewN ?_ _ | refine Below.setCell ?_ ?_ _) | (simp; done) | omega | (simp; omega)))) (by first | omega | (simp; omega))).mono ?_
    rintro e w3 ⟨rfl, hr3, k3⟩
    have Kc3 := Lib.hid (Kc2.out.kp k3 hBc id)
    have k4 := k2.then k3 (fun _ _ h => h.elim)
    have hs3 := k3.size
    clear cD cS fc lc c8 c9 c10 c11 c12 c13 c14 lx cx fx ly cy' fy
    obtain ⟨cD, cS, fc, lc, c8, c9, c10, c11, c12, c13, c14⟩ := Kc3.out.cp hD hS8
    go_wp2
    go_ret
    exact ⟨rfl, Blk.set Kc3.out (cpuC_set _ D hD _), hb.stable _ _ _ hr3 (by repeat' (first | (with_reducible first | exact Below.refl _ _ | assumption | refine Below.alloc ?_ ?_ _ | refine Below.drew ?_ | refine below_drewN ?_ _ | refine Below.setCell ?_ ?_ _) | (simp; done) | omega | (simp; omega))), k4.setCell (Or.inr rfl)⟩
  by_cases h6 : op = 6
  · subst h6
    have WD := Lib.hid (fun w' => hb.put w' m (adr (c.r D) n) (c.r S % 256) (adr_u _ _) (by unfold U8; omega))
    go_wp2_with fail
    refine wp_region_held_drew (S := fun W => Blk W (x) (#[.func (.func fg) #[] #[cg], .func (.func fp) #[] #[cp]]) 52 ∧ Blk W (y) (#[.int .i64 6, .int .i64 D, .int .i64 S, .int .i64 n, .int .i64 v]) 43) (by kernel_rfl) ⟨Blk.drew (show Blk _ (x) (#[.func (.func fg) #[] #[cg], .func (.func fp) #[] #[cp]]) 52 from (by repeat' (first | (with_reducible first | exact Hid.out (by assumption) | exact Blk.new _ _ _ | (refine Blk.new_at _ _ _ _ ?_; simp; done) | refine Blk.alloc ?_ _ | refine Blk.drewN ?_ _ | refine Blk.drew ?_ | apply Blk.set | refine Blk.put ?_ (by assumption) (by first | (simp; done) | (simp; omega) | omega) | refine Blk.below ?_ (by assumption)) | (refine Blk.setAt ?_ (by first | (simp; done) | (simp; omega))) | rfl))), Blk.drew (show Blk _ (y) (#[.int .i64 6, .int .i64 D, .int .i64 S, .int .i64 n, .int .i64 v]) 43 from (by repeat' (first | (with_reducible first | exact Hid.out (by assumption) | exact Blk.new _ _ _ | (refine Blk.new_at _ _ _ _ ?_; simp; done) | refine Blk.alloc ?_ _ | refine Blk.drewN ?_ _ | refine Blk.drew ?_ | apply Blk.set | refine Blk.put ?_ (by assumption) (by first | (simp; done) | (simp; omega) | omega) | refine Blk.below ?_ (by assumption)) | (refine Blk.setAt ?_ (by first | (simp; done) | (simp; omega))) | rfl)))⟩ (fun hS => ?_)
    refine wpAnyH_take (i := 0) (v := ?v0_2) rfl (by kernel_rfl) (by kernel_rfl) (by kernel_rfl) (fun _ _ _ h => h) (Or.inl ⟨by rfl, ?y0_2⟩) hS ?_
    case y0_2 => (intro w hSw; go_simp; try with_reducible rfl)
    try simp only [List.getElem_toArray, List.getElem_cons_succ, List.getElem_cons_zero, Act.put, List.setIfInBounds_toArray, List.set_cons_zero, List.set_cons_succ]
    refine wpAnyH_take (i := 1) (v := ?v1_2) rfl (by kernel_rfl) (by kernel_rfl) (by kernel_rfl) (fun _ _ _ h => h) (Or.inl ⟨by rfl, ?y1_2⟩) hS ?_
    case y1_2 => (intro w hSw; have c0 := (hSw.1).cell; have c1 := (hSw.2).cell; go_simp; try with_reducible rfl)
    try simp only [List.getElem_toArray, List.getElem_cons_succ, List.getElem_cons_zero, Act.put, List.setIfInBounds_toArray, List.set_cons_zero, List.set_cons_succ]
    refine wpAnyH_take (i := 2) (v := ?v2_2) rfl (by kernel_rfl) (by kernel_rfl) (by kernel_rfl) (fun _ _ _ h => h) (Or.inl ⟨by rfl, ?y2_2⟩) hS ?_
    case y2_2 => (intro w hSw; go_simp; try with_reducible rfl)
    try simp only [List.getElem_toArray, List.getElem_cons_succ, List.getElem_cons_zero, Act.put, List.setIfInBounds_toArray, List.set_cons_zero, List.set_cons_succ]
    refine wpAnyH_take (i := 3) (v := ?v3_2) rfl (by kernel_rfl) (by kernel_rfl) (by kernel_rfl) (fun _ _ _ h => h) (Or.inl ⟨by rfl, ?y3_2⟩) hS ?_
    case y3_2 => (intro w hSw; go_simp; try with_reducible rfl)
    try simp only [List.getElem_toArray, List.getElem_cons_succ, List.getElem_cons_zero, Act.put, List.setIfInBounds_toArray, List.set_cons_zero, List.set_cons_succ]
    refine wpAnyH_take (i := 5) (v := ?v5_2) rfl (by kernel_rfl) (by kernel_rfl) (by kernel_rfl) (fun _ _ _ h => h) (Or.inl ⟨by rfl, ?y5_2⟩) hS ?_
    case y5_2 => (intro w hSw; go_simp; try with_reducible rfl)
    try simp only [List.getElem_toArray, List.getElem_cons_succ, List.getElem_cons_zero, Act.put, List.setIfInBounds_toArray, List.set_cons_zero, List.set_cons_succ]
    refine wpAnyH_take (i := 6) (v := ?v6_2) rfl (by kernel_rfl) (by kernel_rfl) (by kernel_rfl) (fun _ _ _ h => h) (Or.inl ⟨by rfl, ?y6_2⟩) hS ?_
    case y6_2 => (intro w hSw; have c0 := (hSw.1).cell; have c1 := (hSw.2).cell; go_simp; try with_reducible rfl)
    try simp only [List.getElem_toArray, List.getElem_cons_succ, List.getElem_cons_zero, Act.put, List.setIfInBounds_toArray, List.set_cons_zero, List.set_cons_succ]
    refine wpAnyH_take (i := 7) (v := ?v7_2) rfl (by kernel_rfl) (by kernel_rfl) (by kernel_rfl) (fun _ _ _ h => h) (Or.inl ⟨by rfl, ?y7_2⟩) hS ?_
    case y7_2 => (intro w hSw; go_simp; try with_reducible rfl)
    try simp only [List.getElem_toArray, List.getElem_cons_succ, List.getElem_cons_zero, Act.put, List.setIfInBounds_toArray, List.set_cons_zero, List.set_cons_succ]
    try simp only [hw0]
    refine wpAnyH_take (i := 9) (v := ?v9_2) rfl (by kernel_rfl) (by kernel_rfl) (by kernel_rfl) (fun _ _ _ h => h) (Or.inl ⟨by rfl, ?y9_2⟩) hS ?_
    case y9_2 => (intro w hSw; go_simp; try with_reducible rfl)
    try simp only [List.getElem_toArray, List.getElem_cons_succ, List.getElem_cons_zero, Act.put, List.setIfInBounds_toArray, List.set_cons_zero, List.set_cons_succ]
    refine wpAnyH_take (i := 10) (v := ?v10_2) rfl (by kernel_rfl) (by kernel_rfl) (by kernel_rfl) (fun _ _ _ h => h) (Or.inl ⟨by rfl, ?y10_2⟩) hS ?_
    case y10_2 => (intro w hSw; go_simp; try with_reducible rfl)
    try simp only [List.getElem_toArray, List.getElem_cons_succ, List.getElem_cons_zero, Act.put, List.setIfInBounds_toArray, List.set_cons_zero, List.set_cons_succ]
    try simp only [hw4]
    refine wpAnyH_ready (rs := [4]) (by kernel_rfl) (by simp) (AllReadyH.cons rfl (fun K hK => ?_) AllReadyH.nil)
    go_simp
    refine hK.out _ _ ⟨hS.1, hS.2⟩ (fun hS => ?_)
    clear hK K
    try simp only [List.getElem_toArray, List.getElem_cons_succ, List.getElem_cons_zero, Act.put, List.setIfInBounds_toArray, List.set_cons_zero, List.set_cons_succ]
    refine wpAnyH_take (i := 8) (v := ?v8_2) rfl (by kernel_rfl) (by kernel_rfl) (by kernel_rfl) (fun _ _ _ h => h) (Or.inl ⟨by rfl, ?y8_2⟩) hS ?_
    case y8_2 => (intro w hSw; go_simp; try with_reducible rfl)
    try simp only [List.getElem_toArray, List.getElem_cons_succ, List.getElem_cons_zero, Act.put, List.setIfInBounds_toArray, List.set_cons_zero, List.set_cons_succ]
    try simp only [hw2]
    refine wpAnyH_ready (rs := [11]) (by kernel_rfl) (by simp) (AllReadyH.cons rfl (fun K hK => ?_) AllReadyH.nil)
    go_simp
    refine (WD.out _ (hb.stable _ _ _ hr2 (by repeat' (first | (with_reducible first | exact Below.refl _ _ | assumption | refine Below.alloc ?_ ?_ _ | refine Below.drew ?_ | refine below_drewN ?_ _ | refine Below.setCell ?_ ?_ _) | (simp; done) | omega | (simp; omega)))) (by first | omega | (simp; omega))).mono ?_
    rintro e w3 ⟨rfl, hr3, k3⟩
    try go_wp2_with fail
    refine hK.out _ _ ⟨hS.1.kp k3 (by first | omega | (simp; omega)) id, hS.2.kp k3 (by first | omega | (simp; omega)) id⟩ (fun hS => ?_)
    clear hK K
    try simp only [List.getElem_toArray, List.getElem_cons_succ, List.getElem_cons_zero, Act.put, List.setIfInBounds_toArray, List.set_cons_zero, List.set_cons_succ]
    refine wpAnyH_done (by kernel_rfl) ?_ _
    have Kc3 := Lib.hid (Kc2.out.drew.kp k3 hBc id)
    have k4 := k2.drew.then k3 (fun _ _ h => h.elim)
    clear cD cS fc lc c8 c9 c10 c11 c12 c13 c14 lx cx fx ly cy' fy
    go_wp2
    go_ret
    exact ⟨rfl, Kc3.out, hr3, k4⟩
  by_cases h22 : op = 22
  · subst h22
    have PU := Lib.hid (fun w' => push_any hb m c hi (c.r S) (hi.1 S) cb hBc w')
    go_wp2_with (first | ((with_reducible show wpList _ _ _ _ _ _); refine wpList_loadW rfl 52 (.tmp 4) rfl (x) rfl 52 #[.func (.func fg) #[] #[cg], .func (.func fp) #[] #[cp]] (show Blk _ (x) #[.func (.func fg) #[] #[cg], .func (.func fp) #[] #[cp]] 52 from (by repeat' (first | (with_reducible first | exact Hid.out (by assumption) | exact Blk.new _ _ _ | (refine Blk.new_at _ _ _ _ ?_; simp; done) | refine Blk.alloc ?_ _ | refine Blk.drewN ?_ _ | refine Blk.drew ?_ | apply Blk.set | refine Blk.put ?_ (by assumption) (by first | (simp; done) | (simp; omega) | omega) | refine Blk.below ?_ (by assumption)) | (refine Blk.setAt ?_ (by first | (simp; done) | (simp; omega))) | rfl))) _ Try.underlying52 rfl (by kernel_rfl) ?_))
    refine (PU.out _ (hb.stable _ _ _ hr2 (by repeat' (first | (with_reducible first | exact Below.refl _ _ | assumption | refine Below.alloc ?_ ?_ _ | refine Below.drew ?_ | refine below_drewN ?_ _ | refine Below.setCell ?_ ?_ _) | (simp; done) | omega | (simp; omega)))) (by repeat' (first | (with_reducible first | exact Hid.out (by assumption) | exact Blk.new _ _ _ | (refine Blk.new_at _ _ _ _ ?_; simp; done) | refine Blk.alloc ?_ _ | refine Blk.drewN ?_ _ | refine Blk.drew ?_ | apply Blk.set | refine Blk.put ?_ (by assumption) (by first | (simp; done) | (simp; omega) | omega) | refine Blk.below ?_ (by assumption)) | (refine Blk.setAt ?_ (by first | (simp; done) | (simp; omega))) | rfl))).mono ?_
    rintro e w3 ⟨rfl, hc3, hr3, k3⟩
    have k4 := k2.then k3 (fun _ _ h => h)
    clear cD cS fc lc c8 c9 c10 c11 c12 c13 c14 lx cx fx ly cy' fy
    go_wp2
    go_ret
    exact ⟨rfl, hc3, hr3, k4⟩
  by_cases h23 : op = 23
  · subst h23
    have PO := Lib.hid (fun w' => pop_any hb m c hi cb hBc w')
    go_wp2_with (first | ((with_reducible show wpList _ _ _ _ _ _); refine wpList_loadW rfl 52 (.tmp 4) rfl (x) rfl 52 #[.func (.func fg) #[] #[cg], .func (.func fp) #[] #[cp]] (show Blk _ (x) #[.func (.func fg) #[] #[cg], .func (.func fp) #[] #[cp]] 52 from (by repeat' (first | (with_reducible first | exact Hid.out (by assumption) | exact Blk.new _ _ _ | (refine Blk.new_at _ _ _ _ ?_; simp; done) | refine Blk.alloc ?_ _ | refine Blk.drewN ?_ _ | refine Blk.drew ?_ | apply Blk.set | refine Blk.put ?_ (by assumption) (by first | (simp; done) | (simp; omega) | omega) | refine Blk.below ?_ (by assumption)) | (refine Blk.setAt ?_ (by first | (simp; done) | (simp; omega))) | rfl))) _ Try.underlying52 rfl (by kernel_rfl) ?_))
    refine (PO.out _ (hb.stable _ _ _ hr2 (by repeat' (first | (with_reducible first | exact Below.refl _ _ | assumption | refine Below.alloc ?_ ?_ _ | refine Below.drew ?_ | refine below_drewN ?_ _ | refine Below.setCell ?_ ?_ _) | (simp; done) | omega | (simp; omega)))) (by repeat' (first | (with_reducible first | exact Hid.out (by assumption) | exact Blk.new _ _ _ | (refine Blk.new_at _ _ _ _ ?_; simp; done) | refine Blk.alloc ?_ _ | refine Blk.drewN ?_ _ | refine Blk.drew ?_ | apply Blk.set | refine Blk.put ?_ (by assumption) (by first | (simp; done) | (simp; omega) | omega) | refine Blk.below ?_ (by assumption)) | (refine Blk.setAt ?_ (by first | (simp; done) | (simp; omega))) | rfl))).mono ?_
    rintro e w3 ⟨rfl, hc3, hr3, k3⟩
    have k4 := k2.then k3 (fun _ _ h => h)
    have hs3 := k3.size
    clear cD cS fc lc c8 c9 c10 c11 c12 c13 c14 lx cx fx ly cy' fy
    obtain ⟨cD, cS, fc, lc, c8, c9, c10, c11, c12, c13, c14⟩ := hc3.cp hD hS8
    have Kc3 := Lib.hid hc3
    go_wp2
    go_ret
    exact ⟨rfl, Blk.set Kc3.out (cpuC_set _ D hD _), hb.stable _ _ _ hr3 (by repeat' (first | (with_reducible first | exact Below.refl _ _ | assumption | refine Below.alloc ?_ ?_ _ | refine Below.drew ?_ | refine below_drewN ?_ _ | refine Below.setCell ?_ ?_ _) | (simp; done) | omega | (simp; omega))), k4.setCell (Or.inr rfl)⟩
  · have HN := Lib.hid (show isMov op = false by unfold isMov; simp [h1, h2, h3, h4, h5, h6, h22, h23])
    have e1 : movC b m c op D S n v = c := by unfold movC; rw [if_neg h1, if_neg h2, if_neg h3, if_neg h5, if_neg h22, if_neg h23]
    have e2 : movS b m c op D S n = m := by unfold movS; rw [if_neg h3, if_neg h4, if_neg h5, if_neg h6, if_neg h22, if_neg h23]
    have t1 : (op == 1) = false := beq_eq_false_iff_ne.2 h1
    have t2 : (op == 2) = false := beq_eq_false_iff_ne.2 h2
    have t3 : (op == 3) = false := beq_eq_false_iff_ne.2 h3
    have t4 : (op == 4) = false := beq_eq_false_iff_ne.2 h4
    have t5 : (op == 5) = false := beq_eq_false_iff_ne.2 h5
    have t6 : (op == 6) = false := beq_eq_false_iff_ne.2 h6
    have t22 : (op == 22) = false := beq_eq_false_iff_ne.2 h22
    have t23 : (op == 23) = false := beq_eq_false_iff_ne.2 h23
    replace e1 := Lib.hid e1
    replace e2 := Lib.hid e2
    go_wp2
    go_ret
    refine ⟨by rw [HN.out]; rfl, ?_, ?_, (by repeat' (first | (with_reducible first | exact Kp.refl _ _ _ | assumption | refine Kp.alloc ?_ _ | refine Kp.drew ?_ | refine Kp.drewN ?_ _ | refine Kp.setCell ?_ ?_) | (right; rfl) | (left; simp; done) | (left; omega) | (left; simp; omega)))⟩
    · rw [e1.out]; exact (by repeat' (first | (with_reducible first | exact Hid.out (by assumption) | exact Blk.new _ _ _ | (refine Blk.new_at _ _ _ _ ?_; simp; done) | refine Blk.alloc ?_ _ | refine Blk.drewN ?_ _ | refine Blk.drew ?_ | apply Blk.set | refine Blk.put ?_ (by assumption) (by first | (simp; done) | (simp; omega) | omega) | refine Blk.below ?_ (by assumption)) | (refine Blk.setAt ?_ (by first | (simp; done) | (simp; omega))) | rfl))
    · rw [e2.out]; exact hb.stable _ _ _ hr2 (by repeat' (first | (with_reducible first | exact Below.refl _ _ | assumption | refine Below.alloc ?_ ?_ _ | refine Below.drew ?_ | refine below_drewN ?_ _ | refine Below.setCell ?_ ?_ _) | (simp; done) | omega | (simp; omega)))
end Go.Proofs.Yteihggfcafoogaa
