/- BusNew: of any programs a machine is made, and any machine checked, as the document says: the law answers true. Conditions: none. -/
import Derived.Test.YtimccpmdgfneoaaRefNw
import Derived.Test.YtimccpmdgfneoaaRefChk
namespace Go.Proofs.Ytimccpmdgfneoaa.busNew
open Go.RowKit Go.Mq
set_option linter.unusedVariables false
set_option linter.unusedSimpArgs false
set_option maxHeartbeats 2000000
set_option maxRecDepth 100000
theorem long (v0 : Value) (xs0 : List Int) (v1 : Value) (xs1 : List Int) (V : Nat → Value) (m : Mach) (w : World) (h0 : SliceAt w .u8 v0 xs0) (h1 : SliceAt w .u8 v1 xs1) (hm : MV w V m) (hi : m.In) (h : 1024 < xs0.length ∨ 1024 < xs1.length) : Calls Try.prog 3 #[v0, v1, .agg (machC V m)] w fun e w' => e = .returned (.bool true) ∧ Below w.heap.size w w' := by
  have NB := Lib.hid (fun (W : World) (k : Below w.heap.size w W) => new_bad v0 v1 xs0 xs1 W (h0.below k) (h1.below k) h)
  have CK := Lib.hid (fun (W : World) (k : Below w.heap.size w W) => check_any V m W (hm.below k))
  have RC := Lib.hid (fun (W : World) (k : Below w.heap.size w W) => refcheck_any V m W (hm.below k))
  obtain ⟨c, ec⟩ : ∃ c, c = chk m := ⟨_, rfl⟩
  rw [← ec] at CK RC
  have ON := Lib.hid (machC_one m (fun i hi => hm.one i hi))
  have ONZ := zeroM_one
  obtain ⟨a0, q0, rfl, -⟩ := h0
  obtain ⟨a1, q1, rfl, -⟩ := h1
  obtain ⟨n0, e0⟩ : ∃ n, n = xs0.length := ⟨_, rfl⟩
  obtain ⟨n1, e1⟩ : ∃ n, n = xs1.length := ⟨_, rfl⟩
  rw [← e0] at h NB ⊢
  rw [← e1] at h NB ⊢
  clear e0 e1 ec hm hi
  have hc : (1024 : Int) < n0 ∨ (¬ (1024 : Int) < n0 ∧ (1024 : Int) < n1) := by omega
  clear h
  rcases hc with c0 | ⟨c0, c1⟩
  all_goals
    go_enter Try.func3, Try.ntmps3
    go_wp2_with fail
    refine (NB.out _ (by repeat' (first | (with_reducible first | exact Below.refl _ _ | assumption | refine below_alloc ?_ _ | refine Below.drew ?_ | refine below_drewN ?_ _ | refine below_then ?_ (by assumption) | refine below_put ?_ (by assumption) (by first | (simp; done) | (simp; omega) | omega) | refine Below.setCell ?_ ?_ _) | (simp; done) | (simp; omega) | omega))).mono ?_
    rintro e w1 ⟨rfl, hb1⟩
    have s1 : w.heap.size + 1 ≤ w1.heap.size := by have := hb1.size; simpa using this
    have KM1 := Lib.hid ((Blk.new w (machC V m) 41).below hb1)
    have B1 : Below w.heap.size w w1 := by repeat' (first | (with_reducible first | exact Below.refl _ _ | assumption | refine below_alloc ?_ _ | refine Below.drew ?_ | refine below_drewN ?_ _ | refine below_then ?_ (by assumption) | refine below_put ?_ (by assumption) (by first | (simp; done) | (simp; omega) | omega) | refine Below.setCell ?_ ?_ _) | (simp; done) | (simp; omega) | omega)
    clear hb1
    go_wp2_with (first | ((with_reducible show wpList _ _ _ _ _ _); refine wpList_storeW rfl 41 (.tmp 7) (.tmp 13) rfl (w1.heap.size) Try.zeroCells41 rfl rfl 41 _ (show Blk _ (w1.heap.size) Try.zeroCells41 41 from (by repeat' (first | (with_reducible first | exact Hid.out (by assumption) | exact Blk.new _ _ _ | (refine Blk.new_at _ _ _ _ ?_; simp; done) | refine Blk.alloc ?_ _ | refine Blk.drewN ?_ _ | refine Blk.drew ?_ | apply Blk.set | refine Blk.put ?_ (by assumption) (by first | (simp; done) | (simp; omega) | omega) | refine Blk.below ?_ (by assumption)) | (refine Blk.setAt ?_ (by first | (simp; done) | (simp; omega))) | rfl))) (by kernel_rfl) rfl (by first | (with_reducible assumption) | simp [Value.oneCell']) ?_; intro w2 hp_w2 K_w2))
    have sz2 : w1.heap.size + 1 ≤ w2.heap.size := by have := hp_w2.size; simp at this; omega
    have b12 : Below w1.heap.size w1 w2 := by repeat' (first | (with_reducible first | exact Below.refl _ _ | assumption | refine below_alloc ?_ _ | refine Below.drew ?_ | refine below_drewN ?_ _ | refine below_then ?_ (by assumption) | refine below_put ?_ (by assumption) (by first | (simp; done) | (simp; omega) | omega) | refine Below.setCell ?_ ?_ _) | (simp; done) | (simp; omega) | omega)
    have B2 : Below w.heap.size w w2 := B1.trans (b12.mono (by omega))
    have KM2 := Lib.hid (KM1.out.below b12)
    have KX2 := Lib.hid K_w2.out
    clear KM1 K_w2 hp_w2 b12 B1
    refine wp_region_held_drew (S := fun W => Blk W (w.heap.size) ((machC V m)) 41) (by kernel_rfl) (Blk.drew (show Blk _ (w.heap.size) ((machC V m)) 41 from (by repeat' (first | (with_reducible first | exact Hid.out (by assumption) | exact Blk.new _ _ _ | (refine Blk.new_at _ _ _ _ ?_; simp; done) | refine Blk.alloc ?_ _ | refine Blk.drewN ?_ _ | refine Blk.drew ?_ | apply Blk.set | refine Blk.put ?_ (by assumption) (by first | (simp; done) | (simp; omega) | omega) | refine Blk.below ?_ (by assumption)) | (refine Blk.setAt ?_ (by first | (simp; done) | (simp; omega))) | rfl)))) (fun hS => ?_)
    refine wpAnyH_ready (rs := [0]) (by kernel_rfl) (by simp) (AllReadyH.cons rfl (fun K hK => ?_) AllReadyH.nil)
    go_simp
    refine (bussed_any _).mono ?_
    rintro e w3 ⟨rfl, hb3⟩
    try go_wp2_with fail
    refine hK.out _ _ (hS.below hb3) (fun hS => ?_)
    clear hK K
    try simp only [List.getElem_toArray, List.getElem_cons_succ, List.getElem_cons_zero, Act.put, List.setIfInBounds_toArray, List.set_cons_zero, List.set_cons_succ]
    refine wpAnyH_take (i := 1) (v := ?v1_1) rfl (by kernel_rfl) (by kernel_rfl) (by kernel_rfl) (fun _ _ _ h => h) (Or.inl ⟨by rfl, ?y1_1⟩) hS ?_
    case y1_1 => (intro w hSw; go_simp; try with_reducible rfl)
    try simp only [List.getElem_toArray, List.getElem_cons_succ, List.getElem_cons_zero, Act.put, List.setIfInBounds_toArray, List.set_cons_zero, List.set_cons_succ]
    refine wpAnyH_take (i := 2) (v := ?v2_1) rfl (by kernel_rfl) (by kernel_rfl) (by kernel_rfl) (fun _ _ _ h => h) (Or.inl ⟨by rfl, ?y2_1⟩) hS ?_
    case y2_1 => (intro w hSw; go_simp; try with_reducible rfl)
    try simp only [List.getElem_toArray, List.getElem_cons_succ, List.getElem_cons_zero, Act.put, List.setIfInBounds_toArray, List.set_cons_zero, List.set_cons_succ]
    refine wpAnyH_take (i := 3) rfl (by kernel_rfl) (by kernel_rfl) (by kernel_rfl) (fun _ _ _ h => h) (yields_loadA (by rfl) 41 (.tmp 5) rfl (w.heap.size) 0 75 rfl 41 (machC V m) (machC V m) (fun W hSw => hSw) _ Try.underlying41 rfl (by kernel_rfl) rfl rfl) hS ?_
    try simp only [List.getElem_toArray, List.getElem_cons_succ, List.getElem_cons_zero, Act.put, List.setIfInBounds_toArray, List.set_cons_zero, List.set_cons_succ]
    refine wpAnyH_take (i := 5) rfl (by kernel_rfl) (by kernel_rfl) (by kernel_rfl) (fun _ _ _ h => h) (yields_loadA (by rfl) 41 (.tmp 5) rfl (w.heap.size) 0 75 rfl 41 (machC V m) (machC V m) (fun W hSw => hSw) _ Try.underlying41 rfl (by kernel_rfl) rfl rfl) hS ?_
    try simp only [List.getElem_toArray, List.getElem_cons_succ, List.getElem_cons_zero, Act.put, List.setIfInBounds_toArray, List.set_cons_zero, List.set_cons_succ]
    refine wpAnyH_ready (rs := [4]) (by kernel_rfl) (by simp) (AllReadyH.cons rfl (fun K hK => ?_) AllReadyH.nil)
    go_simp
    refine (CK.out _ (below_then B2.drew hb3)).mono ?_
    rintro e w4 ⟨rfl, hb4⟩
    try go_wp2_with fail
    refine hK.out _ _ (hS.below hb4) (fun hS => ?_)
    clear hK K
    try simp only [List.getElem_toArray, List.getElem_cons_succ, List.getElem_cons_zero, Act.put, List.setIfInBounds_toArray, List.set_cons_zero, List.set_cons_succ]
    refine wpAnyH_ready (rs := [6]) (by kernel_rfl) (by simp) (AllReadyH.cons rfl (fun K hK => ?_) AllReadyH.nil)
    go_simp
    refine (RC.out _ (below_then (below_then B2.drew hb3) hb4)).mono ?_
    rintro e w5 ⟨rfl, hb5⟩
    try go_wp2_with fail
    refine hK.out _ _ (hS.below hb5) (fun hS => ?_)
    clear hK K
    try simp only [List.getElem_toArray, List.getElem_cons_succ, List.getElem_cons_zero, Act.put, List.setIfInBounds_toArray, List.set_cons_zero, List.set_cons_succ]
    refine wpAnyH_take (i := 7) (v := ?v7_1) rfl (by kernel_rfl) (by kernel_rfl) (by kernel_rfl) (fun _ _ _ h => h) (Or.inl ⟨by rfl, ?y7_1⟩) hS ?_
    case y7_1 => (intro w hSw; go_simp; try with_reducible rfl)
    try simp only [List.getElem_toArray, List.getElem_cons_succ, List.getElem_cons_zero, Act.put, List.setIfInBounds_toArray, List.set_cons_zero, List.set_cons_succ]
    refine wpAnyH_take (i := 8) (v := ?v8_1) rfl (by kernel_rfl) (by kernel_rfl) (by kernel_rfl) (fun _ _ _ h => h) (Or.inl ⟨by rfl, ?y8_1⟩) hS ?_
    case y8_1 => (intro w hSw; go_simp; try with_reducible rfl)
    try simp only [List.getElem_toArray, List.getElem_cons_succ, List.getElem_cons_zero, Act.put, List.setIfInBounds_toArray, List.set_cons_zero, List.set_cons_succ]
    refine wpAnyH_done (by kernel_rfl) ?_ _
    have KX5 := Lib.hid (((KX2.out.drew.below hb3).below hb4).below hb5)
    have B5 := Lib.hid (below_then (below_then (below_then B2.drew hb3) hb4) hb5)
    clear hb3 hb4 hb5 B2 KX2 hS
    go_wp2_with (first | ((with_reducible show wpList _ _ _ _ _ _); refine wpList_loadGA (by rfl) 41 (.tmp 7) rfl (w1.heap.size) (0) 75 rfl 41 Try.zeroCells41 Try.zeroCells41 (show Blk _ (w1.heap.size) Try.zeroCells41 41 from (by repeat' (first | (with_reducible first | exact Hid.out (by assumption) | exact Blk.new _ _ _ | (refine Blk.new_at _ _ _ _ ?_; simp; done) | refine Blk.alloc ?_ _ | refine Blk.drewN ?_ _ | refine Blk.drew ?_ | apply Blk.set | refine Blk.put ?_ (by assumption) (by first | (simp; done) | (simp; omega) | omega) | refine Blk.below ?_ (by assumption)) | (refine Blk.setAt ?_ (by first | (simp; done) | (simp; omega))) | rfl))) _ Try.underlying41 rfl (by kernel_rfl) rfl rfl ?_))
    refine (nomach_any _).mono ?_
    rintro e w6 ⟨rfl, hb6⟩
    have B6 := below_then B5.out hb6
    go_wp2_with (first | ((with_reducible show wpList _ _ _ _ _ _); refine wpList_loadGA (by rfl) 41 (.tmp 7) rfl (w1.heap.size) (0) 75 rfl 41 Try.zeroCells41 Try.zeroCells41 (show Blk _ (w1.heap.size) Try.zeroCells41 41 from (by repeat' (first | (with_reducible first | exact Hid.out (by assumption) | exact Blk.new _ _ _ | (refine Blk.new_at _ _ _ _ ?_; simp; done) | refine Blk.alloc ?_ _ | refine Blk.drewN ?_ _ | refine Blk.drew ?_ | apply Blk.set | refine Blk.put ?_ (by assumption) (by first | (simp; done) | (simp; omega) | omega) | refine Blk.below ?_ (by assumption)) | (refine Blk.setAt ?_ (by first | (simp; done) | (simp; omega))) | rfl))) _ Try.underlying41 rfl (by kernel_rfl) rfl rfl ?_) | go_in)
    go_ret
    exact ⟨rfl, by repeat' (first | (with_reducible first | exact Below.refl _ _ | assumption | refine below_alloc ?_ _ | refine Below.drew ?_ | refine below_drewN ?_ _ | refine below_then ?_ (by assumption) | refine below_put ?_ (by assumption) (by first | (simp; done) | (simp; omega) | omega) | refine Below.setCell ?_ ?_ _) | (simp; done) | (simp; omega) | omega)⟩
theorem good (v0 : Value) (xs0 : List Int) (v1 : Value) (xs1 : List Int) (V : Nat → Value) (m : Mach) (w : World) (h0 : SliceAt w .u8 v0 xs0) (h1 : SliceAt w .u8 v1 xs1) (hm : MV w V m) (hi : m.In) (l0 : xs0.length ≤ 1024) (l1 : xs1.length ≤ 1024) : Calls Try.prog 3 #[v0, v1, .agg (machC V m)] w fun e w' => e = .returned (.bool true) ∧ Below w.heap.size w w' := by
  have hw : ∀ {v : Value} {xs : List Int}, SliceAt w .u8 v xs → Bytes8 xs := fun h => by obtain ⟨_, _, _, _, _, hwf, _⟩ := h; exact bytes_wf hwf
  have NB := Lib.hid (fun (W : World) (k : Below w.heap.size w W) => new_ok v0 v1 xs0 xs1 W (hw h0) (hw h1) (h0.below k) (h1.below k) l0 l1)
  have RN := Lib.hid (fun (W : World) (k : Below w.heap.size w W) => refnew_any v0 v1 xs0 xs1 W (hw h0) (hw h1) (h0.below k) (h1.below k) l0 l1)
  have CK := Lib.hid (fun (W : World) (k : Below w.heap.size w W) => check_any V m W (hm.below k))
  have RC := Lib.hid (fun (W : World) (k : Below w.heap.size w W) => refcheck_any V m W (hm.below k))
  obtain ⟨c, ec⟩ : ∃ c, c = chk m := ⟨_, rfl⟩
  rw [← ec] at CK RC
  have ON := Lib.hid (machC_one m (fun i hi => hm.one i hi))
  have ONZ := zeroM_one
  obtain ⟨N, hN⟩ : ∃ N, N = newMach xs0 xs1 := ⟨_, rfl⟩
  rw [← hN] at NB RN
  have SA := Lib.hid (fun (W : World) (U1 U2 : Nat → Value) (k1 : MV W U1 N) (k2 : MV W U2 N) => same_any U1 U2 N W k1 k2)
  obtain ⟨a0, q0, rfl, -⟩ := h0
  obtain ⟨a1, q1, rfl, -⟩ := h1
  obtain ⟨n0, e0⟩ : ∃ n, n = xs0.length := ⟨_, rfl⟩
  obtain ⟨n1, e1⟩ : ∃ n, n = xs1.length := ⟨_, rfl⟩
  rw [← e0] at l0 NB RN ⊢
  rw [← e1] at l1 NB RN ⊢
  have c0 : ¬ (1024 : Int) < n0 := by omega
  have c1 : ¬ (1024 : Int) < n1 := by omega
  clear e0 e1 ec hm hi hN l0 l1 hw
  go_enter Try.func3, Try.ntmps3
  go_wp2_with (first | ((with_reducible show wpList _ _ _ _ _ _); refine wpList_loadGA (by rfl) 41 (.tmp 7) rfl (w1.heap.size) (0) 75 rfl 41 Try.zeroCells41 Try.zeroCells41 (show Blk _ (w1.heap.size) Try.zeroCells41 41 from (by repeat' (first | (with_reducible first | exact Hid.out (by assumption) | exact Blk.new _ _ _ | (refine Blk.new_at _ _ _ _ ?_; simp; done) | refine Blk.alloc ?_ _ | refine Blk.drewN ?_ _ | refine Blk.drew ?_ | apply Blk.set | refine Blk.put ?_ (by assumption) (by first | (simp; done) | (simp; omega) | omega) | refine Blk.below ?_ (by assumption)) | (refine Blk.setAt ?_ (by first | (simp; done) | (simp; omega))) | rfl))) _ Try.underlying41 rfl (by kernel_rfl) rfl rfl ?_))
  refine (NB.out _ (by repeat' (first | (with_reducible first | exact Below.refl _ _ | assumption | refine below_alloc ?_ _ | refine Below.drew ?_ | refine below_drewN ?_ _ | refine below_then ?_ (by assumption) | refine below_put ?_ (by assumption) (by first | (simp; done) | (simp; omega) | omega) | refine Below.setCell ?_ ?_ _) | (simp; done) | (simp; omega) | omega))).mono ?_
  rintro e w1 ⟨U, rfl, T1⟩
  have hb1 := T1.below
  have ON1 := told_one T1
  have MV1 := Lib.hid T1.mv
  clear T1
  have s1 : w.heap.size + 1 ≤ w1.heap.size := by have := hb1.size; simpa using this
  have KM1 := Lib.hid ((Blk.new w (machC V m) 41).below hb1)
  have B1 : Below w.heap.size w w1 := by repeat' (first | (with_reducible first | exact Below.refl _ _ | assumption | refine below_alloc ?_ _ | refine Below.drew ?_ | refine below_drewN ?_ _ | refine below_then ?_ (by assumption) | refine below_put ?_ (by assumption) (by first | (simp; done) | (simp; omega) | omega) | refine Below.setCell ?_ ?_ _) | (simp; done) | (simp; omega) | omega)
  clear hb1
  go_wp2_with (first | ((with_reducible show wpList _ _ _ _ _ _); refine wpList_storeW rfl 41 (.tmp 7) (.tmp 13) rfl (w1.heap.size) (machC U N) rfl rfl 41 _ (show Blk _ (w1.heap.size) Try.zeroCells41 41 from (by repeat' (first | (with_reducible first | exact Hid.out (by assumption) | exact Blk.new _ _ _ | (refine Blk.new_at _ _ _ _ ?_; simp; done) | refine Blk.alloc ?_ _ | refine Blk.drewN ?_ _ | refine Blk.drew ?_ | apply Blk.set | refine Blk.put ?_ (by assumption) (by first | (simp; done) | (simp; omega) | omega) | refine Blk.below ?_ (by assumption)) | (refine Blk.setAt ?_ (by first | (simp; done) | (simp; omega))) | rfl))) (by kernel_rfl) rfl (by first | (with_reducible assumption) | simp [Value.oneCell']) ?_; intro w2 hp_w2 K_w2))
  have sz2 : w1.heap.size + 1 ≤ w2.heap.size := by have := hp_w2.size; simp at this; omega
  have b12 : Below w1.heap.size w1 w2 := by repeat' (first | (with_reducible first | exact Below.refl _ _ | assumption | refine below_alloc ?_ _ | refine Below.drew ?_ | refine below_drewN ?_ _ | refine below_then ?_ (by assumption) | refine below_put ?_ (by assumption) (by first | (simp; done) | (simp; omega) | omega) | refine Below.setCell ?_ ?_ _) | (simp; done) | (simp; omega) | omega)
  have B2 : Below w.heap.size w w2 := B1.trans (b12.mono (by omega))
  have KM2 := Lib.hid (KM1.out.below b12)
  have MV2 := Lib.hid (MV1.out.below b12)
  have KX2 := Lib.hid K_w2.out
  clear KM1 K_w2 hp_w2 b12 B1 MV1
  refine wp_region_held_drew (S := fun W => Blk W (w.heap.size) ((machC V m)) 41) (by kernel_rfl) (Blk.drew (show Blk _ (w.heap.size) ((machC V m)) 41 from (by repeat' (first | (with_reducible first | exact Hid.out (by assumption) | exact Blk.new _ _ _ | (refine Blk.new_at _ _ _ _ ?_; simp; done) | refine Blk.alloc ?_ _ | refine Blk.drewN ?_ _ | refine Blk.drew ?_ | apply Blk.set | refine Blk.put ?_ (by assumption) (by first | (simp; done) | (simp; omega) | omega) | refine Blk.below ?_ (by assumption)) | (refine Blk.setAt ?_ (by first | (simp; done) | (simp; omega))) | rfl)))) (fun hS => ?_)
  refine wpAnyH_ready (rs := [0]) (by kernel_rfl) (by simp) (AllReadyH.cons rfl (fun K hK => ?_) AllReadyH.nil)
  go_simp
  refine (bussed_any _).mono ?_
  rintro e w3 ⟨rfl, hb3⟩
  try go_wp2_with fail
  refine hK.out _ _ (hS.below hb3) (fun hS => ?_)
  clear hK K
  try simp only [List.getElem_toArray, List.getElem_cons_succ, List.getElem_cons_zero, Act.put, List.setIfInBounds_toArray, List.set_cons_zero, List.set_cons_succ]
  refine wpAnyH_take (i := 1) (v := ?v1_2) rfl (by kernel_rfl) (by kernel_rfl) (by kernel_rfl) (fun _ _ _ h => h) (Or.inl ⟨by rfl, ?y1_2⟩) hS ?_
  case y1_2 => (intro w hSw; go_simp; try with_reducible rfl)
  try simp only [List.getElem_toArray, List.getElem_cons_succ, List.getElem_cons_zero, Act.put, List.setIfInBounds_toArray, List.set_cons_zero, List.set_cons_succ]
  refine wpAnyH_take (i := 2) (v := ?v2_2) rfl (by kernel_rfl) (by kernel_rfl) (by kernel_rfl) (fun _ _ _ h => h) (Or.inl ⟨by rfl, ?y2_2⟩) hS ?_
  case y2_2 => (intro w hSw; go_simp; try with_reducible rfl)
  try simp only [List.getElem_toArray, List.getElem_cons_succ, List.getElem_cons_zero, Act.put, List.setIfInBounds_toArray, List.set_cons_zero, List.set_cons_succ]
  refine wpAnyH_take (i := 3) rfl (by kernel_rfl) (by kernel_rfl) (by kernel_rfl) (fun _ _ _ h => h) (yields_loadA (by rfl) 41 (.tmp 5) rfl (w.heap.size) 0 75 rfl 41 (machC V m) (machC V m) (fun W hSw => hSw) _ Try.underlying41 rfl (by kernel_rfl) rfl rfl) hS ?_
  try simp only [List.getElem_toArray, List.getElem_cons_succ, List.getElem_cons_zero, Act.put, List.setIfInBounds_toArray, List.set_cons_zero, List.set_cons_succ]
  refine wpAnyH_take (i := 5) rfl (by kernel_rfl) (by kernel_rfl) (by kernel_rfl) (fun _ _ _ h => h) (yields_loadA (by rfl) 41 (.tmp 5) rfl (w.heap.size) 0 75 rfl 41 (machC V m) (machC V m) (fun W hSw => hSw) _ Try.underlying41 rfl (by kernel_rfl) rfl rfl) hS ?_
  try simp only [List.getElem_toArray, List.getElem_cons_succ, List.getElem_cons_zero, Act.put, List.setIfInBounds_toArray, List.set_cons_zero, List.set_cons_succ]
  refine wpAnyH_ready (rs := [4]) (by kernel_rfl) (by simp) (AllReadyH.cons rfl (fun K hK => ?_) AllReadyH.nil)
  go_simp
  refine (CK.out _ (below_then B2.drew hb3)).mono ?_
  rintro e w4 ⟨rfl, hb4⟩
  try go_wp2_with fail
  refine hK.out _ _ (hS.below hb4) (fun hS => ?_)
  clear hK K
  try simp only [List.getElem_toArray, List.getElem_cons_succ, List.getElem_cons_zero, Act.put, List.setIfInBounds_toArray, List.set_cons_zero, List.set_cons_succ]
  refine wpAnyH_ready (rs := [6]) (by kernel_rfl) (by simp) (AllReadyH.cons rfl (fun K hK => ?_) AllReadyH.nil)
  go_simp
  refine (RC.out _ (below_then (below_then B2.drew hb3) hb4)).mono ?_
  rintro e w5 ⟨rfl, hb5⟩
  try go_wp2_with fail
  refine hK.out _ _ (hS.below hb5) (fun hS => ?_)
  clear hK K
  try simp only [List.getElem_toArray, List.getElem_cons_succ, List.getElem_cons_zero, Act.put, List.setIfInBounds_toArray, List.set_cons_zero, List.set_cons_succ]
  refine wpAnyH_take (i := 7) (v := ?v7_2) rfl (by kernel_rfl) (by kernel_rfl) (by kernel_rfl) (fun _ _ _ h => h) (Or.inl ⟨by rfl, ?y7_2⟩) hS ?_
  case y7_2 => (intro w hSw; go_simp; try with_reducible rfl)
  try simp only [List.getElem_toArray, List.getElem_cons_succ, List.getElem_cons_zero, Act.put, List.setIfInBounds_toArray, List.set_cons_zero, List.set_cons_succ]
  refine wpAnyH_take (i := 8) (v := ?v8_2) rfl (by kernel_rfl) (by kernel_rfl) (by kernel_rfl) (fun _ _ _ h => h) (Or.inl ⟨by rfl, ?y8_2⟩) hS ?_
  case y8_2 => (intro w hSw; go_simp; try with_reducible rfl)
  try simp only [List.getElem_toArray, List.getElem_cons_succ, List.getElem_cons_zero, Act.put, List.setIfInBounds_toArray, List.set_cons_zero, List.set_cons_succ]
  refine wpAnyH_done (by kernel_rfl) ?_ _
  have KX5 := Lib.hid (((KX2.out.drew.below hb3).below hb4).below hb5)
  have MV5 := Lib.hid ((((MV2.out.below (show Below w2.heap.size w2 w2.drew from (Below.refl _ _).drew)).below hb3).below hb4).below hb5)
  have B5 := Lib.hid (below_then (below_then (below_then B2.drew hb3) hb4) hb5)
  clear hb3 hb4 hb5 B2 KX2 hS MV2
  go_wp2_with (first | ((with_reducible show wpList _ _ _ _ _ _); refine wpList_storeW rfl 41 (.tmp 7) (.tmp 13) rfl (w1.heap.size) (machC U N) rfl rfl 41 _ (show Blk _ (w1.heap.size) Try.zeroCells41 41 from (by repeat' (first | (with_reducible first | exact Hid.out (by assumption) | exact Blk.new _ _ _ | (refine Blk.new_at _ _ _ _ ?_; simp; done) | refine Blk.alloc ?_ _ | refine Blk.drewN ?_ _ | refine Blk.drew ?_ | apply Blk.set | refine Blk.put ?_ (by assumption) (by first | (simp; done) | (simp; omega) | omega) | refine Blk.below ?_ (by assumption)) | (refine Blk.setAt ?_ (by first | (simp; done) | (simp; omega))) | rfl))) (by kernel_rfl) rfl (by first | (with_reducible assumption) | simp [Value.oneCell']) ?_; intro w2 hp_w2 K_w2))
  refine wp_region_held_drew (S := fun W => Blk W (w1.heap.size) ((machC U N)) 41) (by kernel_rfl) (Blk.drew (show Blk _ (w1.heap.size) ((machC U N)) 41 from (by repeat' (first | (with_reducible first | exact Hid.out (by assumption) | exact Blk.new _ _ _ | (refine Blk.new_at _ _ _ _ ?_; simp; done) | refine Blk.alloc ?_ _ | refine Blk.drewN ?_ _ | refine Blk.drew ?_ | apply Blk.set | refine Blk.put ?_ (by assumption) (by first | (simp; done) | (simp; omega) | omega) | refine Blk.below ?_ (by assumption)) | (refine Blk.setAt ?_ (by first | (simp; done) | (simp; omega))) | rfl)))) (fun hS => ?_)
  refine wpAnyH_take (i := 0) (v := ?v0_3) rfl (by kernel_rfl) (by kernel_rfl) (by kernel_rfl) (fun _ _ _ h => h) (Or.inl ⟨by rfl, ?y0_3⟩) hS ?_
  case y0_3 => (intro w hSw; go_simp; try with_reducible rfl)
  try simp only [List.getElem_toArray, List.getElem_cons_succ, List.getElem_cons_zero, Act.put, List.setIfInBounds_toArray, List.set_cons_zero, List.set_cons_succ]
  refine wpAnyH_take (i := 1) (v := ?v1_3) rfl (by kernel_rfl) (by kernel_rfl) (by kernel_rfl) (fun _ _ _ h => h) (Or.inl ⟨by rfl, ?y1_3⟩) hS ?_
  case y1_3 => (intro w hSw; go_simp; try with_reducible rfl)
  try simp only [List.getElem_toArray, List.getElem_cons_succ, List.getElem_cons_zero, Act.put, List.setIfInBounds_toArray, List.set_cons_zero, List.set_cons_succ]
  refine wpAnyH_take (i := 2) (v := ?v2_3) rfl (by kernel_rfl) (by kernel_rfl) (by kernel_rfl) (fun _ _ _ h => h) (Or.inl ⟨by rfl, ?y2_3⟩) hS ?_
  case y2_3 => (intro w hSw; go_simp; try with_reducible rfl)
  try simp only [List.getElem_toArray, List.getElem_cons_succ, List.getElem_cons_zero, Act.put, List.setIfInBounds_toArray, List.set_cons_zero, List.set_cons_succ]
  refine wpAnyH_take (i := 3) rfl (by kernel_rfl) (by kernel_rfl) (by kernel_rfl) (fun _ _ _ h => h) (yields_loadA (by rfl) 41 (.tmp 7) rfl (w1.heap.size) 0 75 rfl 41 (machC U N) (machC U N) (fun W hSw => hSw) _ Try.underlying41 rfl (by kernel_rfl) rfl rfl) hS ?_
  try simp only [List.getElem_toArray, List.getElem_cons_succ, List.getElem_cons_zero, Act.put, List.setIfInBounds_toArray, List.set_cons_zero, List.set_cons_succ]
  refine wpAnyH_take (i := 4) (v := ?v4_3) rfl (by kernel_rfl) (by kernel_rfl) (by kernel_rfl) (fun _ _ _ h => h) (Or.inl ⟨by rfl, ?y4_3⟩) hS ?_
  case y4_3 => (intro w hSw; go_simp; try with_reducible rfl)
  try simp only [List.getElem_toArray, List.getElem_cons_succ, List.getElem_cons_zero, Act.put, List.setIfInBounds_toArray, List.set_cons_zero, List.set_cons_succ]
  refine wpAnyH_take (i := 5) (v := ?v5_3) rfl (by kernel_rfl) (by kernel_rfl) (by kernel_rfl) (fun _ _ _ h => h) (Or.inl ⟨by rfl, ?y5_3⟩) hS ?_
  case y5_3 => (intro w hSw; go_simp; try with_reducible rfl)
  try simp only [List.getElem_toArray, List.getElem_cons_succ, List.getElem_cons_zero, Act.put, List.setIfInBounds_toArray, List.set_cons_zero, List.set_cons_succ]
  refine wpAnyH_ready (rs := [6]) (by kernel_rfl) (by simp) (AllReadyH.cons rfl (fun K hK => ?_) AllReadyH.nil)
  go_simp
  refine (RN.out _ B5.out.drew).mono ?_
  rintro e w6 ⟨U2, rfl, hb6, mv6⟩
  try go_wp2_with fail
  refine hK.out _ _ (hS.below hb6) (fun hS => ?_)
  clear hK K
  try simp only [List.getElem_toArray, List.getElem_cons_succ, List.getElem_cons_zero, Act.put, List.setIfInBounds_toArray, List.set_cons_zero, List.set_cons_succ]
  refine wpAnyH_ready (rs := [7]) (by kernel_rfl) (by simp) (AllReadyH.cons rfl (fun K hK => ?_) AllReadyH.nil)
  go_simp
  refine (SA.out _ _ _ ((MV5.out.below (show Below w5.heap.size w5 w5.drew from (Below.refl _ _).drew)).below (hb6.mono (Nat.le_refl _))) mv6).mono ?_
  rintro e w7 ⟨rfl, hb7⟩
  try go_wp2_with fail
  refine hK.out _ _ (hS.below hb7) (fun hS => ?_)
  clear hK K
  try simp only [List.getElem_toArray, List.getElem_cons_succ, List.getElem_cons_zero, Act.put, List.setIfInBounds_toArray, List.set_cons_zero, List.set_cons_succ]
  refine wpAnyH_take (i := 8) (v := ?v8_3) rfl (by kernel_rfl) (by kernel_rfl) (by kernel_rfl) (fun _ _ _ h => h) (Or.inl ⟨by rfl, ?y8_3⟩) hS ?_
  case y8_3 => (intro w hSw; go_simp; try with_reducible rfl)
  try simp only [List.getElem_toArray, List.getElem_cons_succ, List.getElem_cons_zero, Act.put, List.setIfInBounds_toArray, List.set_cons_zero, List.set_cons_succ]
  refine wpAnyH_take (i := 9) (v := ?v9_3) rfl (by kernel_rfl) (by kernel_rfl) (by kernel_rfl) (fun _ _ _ h => h) (Or.inl ⟨by rfl, ?y9_3⟩) hS ?_
  case y9_3 => (intro w hSw; go_simp; try with_reducible rfl)
  try simp only [List.getElem_toArray, List.getElem_cons_succ, List.getElem_cons_zero, Act.put, List.setIfInBounds_toArray, List.set_cons_zero, List.set_cons_succ]
  refine wpAnyH_done (by kernel_rfl) ?_ _
  have B7 := below_then (B5.out.drew.trans (hb6.mono (by have := B5.out.size; show w.heap.size ≤ w5.heap.size; omega))) hb7
  go_wp2_with (first | ((with_reducible show wpList _ _ _ _ _ _); refine wpList_storeW rfl 41 (.tmp 7) (.tmp 13) rfl (w1.heap.size) (machC U N) rfl rfl 41 _ (show Blk _ (w1.heap.size) Try.zeroCells41 41 from (by repeat' (first | (with_reducible first | exact Hid.out (by assumption) | exact Blk.new _ _ _ | (refine Blk.new_at _ _ _ _ ?_; simp; done) | refine Blk.alloc ?_ _ | refine Blk.drewN ?_ _ | refine Blk.drew ?_ | apply Blk.set | refine Blk.put ?_ (by assumption) (by first | (simp; done) | (simp; omega) | omega) | refine Blk.below ?_ (by assumption)) | (refine Blk.setAt ?_ (by first | (simp; done) | (simp; omega))) | rfl))) (by kernel_rfl) rfl (by first | (with_reducible assumption) | simp [Value.oneCell']) ?_; intro w2 hp_w2 K_w2) | go_in)
  go_ret
  exact ⟨rfl, by repeat' (first | (with_reducible first | exact Below.refl _ _ | assumption | refine below_alloc ?_ _ | refine Below.drew ?_ | refine below_drewN ?_ _ | refine below_then ?_ (by assumption) | refine below_put ?_ (by assumption) (by first | (simp; done) | (simp; omega) | omega) | refine Below.setCell ?_ ?_ _) | (simp; done) | (simp; omega) | omega)⟩
theorem walk (v0 : Value) (xs0 : List Int) (v1 : Value) (xs1 : List Int) (V : Nat → Value) (m : Mach) (w : World) (h0 : SliceAt w .u8 v0 xs0) (h1 : SliceAt w .u8 v1 xs1) (hm : MV w V m) (hi : m.In) : Calls Try.prog 3 #[v0, v1, .agg (machC V m)] w fun e w' => e = .returned (.bool true) ∧ Below w.heap.size w w' := by
  by_cases h : 1024 < xs0.length ∨ 1024 < xs1.length
  · exact long v0 xs0 v1 xs1 V m w h0 h1 hm hi h
  · exact good v0 xs0 v1 xs1 V m w h0 h1 hm hi (by omega) (by omega)
end Go.Proofs.Ytimccpmdgfneoaa.busNew
