/- The document's processor's first words: a word at a place, Begin. Conditions: the memory is one, the fields are words. -/
import Derived.Test.YtimccpmdgfneoaaCpuCp
import Derived.Test.YtimccpmdgfneoaaBase2
namespace Go.Proofs.Ytimccpmdgfneoaa
open Go.RowKit Go.Mq
set_option linter.unusedVariables false
set_option linter.unusedSimpArgs false
set_option maxHeartbeats 400000
set_option maxRecDepth 100000
theorem refword_any {fg fp : FuncId} {ag cg ap cp : Array Value} {σ : Type} {b : Bus σ} {Rel : World → σ → Prop} {B : Nat} (hb : BusOk Try.prog fg fp ag cg ap cp b Rel B) (m : σ) (a : Int) (ha : U16 a) (w : World) (hr : Rel w m) (hB : B ≤ w.heap.size) :
    Calls Try.prog 47 #[.agg #[.func (.func fg) ag cg, .func (.func fp) ap cp], .int .u16 a] w fun e w' => e = .returned (.int .u16 (wV b m a)) ∧ Rel w' (wS b m a) ∧ Kp B NoX w w' := by
  have G1 := Lib.hid (fun w' => hb.get w' m a ha)
  have G2 := Lib.hid (fun w' => hb.get w' (b.gS m a) (nx a) (nx_u a))
  have y1 := hb.byte m a
  have y2 := hb.byte (b.gS m a) (nx a)
  have hw : IntKind.u16.wrap (a + 1) = nx a := wrap16 _
  have HR := Lib.hid (fun w' (h : Below w.heap.size w w') => hb.below hr h hB)
  have eg := hb.eg
  clear hr
  unfold wV wS
  obtain ⟨v1, e1⟩ : ∃ v, v = b.gV m a := ⟨_, rfl⟩
  obtain ⟨v2, e2⟩ : ∃ v, v = b.gV (b.gS m a) (nx a) := ⟨_, rfl⟩
  rw [← e1] at G1 y1 ⊢
  rw [← e2] at G2 y2 ⊢
  obtain ⟨n, hn⟩ : ∃ n, n = nx a := ⟨_, rfl⟩
  rw [← hn] at hw
  rw [← hn] at G2 ⊢
  clear e1 e2 hn
  unfold U8 at y1 y2
  unfold U16 at ha
  obtain ⟨y10, y11⟩ := y1
  obtain ⟨y20, y21⟩ := y2
  go_enter Try.func47, Try.ntmps47
  go_wp2_with fail
  refine (G1.out _ (HR.out _ (by repeat' (first | (with_reducible first | exact Below.refl _ _ | assumption | refine below_alloc ?_ _ | refine Below.drew ?_ | refine below_drewN ?_ _ | refine below_then ?_ (by assumption) | refine below_put ?_ (by assumption) (by first | (simp; done) | (simp; omega) | omega) | refine Below.setCell ?_ ?_ _) | (simp; done) | (simp; omega) | omega))) (by first | omega | (simp; omega))).mono ?_
  rintro e w1 ⟨rfl, hr1, hk1⟩
  have KB := Lib.hid (show Blk w1 w.heap.size #[.func (.func fg) ag cg, .func (.func fp) ap cp] 63 from Blk.kp (show Blk _ w.heap.size #[.func (.func fg) ag cg, .func (.func fp) ap cp] 63 from (by repeat' (first | (with_reducible first | exact Hid.out (by assumption) | exact Blk.new _ _ _ | (refine Blk.new_at _ _ _ _ ?_; simp; done) | refine Blk.alloc ?_ _ | refine Blk.drewN ?_ _ | refine Blk.drew ?_ | apply Blk.set | refine Blk.put ?_ (by assumption) (by first | (simp; done) | (simp; omega) | omega) | refine Blk.below ?_ (by assumption)) | (refine Blk.setAt ?_ (by first | (simp; done) | (simp; omega))) | rfl))) hk1 (by omega) id)
  obtain ⟨lB, cB, fB⟩ := KB.out.use
  have hs1 := hk1.size
  go_wp2_with fail
  refine (G2.out _ hr1 (by first | omega | (simp at hs1; omega))).mono ?_
  rintro e w2 ⟨rfl, hr2, hk2⟩
  go_wp2
  go_ret
  refine ⟨ret1 (vi ?_), hr2, (((Kp.refl _ _ _).alloc _).trans hk1).trans hk2⟩
  first | rfl | omega | (simp only [wrap16]; omega)
theorem begin_any {fg fp : FuncId} {ag cg ap cp : Array Value} {σ : Type} {b : Bus σ} {Rel : World → σ → Prop} {B : Nat} (hb : BusOk Try.prog fg fp ag cg ap cp b Rel B) (m : σ) (w : World) (hr : Rel w m) (hB : B ≤ w.heap.size) :
    Calls Try.prog 27 #[.agg #[.func (.func fg) ag cg, .func (.func fp) ap cp]] w fun e w' => e = .returned (.agg (cpuC (start0 (wV b m 0)))) ∧ Rel w' (wS b m 0) ∧ Kp B NoX w w' := by
  have W := Lib.hid (fun w' => refword_any hb m 0 (by unfold U16; omega) w')
  have HR := Lib.hid (fun w' (h : St B w w') => hb.stable w w' m hr h)
  generalize wV b m 0 = v at *
  clear hr
  go_enter Try.func27, Try.ntmps27
  go_wp2_with (first | ((with_reducible show wpList _ _ _ _ _ _); refine wpList_loadW rfl 63 (.tmp 1) rfl (w.heap.size) rfl 63 #[.func (.func fg) ag cg, .func (.func fp) ap cp] (show Blk _ (w.heap.size) #[.func (.func fg) ag cg, .func (.func fp) ap cp] 63 from (by repeat' (first | (with_reducible first | exact Hid.out (by assumption) | exact Blk.new _ _ _ | (refine Blk.new_at _ _ _ _ ?_; simp; done) | refine Blk.alloc ?_ _ | refine Blk.drewN ?_ _ | refine Blk.drew ?_ | apply Blk.set | refine Blk.put ?_ (by assumption) (by first | (simp; done) | (simp; omega) | omega) | refine Blk.below ?_ (by assumption)) | (refine Blk.setAt ?_ (by first | (simp; done) | (simp; omega))) | rfl))) _ Try.underlying63 rfl (by kernel_rfl) ?_))
  refine (W.out _ (HR.out _ (St.of (n := w.heap.size) (by repeat' (first | (with_reducible first | exact Below.refl _ _ | assumption | refine below_alloc ?_ _ | refine Below.drew ?_ | refine below_drewN ?_ _ | refine below_then ?_ (by assumption) | refine below_put ?_ (by assumption) (by first | (simp; done) | (simp; omega) | omega) | refine Below.setCell ?_ ?_ _) | (simp; done) | (simp; omega) | omega)) hB (Nat.le_refl _))) (by first | omega | (simp; omega))).mono ?_
  rintro e w1 ⟨rfl, hr1, hk1⟩
  have hs1 := hk1.size
  have hk1' : Kp B NoX w w1 := (((Kp.refl B NoX w).alloc _).alloc _).trans hk1
  have KS := Lib.hid (show Blk w1 (w.heap.size + 1) #[.int .u16 0, .int .u16 0, .int .u16 0, .int .u16 0, .int .u16 0, .int .u16 0, .int .u16 0, .int .u16 0, .int .u16 0, .bool false, .bool false, .bool false, .bool false, .bool false, .bool false] 26 from Blk.kp (show Blk _ (w.heap.size + 1) #[.int .u16 0, .int .u16 0, .int .u16 0, .int .u16 0, .int .u16 0, .int .u16 0, .int .u16 0, .int .u16 0, .int .u16 0, .bool false, .bool false, .bool false, .bool false, .bool false, .bool false] 26 from (by repeat' (first | (with_reducible first | exact Hid.out (by assumption) | exact Blk.new _ _ _ | (refine Blk.new_at _ _ _ _ ?_; simp; done) | refine Blk.alloc ?_ _ | refine Blk.drewN ?_ _ | refine Blk.drew ?_ | apply Blk.set | refine Blk.put ?_ (by assumption) (by first | (simp; done) | (simp; omega) | omega) | refine Blk.below ?_ (by assumption)) | (refine Blk.setAt ?_ (by first | (simp; done) | (simp; omega))) | rfl))) hk1 (by omega) id)
  have s1 : w.heap.size + 2 ≤ w1.heap.size := by simpa using hs1
  clear hk1
  go_wp2_with (first | ((with_reducible show wpList _ _ _ _ _ _); refine wpList_storeW rfl 26 (.tmp 2) (.tmp 5) rfl (w.heap.size + 1) (cpuC (start0 v)) rfl rfl 26 _ KS.out (by kernel_rfl) rfl (cpuC_one _) ?_; intro w2 hp_w2 K_w2))
  exact bodyPost_ret (results_cell_row Try.results27 _ _ (w.heap.size + 1) 26 _ (0, 0) _ rfl K_w2.out Try.underlying26 rfl (by kernel_rfl)) rfl ⟨rfl, hb.stable _ _ _ hr1 (St.put (St.refl _ _) hp_w2 (by omega) (Or.inr (KS.out.nw (by decide)))), hk1'.put hp_w2 (Or.inl (by omega))⟩
end Go.Proofs.Ytimccpmdgfneoaa
