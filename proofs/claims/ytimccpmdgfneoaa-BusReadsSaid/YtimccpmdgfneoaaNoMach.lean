/- A machine of zeros is none; programs too long make none. Conditions: none. -/
import Derived.Test.YtimccpmdgfneoaaBusM
import Derived.Test.YtimccpmdgfneoaaBusSame
namespace Go.Proofs.Ytimccpmdgfneoaa
open Go.RowKit Go.Mq
set_option linter.unusedVariables false
set_option linter.unusedSimpArgs false
set_option maxHeartbeats 2000000
set_option maxRecDepth 100000
theorem nilV_mv (w : World) : MV w nilV machZ := fun i hi => nil_bytes w
theorem nomach_any (w : World) : Calls Try.prog 12 #[.agg Try.zeroCells41] w fun e w' => e = .returned (.bool true) ∧ Below w.heap.size w w' := by
  have SA := Lib.hid (fun (W : World) => same_any nilV nilV machZ W (nilV_mv W) (nilV_mv W))
  rw [← zeroM] at SA
  have ONZ := zeroM_one
  go_enter Try.func12, Try.ntmps12
  go_wp2_with (first | ((with_reducible show wpList _ _ _ _ _ _); refine wpList_loadW rfl 41 (.tmp 1) rfl (w.heap.size) rfl 41 Try.zeroCells41 (show Blk _ (w.heap.size) Try.zeroCells41 41 from (by repeat' (first | (with_reducible first | exact Hid.out (by assumption) | exact Blk.new _ _ _ | (refine Blk.new_at _ _ _ _ ?_; simp; done) | refine Blk.alloc ?_ _ | refine Blk.drewN ?_ _ | refine Blk.drew ?_ | apply Blk.set | refine Blk.put ?_ (by assumption) (by first | (simp; done) | (simp; omega) | omega) | refine Blk.below ?_ (by assumption)) | (refine Blk.setAt ?_ (by first | (simp; done) | (simp; omega))) | rfl))) _ Try.underlying41 rfl (by kernel_rfl) ?_))
  refine (SA.out _).mono ?_
  rintro e w1 ⟨rfl, hb1⟩
  go_wp2_with (first | ((with_reducible show wpList _ _ _ _ _ _); refine wpList_loadW rfl 41 (.tmp 1) rfl (w.heap.size) rfl 41 Try.zeroCells41 (show Blk _ (w.heap.size) Try.zeroCells41 41 from (by repeat' (first | (with_reducible first | exact Hid.out (by assumption) | exact Blk.new _ _ _ | (refine Blk.new_at _ _ _ _ ?_; simp; done) | refine Blk.alloc ?_ _ | refine Blk.drewN ?_ _ | refine Blk.drew ?_ | apply Blk.set | refine Blk.put ?_ (by assumption) (by first | (simp; done) | (simp; omega) | omega) | refine Blk.below ?_ (by assumption)) | (refine Blk.setAt ?_ (by first | (simp; done) | (simp; omega))) | rfl))) _ Try.underlying41 rfl (by kernel_rfl) ?_) | go_in)
  go_ret
  exact ⟨rfl, by repeat' (first | (with_reducible first | exact Below.refl _ _ | assumption | refine below_alloc ?_ _ | refine Below.drew ?_ | refine below_drewN ?_ _ | refine below_then ?_ (by assumption) | refine below_put ?_ (by assumption) (by first | (simp; done) | (simp; omega) | omega) | refine Below.setCell ?_ ?_ _) | (simp; done) | (simp; omega) | omega)⟩
theorem new_bad (v1 v2 : Value) (xs ys : List Int) (w : World) (h1 : SliceAt w .u8 v1 xs) (h2 : SliceAt w .u8 v2 ys) (h : 1024 < xs.length ∨ 1024 < ys.length) :
    Calls Try.prog 8 #[v1, v2] w fun e w' => e = .returned (.tuple #[.agg Try.zeroCells41, .int .i64 2]) ∧ Below w.heap.size w w' := by
  obtain ⟨a1, q1, rfl, -⟩ := h1
  obtain ⟨a2, q2, rfl, -⟩ := h2
  obtain ⟨n1, e1⟩ : ∃ n, n = xs.length := ⟨_, rfl⟩
  obtain ⟨n2, e2⟩ : ∃ n, n = ys.length := ⟨_, rfl⟩
  rw [← e1] at h ⊢
  rw [← e2] at h ⊢
  have ONZ := zeroM_one
  clear e1 e2
  by_cases c1 : 1024 < n1
  · have i1 : (1024 : Int) < n1 := by omega
    clear h
    go_enter Try.func8, Try.ntmps8
    go_wp2_with (first | ((with_reducible show wpList _ _ _ _ _ _); refine wpList_storeW rfl 41 (.tmp 4) (.tmp 15) rfl (w.heap.size) Try.zeroCells41 rfl rfl 41 _ (show Blk _ (w.heap.size) Try.zeroCells41 41 from (by repeat' (first | (with_reducible first | exact Hid.out (by assumption) | exact Blk.new _ _ _ | (refine Blk.new_at _ _ _ _ ?_; simp; done) | refine Blk.alloc ?_ _ | refine Blk.drewN ?_ _ | refine Blk.drew ?_ | apply Blk.set | refine Blk.put ?_ (by assumption) (by first | (simp; done) | (simp; omega) | omega) | refine Blk.below ?_ (by assumption)) | (refine Blk.setAt ?_ (by first | (simp; done) | (simp; omega))) | rfl))) (by kernel_rfl) rfl (by first | (with_reducible assumption) | simp [Value.oneCell']) ?_; intro w2 hp_w2 K_w2))
    exact bodyPost_ret (results_ct Try.results8 _ _ (w.heap.size) 41 _ _ rfl K_w2.out Try.underlying41 rfl (by kernel_rfl)) rfl ⟨rfl, by repeat' (first | (with_reducible first | exact Below.refl _ _ | assumption | refine below_alloc ?_ _ | refine Below.drew ?_ | refine below_drewN ?_ _ | refine below_then ?_ (by assumption) | refine below_put ?_ (by assumption) (by first | (simp; done) | (simp; omega) | omega) | refine Below.setCell ?_ ?_ _) | (simp; done) | (simp; omega) | omega)⟩
  · have i1 : ¬ (1024 : Int) < n1 := by omega
    have i2 : (1024 : Int) < n2 := by omega
    clear h
    go_enter Try.func8, Try.ntmps8
    go_wp2_with (first | ((with_reducible show wpList _ _ _ _ _ _); refine wpList_storeW rfl 41 (.tmp 4) (.tmp 15) rfl (w.heap.size) Try.zeroCells41 rfl rfl 41 _ (show Blk _ (w.heap.size) Try.zeroCells41 41 from (by repeat' (first | (with_reducible first | exact Hid.out (by assumption) | exact Blk.new _ _ _ | (refine Blk.new_at _ _ _ _ ?_; simp; done) | refine Blk.alloc ?_ _ | refine Blk.drewN ?_ _ | refine Blk.drew ?_ | apply Blk.set | refine Blk.put ?_ (by assumption) (by first | (simp; done) | (simp; omega) | omega) | refine Blk.below ?_ (by assumption)) | (refine Blk.setAt ?_ (by first | (simp; done) | (simp; omega))) | rfl))) (by kernel_rfl) rfl (by first | (with_reducible assumption) | simp [Value.oneCell']) ?_; intro w2 hp_w2 K_w2))
    exact bodyPost_ret (results_ct Try.results8 _ _ (w.heap.size) 41 _ _ rfl K_w2.out Try.underlying41 rfl (by kernel_rfl)) rfl ⟨rfl, by repeat' (first | (with_reducible first | exact Below.refl _ _ | assumption | refine below_alloc ?_ _ | refine Below.drew ?_ | refine below_drewN ?_ _ | refine below_then ?_ (by assumption) | refine below_put ?_ (by assumption) (by first | (simp; done) | (simp; omega) | omega) | refine Below.setCell ?_ ?_ _) | (simp; done) | (simp; omega) | omega)⟩
end Go.Proofs.Ytimccpmdgfneoaa
