/- cpu.bus: the two functions over a space's variable. Conditions: none. -/
import Derived.Test.YteihggfcafoogaaCpuFlg
import Derived.Test.YteihggfcafoogaaCpuBus
namespace Go.Proofs.Yteihggfcafoogaa
open Go.RowKit Go.Mq
set_option linter.unusedVariables false
set_option linter.unusedSimpArgs false
set_option maxHeartbeats 1000000
set_option maxRecDepth 100000
theorem mkbus_any (sb : Nat) (w : World) :
    Calls Try.prog 15 #[.pointer (some ⟨sb, 0, none⟩)] w fun e w' => e = .returned (.agg #[.func (.func 20) #[] #[.pointer (some ⟨w.heap.size, 0, none⟩)], .func (.func 21) #[] #[.pointer (some ⟨w.heap.size, 0, none⟩)]]) ∧ Below w.heap.size w w' ∧ w.heap.size < w'.heap.size ∧ Blk w' w.heap.size #[.pointer (some ⟨sb, 0, none⟩)] 54 := by
  go_enter Try.func15, Try.ntmps15
  go_wp2_with (first | ((with_reducible show wpList _ _ _ _ _ _); refine wpList_storeW rfl 52 (.tmp 2) (.tmp 5) rfl (w.heap.size + 1) #[.func (.func 20) #[] #[.pointer (some ⟨w.heap.size, 0, none⟩)], .func (.func 21) #[] #[.pointer (some ⟨w.heap.size, 0, none⟩)]] rfl rfl 52 _ (show Blk _ (w.heap.size + 1) #[.nilFunc, .nilFunc] 52 from (by repeat' (first | (with_reducible first | exact Hid.out (by assumption) | exact Blk.new _ _ _ | (refine Blk.new_at _ _ _ _ ?_; simp; done) | refine Blk.alloc ?_ _ | refine Blk.drewN ?_ _ | refine Blk.drew ?_ | apply Blk.set | refine Blk.put ?_ (by assumption) (by first | (simp; done) | (simp; omega) | omega) | refine Blk.below ?_ (by assumption)) | (refine Blk.setAt ?_ (by first | (simp; done) | (simp; omega))) | rfl))) (by kernel_rfl) rfl (by first | (with_reducible assumption) | simp [Value.oneCell']) ?_; intro w2 hp_w2 K_w2))
  have hs := hp_w2.size
  exact bodyPost_ret (results_cell_row Try.results15 _ _ (w.heap.size + 1) 52 _ (0, 0) _ rfl K_w2.out Try.underlying52 rfl (by kernel_rfl)) rfl ⟨rfl, by repeat' (first | (with_reducible first | exact Below.refl _ _ | assumption | refine below_alloc ?_ _ | refine Below.drew ?_ | refine below_drewN ?_ _ | refine below_then ?_ (by assumption) | refine below_put ?_ (by assumption) (by first | (simp; done) | (simp; omega) | omega) | refine Below.setCell ?_ ?_ _) | (simp; done) | (simp; omega) | omega), by first | omega | (simp at hs; omega), (by repeat' (first | (with_reducible first | exact Hid.out (by assumption) | exact Blk.new _ _ _ | (refine Blk.new_at _ _ _ _ ?_; simp; done) | refine Blk.alloc ?_ _ | refine Blk.drewN ?_ _ | refine Blk.drew ?_ | apply Blk.set | refine Blk.put ?_ (by assumption) (by first | (simp; done) | (simp; omega) | omega) | refine Blk.below ?_ (by assumption)) | (refine Blk.setAt ?_ (by first | (simp; done) | (simp; omega))) | rfl))⟩
end Go.Proofs.Yteihggfcafoogaa
