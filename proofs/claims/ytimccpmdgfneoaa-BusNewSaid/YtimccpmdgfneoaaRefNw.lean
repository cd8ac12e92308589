/- The document's new machine, made. Conditions: both programs are slices of bytes, not too long. -/
import Derived.Test.YtimccpmdgfneoaaRefNew
import Derived.Test.YtimccpmdgfneoaaNoMach
namespace Go.Mq
open Go.RowKit
theorem cut_g3 {G : Prop} {F : Nat → Nat → Nat → World → Prop} (R : Nat → Nat → Nat → World → Prop) (h : (∀ g2 g3 g4 W, R g2 g3 g4 W → F g2 g3 g4 W) → G) (H : ∀ g2 g3 g4 W, R g2 g3 g4 W → F g2 g3 g4 W) : G := h H
def refV (v1 v2 : Value) (g2 g3 g4 : Nat) : Nat → Value := fun i => if i = 0 then v1 else if i = 1 then v2 else if i = 2 then .slice (some ⟨g2, 0, none⟩) 128 128 else if i = 3 then .slice (some ⟨g3, 0, none⟩) 64 64 else .slice (some ⟨g4, 0, none⟩) 256 256
theorem zc_slice {w : World} {g n : Nat} {t : TypeId} (hn : n ≤ 1000) (h : Blk w g (zc n) t) : SliceAt w .u8 (.slice (some ⟨g, 0, none⟩) n n) (zl n) := by
  have e : (zl n).length = n := List.length_replicate
  refine ⟨_, n, by rw [e], by omega, by unfold maxLen; omega, fun x hx => ?_, fun _ => ⟨g, 0, rfl, h.lt, fun i hi => ?_⟩⟩
  · rw [List.eq_of_mem_replicate hx]; rfl
  · rw [h.cell, Nat.zero_add, e] at *
    simp [zc, zl, hi]
end Go.Mq
namespace Go.Proofs.Ytimccpmdgfneoaa
open Go.RowKit Go.Mq
set_option linter.unusedVariables false
set_option linter.unusedSimpArgs false
set_option maxHeartbeats 4000000
set_option maxRecDepth 100000
theorem newG (c0 c1 : Option Addr) (p0 p1 g2 g3 g4 : Nat) (xs ys : List Int) : Array.foldl (fun cs (x : Value × Nat) => cs.setIfInBounds x.snd x.fst) Try.zeroCells59 ((((((Try.zeroCells41.setIfInBounds 30 (.slice c0 xs.length p0)).setIfInBounds 31 (.slice c1 ys.length p1)).setIfInBounds 32 (.slice (some ⟨g2, 0, none⟩) 128 128)).setIfInBounds 33 (.slice (some ⟨g3, 0, none⟩) 64 64)).setIfInBounds 34 (.slice (some ⟨g4, 0, none⟩) 256 256)).setIfInBounds 68 (.bool true)).zipIdx 0 75 = boxC (newV (.slice c0 xs.length p0) (.slice c1 ys.length p1) g2 g3 g4) ⟨newM xs ys, [], 0⟩ (.slice none 0 0) := by kernel_rfl
theorem refnew_any (v1 v2 : Value) (xs ys : List Int) (w : World) (bx : Bytes8 xs) (bY : Bytes8 ys) (h1 : SliceAt w .u8 v1 xs) (h2 : SliceAt w .u8 v2 ys) (l1 : xs.length ≤ 1024) (l2 : ys.length ≤ 1024) :
    Calls Try.prog 14 #[v1, v2] w fun e w' => ∃ U, e = .returned (.agg (machC U (newMach xs ys))) ∧ Below w.heap.size w w' ∧ MV w' U (newMach xs ys) := by
  have H1 := Lib.hid h1
  have H2 := Lib.hid h2
  have M2 := mkz128
  have M3 := mkz64
  have M4 := mkz256
  obtain ⟨a1, q1, rfl, -⟩ := h1
  obtain ⟨a2, q2, rfl, -⟩ := h2
  go_enter Try.func14, Try.ntmps14
  go_wp2_with fail
  apply cut_g3 (fun g2 g3 g4 W => Hid (Below w.heap.size w W) ∧ Hid (Blk W w.heap.size Try.zeroCells41 41) ∧ Hid (Blk W g2 (zc 128) 5) ∧ Hid (Blk W g3 (zc 64) 5) ∧ Hid (Blk W g4 (zc 256) 5))
  · intro hk
    refine wp_region_F (fun k W => True) [0, 1, 5, 6, 8] (by kernel_rfl) ?_
    refine wpAnyF_take (i := 0) (v := ?v0) rfl (by kernel_rfl) (by kernel_rfl) (by kernel_rfl) (by kernel_rfl) (fun _ _ _ h => h) (Or.inl ⟨by rfl, ?y0⟩) trivial ?_
    case y0 => (intro w hF; clear hF; go_simp; try with_reducible rfl)
    try simp only [List.getElem_toArray, List.getElem_cons_succ, List.getElem_cons_zero, Act.put, List.setIfInBounds_toArray, List.set_cons_zero, List.set_cons_succ]
    refine wpAnyF_take (i := 1) (v := ?v1) rfl (by kernel_rfl) (by kernel_rfl) (by kernel_rfl) (by kernel_rfl) (fun _ _ _ h => h) (Or.inl ⟨by rfl, ?y1⟩) trivial ?_
    case y1 => (intro w hF; clear hF; go_simp; try with_reducible rfl)
    try simp only [List.getElem_toArray, List.getElem_cons_succ, List.getElem_cons_zero, Act.put, List.setIfInBounds_toArray, List.set_cons_zero, List.set_cons_succ]
    have BW0 : Hid (Below w.heap.size w (w.alloc (.cells Try.zeroCells41 41)).drew) := Lib.hid (by repeat' (first | (with_reducible first | exact Below.refl _ _ | assumption | refine below_alloc ?_ _ | refine Below.drew ?_ | refine below_drewN ?_ _ | refine below_then ?_ (by assumption) | refine below_put ?_ (by assumption) (by first | (simp; done) | (simp; omega) | omega) | refine Below.setCell ?_ ?_ _) | (simp; done) | (simp; omega) | omega))
    have ZW0 : Hid (Blk (w.alloc (.cells Try.zeroCells41 41)).drew w.heap.size Try.zeroCells41 41) := Lib.hid ((by repeat' (first | (with_reducible first | exact Hid.out (by assumption) | exact Blk.new _ _ _ | (refine Blk.new_at _ _ _ _ ?_; simp; done) | refine Blk.alloc ?_ _ | refine Blk.drewN ?_ _ | refine Blk.drew ?_ | apply Blk.set | refine Blk.put ?_ (by assumption) (by first | (simp; done) | (simp; omega) | omega) | refine Blk.below ?_ (by assumption)) | (refine Blk.setAt ?_ (by first | (simp; done) | (simp; omega))) | rfl)))
    obtain ⟨W0, hW0⟩ : ∃ W, W = (w.alloc (.cells Try.zeroCells41 41)).drew := ⟨_, rfl⟩
    rw [← hW0] at BW0 ZW0 ⊢
    clear hW0
    refine wpAnyF_ready (rs := [2, 3, 4]) (by kernel_rfl) (by simp) (AllReadyF.cons rfl (fun K hK => ?_) (AllReadyF.cons rfl (fun K hK => ?_) (AllReadyF.cons rfl (fun K hK => ?_) AllReadyF.nil)))
    · go_simp
      refine hK.out _ _ (Sat.all (by kernel_rfl) (fun k => trivial)) ?_
      clear hK K
      try simp only [List.getElem_toArray, List.getElem_cons_succ, List.getElem_cons_zero, Act.put, List.setIfInBounds_toArray, List.set_cons_zero, List.set_cons_succ]
      obtain ⟨g2, eg2⟩ : ∃ g, g = W0.heap.size := ⟨_, rfl⟩
      rw [← eg2]
      refine pmark9 (R := fun X => Hid (Below w.heap.size w X) ∧ Hid (Blk X w.heap.size Try.zeroCells41 41) ∧ Hid (Blk X g2 (zc 128) 5)) (F := fun X => wpAnyF _ _ _ _ _ _ _ _ _ X) ⟨Lib.hid (below_alloc BW0.out _), Lib.hid (ZW0.out.alloc _), Lib.hid (Blk.new_at _ _ _ _ eg2)⟩ ?_
      clear BW0 ZW0  eg2
      intro W1 ⟨BW1, ZW1, Gg2⟩
      refine wpAnyF_ready (rs := [3, 4]) (by kernel_rfl) (by simp) (AllReadyF.cons rfl (fun K hK => ?_) (AllReadyF.cons rfl (fun K hK => ?_) AllReadyF.nil))
      · go_simp
        refine hK.out _ _ (Sat.all (by kernel_rfl) (fun k => trivial)) ?_
        clear hK K
        try simp only [List.getElem_toArray, List.getElem_cons_succ, List.getElem_cons_zero, Act.put, List.setIfInBounds_toArray, List.set_cons_zero, List.set_cons_succ]
        obtain ⟨g3, eg3⟩ : ∃ g, g = W1.heap.size := ⟨_, rfl⟩
        rw [← eg3]
        refine pmark9 (R := fun X => Hid (Below w.heap.size w X) ∧ Hid (Blk X w.heap.size Try.zeroCells41 41) ∧ Hid (Blk X g2 (zc 128) 5) ∧ Hid (Blk X g3 (zc 64) 5)) (F := fun X => wpAnyF _ _ _ _ _ _ _ _ _ X) ⟨Lib.hid (below_alloc BW1.out _), Lib.hid (ZW1.out.alloc _), Lib.hid (Gg2.out.alloc _), Lib.hid (Blk.new_at _ _ _ _ eg3)⟩ ?_
        clear BW1 ZW1 Gg2 eg3
        intro W2 ⟨BW2, ZW2, Gg2, Gg3⟩
        refine wpAnyF_ready (rs := [4]) (by kernel_rfl) (by simp) (AllReadyF.cons rfl (fun K hK => ?_) AllReadyF.nil)
        · go_simp
          refine hK.out _ _ (Sat.all (by kernel_rfl) (fun k => trivial)) ?_
          clear hK K
          try simp only [List.getElem_toArray, List.getElem_cons_succ, List.getElem_cons_zero, Act.put, List.setIfInBounds_toArray, List.set_cons_zero, List.set_cons_succ]
          obtain ⟨g4, eg4⟩ : ∃ g, g = W2.heap.size := ⟨_, rfl⟩
          rw [← eg4]
          refine pmark9 (R := fun X => Hid (Below w.heap.size w X) ∧ Hid (Blk X w.heap.size Try.zeroCells41 41) ∧ Hid (Blk X g2 (zc 128) 5) ∧ Hid (Blk X g3 (zc 64) 5) ∧ Hid (Blk X g4 (zc 256) 5)) (F := fun X => wpAnyF _ _ _ _ _ _ _ _ _ X) ⟨Lib.hid (below_alloc BW2.out _), Lib.hid (ZW2.out.alloc _), Lib.hid (Gg2.out.alloc _), Lib.hid (Gg3.out.alloc _), Lib.hid (Blk.new_at _ _ _ _ eg4)⟩ ?_
          clear BW2 ZW2 Gg2 Gg3 eg4
          intro W3 ⟨BW3, ZW3, Gg2, Gg3, Gg4⟩
          exact hk g2 g3 g4 W3 ⟨BW3, ZW3, Gg2, Gg3, Gg4⟩
      · go_simp
        refine hK.out _ _ (Sat.all (by kernel_rfl) (fun k => trivial)) ?_
        clear hK K
        try simp only [List.getElem_toArray, List.getElem_cons_succ, List.getElem_cons_zero, Act.put, List.setIfInBounds_toArray, List.set_cons_zero, List.set_cons_succ]
        obtain ⟨g4, eg4⟩ : ∃ g, g = W1.heap.size := ⟨_, rfl⟩
        rw [← eg4]
        refine pmark9 (R := fun X => Hid (Below w.heap.size w X) ∧ Hid (Blk X w.heap.size Try.zeroCells41 41) ∧ Hid (Blk X g2 (zc 128) 5) ∧ Hid (Blk X g4 (zc 256) 5)) (F := fun X => wpAnyF _ _ _ _ _ _ _ _ _ X) ⟨Lib.hid (below_alloc BW1.out _), Lib.hid (ZW1.out.alloc _), Lib.hid (Gg2.out.alloc _), Lib.hid (Blk.new_at _ _ _ _ eg4)⟩ ?_
        clear BW1 ZW1 Gg2 eg4
        intro W2 ⟨BW2, ZW2, Gg2, Gg4⟩
        refine wpAnyF_ready (rs := [3]) (by kernel_rfl) (by simp) (AllReadyF.cons rfl (fun K hK => ?_) AllReadyF.nil)
        · go_simp
          refine hK.out _ _ (Sat.all (by kernel_rfl) (fun k => trivial)) ?_
          clear hK K
          try simp only [List.getElem_toArray, List.getElem_cons_succ, List.getElem_cons_zero, Act.put, List.setIfInBounds_toArray, List.set_cons_zero, List.set_cons_succ]
          obtain ⟨g3, eg3⟩ : ∃ g, g = W2.heap.size := ⟨_, rfl⟩
          rw [← eg3]
          refine pmark9 (R := fun X => Hid (Below w.heap.size w X) ∧ Hid (Blk X w.heap.size Try.zeroCells41 41) ∧ Hid (Blk X g2 (zc 128) 5) ∧ Hid (Blk X g4 (zc 256) 5) ∧ Hid (Blk X g3 (zc 64) 5)) (F := fun X => wpAnyF _ _ _ _ _ _ _ _ _ X) ⟨Lib.hid (below_alloc BW2.out _), Lib.hid (ZW2.out.alloc _), Lib.hid (Gg2.out.alloc _), Lib.hid (Gg4.out.alloc _), Lib.hid (Blk.new_at _ _ _ _ eg3)⟩ ?_
          clear BW2 ZW2 Gg2 Gg4 eg3
          intro W3 ⟨BW3, ZW3, Gg2, Gg4, Gg3⟩
          exact hk g2 g3 g4 W3 ⟨BW3, ZW3, Gg2, Gg3, Gg4⟩
    · go_simp
      refine hK.out _ _ (Sat.all (by kernel_rfl) (fun k => trivial)) ?_
      clear hK K
      try simp only [List.getElem_toArray, List.getElem_cons_succ, List.getElem_cons_zero, Act.put, List.setIfInBounds_toArray, List.set_cons_zero, List.set_cons_succ]
      obtain ⟨g3, eg3⟩ : ∃ g, g = W0.heap.size := ⟨_, rfl⟩
      rw [← eg3]
      refine pmark9 (R := fun X => Hid (Below w.heap.size w X) ∧ Hid (Blk X w.heap.size Try.zeroCells41 41) ∧ Hid (Blk X g3 (zc 64) 5)) (F := fun X => wpAnyF _ _ _ _ _ _ _ _ _ X) ⟨Lib.hid (below_alloc BW0.out _), Lib.hid (ZW0.out.alloc _), Lib.hid (Blk.new_at _ _ _ _ eg3)⟩ ?_
      clear BW0 ZW0  eg3
      intro W1 ⟨BW1, ZW1, Gg3⟩
      refine wpAnyF_ready (rs := [2, 4]) (by kernel_rfl) (by simp) (AllReadyF.cons rfl (fun K hK => ?_) (AllReadyF.cons rfl (fun K hK => ?_) AllReadyF.nil))
      · go_simp
        refine hK.out _ _ (Sat.all (by kernel_rfl) (fun k => trivial)) ?_
        clear hK K
        try simp only [List.getElem_toArray, List.getElem_cons_succ, List.getElem_cons_zero, Act.put, List.setIfInBounds_toArray, List.set_cons_zero, List.set_cons_succ]
        obtain ⟨g2, eg2⟩ : ∃ g, g = W1.heap.size := ⟨_, rfl⟩
        rw [← eg2]
        refine pmark9 (R := fun X => Hid (Below w.heap.size w X) ∧ Hid (Blk X w.heap.size Try.zeroCells41 41) ∧ Hid (Blk X g3 (zc 64) 5) ∧ Hid (Blk X g2 (zc 128) 5)) (F := fun X => wpAnyF _ _ _ _ _ _ _ _ _ X) ⟨Lib.hid (below_alloc BW1.out _), Lib.hid (ZW1.out.alloc _), Lib.hid (Gg3.out.alloc _), Lib.hid (Blk.new_at _ _ _ _ eg2)⟩ ?_
        clear BW1 ZW1 Gg3 eg2
        intro W2 ⟨BW2, ZW2, Gg3, Gg2⟩
        refine wpAnyF_ready (rs := [4]) (by kernel_rfl) (by simp) (AllReadyF.cons rfl (fun K hK => ?_) AllReadyF.nil)
        · go_simp
          refine hK.out _ _ (Sat.all (by kernel_rfl) (fun k => trivial)) ?_
          clear hK K
          try simp only [List.getElem_toArray, List.getElem_cons_succ, List.getElem_cons_zero, Act.put, List.setIfInBounds_toArray, List.set_cons_zero, List.set_cons_succ]
          obtain ⟨g4, eg4⟩ : ∃ g, g = W2.heap.size := ⟨_, rfl⟩
          rw [← eg4]
          refine pmark9 (R := fun X => Hid (Below w.heap.size w X) ∧ Hid (Blk X w.heap.size Try.zeroCells41 41) ∧ Hid (Blk X g3 (zc 64) 5) ∧ Hid (Blk X g2 (zc 128) 5) ∧ Hid (Blk X g4 (zc 256) 5)) (F := fun X => wpAnyF _ _ _ _ _ _ _ _ _ X) ⟨Lib.hid (below_alloc BW2.out _), Lib.hid (ZW2.out.alloc _), Lib.hid (Gg3.out.alloc _), Lib.hid (Gg2.out.alloc _), Lib.hid (Blk.new_at _ _ _ _ eg4)⟩ ?_
          clear BW2 ZW2 Gg3 Gg2 eg4
          intro W3 ⟨BW3, ZW3, Gg3, Gg2, Gg4⟩
          exact hk g2 g3 g4 W3 ⟨BW3, ZW3, Gg2, Gg3, Gg4⟩
      · go_simp
        refine hK.out _ _ (Sat.all (by kernel_rfl) (fun k => trivial)) ?_
        clear hK K
        try simp only [List.getElem_toArray, List.getElem_cons_succ, List.getElem_cons_zero, Act.put, List.setIfInBounds_toArray, List.set_cons_zero, List.set_cons_succ]
        obtain ⟨g4, eg4⟩ : ∃ g, g = W1.heap.size := ⟨_, rfl⟩
        rw [← eg4]
        refine pmark9 (R := fun X => Hid (Below w.heap.size w X) ∧ Hid (Blk X w.heap.size Try.zeroCells41 41) ∧ Hid (Blk X g3 (zc 64) 5) ∧ Hid (Blk X g4 (zc 256) 5)) (F := fun X => wpAnyF _ _ _ _ _ _ _ _ _ X) ⟨Lib.hid (below_alloc BW1.out _), Lib.hid (ZW1.out.alloc _), Lib.hid (Gg3.out.alloc _), Lib.hid (Blk.new_at _ _ _ _ eg4)⟩ ?_
        clear BW1 ZW1 Gg3 eg4
        intro W2 ⟨BW2, ZW2, Gg3, Gg4⟩
        refine wpAnyF_ready (rs := [2]) (by kernel_rfl) (by simp) (AllReadyF.cons rfl (fun K hK => ?_) AllReadyF.nil)
        · go_simp
          refine hK.out _ _ (Sat.all (by kernel_rfl) (fun k => trivial)) ?_
          clear hK K
          try simp only [List.getElem_toArray, List.getElem_cons_succ, List.getElem_cons_zero, Act.put, List.setIfInBounds_toArray, List.set_cons_zero, List.set_cons_succ]
          obtain ⟨g2, eg2⟩ : ∃ g, g = W2.heap.size := ⟨_, rfl⟩
          rw [← eg2]
          refine pmark9 (R := fun X => Hid (Below w.heap.size w X) ∧ Hid (Blk X w.heap.size Try.zeroCells41 41) ∧ Hid (Blk X g3 (zc 64) 5) ∧ Hid (Blk X g4 (zc 256) 5) ∧ Hid (Blk X g2 (zc 128) 5)) (F := fun X => wpAnyF _ _ _ _ _ _ _ _ _ X) ⟨Lib.hid (below_alloc BW2.out _), Lib.hid (ZW2.out.alloc _), Lib.hid (Gg3.out.alloc _), Lib.hid (Gg4.out.alloc _), Lib.hid (Blk.new_at _ _ _ _ eg2)⟩ ?_
          clear BW2 ZW2 Gg3 Gg4 eg2
          intro W3 ⟨BW3, ZW3, Gg3, Gg4, Gg2⟩
          exact hk g2 g3 g4 W3 ⟨BW3, ZW3, Gg2, Gg3, Gg4⟩
    · go_simp
      refine hK.out _ _ (Sat.all (by kernel_rfl) (fun k => trivial)) ?_
      clear hK K
      try simp only [List.getElem_toArray, List.getElem_cons_succ, List.getElem_cons_zero, Act.put, List.setIfInBounds_toArray, List.set_cons_zero, List.set_cons_succ]
      obtain ⟨g4, eg4⟩ : ∃ g, g = W0.heap.size := ⟨_, rfl⟩
      rw [← eg4]
      refine pmark9 (R := fun X => Hid (Below w.heap.size w X) ∧ Hid (Blk X w.heap.size Try.zeroCells41 41) ∧ Hid (Blk X g4 (zc 256) 5)) (F := fun X => wpAnyF _ _ _ _ _ _ _ _ _ X) ⟨Lib.hid (below_alloc BW0.out _), Lib.hid (ZW0.out.alloc _), Lib.hid (Blk.new_at _ _ _ _ eg4)⟩ ?_
      clear BW0 ZW0  eg4
      intro W1 ⟨BW1, ZW1, Gg4⟩
      refine wpAnyF_ready (rs := [2, 3]) (by kernel_rfl) (by simp) (AllReadyF.cons rfl (fun K hK => ?_) (AllReadyF.cons rfl (fun K hK => ?_) AllReadyF.nil))
      · go_simp
        refine hK.out _ _ (Sat.all (by kernel_rfl) (fun k => trivial)) ?_
        clear hK K
        try simp only [List.getElem_toArray, List.getElem_cons_succ, List.getElem_cons_zero, Act.put, List.setIfInBounds_toArray, List.set_cons_zero, List.set_cons_succ]
        obtain ⟨g2, eg2⟩ : ∃ g, g = W1.heap.size := ⟨_, rfl⟩
        rw [← eg2]
        refine pmark9 (R := fun X => Hid (Below w.heap.size w X) ∧ Hid (Blk X w.heap.size Try.zeroCells41 41) ∧ Hid (Blk X g4 (zc 256) 5) ∧ Hid (Blk X g2 (zc 128) 5)) (F := fun X => wpAnyF _ _ _ _ _ _ _ _ _ X) ⟨Lib.hid (below_alloc BW1.out _), Lib.hid (ZW1.out.alloc _), Lib.hid (Gg4.out.alloc _), Lib.hid (Blk.new_at _ _ _ _ eg2)⟩ ?_
        clear BW1 ZW1 Gg4 eg2
        intro W2 ⟨BW2, ZW2, Gg4, Gg2⟩
        refine wpAnyF_ready (rs := [3]) (by kernel_rfl) (by simp) (AllReadyF.cons rfl (fun K hK => ?_) AllReadyF.nil)
        · go_simp
          refine hK.out _ _ (Sat.all (by kernel_rfl) (fun k => trivial)) ?_
          clear hK K
          try simp only [List.getElem_toArray, List.getElem_cons_succ, List.getElem_cons_zero, Act.put, List.setIfInBounds_toArray, List.set_cons_zero, List.set_cons_succ]
          obtain ⟨g3, eg3⟩ : ∃ g, g = W2.heap.size := ⟨_, rfl⟩
          rw [← eg3]
          refine pmark9 (R := fun X => Hid (Below w.heap.size w X) ∧ Hid (Blk X w.heap.size Try.zeroCells41 41) ∧ Hid (Blk X g4 (zc 256) 5) ∧ Hid (Blk X g2 (zc 128) 5) ∧ Hid (Blk X g3 (zc 64) 5)) (F := fun X => wpAnyF _ _ _ _ _ _ _ _ _ X) ⟨Lib.hid (below_alloc BW2.out _), Lib.hid (ZW2.out.alloc _), Lib.hid (Gg4.out.alloc _), Lib.hid (Gg2.out.alloc _), Lib.hid (Blk.new_at _ _ _ _ eg3)⟩ ?_
          clear BW2 ZW2 Gg4 Gg2 eg3
          intro W3 ⟨BW3, ZW3, Gg4, Gg2, Gg3⟩
          exact hk g2 g3 g4 W3 ⟨BW3, ZW3, Gg2, Gg3, Gg4⟩
      · go_simp
        refine hK.out _ _ (Sat.all (by kernel_rfl) (fun k => trivial)) ?_
        clear hK K
        try simp only [List.getElem_toArray, List.getElem_cons_succ, List.getElem_cons_zero, Act.put, List.setIfInBounds_toArray, List.set_cons_zero, List.set_cons_succ]
        obtain ⟨g3, eg3⟩ : ∃ g, g = W1.heap.size := ⟨_, rfl⟩
        rw [← eg3]
        refine pmark9 (R := fun X => Hid (Below w.heap.size w X) ∧ Hid (Blk X w.heap.size Try.zeroCells41 41) ∧ Hid (Blk X g4 (zc 256) 5) ∧ Hid (Blk X g3 (zc 64) 5)) (F := fun X => wpAnyF _ _ _ _ _ _ _ _ _ X) ⟨Lib.hid (below_alloc BW1.out _), Lib.hid (ZW1.out.alloc _), Lib.hid (Gg4.out.alloc _), Lib.hid (Blk.new_at _ _ _ _ eg3)⟩ ?_
        clear BW1 ZW1 Gg4 eg3
        intro W2 ⟨BW2, ZW2, Gg4, Gg3⟩
        refine wpAnyF_ready (rs := [2]) (by kernel_rfl) (by simp) (AllReadyF.cons rfl (fun K hK => ?_) AllReadyF.nil)
        · go_simp
          refine hK.out _ _ (Sat.all (by kernel_rfl) (fun k => trivial)) ?_
          clear hK K
          try simp only [List.getElem_toArray, List.getElem_cons_succ, List.getElem_cons_zero, Act.put, List.setIfInBounds_toArray, List.set_cons_zero, List.set_cons_succ]
          obtain ⟨g2, eg2⟩ : ∃ g, g = W2.heap.size := ⟨_, rfl⟩
          rw [← eg2]
          refine pmark9 (R := fun X => Hid (Below w.heap.size w X) ∧ Hid (Blk X w.heap.size Try.zeroCells41 41) ∧ Hid (Blk X g4 (zc 256) 5) ∧ Hid (Blk X g3 (zc 64) 5) ∧ Hid (Blk X g2 (zc 128) 5)) (F := fun X => wpAnyF _ _ _ _ _ _ _ _ _ X) ⟨Lib.hid (below_alloc BW2.out _), Lib.hid (ZW2.out.alloc _), Lib.hid (Gg4.out.alloc _), Lib.hid (Gg3.out.alloc _), Lib.hid (Blk.new_at _ _ _ _ eg2)⟩ ?_
          clear BW2 ZW2 Gg4 Gg3 eg2
          intro W3 ⟨BW3, ZW3, Gg4, Gg3, Gg2⟩
          exact hk g2 g3 g4 W3 ⟨BW3, ZW3, Gg2, Gg3, Gg4⟩
  intro g2 g3 g4 W ⟨BW, ZW, Gg2, Gg3, Gg4⟩
  refine wpAnyF_take (i := 5) (v := ?v5) rfl (by kernel_rfl) (by kernel_rfl) (by kernel_rfl) (by kernel_rfl) (fun _ _ _ h => h) (Or.inl ⟨by rfl, ?y5⟩) trivial ?_
  case y5 => (intro w hF; clear hF; go_simp; try with_reducible rfl)
  try simp only [List.getElem_toArray, List.getElem_cons_succ, List.getElem_cons_zero, Act.put, List.setIfInBounds_toArray, List.set_cons_zero, List.set_cons_succ]
  refine wpAnyF_take (i := 6) (v := ?v6) rfl (by kernel_rfl) (by kernel_rfl) (by kernel_rfl) (by kernel_rfl) (fun _ _ _ h => h) (Or.inl ⟨by rfl, ?y6⟩) trivial ?_
  case y6 => (intro w hF; clear hF; go_simp; try with_reducible rfl)
  try simp only [List.getElem_toArray, List.getElem_cons_succ, List.getElem_cons_zero, Act.put, List.setIfInBounds_toArray, List.set_cons_zero, List.set_cons_succ]
  refine wpAnyF_ready (rs := [7]) (by kernel_rfl) (by simp) (AllReadyF.cons rfl (fun K hK => ?_) AllReadyF.nil)
  go_simp
  obtain ⟨b, eb⟩ : ∃ b, b = W.heap.size := ⟨_, rfl⟩
  refine hK.out _ _ (Sat.all (by kernel_rfl) (fun k => trivial)) ?_
  clear hK K
  try simp only [List.getElem_toArray, List.getElem_cons_succ, List.getElem_cons_zero, Act.put, List.setIfInBounds_toArray, List.set_cons_zero, List.set_cons_succ]
  refine wpAnyF_take (i := 8) (v := ?v8) rfl (by kernel_rfl) (by kernel_rfl) (by kernel_rfl) (by kernel_rfl) (fun _ _ _ h => h) (Or.inl ⟨by rfl, ?y8⟩) trivial ?_
  case y8 => (intro w hF; clear hF; go_simp; try with_reducible rfl)
  try simp only [List.getElem_toArray, List.getElem_cons_succ, List.getElem_cons_zero, Act.put, List.setIfInBounds_toArray, List.set_cons_zero, List.set_cons_succ]
  refine wpAnyF_done (by kernel_rfl) ?_ _
  rw [newG a1 a2 q1 q2 g2 g3 g4 xs ys, ← eb]
  obtain ⟨V, hV⟩ : ∃ V, V = newV (.slice a1 xs.length q1) (.slice a2 ys.length q2) g2 g3 g4 := ⟨_, rfl⟩
  rw [← hV]
  have lz := ZW.out.lt
  have lg2 := Gg2.out.lt
  have lg3 := Gg3.out.lt
  have lg4 := Gg4.out.lt
  have n2 : g2 ≠ w.heap.size := fun e => by have h := Gg2.out; rw [e] at h; unfold Blk at h; have z := ZW.out; unfold Blk at z; rw [h] at z; injection z with z; injection z with _ z; exact absurd z (by decide)
  have n3 : g3 ≠ w.heap.size := fun e => by have h := Gg3.out; rw [e] at h; unfold Blk at h; have z := ZW.out; unfold Blk at z; rw [h] at z; injection z with z; injection z with _ z; exact absurd z (by decide)
  have n4 : g4 ≠ w.heap.size := fun e => by have h := Gg4.out; rw [e] at h; unfold Blk at h; have z := ZW.out; unfold Blk at z; rw [h] at z; injection z with z; injection z with _ z; exact absurd z (by decide)
  have n5 : b ≠ w.heap.size := by omega
  have lw : w.heap.size ≤ b := by have := BW.out.size; omega
  have m2 : g2 ≠ b := by omega
  have m3 : g3 ≠ b := by omega
  have m4 : g4 ≠ b := by omega
  refine pmark9 (R := fun X => Hid (Below w.heap.size w X) ∧ Hid (Blk X w.heap.size Try.zeroCells41 41) ∧ Hid (Blk X g2 (zc 128) 5) ∧ Hid (Blk X g3 (zc 64) 5) ∧ Hid (Blk X g4 (zc 256) 5) ∧ Hid (Blk X b (boxC V ⟨newM xs ys, [], 0⟩ (.slice none 0 0)) 59)) (F := fun X => Exit.then _ _ Exit.normal _ X) ⟨Lib.hid (BW.out.alloc (by omega) _), Lib.hid (ZW.out.alloc _), Lib.hid (Gg2.out.alloc _), Lib.hid (Gg3.out.alloc _), Lib.hid (Gg4.out.alloc _), Lib.hid (Blk.new_at _ _ _ _ eb)⟩ ?_
  clear BW ZW Gg2 Gg3 Gg4 eb M2 M3 M4
  intro X ⟨BX, ZX, X2, X3, X4, KX⟩
  have lb := KX.out.lt
  have lX := BX.out.size
  obtain ⟨C, hC⟩ : ∃ C, C = start0 (romB xs 0 * 256 + romB xs 1) := ⟨_, rfl⟩
  have hN : newMach xs ys = (Bx.wMc ⟨newM xs ys, [], 0⟩ C).m := by rw [hC, newMach_mc xs ys bx]; rfl
  have HN := Lib.hid hN
  have V0 : V 0 = .slice a1 xs.length q1 := by rw [hV]; rfl
  have V1 : V 1 = .slice a2 ys.length q2 := by rw [hV]; rfl
  have V2 : V 2 = .slice (some ⟨g2, 0, none⟩) 128 128 := by rw [hV]; rfl
  have V3 : V 3 = .slice (some ⟨g3, 0, none⟩) 64 64 := by rw [hV]; rfl
  have V4 : V 4 = .slice (some ⟨g4, 0, none⟩) 256 256 := by rw [hV]; rfl
  have MVF : Hid (∀ Y, SliceAt Y .u8 (.slice a1 xs.length q1) xs → SliceAt Y .u8 (.slice a2 ys.length q2) ys → Blk Y g2 (zc 128) 5 → Blk Y g3 (zc 64) 5 → Blk Y g4 (zc 256) 5 → MV Y V (Bx.wMc ⟨newM xs ys, [], 0⟩ C).m) := Lib.hid (fun Y k0 k1 k2 k3 k4 i hi => by
    match i, hi with
    | 0, _ => rw [V0]; exact k0
    | 1, _ => rw [V1]; exact k1
    | 2, _ => rw [V2]; exact zc_slice (by omega) k2
    | 3, _ => rw [V3]; exact zc_slice (by omega) k3
    | 4, _ => rw [V4]; exact zc_slice (by omega) k4)
  have BG := Lib.hid (fun (gc mc : Nat) (fp : Value) (Y : World) (k : Below X.heap.size X Y) (lg : gc < Y.heap.size) (g1 : Y.cell? ⟨gc, 0, none⟩ = some (.pointer (some ⟨b, 0, none⟩))) => begin_new b gc mc fp (.slice a1 xs.length q1) xs bx l1 Y (Nat.lt_of_lt_of_le lb k.size) lg ((k.cell (p := ⟨b, 30, none⟩) lb).trans ((KX.out.cell 30).trans ((bx30 ..).trans (by rw [V0])))) (H1.out.below (BX.out.trans (k.mono (by omega)))) g1)
  rw [← hC] at BG
  have one := cpuC_one C
  have ONE := machC_one (V := V) (Bx.wMc ⟨newM xs ys, [], 0⟩ C).m (fun i hi => by
    match i, hi with
    | 0, _ => rw [V0]; rfl
    | 1, _ => rw [V1]; rfl
    | 2, _ => rw [V2]; rfl
    | 3, _ => rw [V3]; rfl
    | 4, _ => rw [V4]; rfl)
  clear hC hN V0 V1 V2 V3 V4 hV
  obtain ⟨D, hD⟩ : ∃ D : Bx, D = ⟨newM xs ys, [], 0⟩ := ⟨_, rfl⟩
  rw [← hD] at MVF KX ONE HN ⊢
  clear hD
  go_wp2_with fail
  refine (mkgmain_any b _).mono ?_
  rintro e w5 ⟨rfl, hb5, hs5, C5⟩
  have CL := Lib.hid C5
  have B5 := Lib.hid (below_then BX.out hb5)
  have sz5 := hb5.size
  have K5 := Lib.hid (KX.out.below hb5)
  have Z5 := Lib.hid (ZX.out.below hb5)
  have Y2 := Lib.hid (X2.out.below hb5)
  have Y3 := Lib.hid (X3.out.below hb5)
  have Y4 := Lib.hid (X4.out.below hb5)
  have h55 := Lib.hid hb5
  clear hb5 C5 X2 X3 X4
  go_wp2_with fail
  refine (BG.out _ _ _ _ h55.out (by omega) (CL.out.g.cell 0)).mono ?_
  rintro e w6 ⟨rfl, hb6⟩
  have B6 := Lib.hid (below_then B5.out hb6)
  have sz6 := hb6.size
  have K6 := Lib.hid (K5.out.below hb6)
  have Z6 := Lib.hid (Z5.out.below hb6)
  have P2 := Lib.hid (Y2.out.below hb6)
  have P3 := Lib.hid (Y3.out.below hb6)
  have P4 := Lib.hid (Y4.out.below hb6)
  clear hb6 K5 Z5 Y2 Y3 Y4 h55 CL BG KX ZX
  have l6 := K6.out.lt
  go_wp2_with (first | ((with_reducible show wpList _ _ _ _ _ _); refine wpList_storeA rfl 26 (.tmp 20) (.tmp 17) rfl (b) (0) (cpuC C) rfl rfl 59 (boxC V D (.slice none 0 0)) (boxC V (D.wMc C) (.slice none 0 0)) (show Blk _ (b) (boxC V D (.slice none 0 0)) 59 from (by repeat' (first | (with_reducible first | exact Hid.out (by assumption) | exact Blk.new _ _ _ | (refine Blk.new_at _ _ _ _ ?_; simp; done) | refine Blk.alloc ?_ _ | refine Blk.drewN ?_ _ | refine Blk.drew ?_ | apply Blk.set | refine Blk.put ?_ (by assumption) (by first | (simp; done) | (simp; omega) | omega) | refine Blk.below ?_ (by assumption)) | (refine Blk.setAt ?_ (by first | (simp; done) | (simp; omega))) | rfl))) (by kernel_rfl) (by simp) (by first | (with_reducible assumption) | simp [Value.oneCell']) rfl ?_; intro w7 hp_w7 K_w7) | ((with_reducible show wpList _ _ _ _ _ _); refine wpList_loadA rfl 41 (.tmp 23) rfl (b) (0) 75 rfl 59 (boxC V (D.wMc C) (.slice none 0 0)) (machC V (D.wMc C).m) (show Blk _ (b) (boxC V (D.wMc C) (.slice none 0 0)) 59 from (by repeat' (first | (with_reducible first | exact Hid.out (by assumption) | exact Blk.new _ _ _ | (refine Blk.new_at _ _ _ _ ?_; simp; done) | refine Blk.alloc ?_ _ | refine Blk.drewN ?_ _ | refine Blk.drew ?_ | apply Blk.set | refine Blk.put ?_ (by assumption) (by first | (simp; done) | (simp; omega) | omega) | refine Blk.below ?_ (by assumption)) | (refine Blk.setAt ?_ (by first | (simp; done) | (simp; omega))) | rfl))) _ Try.underlying41 rfl (by kernel_rfl) rfl rfl ?_) | ((with_reducible show wpList _ _ _ _ _ _); refine wpList_storeW rfl 41 (.tmp 4) (.tmp 24) rfl (w.heap.size) (machC V (D.wMc C).m) rfl rfl 41 _ (show Blk _ (w.heap.size) Try.zeroCells41 41 from (by repeat' (first | (with_reducible first | exact Hid.out (by assumption) | exact Blk.new _ _ _ | (refine Blk.new_at _ _ _ _ ?_; simp; done) | refine Blk.alloc ?_ _ | refine Blk.drewN ?_ _ | refine Blk.drew ?_ | apply Blk.set | refine Blk.put ?_ (by assumption) (by first | (simp; done) | (simp; omega) | omega) | refine Blk.below ?_ (by assumption)) | (refine Blk.setAt ?_ (by first | (simp; done) | (simp; omega))) | rfl))) (by kernel_rfl) rfl (by first | (with_reducible assumption) | simp [Value.oneCell']) ?_; intro w8 hp_w8 K_w8))
  have E : ∀ {g : Nat} {cs : Array Value}, g ≠ w.heap.size → g ≠ b → Blk w6 g cs 5 → Blk w8 g cs 5 := fun h1 h2 h => (h.put hp_w7 h2).put hp_w8 h1
  have B8 : Below w.heap.size w w8 := below_put (below_put B6.out hp_w7 (by omega)) hp_w8 (Nat.le_refl _)
  exact bodyPost_ret (results_cell_row Try.results14 _ _ (w.heap.size) 41 _ (0, 0) _ rfl K_w8.out Try.underlying41 rfl (by kernel_rfl)) rfl ⟨V, by rw [HN.out], B8, by rw [HN.out]; exact MVF.out w8 (H1.out.below B8) (H2.out.below B8) (E n2 m2 P2.out) (E n3 m3 P3.out) (E n4 m4 P4.out)⟩
end Go.Proofs.Ytimccpmdgfneoaa
