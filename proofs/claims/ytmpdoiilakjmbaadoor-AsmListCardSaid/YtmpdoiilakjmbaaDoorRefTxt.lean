/- The document's text of an order. Conditions: the order is right; the library's variables hold what they were laid with. -/
import Derived.Test.YtmpdoiilakjmbaaDoorAsmTxt
import Derived.Test.YtmpdoiilakjmbaaDoorOrdOf
import Derived.Test.YtmpdoiilakjmbaaDoorOrdPl
import Derived.Test.YtmpdoiilakjmbaaDoorCkPl
import Derived.Deep.RegionLawGrows
namespace Go.Proofs.YtmpdoiilakjmbaaDoor
open Go.RowKit Go.Mq
set_option linter.unusedVariables false
set_option linter.unusedSimpArgs false
set_option maxHeartbeats 2000000
set_option maxRecDepth 100000
theorem gcutT {G : Prop} {F : Nat → Nat → Nat → World → Prop} (R : Nat → World → Prop) (h : (∀ g a b W, R g W → F g a b W) → G) (H : ∀ g a b W, R g W → F g a b W) : G := h H
def tlO (o : Od) (p : List UInt8) : List UInt8 := if p = [] then [] else 32 :: Lib.join (p.map (fmtO o)) [44, 32]
theorem join_snoc (xs : List (List UInt8)) (x s : List UInt8) (h : xs ≠ []) : Lib.join (xs ++ [x]) s = Lib.join xs s ++ s ++ x := by
  cases xs with
  | nil => exact absurd rfl h
  | cons y r =>
    rw [List.cons_append, Lib.join_cons, Lib.join_cons]
    simp [Lib.joinTail]
theorem tl_one (o : Od) (c : UInt8) : tlO o [c] = [32] ++ fmtO o c := by
  unfold tlO
  rw [if_neg (by simp)]
  simp [Lib.join_one]
theorem tl_snoc (o : Od) (p : List UInt8) (c : UInt8) (h : p ≠ []) : tlO o (p ++ [c]) = tlO o p ++ [44, 32] ++ fmtO o c := by
  unfold tlO
  rw [if_neg (by simp), if_neg h, List.map_append, List.map_cons, List.map_nil, join_snoc _ _ _ (by simpa using h)]
  simp
theorem hs_prt : ∀ k : Nat, k < 32 → k ≠ 30 → hsK k = prtL k := by decide +kernel
theorem nm_shm : ∀ k : Nat, k < 32 → k ≠ 30 → shmL.getD k [] = nmK k := by decide +kernel
theorem reft_any (K : Nat) (D S N V : Int) (hk : K < 32) (h30 : K ≠ 30) (hD : I64 D) (hS : I64 S) (hN : I64 N) (hV : I64 V) (w : World) (hL : Lk9 w) :
    Calls Tryd.prog 44 #[.agg #[.int .i64 K, .int .i64 D, .int .i64 S, .int .i64 N, .int .i64 V]] w fun e w' => e = .returned (.string ⟨(textO ⟨K, D, S, N, V⟩).toArray⟩) ∧ Below w.heap.size w w' := by
  have KA := Lib.hid kinds_any
  have HL := Lib.hid hL
  have hki : (K : Int) < 32 := by omega
  obtain ⟨m, hm⟩ : ∃ m, m = nmK K := ⟨_, rfl⟩
  obtain ⟨h, hh⟩ : ∃ h, h = hsK K := ⟨_, rfl⟩
  obtain ⟨y, hy⟩ : ∃ y, y = cyK K := ⟨_, rfl⟩
  have KA2 : Hid (∀ W, Lk9 W → Calls Tryd.prog 19 #[] W fun e w' => (∃ g cp, e = .returned (.slice (some ⟨g, 0, none⟩) 32 cp) ∧ g < w'.heap.size ∧ w'.cell? ⟨g, K * 3, none⟩ = some (.string ⟨m.toArray⟩) ∧ w'.cell? ⟨g, K * 3 + 1, none⟩ = some (.string ⟨h.toArray⟩) ∧ w'.cell? ⟨g, K * 3 + 2, none⟩ = some (.int .i64 y)) ∧ Below W.heap.size W w') := Lib.hid (fun W hW => (KA.out W hW).mono fun e w' ⟨⟨v, he, ho⟩, hb⟩ => by
    obtain ⟨g, cp, rfl, _, h2, hcs⟩ := kinds_cells ho
    obtain ⟨c0, c1, c2⟩ := hcs K hk
    exact ⟨⟨g, cp, he, h2, by rw [hm]; exact c0, by rw [hh]; exact c1, by rw [hy]; exact c2⟩, hb⟩)
  have ET : Hid (textO ⟨K, D, S, N, V⟩ = m ++ tlO ⟨K, D, S, N, V⟩ h) := Lib.hid (by
    unfold textO tlO
    simp only [Int.toNat_natCast]
    rw [hh, hs_prt K hk h30, hm, ← nm_shm K hk h30]
    unfold namO
    simp)
  have PA : Hid ((∀ c ∈ h, c = 100 ∨ c = 115 ∨ c = 110 ∨ c = 119) ∧ h.length ≤ 4) := Lib.hid (by rw [hh, hs_prt K hk h30]; exact prt_all2 K hk)
  have HM : Hid (m.length ≤ 4) := Lib.hid (by rw [hm, ← nm_shm K hk h30]; exact nm_len K hk)
  obtain ⟨O, hO⟩ : ∃ x : Od, x = ⟨K, D, S, N, V⟩ := ⟨_, rfl⟩
  rw [← hO] at ET ⊢
  replace hO := Lib.hid hO
  have bD := Lib.itoa_length_le D hD.1 hD.2
  have bS := Lib.itoa_length_le S hS.1 hS.2
  have bN := Lib.itoa_length_le N hN.1 hN.2
  have bV := Lib.itoa_length_le V hV.1 hV.2
  have BL := Lib.hid (And.intro bD (And.intro bS (And.intro bN bV)))
  have HIV := Lib.hid (And.intro hD (And.intro hS (And.intro hN hV)))
  clear hm hh hy KA hL bD bS bN bV hD hS hN hV
  go_enter Tryd.func44, Tryd.ntmps44
  go_wp2_with fail
  refine wp_mark (R := fun W => Below w.heap.size w W ∧ Hid (Blk W (w.heap.size) (#[.int .i64 K, .int .i64 D, .int .i64 S, .int .i64 N, .int .i64 V]) 33)) ⟨by repeat' (first | (with_reducible first | exact Below.refl _ _ | assumption | refine below_alloc ?_ _ | refine Below.drew ?_ | refine Go.Mq.below_drewN ?_ _ | refine below_then ?_ (by assumption) | refine below_put ?_ (by assumption) (by first | (simp; done) | (simp; omega) | omega) | refine Below.setCell ?_ ?_ _) | (simp; done) | (simp; omega) | omega), Lib.hid (by repeat' (first | (with_reducible first | exact Hid.out (by assumption) | exact Blk.new _ _ _ | (refine Blk.new_at _ _ _ _ ?_; simp; done) | refine Blk.alloc ?_ _ | refine Blk.drewN ?_ _ | refine Blk.drew ?_ | apply Blk.set | refine Blk.put ?_ (by assumption) (by first | (simp; done) | (simp; omega) | omega) | refine Blk.below ?_ (by assumption)) | (refine Blk.setAt ?_ (by first | (simp; done) | (simp; omega))) | rfl))⟩ ?_
  rintro w1 ⟨hbw1, Kw1_0⟩
  obtain ⟨lw1_0, cw1_0, fw1_0⟩ := Kw1_0.out.use
  apply gcutT (fun g X => w.heap.size + 1 ≤ g ∧ Below w.heap.size w X ∧ Hid (Blk X w.heap.size #[.int .i64 K, .int .i64 D, .int .i64 S, .int .i64 N, .int .i64 V] 33) ∧ Hid (Blk X g #[.string ⟨m.toArray⟩, .string ⟨h.toArray⟩, .int .i64 y] 43))
  · intro hk2
    refine wp_region_held_drew (S := fun X => Below w.heap.size w X ∧ Blk X w.heap.size #[.int .i64 K, .int .i64 D, .int .i64 S, .int .i64 N, .int .i64 V] 33) (by kernel_rfl) ⟨by repeat' (first | (with_reducible first | exact Below.refl _ _ | assumption | refine below_alloc ?_ _ | refine Below.drew ?_ | refine Go.Mq.below_drewN ?_ _ | refine below_then ?_ (by assumption) | refine below_put ?_ (by assumption) (by first | (simp; done) | (simp; omega) | omega) | refine Below.setCell ?_ ?_ _) | (simp; done) | (simp; omega) | omega), Kw1_0.out.drew⟩ (fun hS => ?_)
    refine wpAnyH_take (i := 1) (v := ?v1) rfl (by kernel_rfl) (by kernel_rfl) (by kernel_rfl) (fun _ _ _ h => h) (Or.inl ⟨by rfl, ?y1⟩) hS ?_
    case y1 => (intro w hSw; have cB := hSw.2.cell; go_simp; try with_reducible rfl)
    try simp only [List.getElem_toArray, List.getElem_cons_succ, List.getElem_cons_zero, Act.put, List.setIfInBounds_toArray, List.set_cons_zero, List.set_cons_succ]
    refine wpAnyH_take (i := 2) (v := ?v2) rfl (by kernel_rfl) (by kernel_rfl) (by kernel_rfl) (fun _ _ _ h => h) (Or.inl ⟨by rfl, ?y2⟩) hS ?_
    case y2 => (intro w hSw; have cB := hSw.2.cell; go_simp; try with_reducible rfl)
    try simp only [List.getElem_toArray, List.getElem_cons_succ, List.getElem_cons_zero, Act.put, List.setIfInBounds_toArray, List.set_cons_zero, List.set_cons_succ]
    refine wpAnyH_ready (rs := [0, 5]) (by kernel_rfl) (by simp) ?_
    refine AllReadyH.cons rfl (fun K hK => ?_) (AllReadyH.cons rfl (fun K hK => ?_) AllReadyH.nil)
    · go_simp
      refine (KA2.out _ (HL.out.below hS.1)).mono ?_
      rintro e w5 ⟨⟨gk, cp, rfl, hgk, c0, c1, c2⟩, hb_w5⟩
      try go_wp2_with fail
      have hw5 := hb_w5.size
      refine hK.out _ _ ⟨below_then hS.1 hb_w5, hS.2.below hb_w5⟩ (fun hS => ?_)
      clear hK K
      try simp only [List.getElem_toArray, List.getElem_cons_succ, List.getElem_cons_zero, Act.put, List.setIfInBounds_toArray, List.set_cons_zero, List.set_cons_succ]
      refine wpAnyH_take (i := 3) (v := ?v3a) rfl (by kernel_rfl) (by kernel_rfl) (by kernel_rfl) (fun _ _ _ h => h) (Or.inl ⟨by rfl, ?y3a⟩) hS ?_
      case y3a => (intro w hSw; have cB := hSw.2.cell; go_simp; try with_reducible rfl)
      try simp only [List.getElem_toArray, List.getElem_cons_succ, List.getElem_cons_zero, Act.put, List.setIfInBounds_toArray, List.set_cons_zero, List.set_cons_succ]
      refine wpAnyH_ready (rs := [4, 5]) (by kernel_rfl) (by simp) ?_
      refine AllReadyH.cons rfl (fun K hK => ?_) (AllReadyH.cons rfl (fun K hK => ?_) AllReadyH.nil)
      · go_simp
        refine hK.out _ _ hS (fun hS => ?_)
        clear hK K
        try simp only [List.getElem_toArray, List.getElem_cons_succ, List.getElem_cons_zero, Act.put, List.setIfInBounds_toArray, List.set_cons_zero, List.set_cons_succ]
        refine wpAnyH_ready (rs := [5]) (by kernel_rfl) (by simp) (AllReadyH.cons rfl (fun K hK => ?_) AllReadyH.nil)
        go_simp
        obtain ⟨g7, e7⟩ : ∃ g, g = w5.heap.size := ⟨_, rfl⟩
        have hg7 : w.heap.size + 1 ≤ g7 := by have := hS.2.lt; omega
        refine hK.out _ _ ⟨below_alloc hS.1 _, hS.2.alloc _⟩ (fun hS => ?_)
        clear hK K
        have a7 : Hid (Blk (w5.alloc (.cells #[.string ⟨#[]⟩, .string ⟨#[]⟩, .int .i64 0] 43)) g7 #[.string ⟨#[]⟩, .string ⟨#[]⟩, .int .i64 0] 43) := Lib.hid (Blk.new_at _ _ _ _ e7)
        rw [← e7]
        clear e7
        try simp only [List.getElem_toArray, List.getElem_cons_succ, List.getElem_cons_zero, Act.put, List.setIfInBounds_toArray, List.set_cons_zero, List.set_cons_succ]
        refine wpAnyH_ready (rs := [6]) (by kernel_rfl) (by simp) (AllReadyH.cons rfl (fun K hK => ?_) AllReadyH.nil)
        rw [if_pos (by rfl)]
        refine wp_store_row 43 (.tmp 3) (.tmp 11) rfl g7 #[.string ⟨m.toArray⟩, .string ⟨h.toArray⟩, .int .i64 y] rfl rfl 43 #[.string ⟨#[]⟩, .string ⟨#[]⟩, .int .i64 0] a7.out (by kernel_rfl) rfl (by simp [Value.oneCell']) ?_
        have K7 := Lib.hid (setRow_heap _ g7 _ #[.string ⟨m.toArray⟩, .string ⟨h.toArray⟩, .int .i64 y] 43 (0, 0) a7.out)
        refine hK.out _ _ ⟨below_put hS.1 (put_setRow _ g7 _) (by omega), hS.2.put (put_setRow _ g7 _) (by omega)⟩ (fun hS => ?_)
        clear hK K
        try simp only [List.getElem_toArray, List.getElem_cons_succ, List.getElem_cons_zero, Act.put, List.setIfInBounds_toArray, List.set_cons_zero, List.set_cons_succ]
        refine wpAnyH_done (by kernel_rfl) ?_ _
        refine pmark (R := fun X => Below w.heap.size w X ∧ Hid (Blk X w.heap.size #[.int .i64 K, .int .i64 D, .int .i64 S, .int .i64 N, .int .i64 V] 33) ∧ Hid (Blk X g7 #[.string ⟨m.toArray⟩, .string ⟨h.toArray⟩, .int .i64 y] 43)) (F := fun X => Exit.then _ _ Exit.normal _ X) ⟨hS.1, Lib.hid hS.2, K7⟩ ?_
        clear hS K7 a7
        try clear c0 c1 c2
        try clear hb_w5
        intro W hbW
        exact hk2 g7 gk cp W ⟨hg7, hbW⟩
      · go_simp
        obtain ⟨g7, e7⟩ : ∃ g, g = w5.heap.size := ⟨_, rfl⟩
        have hg7 : w.heap.size + 1 ≤ g7 := by have := hS.2.lt; omega
        refine hK.out _ _ ⟨below_alloc hS.1 _, hS.2.alloc _⟩ (fun hS => ?_)
        clear hK K
        have a7 : Hid (Blk (w5.alloc (.cells #[.string ⟨#[]⟩, .string ⟨#[]⟩, .int .i64 0] 43)) g7 #[.string ⟨#[]⟩, .string ⟨#[]⟩, .int .i64 0] 43) := Lib.hid (Blk.new_at _ _ _ _ e7)
        rw [← e7]
        replace c0 := cell_later (below_alloc (Below.refl _ (w5)) (.cells #[.string ⟨#[]⟩, .string ⟨#[]⟩, .int .i64 0] 43)) c0
        replace c1 := cell_later (below_alloc (Below.refl _ (w5)) (.cells #[.string ⟨#[]⟩, .string ⟨#[]⟩, .int .i64 0] 43)) c1
        replace c2 := cell_later (below_alloc (Below.refl _ (w5)) (.cells #[.string ⟨#[]⟩, .string ⟨#[]⟩, .int .i64 0] 43)) c2
        clear e7
        try simp only [List.getElem_toArray, List.getElem_cons_succ, List.getElem_cons_zero, Act.put, List.setIfInBounds_toArray, List.set_cons_zero, List.set_cons_succ]
        refine wpAnyH_ready (rs := [4]) (by kernel_rfl) (by simp) (AllReadyH.cons rfl (fun K hK => ?_) AllReadyH.nil)
        go_simp
        refine hK.out _ _ hS (fun hS => ?_)
        clear hK K
        try simp only [List.getElem_toArray, List.getElem_cons_succ, List.getElem_cons_zero, Act.put, List.setIfInBounds_toArray, List.set_cons_zero, List.set_cons_succ]
        refine wpAnyH_ready (rs := [6]) (by kernel_rfl) (by simp) (AllReadyH.cons rfl (fun K hK => ?_) AllReadyH.nil)
        rw [if_pos (by rfl)]
        refine wp_store_row 43 (.tmp 3) (.tmp 11) rfl g7 #[.string ⟨m.toArray⟩, .string ⟨h.toArray⟩, .int .i64 y] rfl rfl 43 #[.string ⟨#[]⟩, .string ⟨#[]⟩, .int .i64 0] a7.out (by kernel_rfl) rfl (by simp [Value.oneCell']) ?_
        have K7 := Lib.hid (setRow_heap _ g7 _ #[.string ⟨m.toArray⟩, .string ⟨h.toArray⟩, .int .i64 y] 43 (0, 0) a7.out)
        refine hK.out _ _ ⟨below_put hS.1 (put_setRow _ g7 _) (by omega), hS.2.put (put_setRow _ g7 _) (by omega)⟩ (fun hS => ?_)
        clear hK K
        try simp only [List.getElem_toArray, List.getElem_cons_succ, List.getElem_cons_zero, Act.put, List.setIfInBounds_toArray, List.set_cons_zero, List.set_cons_succ]
        refine wpAnyH_done (by kernel_rfl) ?_ _
        refine pmark (R := fun X => Below w.heap.size w X ∧ Hid (Blk X w.heap.size #[.int .i64 K, .int .i64 D, .int .i64 S, .int .i64 N, .int .i64 V] 33) ∧ Hid (Blk X g7 #[.string ⟨m.toArray⟩, .string ⟨h.toArray⟩, .int .i64 y] 43)) (F := fun X => Exit.then _ _ Exit.normal _ X) ⟨hS.1, Lib.hid hS.2, K7⟩ ?_
        clear hS K7 a7
        try clear c0 c1 c2
        try clear hb_w5
        intro W hbW
        exact hk2 g7 gk cp W ⟨hg7, hbW⟩
    · go_simp
      obtain ⟨g7, e7⟩ : ∃ g, g = w1.heap.size := ⟨_, rfl⟩
      have hg7 : w.heap.size + 1 ≤ g7 := by have := hS.2.lt; simp at this; omega
      refine hK.out _ _ ⟨below_alloc hS.1 _, hS.2.alloc _⟩ (fun hS => ?_)
      clear hK K
      refine pmark (R := fun X => (Below w.heap.size w X ∧ Blk X w.heap.size #[.int .i64 K, .int .i64 D, .int .i64 S, .int .i64 N, .int .i64 V] 33) ∧ Hid (Blk X g7 #[.string ⟨#[]⟩, .string ⟨#[]⟩, .int .i64 0] 43)) (F := fun X => wpAnyH _ _ _ _ _ _ _ _ X) ⟨hS, Lib.hid (Blk.new_at _ _ _ _ e7)⟩ ?_
      clear hS
      intro W7 hS
      obtain ⟨hS, a7⟩ := hS
      try rw [← e7]
      clear e7
      try simp only [List.getElem_toArray, List.getElem_cons_succ, List.getElem_cons_zero, Act.put, List.setIfInBounds_toArray, List.set_cons_zero, List.set_cons_succ]
      refine wpAnyH_ready (rs := [0]) (by kernel_rfl) (by simp) (AllReadyH.cons rfl (fun K hK => ?_) AllReadyH.nil)
      go_simp
      refine (KA2.out _ (HL.out.below hS.1)).mono ?_
      rintro e w5 ⟨⟨gk, cp, rfl, hgk, c0, c1, c2⟩, hb_w5⟩
      try go_wp2_with fail
      have hw5 := hb_w5.size
      refine hK.out _ _ ⟨below_then hS.1 hb_w5, hS.2.below hb_w5⟩ (fun hS => ?_)
      replace a7 := Lib.hid (a7.out.below hb_w5)
      clear hK K
      try simp only [List.getElem_toArray, List.getElem_cons_succ, List.getElem_cons_zero, Act.put, List.setIfInBounds_toArray, List.set_cons_zero, List.set_cons_succ]
      refine wpAnyH_take (i := 3) (v := ?v3b) rfl (by kernel_rfl) (by kernel_rfl) (by kernel_rfl) (fun _ _ _ h => h) (Or.inl ⟨by rfl, ?y3b⟩) hS ?_
      case y3b => (intro w hSw; have cB := hSw.2.cell; go_simp; try with_reducible rfl)
      try simp only [List.getElem_toArray, List.getElem_cons_succ, List.getElem_cons_zero, Act.put, List.setIfInBounds_toArray, List.set_cons_zero, List.set_cons_succ]
      refine wpAnyH_ready (rs := [4]) (by kernel_rfl) (by simp) (AllReadyH.cons rfl (fun K hK => ?_) AllReadyH.nil)
      go_simp
      refine hK.out _ _ hS (fun hS => ?_)
      clear hK K
      try simp only [List.getElem_toArray, List.getElem_cons_succ, List.getElem_cons_zero, Act.put, List.setIfInBounds_toArray, List.set_cons_zero, List.set_cons_succ]
      refine wpAnyH_ready (rs := [6]) (by kernel_rfl) (by simp) (AllReadyH.cons rfl (fun K hK => ?_) AllReadyH.nil)
      rw [if_pos (by rfl)]
      refine wp_store_row 43 (.tmp 3) (.tmp 11) rfl g7 #[.string ⟨m.toArray⟩, .string ⟨h.toArray⟩, .int .i64 y] rfl rfl 43 #[.string ⟨#[]⟩, .string ⟨#[]⟩, .int .i64 0] a7.out (by kernel_rfl) rfl (by simp [Value.oneCell']) ?_
      have K7 := Lib.hid (setRow_heap _ g7 _ #[.string ⟨m.toArray⟩, .string ⟨h.toArray⟩, .int .i64 y] 43 (0, 0) a7.out)
      refine hK.out _ _ ⟨below_put hS.1 (put_setRow _ g7 _) (by omega), hS.2.put (put_setRow _ g7 _) (by omega)⟩ (fun hS => ?_)
      clear hK K
      try simp only [List.getElem_toArray, List.getElem_cons_succ, List.getElem_cons_zero, Act.put, List.setIfInBounds_toArray, List.set_cons_zero, List.set_cons_succ]
      refine wpAnyH_done (by kernel_rfl) ?_ _
      refine pmark (R := fun X => Below w.heap.size w X ∧ Hid (Blk X w.heap.size #[.int .i64 K, .int .i64 D, .int .i64 S, .int .i64 N, .int .i64 V] 33) ∧ Hid (Blk X g7 #[.string ⟨m.toArray⟩, .string ⟨h.toArray⟩, .int .i64 y] 43)) (F := fun X => Exit.then _ _ Exit.normal _ X) ⟨hS.1, Lib.hid hS.2, K7⟩ ?_
      clear hS K7 a7
      try clear c0 c1 c2
      try clear hb_w5
      intro W hbW
      exact hk2 g7 gk cp W ⟨hg7, hbW⟩
  intro g7 gk cp w6 ⟨hg7, hb6, KB6, KR6⟩
  obtain ⟨lB6, cB6, fB6⟩ := KB6.out.use
  obtain ⟨lR6, cR6, fR6⟩ := KR6.out.use
  clear Kw1_0 cw1_0 fw1_0 lw1_0 hbw1
  go_wp2_with fail
  have FI := Lib.hid (World.iter_heap w6 ⟨h.toArray⟩ 0)
  have KB := Lib.hid (KB6.out.alloc (.stringIter ⟨h.toArray⟩ 0))
  change Hid (Blk (w6.iter ⟨h.toArray⟩ 0) _ _ _) at KB
  have hbw3 : Below w.heap.size w (w6.iter ⟨h.toArray⟩ 0) := below_alloc hb6 _
  have GN : Hid (w.heap.size < w6.heap.size) := Lib.hid lB6
  obtain ⟨W3, hW3⟩ : ∃ W3, W3 = w6.iter ⟨h.toArray⟩ 0 := ⟨_, rfl⟩
  rw [← hW3] at FI KB hbw3 ⊢
  obtain ⟨M, eM⟩ : ∃ M, M = w6.heap.size := ⟨_, rfl⟩
  rw [← eM] at FI GN ⊢
  clear hW3 eM KB6 KR6 cB6 fB6 cR6 fR6 lB6 lR6 hb6
  go_loopw [4] (fun v wr => ∃ (p r : List UInt8), h = p ++ r ∧ v = .string ⟨(m ++ tlO O p).toArray⟩ ∧ Hid ((m ++ tlO O p).length ≤ 10 + 40 * p.length) ∧ Hid (wr.heap[M]? = some (.stringIter ⟨h.toArray⟩ p.length) ∧ Blk wr w.heap.size #[.int .i64 K, .int .i64 D, .int .i64 S, .int .i64 N, .int .i64 V] 33) ∧ Below w.heap.size w wr) (fun _ wr => h.length - wr.iterPos M)
  case atStart => exact ⟨[], h, rfl, by simp [tlO], Lib.hid (by have := HM.out; simp [tlO]; omega), Lib.hid ⟨FI.out, KB.out⟩, hbw3⟩
  case round =>
    obtain ⟨p, r, hpr, rfl, hln, hx, hb⟩ := hrel
    have hit0 := hx.out.1
    cases r with
    | nil =>
      rw [List.append_nil] at hpr
      subst hpr
      have hnx : ∀ ty, (Instr.next (.pointer (some ⟨M, 0, none⟩)) true ty).run Tryd.prog wr = _ := fun ty => next_end wr M h ty hit0
      clear hx hit0
      go_wp2
      go_ret
      exact ⟨by rw [ET.out]; rfl, hb⟩
    | cons c r =>
      have hc := PA.out.1 c (by rw [hpr]; simp)
      have hit1 : wr.heap[M]? = some (.stringIter ⟨(p ++ c :: r).toArray⟩ p.length) := by rw [← hpr]; exact hit0
      have hnx : ∀ ty, (Instr.next (.pointer (some ⟨M, 0, none⟩)) true ty).run Tryd.prog wr = _ := fun ty => next_mid wr M p r c ty hit1 (by rcases hc with rfl | rfl | rfl | rfl <;> decide)
      rw [← hpr] at hnx
      have hP := put_iterAt wr M ⟨h.toArray⟩ (p.length + 1)
      have hit2 := Lib.iterAt_heap wr M ⟨h.toArray⟩ p.length (p.length + 1) hit0
      obtain ⟨W1, hW1⟩ : ∃ W1, W1 = wr.iterAt M ⟨h.toArray⟩ (p.length + 1) := ⟨_, rfl⟩
      rw [← hW1] at hnx hP hit2
      have K9 := Lib.hid (hx.out.2.put hP (by have := GN.out; omega))
      have hb1 : Below w.heap.size w W1 := below_put hb hP (by have := GN.out; omega)
      have hz1 : M < W1.heap.size := (Array.getElem?_eq_some_iff.1 hit2).1
      have HP0 := Lib.hid (iterPos_eq hit0)
      have HIT := Lib.hid hit2
      have HLN : Hid (h.length = p.length + (r.length + 1)) := Lib.hid (by rw [hpr]; simp)
      have HPL := Lib.hid hpr
      obtain ⟨l9, c9, f9⟩ := K9.out.use
      have TS : Hid (m ++ tlO O (p ++ [c]) = (m ++ tlO O p) ++ (if p = [] then [32] else [44, 32]) ++ fmtO O c) := Lib.hid (by
        split
        · next e => subst e; rw [List.nil_append, tl_one]; simp [tlO]
        · next e => rw [tl_snoc O p c e]; simp)
      obtain ⟨s0, hs0⟩ : ∃ x, x = m ++ tlO O p := ⟨_, rfl⟩
      rw [← hs0] at TS hln ⊢
      have HS0 := Lib.hid hs0
      have hmn : Hid (p.length ≤ 4) := Lib.hid (by have := PA.out.2; have := HLN.out; omega)
      clear hW1 hx hit0 hit1 hit2 hP hb hpr hs0
      cases p with
      | nil =>
        rw [if_pos rfl] at TS
        have hmin : (([] : List UInt8).length : Int) = 0 := rfl
        have hmin2 : min (0 : Int) 1 = 0 := rfl
        have hmin3 : min (1 : Int) 0 = 0 := rfl
        have n0 : ¬ (9223372036854775807 < s0.length + 1) := by have := hln.out; simp at this; omega
        have e0 : (⟨s0.toArray⟩ : ByteArray) ++ ⟨#[32]⟩ = ⟨(s0 ++ [32]).toArray⟩ := str_app2 s0 [32]
        rcases hc with rfl | rfl | rfl | rfl
        · have cu : ((100 : UInt8).toNat : Int) = 100 := rfl
          have IT := Lib.hid (itoa_any D HIV.out.1)
          have FM : Hid (fmtO O 100 = 114 :: Lib.itoa D) := Lib.hid (by rw [hO.out]; rfl)
          have LB : Hid ((Lib.itoa D).length ≤ 21) := Lib.hid (BL.out.1)
          obtain ⟨t, ht⟩ : ∃ x, x = Lib.itoa D := ⟨_, rfl⟩
          rw [← ht] at IT FM LB
          clear ht
          have n1 : ¬ (9223372036854775807 < 1 + t.length) := by have := LB.out; omega
          have n2 : ¬ (9223372036854775807 < s0.length + 1 + (1 + t.length)) := by have := LB.out; have := hln.out; simp at this; omega
          have HBM := Lib.hid (below_alloc (Below.refl W1.heap.size W1) (.cells #[.string ⟨#[32]⟩, .string ⟨#[44, 32]⟩] 9))
          go_wp2_with fail
          refine (IT.out _ (HL.out.lk.below (hb1.trans (HBM.out.mono hb1.size)))).mono ?_
          rintro e w5 ⟨rfl, hb5⟩
          have B6 : Below W1.heap.size W1 w5 := HBM.out.trans (hb5.mono HBM.out.size)
          have B5 : Below w.heap.size w w5 := below_then hb1 B6
          have K5 := Lib.hid (K9.out.below B6)
          have I5 : Hid (w5.heap[M]? = some (.stringIter ⟨h.toArray⟩ (([] : List UInt8).length + 1))) := Lib.hid ((B6.block M (by omega)).trans HIT.out)
          have e1 : (⟨#[114]⟩ : ByteArray) ++ ⟨t.toArray⟩ = ⟨(114 :: t).toArray⟩ := str_app2 [114] t
          have e2 : (⟨(s0 ++ [32]).toArray⟩ : ByteArray) ++ ⟨(114 :: t).toArray⟩ = ⟨(s0 ++ [32] ++ (114 :: t)).toArray⟩ := str_app2 _ _
          clear hnx c9 f9 l9 hb5 B6
          go_wp2_with fail
          go_roundw
          case rel => exact ⟨([] : List UInt8) ++ [100], r, by rw [List.append_assoc]; exact HPL.out, by rw [TS.out, FM.out]; simp, Lib.hid (by have := hln.out; have := LB.out; rw [TS.out, FM.out]; simp at *; omega), Lib.hid ⟨by rw [List.length_append]; exact I5.out, K5.out⟩, B5⟩
          case measure => rw [HP0.out, iterPos_eq (p := ([] : List UInt8).length + 1) (s := ⟨h.toArray⟩) I5.out]; have := HLN.out; omega
        · have cu : ((115 : UInt8).toNat : Int) = 115 := rfl
          have IT := Lib.hid (itoa_any S HIV.out.2.1)
          have FM : Hid (fmtO O 115 = 114 :: Lib.itoa S) := Lib.hid (by rw [hO.out]; rfl)
          have LB : Hid ((Lib.itoa S).length ≤ 21) := Lib.hid (BL.out.2.1)
          obtain ⟨t, ht⟩ : ∃ x, x = Lib.itoa S := ⟨_, rfl⟩
          rw [← ht] at IT FM LB
          clear ht
          have n1 : ¬ (9223372036854775807 < 1 + t.length) := by have := LB.out; omega
          have n2 : ¬ (9223372036854775807 < s0.length + 1 + (1 + t.length)) := by have := LB.out; have := hln.out; simp at this; omega
          have HBM := Lib.hid (below_alloc (Below.refl W1.heap.size W1) (.cells #[.string ⟨#[32]⟩, .string ⟨#[44, 32]⟩] 9))
          go_wp2_with fail
          refine (IT.out _ (HL.out.lk.below (hb1.trans (HBM.out.mono hb1.size)))).mono ?_
          rintro e w5 ⟨rfl, hb5⟩
          have B6 : Below W1.heap.size W1 w5 := HBM.out.trans (hb5.mono HBM.out.size)
          have B5 : Below w.heap.size w w5 := below_then hb1 B6
          have K5 := Lib.hid (K9.out.below B6)
          have I5 : Hid (w5.heap[M]? = some (.stringIter ⟨h.toArray⟩ (([] : List UInt8).length + 1))) := Lib.hid ((B6.block M (by omega)).trans HIT.out)
          have e1 : (⟨#[114]⟩ : ByteArray) ++ ⟨t.toArray⟩ = ⟨(114 :: t).toArray⟩ := str_app2 [114] t
          have e2 : (⟨(s0 ++ [32]).toArray⟩ : ByteArray) ++ ⟨(114 :: t).toArray⟩ = ⟨(s0 ++ [32] ++ (114 :: t)).toArray⟩ := str_app2 _ _
          clear hnx c9 f9 l9 hb5 B6
          go_wp2_with fail
          go_roundw
          case rel => exact ⟨([] : List UInt8) ++ [115], r, by rw [List.append_assoc]; exact HPL.out, by rw [TS.out, FM.out]; simp, Lib.hid (by have := hln.out; have := LB.out; rw [TS.out, FM.out]; simp at *; omega), Lib.hid ⟨by rw [List.length_append]; exact I5.out, K5.out⟩, B5⟩
          case measure => rw [HP0.out, iterPos_eq (p := ([] : List UInt8).length + 1) (s := ⟨h.toArray⟩) I5.out]; have := HLN.out; omega
        · have cu : ((110 : UInt8).toNat : Int) = 110 := rfl
          have IT := Lib.hid (itoa_any N HIV.out.2.2.1)
          have FM : Hid (fmtO O 110 = Lib.itoa N) := Lib.hid (by rw [hO.out]; rfl)
          have LB : Hid ((Lib.itoa N).length ≤ 21) := Lib.hid (BL.out.2.2.1)
          obtain ⟨t, ht⟩ : ∃ x, x = Lib.itoa N := ⟨_, rfl⟩
          rw [← ht] at IT FM LB
          clear ht
          have n2 : ¬ (9223372036854775807 < s0.length + 1 + t.length) := by have := LB.out; have := hln.out; simp at this; omega
          have HBM := Lib.hid (below_alloc (Below.refl W1.heap.size W1) (.cells #[.string ⟨#[32]⟩, .string ⟨#[44, 32]⟩] 9))
          go_wp2_with fail
          refine (IT.out _ (HL.out.lk.below (hb1.trans (HBM.out.mono hb1.size)))).mono ?_
          rintro e w5 ⟨rfl, hb5⟩
          have B6 : Below W1.heap.size W1 w5 := HBM.out.trans (hb5.mono HBM.out.size)
          have B5 : Below w.heap.size w w5 := below_then hb1 B6
          have K5 := Lib.hid (K9.out.below B6)
          have I5 : Hid (w5.heap[M]? = some (.stringIter ⟨h.toArray⟩ (([] : List UInt8).length + 1))) := Lib.hid ((B6.block M (by omega)).trans HIT.out)
          have e2 : (⟨(s0 ++ [32]).toArray⟩ : ByteArray) ++ ⟨t.toArray⟩ = ⟨(s0 ++ [32] ++ t).toArray⟩ := str_app2 _ _
          clear hnx c9 f9 l9 hb5 B6
          go_wp2_with fail
          go_roundw
          case rel => exact ⟨([] : List UInt8) ++ [110], r, by rw [List.append_assoc]; exact HPL.out, by rw [TS.out, FM.out]; simp, Lib.hid (by have := hln.out; have := LB.out; rw [TS.out, FM.out]; simp at *; omega), Lib.hid ⟨by rw [List.length_append]; exact I5.out, K5.out⟩, B5⟩
          case measure => rw [HP0.out, iterPos_eq (p := ([] : List UInt8).length + 1) (s := ⟨h.toArray⟩) I5.out]; have := HLN.out; omega
        · have cu : ((119 : UInt8).toNat : Int) = 119 := rfl
          have IT := Lib.hid (itoa_any V HIV.out.2.2.2)
          have FM : Hid (fmtO O 119 = Lib.itoa V) := Lib.hid (by rw [hO.out]; rfl)
          have LB : Hid ((Lib.itoa V).length ≤ 21) := Lib.hid (BL.out.2.2.2)
          obtain ⟨t, ht⟩ : ∃ x, x = Lib.itoa V := ⟨_, rfl⟩
          rw [← ht] at IT FM LB
          clear ht
          have n2 : ¬ (9223372036854775807 < s0.length + 1 + t.length) := by have := LB.out; have := hln.out; simp at this; omega
          have HBM := Lib.hid (below_alloc (Below.refl W1.heap.size W1) (.cells #[.string ⟨#[32]⟩, .string ⟨#[44, 32]⟩] 9))
          go_wp2_with fail
          refine (IT.out _ (HL.out.lk.below (hb1.trans (HBM.out.mono hb1.size)))).mono ?_
          rintro e w5 ⟨rfl, hb5⟩
          have B6 : Below W1.heap.size W1 w5 := HBM.out.trans (hb5.mono HBM.out.size)
          have B5 : Below w.heap.size w w5 := below_then hb1 B6
          have K5 := Lib.hid (K9.out.below B6)
          have I5 : Hid (w5.heap[M]? = some (.stringIter ⟨h.toArray⟩ (([] : List UInt8).length + 1))) := Lib.hid ((B6.block M (by omega)).trans HIT.out)
          have e2 : (⟨(s0 ++ [32]).toArray⟩ : ByteArray) ++ ⟨t.toArray⟩ = ⟨(s0 ++ [32] ++ t).toArray⟩ := str_app2 _ _
          clear hnx c9 f9 l9 hb5 B6
          go_wp2_with fail
          go_roundw
          case rel => exact ⟨([] : List UInt8) ++ [119], r, by rw [List.append_assoc]; exact HPL.out, by rw [TS.out, FM.out]; simp, Lib.hid (by have := hln.out; have := LB.out; rw [TS.out, FM.out]; simp at *; omega), Lib.hid ⟨by rw [List.length_append]; exact I5.out, K5.out⟩, B5⟩
          case measure => rw [HP0.out, iterPos_eq (p := ([] : List UInt8).length + 1) (s := ⟨h.toArray⟩) I5.out]; have := HLN.out; omega
      | cons p0 pr =>
        rw [if_neg (by simp)] at TS
        obtain ⟨pq, hpq⟩ : ∃ x : Nat, x = (p0 :: pr).length := ⟨_, rfl⟩
        have hq1 : 1 ≤ (pq : Int) := by rw [hpq]; simp; omega
        have hmin2 : min (pq : Int) 1 = 1 := by omega
        have hmin3 : min (1 : Int) (pq : Int) = 1 := by omega
        have hq2 : Hid ((pq : Int) ≤ 4) := Lib.hid (by rw [hpq]; have := hmn.out; omega)
        rw [← hpq] at hnx HIT HLN hln HP0
        replace hpq := Lib.hid hpq
        have n0 : ¬ (9223372036854775807 < s0.length + 2) := by have := hln.out; have := hq2.out; omega
        have e0 : (⟨s0.toArray⟩ : ByteArray) ++ ⟨#[44, 32]⟩ = ⟨(s0 ++ [44, 32]).toArray⟩ := str_app2 s0 [44, 32]
        rcases hc with rfl | rfl | rfl | rfl
        · have cu : ((100 : UInt8).toNat : Int) = 100 := rfl
          have IT := Lib.hid (itoa_any D HIV.out.1)
          have FM : Hid (fmtO O 100 = 114 :: Lib.itoa D) := Lib.hid (by rw [hO.out]; rfl)
          have LB : Hid ((Lib.itoa D).length ≤ 21) := Lib.hid (BL.out.1)
          obtain ⟨t, ht⟩ : ∃ x, x = Lib.itoa D := ⟨_, rfl⟩
          rw [← ht] at IT FM LB
          clear ht
          have n1 : ¬ (9223372036854775807 < 1 + t.length) := by have := LB.out; omega
          have n2 : ¬ (9223372036854775807 < s0.length + 2 + (1 + t.length)) := by have := LB.out; have := hln.out; have := hq2.out; omega
          have HBM := Lib.hid (below_alloc (Below.refl W1.heap.size W1) (.cells #[.string ⟨#[32]⟩, .string ⟨#[44, 32]⟩] 9))
          go_wp2_with fail
          refine (IT.out _ (HL.out.lk.below (hb1.trans (HBM.out.mono hb1.size)))).mono ?_
          rintro e w5 ⟨rfl, hb5⟩
          have B6 : Below W1.heap.size W1 w5 := HBM.out.trans (hb5.mono HBM.out.size)
          have B5 : Below w.heap.size w w5 := below_then hb1 B6
          have K5 := Lib.hid (K9.out.below B6)
          have I5 : Hid (w5.heap[M]? = some (.stringIter ⟨h.toArray⟩ (pq + 1))) := Lib.hid ((B6.block M (by omega)).trans HIT.out)
          have e1 : (⟨#[114]⟩ : ByteArray) ++ ⟨t.toArray⟩ = ⟨(114 :: t).toArray⟩ := str_app2 [114] t
          have e2 : (⟨(s0 ++ [44, 32]).toArray⟩ : ByteArray) ++ ⟨(114 :: t).toArray⟩ = ⟨(s0 ++ [44, 32] ++ (114 :: t)).toArray⟩ := str_app2 _ _
          clear hnx c9 f9 l9 hb5 B6
          go_wp2_with fail
          go_roundw
          case rel => exact ⟨(p0 :: pr) ++ [100], r, by rw [List.append_assoc]; exact HPL.out, by rw [TS.out, FM.out]; simp, Lib.hid (by have := hln.out; have := LB.out; rw [TS.out, FM.out]; have := hpq.out; simp at *; omega), Lib.hid ⟨by rw [List.length_append]; rw [← hpq.out]; exact I5.out, K5.out⟩, B5⟩
          case measure => rw [HP0.out, iterPos_eq (p := pq + 1) (s := ⟨h.toArray⟩) I5.out]; have := HLN.out; omega
        · have cu : ((115 : UInt8).toNat : Int) = 115 := rfl
          have IT := Lib.hid (itoa_any S HIV.out.2.1)
          have FM : Hid (fmtO O 115 = 114 :: Lib.itoa S) := Lib.hid (by rw [hO.out]; rfl)
          have LB : Hid ((Lib.itoa S).length ≤ 21) := Lib.hid (BL.out.2.1)
          obtain ⟨t, ht⟩ : ∃ x, x = Lib.itoa S := ⟨_, rfl⟩
          rw [← ht] at IT FM LB
          clear ht
          have n1 : ¬ (9223372036854775807 < 1 + t.length) := by have := LB.out; omega
          have n2 : ¬ (9223372036854775807 < s0.length + 2 + (1 + t.length)) := by have := LB.out; have := hln.out; have := hq2.out; omega
          have HBM := Lib.hid (below_alloc (Below.refl W1.heap.size W1) (.cells #[.string ⟨#[32]⟩, .string ⟨#[44, 32]⟩] 9))
          go_wp2_with fail
          refine (IT.out _ (HL.out.lk.below (hb1.trans (HBM.out.mono hb1.size)))).mono ?_
          rintro e w5 ⟨rfl, hb5⟩
          have B6 : Below W1.heap.size W1 w5 := HBM.out.trans (hb5.mono HBM.out.size)
          have B5 : Below w.heap.size w w5 := below_then hb1 B6
          have K5 := Lib.hid (K9.out.below B6)
          have I5 : Hid (w5.heap[M]? = some (.stringIter ⟨h.toArray⟩ (pq + 1))) := Lib.hid ((B6.block M (by omega)).trans HIT.out)
          have e1 : (⟨#[114]⟩ : ByteArray) ++ ⟨t.toArray⟩ = ⟨(114 :: t).toArray⟩ := str_app2 [114] t
          have e2 : (⟨(s0 ++ [44, 32]).toArray⟩ : ByteArray) ++ ⟨(114 :: t).toArray⟩ = ⟨(s0 ++ [44, 32] ++ (114 :: t)).toArray⟩ := str_app2 _ _
          clear hnx c9 f9 l9 hb5 B6
          go_wp2_with fail
          go_roundw
          case rel => exact ⟨(p0 :: pr) ++ [115], r, by rw [List.append_assoc]; exact HPL.out, by rw [TS.out, FM.out]; simp, Lib.hid (by have := hln.out; have := LB.out; rw [TS.out, FM.out]; have := hpq.out; simp at *; omega), Lib.hid ⟨by rw [List.length_append]; rw [← hpq.out]; exact I5.out, K5.out⟩, B5⟩
          case measure => rw [HP0.out, iterPos_eq (p := pq + 1) (s := ⟨h.toArray⟩) I5.out]; have := HLN.out; omega
        · have cu : ((110 : UInt8).toNat : Int) = 110 := rfl
          have IT := Lib.hid (itoa_any N HIV.out.2.2.1)
          have FM : Hid (fmtO O 110 = Lib.itoa N) := Lib.hid (by rw [hO.out]; rfl)
          have LB : Hid ((Lib.itoa N).length ≤ 21) := Lib.hid (BL.out.2.2.1)
          obtain ⟨t, ht⟩ : ∃ x, x = Lib.itoa N := ⟨_, rfl⟩
          rw [← ht] at IT FM LB
          clear ht
          have n2 : ¬ (9223372036854775807 < s0.length + 2 + t.length) := by have := LB.out; have := hln.out; have := hq2.out; omega
          have HBM := Lib.hid (below_alloc (Below.refl W1.heap.size W1) (.cells #[.string ⟨#[32]⟩, .string ⟨#[44, 32]⟩] 9))
          go_wp2_with fail
          refine (IT.out _ (HL.out.lk.below (hb1.trans (HBM.out.mono hb1.size)))).mono ?_
          rintro e w5 ⟨rfl, hb5⟩
          have B6 : Below W1.heap.size W1 w5 := HBM.out.trans (hb5.mono HBM.out.size)
          have B5 : Below w.heap.size w w5 := below_then hb1 B6
          have K5 := Lib.hid (K9.out.below B6)
          have I5 : Hid (w5.heap[M]? = some (.stringIter ⟨h.toArray⟩ (pq + 1))) := Lib.hid ((B6.block M (by omega)).trans HIT.out)
          have e2 : (⟨(s0 ++ [44, 32]).toArray⟩ : ByteArray) ++ ⟨t.toArray⟩ = ⟨(s0 ++ [44, 32] ++ t).toArray⟩ := str_app2 _ _
          clear hnx c9 f9 l9 hb5 B6
          go_wp2_with fail
          go_roundw
          case rel => exact ⟨(p0 :: pr) ++ [110], r, by rw [List.append_assoc]; exact HPL.out, by rw [TS.out, FM.out]; simp, Lib.hid (by have := hln.out; have := LB.out; rw [TS.out, FM.out]; have := hpq.out; simp at *; omega), Lib.hid ⟨by rw [List.length_append]; rw [← hpq.out]; exact I5.out, K5.out⟩, B5⟩
          case measure => rw [HP0.out, iterPos_eq (p := pq + 1) (s := ⟨h.toArray⟩) I5.out]; have := HLN.out; omega
        · have cu : ((119 : UInt8).toNat : Int) = 119 := rfl
          have IT := Lib.hid (itoa_any V HIV.out.2.2.2)
          have FM : Hid (fmtO O 119 = Lib.itoa V) := Lib.hid (by rw [hO.out]; rfl)
          have LB : Hid ((Lib.itoa V).length ≤ 21) := Lib.hid (BL.out.2.2.2)
          obtain ⟨t, ht⟩ : ∃ x, x = Lib.itoa V := ⟨_, rfl⟩
          rw [← ht] at IT FM LB
          clear ht
          have n2 : ¬ (9223372036854775807 < s0.length + 2 + t.length) := by have := LB.out; have := hln.out; have := hq2.out; omega
          have HBM := Lib.hid (below_alloc (Below.refl W1.heap.size W1) (.cells #[.string ⟨#[32]⟩, .string ⟨#[44, 32]⟩] 9))
          go_wp2_with fail
          refine (IT.out _ (HL.out.lk.below (hb1.trans (HBM.out.mono hb1.size)))).mono ?_
          rintro e w5 ⟨rfl, hb5⟩
          have B6 : Below W1.heap.size W1 w5 := HBM.out.trans (hb5.mono HBM.out.size)
          have B5 : Below w.heap.size w w5 := below_then hb1 B6
          have K5 := Lib.hid (K9.out.below B6)
          have I5 : Hid (w5.heap[M]? = some (.stringIter ⟨h.toArray⟩ (pq + 1))) := Lib.hid ((B6.block M (by omega)).trans HIT.out)
          have e2 : (⟨(s0 ++ [44, 32]).toArray⟩ : ByteArray) ++ ⟨t.toArray⟩ = ⟨(s0 ++ [44, 32] ++ t).toArray⟩ := str_app2 _ _
          clear hnx c9 f9 l9 hb5 B6
          go_wp2_with fail
          go_roundw
          case rel => exact ⟨(p0 :: pr) ++ [119], r, by rw [List.append_assoc]; exact HPL.out, by rw [TS.out, FM.out]; simp, Lib.hid (by have := hln.out; have := LB.out; rw [TS.out, FM.out]; have := hpq.out; simp at *; omega), Lib.hid ⟨by rw [List.length_append]; rw [← hpq.out]; exact I5.out, K5.out⟩, B5⟩
          case measure => rw [HP0.out, iterPos_eq (p := pq + 1) (s := ⟨h.toArray⟩) I5.out]; have := HLN.out; omega
end Go.Proofs.YtmpdoiilakjmbaaDoor
