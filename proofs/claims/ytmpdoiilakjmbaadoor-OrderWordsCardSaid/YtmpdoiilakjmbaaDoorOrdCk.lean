/- The document checks an order. Conditions: the library's variables hold what they were laid with. -/
import Derived.Test.YtmpdoiilakjmbaaDoorOrdOf
import Derived.Test.YtmpdoiilakjmbaaDoorOrdIs
import Derived.Test.YtmpdoiilakjmbaaDoorOrderChk
import Derived.Deep.RegionLawGrows
namespace Go.Proofs.YtmpdoiilakjmbaaDoor
open Go.RowKit Go.Mq
set_option linter.unusedVariables false
set_option linter.unusedSimpArgs false
set_option maxHeartbeats 2000000
set_option maxRecDepth 100000
theorem contains_h (h : List UInt8) (hl : h.length ≤ 100) (c : UInt8) : ∀ W, Lk W → Calls Tryd.prog 37 #[.string ⟨h.toArray⟩, .string ⟨#[c]⟩] W fun e w' => e = .returned (.bool (Lib.contains h [c])) ∧ w' = W := fun W hW => by
  obtain ⟨m, hm⟩ := hW.mx
  have := Tryd.strings_Contains ⟨h.toArray⟩ ⟨#[c]⟩ m W (by rw [Lib.size_eq]; simp; omega) hm
  simpa using this
theorem gcutK {G : Prop} {F : Nat → Nat → Nat → World → Prop} (R : Nat → World → Prop) (h : (∀ g a b W, R g W → F g a b W) → G) (H : ∀ g a b W, R g W → F g a b W) : G := h H
theorem ck_no (op D S N V : Int) (h : op < 0 ∨ 31 < op ∨ op = 30) (w : World) : Calls Tryd.prog 15 #[.agg #[.int .i64 op, .int .i64 D, .int .i64 S, .int .i64 N, .int .i64 V]] w fun e w' => e = .returned (.int .i64 5) ∧ Below w.heap.size w w' := by
  have I := Lib.hid (isop_no op h)
  clear h
  go_enter Tryd.func15, Tryd.ntmps15
  go_wp2_with fail
  refine (I.out _).mono ?_
  rintro e w1 ⟨rfl, hb1⟩
  go_wp2
  go_ret
  exact ⟨rfl, by repeat' (first | (with_reducible first | exact Below.refl _ _ | assumption | refine below_alloc ?_ _ | refine Below.drew ?_ | refine Go.Mq.below_drewN ?_ _ | refine below_then ?_ (by assumption) | refine below_put ?_ (by assumption) (by first | (simp; done) | (simp; omega) | omega) | refine Below.setCell ?_ ?_ _) | (simp; done) | (simp; omega) | omega)⟩
theorem ck_yes (K : Nat) (D S N V : Int) (hk : K < 32) (h30 : K ≠ 30) (w : World) (hL : Lk9 w) : Calls Tryd.prog 15 #[.agg #[.int .i64 K, .int .i64 D, .int .i64 S, .int .i64 N, .int .i64 V]] w fun e w' => e = .returned (.int .i64 (if (partV (Lib.contains (hsK K) [100]) D 0 7 && partV (Lib.contains (hsK K) [115]) S 0 7 && partV (Lib.contains (hsK K) [110]) N (if shK K then 0 else -16) 15 && partV (Lib.contains (hsK K) [119]) V 0 65535) = true then 0 else 3)) ∧ Below w.heap.size w w' := by
  have I := Lib.hid (isop_yes K (by omega) (by omega) (by omega))
  have KA := Lib.hid kinds_any
  have HL := Lib.hid hL
  have hki : (K : Int) < 32 := by omega
  clear hL
  obtain ⟨m, hm⟩ : ∃ m, m = nmK K := ⟨_, rfl⟩
  obtain ⟨h, hh⟩ : ∃ h, h = hsK K := ⟨_, rfl⟩
  obtain ⟨y, hy⟩ : ∃ y, y = cyK K := ⟨_, rfl⟩
  have KA2 : Hid (∀ W, Lk9 W → Calls Tryd.prog 19 #[] W fun e w' => (∃ g cp, e = .returned (.slice (some ⟨g, 0, none⟩) 32 cp) ∧ g < w'.heap.size ∧ w'.cell? ⟨g, K * 3, none⟩ = some (.string ⟨m.toArray⟩) ∧ w'.cell? ⟨g, K * 3 + 1, none⟩ = some (.string ⟨h.toArray⟩) ∧ w'.cell? ⟨g, K * 3 + 2, none⟩ = some (.int .i64 y)) ∧ Below W.heap.size W w') := Lib.hid (fun W hW => (KA.out W hW).mono fun e w' ⟨⟨v, he, ho⟩, hb⟩ => by
    obtain ⟨g, cp, rfl, _, h2, hcs⟩ := kinds_cells ho
    obtain ⟨c0, c1, c2⟩ := hcs K hk
    exact ⟨⟨g, cp, he, h2, by rw [hm]; exact c0, by rw [hh]; exact c1, by rw [hy]; exact c2⟩, hb⟩)
  have CT := contains_h h (by rw [hh]; have := hs_len K hk; omega)
  obtain ⟨bD, ebD⟩ : ∃ b, b = Lib.contains h [100] := ⟨_, rfl⟩
  have CT0 := CT 100
  rw [← ebD] at CT0
  replace CT0 := Lib.hid CT0
  obtain ⟨bS, ebS⟩ : ∃ b, b = Lib.contains h [115] := ⟨_, rfl⟩
  have CT1 := CT 115
  rw [← ebS] at CT1
  replace CT1 := Lib.hid CT1
  obtain ⟨bN, ebN⟩ : ∃ b, b = Lib.contains h [110] := ⟨_, rfl⟩
  have CT2 := CT 110
  rw [← ebN] at CT2
  replace CT2 := Lib.hid CT2
  obtain ⟨bW, ebW⟩ : ∃ b, b = Lib.contains h [119] := ⟨_, rfl⟩
  have CT3 := CT 119
  rw [← ebW] at CT3
  replace CT3 := Lib.hid CT3
  have HLO : Hid (shK K = (m == [115, 104, 108] || m == [115, 104, 114])) := Lib.hid (by rw [hm]; rfl)
  obtain ⟨R, hR0⟩ : ∃ R : Int, R = if (partV bD D 0 7 && partV bS S 0 7 && partV bN N (if shK K then 0 else -16) 15 && partV bW V 0 65535) = true then 0 else 3 := ⟨_, rfl⟩
  rw [← hh, ← ebD, ← ebS, ← ebN, ← ebW, ← hR0]
  replace hR0 := Lib.hid hR0
  clear ebD ebS ebN ebW CT
  replace hm := Lib.hid hm
  replace hh := Lib.hid hh
  replace hy := Lib.hid hy
  clear KA
  go_enter Tryd.func15, Tryd.ntmps15
  go_wp2_with fail
  refine (I.out _).mono ?_
  rintro e w1 ⟨rfl, hb1⟩
  have Kw1_0 : Hid (Blk w1 (w.heap.size) #[.int .i64 K, .int .i64 D, .int .i64 S, .int .i64 N, .int .i64 V] 33) := Lib.hid (by repeat' (first | (with_reducible first | exact Hid.out (by assumption) | exact Blk.new _ _ _ | (refine Blk.new_at _ _ _ _ ?_; simp; done) | refine Blk.alloc ?_ _ | refine Blk.drewN ?_ _ | refine Blk.drew ?_ | apply Blk.set | refine Blk.put ?_ (by assumption) (by first | (simp; done) | (simp; omega) | omega) | refine Blk.below ?_ (by assumption)) | (refine Blk.setAt ?_ (by first | (simp; done) | (simp; omega))) | rfl))
  obtain ⟨lw1_0, cw1_0, fw1_0⟩ := Kw1_0.out.use
  go_wp2_with fail
  -- region: written by mkck.py
  apply gcutK (fun g X => w.heap.size + 1 ≤ g ∧ Below w.heap.size w X ∧ Hid (Blk X w.heap.size #[.int .i64 K, .int .i64 D, .int .i64 S, .int .i64 N, .int .i64 V] 33) ∧ Hid (Blk X g #[.string ⟨m.toArray⟩, .string ⟨h.toArray⟩, .int .i64 y] 43))
  · intro hk2
    refine wp_region_held_drew (S := fun X => Below w.heap.size w X ∧ Blk X w.heap.size #[.int .i64 K, .int .i64 D, .int .i64 S, .int .i64 N, .int .i64 V] 33) (by kernel_rfl) ⟨by repeat' (first | (with_reducible first | exact Below.refl _ _ | assumption | refine below_alloc ?_ _ | refine Below.drew ?_ | refine Go.Mq.below_drewN ?_ _ | refine below_then ?_ (by assumption) | refine below_put ?_ (by assumption) (by first | (simp; done) | (simp; omega) | omega) | refine Below.setCell ?_ ?_ _) | (simp; done) | (simp; omega) | omega), Kw1_0.out.drew⟩ (fun hS => ?_)
    refine wpAnyH_take (i := 1) (v := ?v1) rfl (by kernel_rfl) (by kernel_rfl) (by kernel_rfl) (fun _ _ _ h => h) (Or.inl ⟨by rfl, ?y1⟩) hS ?_
    case y1 => (intro w hSw; have cB := hSw.2.cell; go_simp; try with_reducible rfl)
    try simp only [List.getElem_toArray, List.getElem_cons_succ, List.getElem_cons_zero, Act.put, List.setIfInBounds_toArray, List.set_cons_zero, List.set_cons_succ]
    refine wpAnyH_take (i := 2) (v := ?v2) rfl (by kernel_rfl) (by kernel_rfl) (by kernel_rfl) (fun _ _ _ h => h) (Or.inl ⟨by rfl, ?y2⟩) hS ?_
    case y2 => (intro w hSw; have cB := hSw.2.cell; go_simp; try with_reducible rfl)
    try simp only [List.getElem_toArray, List.getElem_cons_succ, List.getElem_cons_zero, Act.put, List.setIfInBounds_toArray, List.set_cons_zero, List.set_cons_succ]
    refine wpAnyH_ready (rs := [0, 5]) (by kernel_rfl) (by simp) ?_
    refine AllReadyH.cons rfl (fun K hK => ?_) (AllReadyH.cons rfl (fun K hK => ?_) AllReadyH.nil)
    · go_simp
      refine (KA2.out _ (HL.out.below hS.1)).mono ?_
      rintro e w5 ⟨⟨gk, cp, rfl, hgk, c0, c1, c2⟩, hb_w5⟩
      try go_wp2_with fail
      have hw5 := hb_w5.size
      refine hK.out _ _ ⟨below_then hS.1 hb_w5, hS.2.below hb_w5⟩ (fun hS => ?_)
      clear hK K
      try simp only [List.getElem_toArray, List.getElem_cons_succ, List.getElem_cons_zero, Act.put, List.setIfInBounds_toArray, List.set_cons_zero, List.set_cons_succ]
      refine wpAnyH_take (i := 3) (v := ?v3a) rfl (by kernel_rfl) (by kernel_rfl) (by kernel_rfl) (fun _ _ _ h => h) (Or.inl ⟨by rfl, ?y3a⟩) hS ?_
      case y3a => (intro w hSw; have cB := hSw.2.cell; go_simp; try with_reducible rfl)
      try simp only [List.getElem_toArray, List.getElem_cons_succ, List.getElem_cons_zero, Act.put, List.setIfInBounds_toArray, List.set_cons_zero, List.set_cons_succ]
      refine wpAnyH_ready (rs := [4, 5]) (by kernel_rfl) (by simp) ?_
      refine AllReadyH.cons rfl (fun K hK => ?_) (AllReadyH.cons rfl (fun K hK => ?_) AllReadyH.nil)
      · go_simp
        refine hK.out _ _ hS (fun hS => ?_)
        clear hK K
        try simp only [List.getElem_toArray, List.getElem_cons_succ, List.getElem_cons_zero, Act.put, List.setIfInBounds_toArray, List.set_cons_zero, List.set_cons_succ]
        refine wpAnyH_ready (rs := [5]) (by kernel_rfl) (by simp) (AllReadyH.cons rfl (fun K hK => ?_) AllReadyH.nil)
        go_simp
        obtain ⟨g7, e7⟩ : ∃ g, g = w5.heap.size := ⟨_, rfl⟩
        have hg7 : w.heap.size + 1 ≤ g7 := by have := hS.2.lt; omega
        refine hK.out _ _ ⟨below_alloc hS.1 _, hS.2.alloc _⟩ (fun hS => ?_)
        clear hK K
        have a7 : Hid (Blk (w5.alloc (.cells #[.string ⟨#[]⟩, .string ⟨#[]⟩, .int .i64 0] 43)) g7 #[.string ⟨#[]⟩, .string ⟨#[]⟩, .int .i64 0] 43) := Lib.hid (Blk.new_at _ _ _ _ e7)
        rw [← e7]
        clear e7
        try simp only [List.getElem_toArray, List.getElem_cons_succ, List.getElem_cons_zero, Act.put, List.setIfInBounds_toArray, List.set_cons_zero, List.set_cons_succ]
        refine wpAnyH_ready (rs := [6]) (by kernel_rfl) (by simp) (AllReadyH.cons rfl (fun K hK => ?_) AllReadyH.nil)
        rw [if_pos (by rfl)]
        refine wp_store_row 43 (.tmp 3) (.tmp 15) rfl g7 #[.string ⟨m.toArray⟩, .string ⟨h.toArray⟩, .int .i64 y] rfl rfl 43 #[.string ⟨#[]⟩, .string ⟨#[]⟩, .int .i64 0] a7.out (by kernel_rfl) rfl (by simp [Value.oneCell']) ?_
        have K7 := Lib.hid (setRow_heap _ g7 _ #[.string ⟨m.toArray⟩, .string ⟨h.toArray⟩, .int .i64 y] 43 (0, 0) a7.out)
        refine hK.out _ _ ⟨below_put hS.1 (put_setRow _ g7 _) (by omega), hS.2.put (put_setRow _ g7 _) (by omega)⟩ (fun hS => ?_)
        clear hK K
        try simp only [List.getElem_toArray, List.getElem_cons_succ, List.getElem_cons_zero, Act.put, List.setIfInBounds_toArray, List.set_cons_zero, List.set_cons_succ]
        refine wpAnyH_done (by kernel_rfl) ?_ _
        refine pmark (R := fun X => Below w.heap.size w X ∧ Hid (Blk X w.heap.size #[.int .i64 K, .int .i64 D, .int .i64 S, .int .i64 N, .int .i64 V] 33) ∧ Hid (Blk X g7 #[.string ⟨m.toArray⟩, .string ⟨h.toArray⟩, .int .i64 y] 43)) (F := fun X => Exit.then _ _ Exit.normal _ X) ⟨hS.1, Lib.hid hS.2, K7⟩ ?_
        clear hS K7 a7
        try clear c0 c1 c2
        try clear hb_w5
        intro W hbW
        exact hk2 g7 gk cp W ⟨hg7, hbW⟩
      · go_simp
        obtain ⟨g7, e7⟩ : ∃ g, g = w5.heap.size := ⟨_, rfl⟩
        have hg7 : w.heap.size + 1 ≤ g7 := by have := hS.2.lt; omega
        refine hK.out _ _ ⟨below_alloc hS.1 _, hS.2.alloc _⟩ (fun hS => ?_)
        clear hK K
        have a7 : Hid (Blk (w5.alloc (.cells #[.string ⟨#[]⟩, .string ⟨#[]⟩, .int .i64 0] 43)) g7 #[.string ⟨#[]⟩, .string ⟨#[]⟩, .int .i64 0] 43) := Lib.hid (Blk.new_at _ _ _ _ e7)
        rw [← e7]
        replace c0 := cell_later (below_alloc (Below.refl _ (w5)) (.cells #[.string ⟨#[]⟩, .string ⟨#[]⟩, .int .i64 0] 43)) c0
        replace c1 := cell_later (below_alloc (Below.refl _ (w5)) (.cells #[.string ⟨#[]⟩, .string ⟨#[]⟩, .int .i64 0] 43)) c1
        replace c2 := cell_later (below_alloc (Below.refl _ (w5)) (.cells #[.string ⟨#[]⟩, .string ⟨#[]⟩, .int .i64 0] 43)) c2
        clear e7
        try simp only [List.getElem_toArray, List.getElem_cons_succ, List.getElem_cons_zero, Act.put, List.setIfInBounds_toArray, List.set_cons_zero, List.set_cons_succ]
        refine wpAnyH_ready (rs := [4]) (by kernel_rfl) (by simp) (AllReadyH.cons rfl (fun K hK => ?_) AllReadyH.nil)
        go_simp
        refine hK.out _ _ hS (fun hS => ?_)
        clear hK K
        try simp only [List.getElem_toArray, List.getElem_cons_succ, List.getElem_cons_zero, Act.put, List.setIfInBounds_toArray, List.set_cons_zero, List.set_cons_succ]
        refine wpAnyH_ready (rs := [6]) (by kernel_rfl) (by simp) (AllReadyH.cons rfl (fun K hK => ?_) AllReadyH.nil)
        rw [if_pos (by rfl)]
        refine wp_store_row 43 (.tmp 3) (.tmp 15) rfl g7 #[.string ⟨m.toArray⟩, .string ⟨h.toArray⟩, .int .i64 y] rfl rfl 43 #[.string ⟨#[]⟩, .string ⟨#[]⟩, .int .i64 0] a7.out (by kernel_rfl) rfl (by simp [Value.oneCell']) ?_
        have K7 := Lib.hid (setRow_heap _ g7 _ #[.string ⟨m.toArray⟩, .string ⟨h.toArray⟩, .int .i64 y] 43 (0, 0) a7.out)
        refine hK.out _ _ ⟨below_put hS.1 (put_setRow _ g7 _) (by omega), hS.2.put (put_setRow _ g7 _) (by omega)⟩ (fun hS => ?_)
        clear hK K
        try simp only [List.getElem_toArray, List.getElem_cons_succ, List.getElem_cons_zero, Act.put, List.setIfInBounds_toArray, List.set_cons_zero, List.set_cons_succ]
        refine wpAnyH_done (by kernel_rfl) ?_ _
        refine pmark (R := fun X => Below w.heap.size w X ∧ Hid (Blk X w.heap.size #[.int .i64 K, .int .i64 D, .int .i64 S, .int .i64 N, .int .i64 V] 33) ∧ Hid (Blk X g7 #[.string ⟨m.toArray⟩, .string ⟨h.toArray⟩, .int .i64 y] 43)) (F := fun X => Exit.then _ _ Exit.normal _ X) ⟨hS.1, Lib.hid hS.2, K7⟩ ?_
        clear hS K7 a7
        try clear c0 c1 c2
        try clear hb_w5
        intro W hbW
        exact hk2 g7 gk cp W ⟨hg7, hbW⟩
    · go_simp
      obtain ⟨g7, e7⟩ : ∃ g, g = w1.heap.size := ⟨_, rfl⟩
      have hg7 : w.heap.size + 1 ≤ g7 := by have := hS.2.lt; simp at this; omega
      refine hK.out _ _ ⟨below_alloc hS.1 _, hS.2.alloc _⟩ (fun hS => ?_)
      clear hK K
      refine pmark (R := fun X => (Below w.heap.size w X ∧ Blk X w.heap.size #[.int .i64 K, .int .i64 D, .int .i64 S, .int .i64 N, .int .i64 V] 33) ∧ Hid (Blk X g7 #[.string ⟨#[]⟩, .string ⟨#[]⟩, .int .i64 0] 43)) (F := fun X => wpAnyH _ _ _ _ _ _ _ _ X) ⟨hS, Lib.hid (Blk.new_at _ _ _ _ e7)⟩ ?_
      clear hS
      intro W7 hS
      obtain ⟨hS, a7⟩ := hS
      try rw [← e7]
      clear e7
      try simp only [List.getElem_toArray, List.getElem_cons_succ, List.getElem_cons_zero, Act.put, List.setIfInBounds_toArray, List.set_cons_zero, List.set_cons_succ]
      refine wpAnyH_ready (rs := [0]) (by kernel_rfl) (by simp) (AllReadyH.cons rfl (fun K hK => ?_) AllReadyH.nil)
      go_simp
      refine (KA2.out _ (HL.out.below hS.1)).mono ?_
      rintro e w5 ⟨⟨gk, cp, rfl, hgk, c0, c1, c2⟩, hb_w5⟩
      try go_wp2_with fail
      have hw5 := hb_w5.size
      refine hK.out _ _ ⟨below_then hS.1 hb_w5, hS.2.below hb_w5⟩ (fun hS => ?_)
      replace a7 := Lib.hid (a7.out.below hb_w5)
      clear hK K
      try simp only [List.getElem_toArray, List.getElem_cons_succ, List.getElem_cons_zero, Act.put, List.setIfInBounds_toArray, List.set_cons_zero, List.set_cons_succ]
      refine wpAnyH_take (i := 3) (v := ?v3b) rfl (by kernel_rfl) (by kernel_rfl) (by kernel_rfl) (fun _ _ _ h => h) (Or.inl ⟨by rfl, ?y3b⟩) hS ?_
      case y3b => (intro w hSw; have cB := hSw.2.cell; go_simp; try with_reducible rfl)
      try simp only [List.getElem_toArray, List.getElem_cons_succ, List.getElem_cons_zero, Act.put, List.setIfInBounds_toArray, List.set_cons_zero, List.set_cons_succ]
      refine wpAnyH_ready (rs := [4]) (by kernel_rfl) (by simp) (AllReadyH.cons rfl (fun K hK => ?_) AllReadyH.nil)
      go_simp
      refine hK.out _ _ hS (fun hS => ?_)
      clear hK K
      try simp only [List.getElem_toArray, List.getElem_cons_succ, List.getElem_cons_zero, Act.put, List.setIfInBounds_toArray, List.set_cons_zero, List.set_cons_succ]
      refine wpAnyH_ready (rs := [6]) (by kernel_rfl) (by simp) (AllReadyH.cons rfl (fun K hK => ?_) AllReadyH.nil)
      rw [if_pos (by rfl)]
      refine wp_store_row 43 (.tmp 3) (.tmp 15) rfl g7 #[.string ⟨m.toArray⟩, .string ⟨h.toArray⟩, .int .i64 y] rfl rfl 43 #[.string ⟨#[]⟩, .string ⟨#[]⟩, .int .i64 0] a7.out (by kernel_rfl) rfl (by simp [Value.oneCell']) ?_
      have K7 := Lib.hid (setRow_heap _ g7 _ #[.string ⟨m.toArray⟩, .string ⟨h.toArray⟩, .int .i64 y] 43 (0, 0) a7.out)
      refine hK.out _ _ ⟨below_put hS.1 (put_setRow _ g7 _) (by omega), hS.2.put (put_setRow _ g7 _) (by omega)⟩ (fun hS => ?_)
      clear hK K
      try simp only [List.getElem_toArray, List.getElem_cons_succ, List.getElem_cons_zero, Act.put, List.setIfInBounds_toArray, List.set_cons_zero, List.set_cons_succ]
      refine wpAnyH_done (by kernel_rfl) ?_ _
      refine pmark (R := fun X => Below w.heap.size w X ∧ Hid (Blk X w.heap.size #[.int .i64 K, .int .i64 D, .int .i64 S, .int .i64 N, .int .i64 V] 33) ∧ Hid (Blk X g7 #[.string ⟨m.toArray⟩, .string ⟨h.toArray⟩, .int .i64 y] 43)) (F := fun X => Exit.then _ _ Exit.normal _ X) ⟨hS.1, Lib.hid hS.2, K7⟩ ?_
      clear hS K7 a7
      try clear c0 c1 c2
      try clear hb_w5
      intro W hbW
      exact hk2 g7 gk cp W ⟨hg7, hbW⟩
  intro g7 gk cp w6 ⟨hg7, hb6, KB6, KR6⟩
  -- region end
  have k0 : w6.cell? ⟨g7, 0, none⟩ = some (.string ⟨m.toArray⟩) := KR6.out.cell 0
  have k1 : w6.cell? ⟨g7, 1, none⟩ = some (.string ⟨h.toArray⟩) := KR6.out.cell 1
  have d1 : w6.cell? ⟨w.heap.size, 1, none⟩ = some (.int .i64 D) := KB6.out.cell 1
  have d2 : w6.cell? ⟨w.heap.size, 2, none⟩ = some (.int .i64 S) := KB6.out.cell 2
  have d3 : w6.cell? ⟨w.heap.size, 3, none⟩ = some (.int .i64 N) := KB6.out.cell 3
  have d4 : w6.cell? ⟨w.heap.size, 4, none⟩ = some (.int .i64 V) := KB6.out.cell 4
  clear Kw1_0
  by_cases m1 : m = [115, 104, 108]
  · have t1 : (m == [115, 104, 108]) = true := beq_iff_eq.2 m1
    have hR : Hid (R = if (partV bD D 0 7 && partV bS S 0 7 && partV bN N 0 15 && partV bW V 0 65535) = true then 0 else 3) := Lib.hid (by rw [hR0.out, HLO.out, t1]; rfl)
    clear m1
    go_wp2
    have B7 := Lib.hid (Blk.new w6 #[.string ⟨#[100]⟩, .int .i64 D, .int .i64 0, .int .i64 7, .string ⟨#[115]⟩, .int .i64 S, .int .i64 0, .int .i64 7, .string ⟨#[110]⟩, .int .i64 N, .int .i64 0, .int .i64 15, .string ⟨#[119]⟩, .int .i64 V, .int .i64 0, .int .i64 65535] 84)
    have KR7 := Lib.hid (KR6.out.alloc (.cells #[.string ⟨#[100]⟩, .int .i64 D, .int .i64 0, .int .i64 7, .string ⟨#[115]⟩, .int .i64 S, .int .i64 0, .int .i64 7, .string ⟨#[110]⟩, .int .i64 N, .int .i64 0, .int .i64 15, .string ⟨#[119]⟩, .int .i64 V, .int .i64 0, .int .i64 65535] 84))
    have hb7 : Below w.heap.size w (w6.alloc (.cells #[.string ⟨#[100]⟩, .int .i64 D, .int .i64 0, .int .i64 7, .string ⟨#[115]⟩, .int .i64 S, .int .i64 0, .int .i64 7, .string ⟨#[110]⟩, .int .i64 N, .int .i64 0, .int .i64 15, .string ⟨#[119]⟩, .int .i64 V, .int .i64 0, .int .i64 65535] 84)) := below_alloc hb6 _
    obtain ⟨NB, eNB⟩ : ∃ NB, NB = w6.heap.size := ⟨_, rfl⟩
    rw [← eNB] at B7 ⊢
    replace eNB := Lib.hid eNB
    generalize w6.alloc (.cells #[.string ⟨#[100]⟩, .int .i64 D, .int .i64 0, .int .i64 7, .string ⟨#[115]⟩, .int .i64 S, .int .i64 0, .int .i64 7, .string ⟨#[110]⟩, .int .i64 N, .int .i64 0, .int .i64 15, .string ⟨#[119]⟩, .int .i64 V, .int .i64 0, .int .i64 65535] 84) = w7 at *
    clear k0 k1 d1 d2 d3 d4 hb6 KB6 KR6
    go_loopw [39] (fun i wr => ∃ k : Nat, i = .int .i64 k ∧ k ≤ 4 ∧ Hid ((1 ≤ k → partV bD D 0 7 = true) ∧ (2 ≤ k → partV bS S 0 7 = true) ∧ (3 ≤ k → partV bN N 0 15 = true) ∧ (4 ≤ k → partV bW V 0 65535 = true)) ∧ Hid (Below w7.heap.size w7 wr) ∧ Below w.heap.size w wr) (fun i _ => 4 - (intOf i).toNat)
    case atStart => exact ⟨0, rfl, by omega, Lib.hid ⟨by omega, by omega, by omega, by omega⟩, Lib.hid (Below.refl _ _), hb7⟩
    case round =>
      obtain ⟨k, rfl, hk4, hG, hx, hb⟩ := hrel
      rcases (by omega : k = 0 ∨ k = 1 ∨ k = 2 ∨ k = 3 ∨ k = 4) with rfl | rfl | rfl | rfl | rfl
      · have k1 : wr.cell? ⟨g7, 1, none⟩ = some (.string ⟨h.toArray⟩) := (KR7.out.below hx.out).cell 1
        have hl7 : g7 < wr.heap.size := (KR7.out.below hx.out).lt
        have e0 : wr.cell? ⟨NB, 0, none⟩ = some (.string ⟨#[100]⟩) := (B7.out.below hx.out).cell 0
        have e1 : wr.cell? ⟨NB, 1, none⟩ = some (.int .i64 D) := (B7.out.below hx.out).cell 1
        have e2 : wr.cell? ⟨NB, 2, none⟩ = some (.int .i64 0) := (B7.out.below hx.out).cell 2
        have e3 : wr.cell? ⟨NB, 3, none⟩ = some (.int .i64 7) := (B7.out.below hx.out).cell 3
        have hs8 := hb.size
        go_wp2_with fail
        refine cmark (F := fun X => Calls _ _ _ X _) (R := fun W => Below w.heap.size w W ∧ Hid (Blk W (wr.heap.size) (#[.string ⟨#[100]⟩, .int .i64 D, .int .i64 0, .int .i64 7]) 84) ∧ Hid (Below w7.heap.size w7 W)) ⟨by repeat' (first | (with_reducible first | exact Below.refl _ _ | assumption | refine below_alloc ?_ _ | refine Below.drew ?_ | refine Go.Mq.below_drewN ?_ _ | refine below_then ?_ (by assumption) | refine below_put ?_ (by assumption) (by first | (simp; done) | (simp; omega) | omega) | refine Below.setCell ?_ ?_ _) | (simp; done) | (simp; omega) | omega), Lib.hid (by repeat' (first | (with_reducible first | exact Hid.out (by assumption) | exact Blk.new _ _ _ | (refine Blk.new_at _ _ _ _ ?_; simp; done) | refine Blk.alloc ?_ _ | refine Blk.drewN ?_ _ | refine Blk.drew ?_ | apply Blk.set | refine Blk.put ?_ (by assumption) (by first | (simp; done) | (simp; omega) | omega) | refine Blk.below ?_ (by assumption)) | (refine Blk.setAt ?_ (by first | (simp; done) | (simp; omega))) | rfl)), Lib.hid (hx.out.trans ((below_alloc (Below.refl _ _) _).mono hx.out.size))⟩ ?_
        rintro w8 ⟨hbw8, Kw8_0, HB8⟩
        obtain ⟨lw8_0, cw8_0, fw8_0⟩ := Kw8_0.out.use
        refine (CT0.out _ (HL.out.lk.below hbw8)).mono ?_
        rintro e w9 ⟨rfl, hw9⟩
        replace hw9 := hw9.symm
        subst hw9
        have x1 : w8.cell? ⟨wr.heap.size, 1, none⟩ = some (.int .i64 D) := Kw8_0.out.cell 1
        have x2 : w8.cell? ⟨wr.heap.size, 2, none⟩ = some (.int .i64 0) := Kw8_0.out.cell 2
        have x3 : w8.cell? ⟨wr.heap.size, 3, none⟩ = some (.int .i64 7) := Kw8_0.out.cell 3
        cases bD
        · by_cases g1 : D = 0
          · have t1 : (D != 0) = false := by simpa using g1
            have PT : partV false D 0 7 = true := by unfold partV; simpa using g1
            clear g1
            go_wp2
            go_roundw
            case rel => exact ⟨1, by go_num, by omega, Lib.hid ⟨fun _ => PT, by omega, by omega, by omega⟩, HB8, hbw8⟩
            case measure => simp [intOf]
          · have t1 : (D != 0) = true := by simpa using g1
            have PT : partV false D 0 7 = false := by unfold partV; simpa using g1
            have R3 : Hid (R = 3) := Lib.hid (by rw [hR.out, PT]; simp)
            clear PT g1
            go_wp2
            go_ret
            exact ⟨by rw [R3.out]; rfl, hbw8⟩
        · by_cases g1 : D < 0
          · have t1 : decide (D < 0) = true := by simpa using g1
            have PT : partV true D 0 7 = false := by unfold partV; simp; omega
            have R3 : Hid (R = 3) := Lib.hid (by rw [hR.out, PT]; simp)
            clear PT g1
            go_wp2
            go_ret
            exact ⟨by rw [R3.out]; rfl, hbw8⟩
          · have t1 : decide (D < 0) = false := by simpa using g1
            by_cases g2 : 7 < D
            · have t2 : decide (7 < D) = true := by simpa using g2
              have PT : partV true D 0 7 = false := by unfold partV; simp; omega
              have R3 : Hid (R = 3) := Lib.hid (by rw [hR.out, PT]; simp)
              clear PT g1 g2
              go_wp2
              go_ret
              exact ⟨by rw [R3.out]; rfl, hbw8⟩
            · have t2 : decide (7 < D) = false := by simpa using g2
              have PT : partV true D 0 7 = true := by unfold partV; simp; omega
              clear g1 g2
              go_wp2
              go_roundw
              case rel => exact ⟨1, by go_num, by omega, Lib.hid ⟨fun _ => PT, by omega, by omega, by omega⟩, HB8, hbw8⟩
              case measure => simp [intOf]
      · have k1 : wr.cell? ⟨g7, 1, none⟩ = some (.string ⟨h.toArray⟩) := (KR7.out.below hx.out).cell 1
        have hl7 : g7 < wr.heap.size := (KR7.out.below hx.out).lt
        have e0 : wr.cell? ⟨NB, 4, none⟩ = some (.string ⟨#[115]⟩) := (B7.out.below hx.out).cell 4
        have e1 : wr.cell? ⟨NB, 5, none⟩ = some (.int .i64 S) := (B7.out.below hx.out).cell 5
        have e2 : wr.cell? ⟨NB, 6, none⟩ = some (.int .i64 0) := (B7.out.below hx.out).cell 6
        have e3 : wr.cell? ⟨NB, 7, none⟩ = some (.int .i64 7) := (B7.out.below hx.out).cell 7
        have hs8 := hb.size
        go_wp2_with fail
        refine cmark (F := fun X => Calls _ _ _ X _) (R := fun W => Below w.heap.size w W ∧ Hid (Blk W (wr.heap.size) (#[.string ⟨#[115]⟩, .int .i64 S, .int .i64 0, .int .i64 7]) 84) ∧ Hid (Below w7.heap.size w7 W)) ⟨by repeat' (first | (with_reducible first | exact Below.refl _ _ | assumption | refine below_alloc ?_ _ | refine Below.drew ?_ | refine Go.Mq.below_drewN ?_ _ | refine below_then ?_ (by assumption) | refine below_put ?_ (by assumption) (by first | (simp; done) | (simp; omega) | omega) | refine Below.setCell ?_ ?_ _) | (simp; done) | (simp; omega) | omega), Lib.hid (by repeat' (first | (with_reducible first | exact Hid.out (by assumption) | exact Blk.new _ _ _ | (refine Blk.new_at _ _ _ _ ?_; simp; done) | refine Blk.alloc ?_ _ | refine Blk.drewN ?_ _ | refine Blk.drew ?_ | apply Blk.set | refine Blk.put ?_ (by assumption) (by first | (simp; done) | (simp; omega) | omega) | refine Blk.below ?_ (by assumption)) | (refine Blk.setAt ?_ (by first | (simp; done) | (simp; omega))) | rfl)), Lib.hid (hx.out.trans ((below_alloc (Below.refl _ _) _).mono hx.out.size))⟩ ?_
        rintro w8 ⟨hbw8, Kw8_0, HB8⟩
        obtain ⟨lw8_0, cw8_0, fw8_0⟩ := Kw8_0.out.use
        refine (CT1.out _ (HL.out.lk.below hbw8)).mono ?_
        rintro e w9 ⟨rfl, hw9⟩
        replace hw9 := hw9.symm
        subst hw9
        have x1 : w8.cell? ⟨wr.heap.size, 1, none⟩ = some (.int .i64 S) := Kw8_0.out.cell 1
        have x2 : w8.cell? ⟨wr.heap.size, 2, none⟩ = some (.int .i64 0) := Kw8_0.out.cell 2
        have x3 : w8.cell? ⟨wr.heap.size, 3, none⟩ = some (.int .i64 7) := Kw8_0.out.cell 3
        cases bS
        · by_cases g1 : S = 0
          · have t1 : (S != 0) = false := by simpa using g1
            have PT : partV false S 0 7 = true := by unfold partV; simpa using g1
            clear g1
            go_wp2
            go_roundw
            case rel => exact ⟨2, by go_num, by omega, Lib.hid ⟨fun _ => hG.out.1 (by omega), fun _ => PT, by omega, by omega⟩, HB8, hbw8⟩
            case measure => simp [intOf]
          · have t1 : (S != 0) = true := by simpa using g1
            have PT : partV false S 0 7 = false := by unfold partV; simpa using g1
            have R3 : Hid (R = 3) := Lib.hid (by rw [hR.out, PT]; simp)
            clear PT g1
            go_wp2
            go_ret
            exact ⟨by rw [R3.out]; rfl, hbw8⟩
        · by_cases g1 : S < 0
          · have t1 : decide (S < 0) = true := by simpa using g1
            have PT : partV true S 0 7 = false := by unfold partV; simp; omega
            have R3 : Hid (R = 3) := Lib.hid (by rw [hR.out, PT]; simp)
            clear PT g1
            go_wp2
            go_ret
            exact ⟨by rw [R3.out]; rfl, hbw8⟩
          · have t1 : decide (S < 0) = false := by simpa using g1
            by_cases g2 : 7 < S
            · have t2 : decide (7 < S) = true := by simpa using g2
              have PT : partV true S 0 7 = false := by unfold partV; simp; omega
              have R3 : Hid (R = 3) := Lib.hid (by rw [hR.out, PT]; simp)
              clear PT g1 g2
              go_wp2
              go_ret
              exact ⟨by rw [R3.out]; rfl, hbw8⟩
            · have t2 : decide (7 < S) = false := by simpa using g2
              have PT : partV true S 0 7 = true := by unfold partV; simp; omega
              clear g1 g2
              go_wp2
              go_roundw
              case rel => exact ⟨2, by go_num, by omega, Lib.hid ⟨fun _ => hG.out.1 (by omega), fun _ => PT, by omega, by omega⟩, HB8, hbw8⟩
              case measure => simp [intOf]
      · have k1 : wr.cell? ⟨g7, 1, none⟩ = some (.string ⟨h.toArray⟩) := (KR7.out.below hx.out).cell 1
        have hl7 : g7 < wr.heap.size := (KR7.out.below hx.out).lt
        have e0 : wr.cell? ⟨NB, 8, none⟩ = some (.string ⟨#[110]⟩) := (B7.out.below hx.out).cell 8
        have e1 : wr.cell? ⟨NB, 9, none⟩ = some (.int .i64 N) := (B7.out.below hx.out).cell 9
        have e2 : wr.cell? ⟨NB, 10, none⟩ = some (.int .i64 0) := (B7.out.below hx.out).cell 10
        have e3 : wr.cell? ⟨NB, 11, none⟩ = some (.int .i64 15) := (B7.out.below hx.out).cell 11
        have hs8 := hb.size
        go_wp2_with fail
        refine cmark (F := fun X => Calls _ _ _ X _) (R := fun W => Below w.heap.size w W ∧ Hid (Blk W (wr.heap.size) (#[.string ⟨#[110]⟩, .int .i64 N, .int .i64 0, .int .i64 15]) 84) ∧ Hid (Below w7.heap.size w7 W)) ⟨by repeat' (first | (with_reducible first | exact Below.refl _ _ | assumption | refine below_alloc ?_ _ | refine Below.drew ?_ | refine Go.Mq.below_drewN ?_ _ | refine below_then ?_ (by assumption) | refine below_put ?_ (by assumption) (by first | (simp; done) | (simp; omega) | omega) | refine Below.setCell ?_ ?_ _) | (simp; done) | (simp; omega) | omega), Lib.hid (by repeat' (first | (with_reducible first | exact Hid.out (by assumption) | exact Blk.new _ _ _ | (refine Blk.new_at _ _ _ _ ?_; simp; done) | refine Blk.alloc ?_ _ | refine Blk.drewN ?_ _ | refine Blk.drew ?_ | apply Blk.set | refine Blk.put ?_ (by assumption) (by first | (simp; done) | (simp; omega) | omega) | refine Blk.below ?_ (by assumption)) | (refine Blk.setAt ?_ (by first | (simp; done) | (simp; omega))) | rfl)), Lib.hid (hx.out.trans ((below_alloc (Below.refl _ _) _).mono hx.out.size))⟩ ?_
        rintro w8 ⟨hbw8, Kw8_0, HB8⟩
        obtain ⟨lw8_0, cw8_0, fw8_0⟩ := Kw8_0.out.use
        refine (CT2.out _ (HL.out.lk.below hbw8)).mono ?_
        rintro e w9 ⟨rfl, hw9⟩
        replace hw9 := hw9.symm
        subst hw9
        have x1 : w8.cell? ⟨wr.heap.size, 1, none⟩ = some (.int .i64 N) := Kw8_0.out.cell 1
        have x2 : w8.cell? ⟨wr.heap.size, 2, none⟩ = some (.int .i64 0) := Kw8_0.out.cell 2
        have x3 : w8.cell? ⟨wr.heap.size, 3, none⟩ = some (.int .i64 15) := Kw8_0.out.cell 3
        cases bN
        · by_cases g1 : N = 0
          · have t1 : (N != 0) = false := by simpa using g1
            have PT : partV false N 0 15 = true := by unfold partV; simpa using g1
            clear g1
            go_wp2
            go_roundw
            case rel => exact ⟨3, by go_num, by omega, Lib.hid ⟨fun _ => hG.out.1 (by omega), fun _ => hG.out.2.1 (by omega), fun _ => PT, by omega⟩, HB8, hbw8⟩
            case measure => simp [intOf]
          · have t1 : (N != 0) = true := by simpa using g1
            have PT : partV false N 0 15 = false := by unfold partV; simpa using g1
            have R3 : Hid (R = 3) := Lib.hid (by rw [hR.out, PT]; simp)
            clear PT g1
            go_wp2
            go_ret
            exact ⟨by rw [R3.out]; rfl, hbw8⟩
        · by_cases g1 : N < 0
          · have t1 : decide (N < 0) = true := by simpa using g1
            have PT : partV true N 0 15 = false := by unfold partV; simp; omega
            have R3 : Hid (R = 3) := Lib.hid (by rw [hR.out, PT]; simp)
            clear PT g1
            go_wp2
            go_ret
            exact ⟨by rw [R3.out]; rfl, hbw8⟩
          · have t1 : decide (N < 0) = false := by simpa using g1
            by_cases g2 : 15 < N
            · have t2 : decide (15 < N) = true := by simpa using g2
              have PT : partV true N 0 15 = false := by unfold partV; simp; omega
              have R3 : Hid (R = 3) := Lib.hid (by rw [hR.out, PT]; simp)
              clear PT g1 g2
              go_wp2
              go_ret
              exact ⟨by rw [R3.out]; rfl, hbw8⟩
            · have t2 : decide (15 < N) = false := by simpa using g2
              have PT : partV true N 0 15 = true := by unfold partV; simp; omega
              clear g1 g2
              go_wp2
              go_roundw
              case rel => exact ⟨3, by go_num, by omega, Lib.hid ⟨fun _ => hG.out.1 (by omega), fun _ => hG.out.2.1 (by omega), fun _ => PT, by omega⟩, HB8, hbw8⟩
              case measure => simp [intOf]
      · have k1 : wr.cell? ⟨g7, 1, none⟩ = some (.string ⟨h.toArray⟩) := (KR7.out.below hx.out).cell 1
        have hl7 : g7 < wr.heap.size := (KR7.out.below hx.out).lt
        have e0 : wr.cell? ⟨NB, 12, none⟩ = some (.string ⟨#[119]⟩) := (B7.out.below hx.out).cell 12
        have e1 : wr.cell? ⟨NB, 13, none⟩ = some (.int .i64 V) := (B7.out.below hx.out).cell 13
        have e2 : wr.cell? ⟨NB, 14, none⟩ = some (.int .i64 0) := (B7.out.below hx.out).cell 14
        have e3 : wr.cell? ⟨NB, 15, none⟩ = some (.int .i64 65535) := (B7.out.below hx.out).cell 15
        have hs8 := hb.size
        go_wp2_with fail
        refine cmark (F := fun X => Calls _ _ _ X _) (R := fun W => Below w.heap.size w W ∧ Hid (Blk W (wr.heap.size) (#[.string ⟨#[119]⟩, .int .i64 V, .int .i64 0, .int .i64 65535]) 84) ∧ Hid (Below w7.heap.size w7 W)) ⟨by repeat' (first | (with_reducible first | exact Below.refl _ _ | assumption | refine below_alloc ?_ _ | refine Below.drew ?_ | refine Go.Mq.below_drewN ?_ _ | refine below_then ?_ (by assumption) | refine below_put ?_ (by assumption) (by first | (simp; done) | (simp; omega) | omega) | refine Below.setCell ?_ ?_ _) | (simp; done) | (simp; omega) | omega), Lib.hid (by repeat' (first | (with_reducible first | exact Hid.out (by assumption) | exact Blk.new _ _ _ | (refine Blk.new_at _ _ _ _ ?_; simp; done) | refine Blk.alloc ?_ _ | refine Blk.drewN ?_ _ | refine Blk.drew ?_ | apply Blk.set | refine Blk.put ?_ (by assumption) (by first | (simp; done) | (simp; omega) | omega) | refine Blk.below ?_ (by assumption)) | (refine Blk.setAt ?_ (by first | (simp; done) | (simp; omega))) | rfl)), Lib.hid (hx.out.trans ((below_alloc (Below.refl _ _) _).mono hx.out.size))⟩ ?_
        rintro w8 ⟨hbw8, Kw8_0, HB8⟩
        obtain ⟨lw8_0, cw8_0, fw8_0⟩ := Kw8_0.out.use
        refine (CT3.out _ (HL.out.lk.below hbw8)).mono ?_
        rintro e w9 ⟨rfl, hw9⟩
        replace hw9 := hw9.symm
        subst hw9
        have x1 : w8.cell? ⟨wr.heap.size, 1, none⟩ = some (.int .i64 V) := Kw8_0.out.cell 1
        have x2 : w8.cell? ⟨wr.heap.size, 2, none⟩ = some (.int .i64 0) := Kw8_0.out.cell 2
        have x3 : w8.cell? ⟨wr.heap.size, 3, none⟩ = some (.int .i64 65535) := Kw8_0.out.cell 3
        cases bW
        · by_cases g1 : V = 0
          · have t1 : (V != 0) = false := by simpa using g1
            have PT : partV false V 0 65535 = true := by unfold partV; simpa using g1
            clear g1
            go_wp2
            go_roundw
            case rel => exact ⟨4, by go_num, by omega, Lib.hid ⟨fun _ => hG.out.1 (by omega), fun _ => hG.out.2.1 (by omega), fun _ => hG.out.2.2.1 (by omega), fun _ => PT⟩, HB8, hbw8⟩
            case measure => simp [intOf]
          · have t1 : (V != 0) = true := by simpa using g1
            have PT : partV false V 0 65535 = false := by unfold partV; simpa using g1
            have R3 : Hid (R = 3) := Lib.hid (by rw [hR.out, PT]; simp)
            clear PT g1
            go_wp2
            go_ret
            exact ⟨by rw [R3.out]; rfl, hbw8⟩
        · by_cases g1 : V < 0
          · have t1 : decide (V < 0) = true := by simpa using g1
            have PT : partV true V 0 65535 = false := by unfold partV; simp; omega
            have R3 : Hid (R = 3) := Lib.hid (by rw [hR.out, PT]; simp)
            clear PT g1
            go_wp2
            go_ret
            exact ⟨by rw [R3.out]; rfl, hbw8⟩
          · have t1 : decide (V < 0) = false := by simpa using g1
            by_cases g2 : 65535 < V
            · have t2 : decide (65535 < V) = true := by simpa using g2
              have PT : partV true V 0 65535 = false := by unfold partV; simp; omega
              have R3 : Hid (R = 3) := Lib.hid (by rw [hR.out, PT]; simp)
              clear PT g1 g2
              go_wp2
              go_ret
              exact ⟨by rw [R3.out]; rfl, hbw8⟩
            · have t2 : decide (65535 < V) = false := by simpa using g2
              have PT : partV true V 0 65535 = true := by unfold partV; simp; omega
              clear g1 g2
              go_wp2
              go_roundw
              case rel => exact ⟨4, by go_num, by omega, Lib.hid ⟨fun _ => hG.out.1 (by omega), fun _ => hG.out.2.1 (by omega), fun _ => hG.out.2.2.1 (by omega), fun _ => PT⟩, HB8, hbw8⟩
              case measure => simp [intOf]
      · have R0 : Hid (R = 0) := Lib.hid (by rw [hR.out, hG.out.1 (by omega), hG.out.2.1 (by omega), hG.out.2.2.1 (by omega), hG.out.2.2.2 (by omega)]; simp)
        go_wp2
        go_ret
        exact ⟨by rw [R0.out]; rfl, hb⟩
  · have t1 : (m == [115, 104, 108]) = false := beq_eq_false_iff_ne.2 m1
    by_cases m2 : m = [115, 104, 114]
    · have t2 : (m == [115, 104, 114]) = true := beq_iff_eq.2 m2
      have hR : Hid (R = if (partV bD D 0 7 && partV bS S 0 7 && partV bN N 0 15 && partV bW V 0 65535) = true then 0 else 3) := Lib.hid (by rw [hR0.out, HLO.out, t1, t2]; rfl)
      clear m1 m2
      go_wp2
      have B7 := Lib.hid (Blk.new w6 #[.string ⟨#[100]⟩, .int .i64 D, .int .i64 0, .int .i64 7, .string ⟨#[115]⟩, .int .i64 S, .int .i64 0, .int .i64 7, .string ⟨#[110]⟩, .int .i64 N, .int .i64 0, .int .i64 15, .string ⟨#[119]⟩, .int .i64 V, .int .i64 0, .int .i64 65535] 84)
      have KR7 := Lib.hid (KR6.out.alloc (.cells #[.string ⟨#[100]⟩, .int .i64 D, .int .i64 0, .int .i64 7, .string ⟨#[115]⟩, .int .i64 S, .int .i64 0, .int .i64 7, .string ⟨#[110]⟩, .int .i64 N, .int .i64 0, .int .i64 15, .string ⟨#[119]⟩, .int .i64 V, .int .i64 0, .int .i64 65535] 84))
      have hb7 : Below w.heap.size w (w6.alloc (.cells #[.string ⟨#[100]⟩, .int .i64 D, .int .i64 0, .int .i64 7, .string ⟨#[115]⟩, .int .i64 S, .int .i64 0, .int .i64 7, .string ⟨#[110]⟩, .int .i64 N, .int .i64 0, .int .i64 15, .string ⟨#[119]⟩, .int .i64 V, .int .i64 0, .int .i64 65535] 84)) := below_alloc hb6 _
      obtain ⟨NB, eNB⟩ : ∃ NB, NB = w6.heap.size := ⟨_, rfl⟩
      rw [← eNB] at B7 ⊢
      replace eNB := Lib.hid eNB
      generalize w6.alloc (.cells #[.string ⟨#[100]⟩, .int .i64 D, .int .i64 0, .int .i64 7, .string ⟨#[115]⟩, .int .i64 S, .int .i64 0, .int .i64 7, .string ⟨#[110]⟩, .int .i64 N, .int .i64 0, .int .i64 15, .string ⟨#[119]⟩, .int .i64 V, .int .i64 0, .int .i64 65535] 84) = w7 at *
      clear k0 k1 d1 d2 d3 d4 hb6 KB6 KR6
      go_loopw [39] (fun i wr => ∃ k : Nat, i = .int .i64 k ∧ k ≤ 4 ∧ Hid ((1 ≤ k → partV bD D 0 7 = true) ∧ (2 ≤ k → partV bS S 0 7 = true) ∧ (3 ≤ k → partV bN N 0 15 = true) ∧ (4 ≤ k → partV bW V 0 65535 = true)) ∧ Hid (Below w7.heap.size w7 wr) ∧ Below w.heap.size w wr) (fun i _ => 4 - (intOf i).toNat)
      case atStart => exact ⟨0, rfl, by omega, Lib.hid ⟨by omega, by omega, by omega, by omega⟩, Lib.hid (Below.refl _ _), hb7⟩
      case round =>
        obtain ⟨k, rfl, hk4, hG, hx, hb⟩ := hrel
        rcases (by omega : k = 0 ∨ k = 1 ∨ k = 2 ∨ k = 3 ∨ k = 4) with rfl | rfl | rfl | rfl | rfl
        · have k1 : wr.cell? ⟨g7, 1, none⟩ = some (.string ⟨h.toArray⟩) := (KR7.out.below hx.out).cell 1
          have hl7 : g7 < wr.heap.size := (KR7.out.below hx.out).lt
          have e0 : wr.cell? ⟨NB, 0, none⟩ = some (.string ⟨#[100]⟩) := (B7.out.below hx.out).cell 0
          have e1 : wr.cell? ⟨NB, 1, none⟩ = some (.int .i64 D) := (B7.out.below hx.out).cell 1
          have e2 : wr.cell? ⟨NB, 2, none⟩ = some (.int .i64 0) := (B7.out.below hx.out).cell 2
          have e3 : wr.cell? ⟨NB, 3, none⟩ = some (.int .i64 7) := (B7.out.below hx.out).cell 3
          have hs8 := hb.size
          go_wp2_with fail
          refine cmark (F := fun X => Calls _ _ _ X _) (R := fun W => Below w.heap.size w W ∧ Hid (Blk W (wr.heap.size) (#[.string ⟨#[100]⟩, .int .i64 D, .int .i64 0, .int .i64 7]) 84) ∧ Hid (Below w7.heap.size w7 W)) ⟨by repeat' (first | (with_reducible first | exact Below.refl _ _ | assumption | refine below_alloc ?_ _ | refine Below.drew ?_ | refine Go.Mq.below_drewN ?_ _ | refine below_then ?_ (by assumption) | refine below_put ?_ (by assumption) (by first | (simp; done) | (simp; omega) | omega) | refine Below.setCell ?_ ?_ _) | (simp; done) | (simp; omega) | omega), Lib.hid (by repeat' (first | (with_reducible first | exact Hid.out (by assumption) | exact Blk.new _ _ _ | (refine Blk.new_at _ _ _ _ ?_; simp; done) | refine Blk.alloc ?_ _ | refine Blk.drewN ?_ _ | refine Blk.drew ?_ | apply Blk.set | refine Blk.put ?_ (by assumption) (by first | (simp; done) | (simp; omega) | omega) | refine Blk.below ?_ (by assumption)) | (refine Blk.setAt ?_ (by first | (simp; done) | (simp; omega))) | rfl)), Lib.hid (hx.out.trans ((below_alloc (Below.refl _ _) _).mono hx.out.size))⟩ ?_
          rintro w8 ⟨hbw8, Kw8_0, HB8⟩
          obtain ⟨lw8_0, cw8_0, fw8_0⟩ := Kw8_0.out.use
          refine (CT0.out _ (HL.out.lk.below hbw8)).mono ?_
          rintro e w9 ⟨rfl, hw9⟩
          replace hw9 := hw9.symm
          subst hw9
          have x1 : w8.cell? ⟨wr.heap.size, 1, none⟩ = some (.int .i64 D) := Kw8_0.out.cell 1
          have x2 : w8.cell? ⟨wr.heap.size, 2, none⟩ = some (.int .i64 0) := Kw8_0.out.cell 2
          have x3 : w8.cell? ⟨wr.heap.size, 3, none⟩ = some (.int .i64 7) := Kw8_0.out.cell 3
          cases bD
          · by_cases g1 : D = 0
            · have t1 : (D != 0) = false := by simpa using g1
              have PT : partV false D 0 7 = true := by unfold partV; simpa using g1
              clear g1
              go_wp2
              go_roundw
              case rel => exact ⟨1, by go_num, by omega, Lib.hid ⟨fun _ => PT, by omega, by omega, by omega⟩, HB8, hbw8⟩
              case measure => simp [intOf]
            · have t1 : (D != 0) = true := by simpa using g1
              have PT : partV false D 0 7 = false := by unfold partV; simpa using g1
              have R3 : Hid (R = 3) := Lib.hid (by rw [hR.out, PT]; simp)
              clear PT g1
              go_wp2
              go_ret
              exact ⟨by rw [R3.out]; rfl, hbw8⟩
          · by_cases g1 : D < 0
            · have t1 : decide (D < 0) = true := by simpa using g1
              have PT : partV true D 0 7 = false := by unfold partV; simp; omega
              have R3 : Hid (R = 3) := Lib.hid (by rw [hR.out, PT]; simp)
              clear PT g1
              go_wp2
              go_ret
              exact ⟨by rw [R3.out]; rfl, hbw8⟩
            · have t1 : decide (D < 0) = false := by simpa using g1
              by_cases g2 : 7 < D
              · have t2 : decide (7 < D) = true := by simpa using g2
                have PT : partV true D 0 7 = false := by unfold partV; simp; omega
                have R3 : Hid (R = 3) := Lib.hid (by rw [hR.out, PT]; simp)
                clear PT g1 g2
                go_wp2
                go_ret
                exact ⟨by rw [R3.out]; rfl, hbw8⟩
              · have t2 : decide (7 < D) = false := by simpa using g2
                have PT : partV true D 0 7 = true := by unfold partV; simp; omega
                clear g1 g2
                go_wp2
                go_roundw
                case rel => exact ⟨1, by go_num, by omega, Lib.hid ⟨fun _ => PT, by omega, by omega, by omega⟩, HB8, hbw8⟩
                case measure => simp [intOf]
        · have k1 : wr.cell? ⟨g7, 1, none⟩ = some (.string ⟨h.toArray⟩) := (KR7.out.below hx.out).cell 1
          have hl7 : g7 < wr.heap.size := (KR7.out.below hx.out).lt
          have e0 : wr.cell? ⟨NB, 4, none⟩ = some (.string ⟨#[115]⟩) := (B7.out.below hx.out).cell 4
          have e1 : wr.cell? ⟨NB, 5, none⟩ = some (.int .i64 S) := (B7.out.below hx.out).cell 5
          have e2 : wr.cell? ⟨NB, 6, none⟩ = some (.int .i64 0) := (B7.out.below hx.out).cell 6
          have e3 : wr.cell? ⟨NB, 7, none⟩ = some (.int .i64 7) := (B7.out.below hx.out).cell 7
          have hs8 := hb.size
          go_wp2_with fail
          refine cmark (F := fun X => Calls _ _ _ X _) (R := fun W => Below w.heap.size w W ∧ Hid (Blk W (wr.heap.size) (#[.string ⟨#[115]⟩, .int .i64 S, .int .i64 0, .int .i64 7]) 84) ∧ Hid (Below w7.heap.size w7 W)) ⟨by repeat' (first | (with_reducible first | exact Below.refl _ _ | assumption | refine below_alloc ?_ _ | refine Below.drew ?_ | refine Go.Mq.below_drewN ?_ _ | refine below_then ?_ (by assumption) | refine below_put ?_ (by assumption) (by first | (simp; done) | (simp; omega) | omega) | refine Below.setCell ?_ ?_ _) | (simp; done) | (simp; omega) | omega), Lib.hid (by repeat' (first | (with_reducible first | exact Hid.out (by assumption) | exact Blk.new _ _ _ | (refine Blk.new_at _ _ _ _ ?_; simp; done) | refine Blk.alloc ?_ _ | refine Blk.drewN ?_ _ | refine Blk.drew ?_ | apply Blk.set | refine Blk.put ?_ (by assumption) (by first | (simp; done) | (simp; omega) | omega) | refine Blk.below ?_ (by assumption)) | (refine Blk.setAt ?_ (by first | (simp; done) | (simp; omega))) | rfl)), Lib.hid (hx.out.trans ((below_alloc (Below.refl _ _) _).mono hx.out.size))⟩ ?_
          rintro w8 ⟨hbw8, Kw8_0, HB8⟩
          obtain ⟨lw8_0, cw8_0, fw8_0⟩ := Kw8_0.out.use
          refine (CT1.out _ (HL.out.lk.below hbw8)).mono ?_
          rintro e w9 ⟨rfl, hw9⟩
          replace hw9 := hw9.symm
          subst hw9
          have x1 : w8.cell? ⟨wr.heap.size, 1, none⟩ = some (.int .i64 S) := Kw8_0.out.cell 1
          have x2 : w8.cell? ⟨wr.heap.size, 2, none⟩ = some (.int .i64 0) := Kw8_0.out.cell 2
          have x3 : w8.cell? ⟨wr.heap.size, 3, none⟩ = some (.int .i64 7) := Kw8_0.out.cell 3
          cases bS
          · by_cases g1 : S = 0
            · have t1 : (S != 0) = false := by simpa using g1
              have PT : partV false S 0 7 = true := by unfold partV; simpa using g1
              clear g1
              go_wp2
              go_roundw
              case rel => exact ⟨2, by go_num, by omega, Lib.hid ⟨fun _ => hG.out.1 (by omega), fun _ => PT, by omega, by omega⟩, HB8, hbw8⟩
              case measure => simp [intOf]
            · have t1 : (S != 0) = true := by simpa using g1
              have PT : partV false S 0 7 = false := by unfold partV; simpa using g1
              have R3 : Hid (R = 3) := Lib.hid (by rw [hR.out, PT]; simp)
              clear PT g1
              go_wp2
              go_ret
              exact ⟨by rw [R3.out]; rfl, hbw8⟩
          · by_cases g1 : S < 0
            · have t1 : decide (S < 0) = true := by simpa using g1
              have PT : partV true S 0 7 = false := by unfold partV; simp; omega
              have R3 : Hid (R = 3) := Lib.hid (by rw [hR.out, PT]; simp)
              clear PT g1
              go_wp2
              go_ret
              exact ⟨by rw [R3.out]; rfl, hbw8⟩
            · have t1 : decide (S < 0) = false := by simpa using g1
              by_cases g2 : 7 < S
              · have t2 : decide (7 < S) = true := by simpa using g2
                have PT : partV true S 0 7 = false := by unfold partV; simp; omega
                have R3 : Hid (R = 3) := Lib.hid (by rw [hR.out, PT]; simp)
                clear PT g1 g2
                go_wp2
                go_ret
                exact ⟨by rw [R3.out]; rfl, hbw8⟩
              · have t2 : decide (7 < S) = false := by simpa using g2
                have PT : partV true S 0 7 = true := by unfold partV; simp; omega
                clear g1 g2
                go_wp2
                go_roundw
                case rel => exact ⟨2, by go_num, by omega, Lib.hid ⟨fun _ => hG.out.1 (by omega), fun _ => PT, by omega, by omega⟩, HB8, hbw8⟩
                case measure => simp [intOf]
        · have k1 : wr.cell? ⟨g7, 1, none⟩ = some (.string ⟨h.toArray⟩) := (KR7.out.below hx.out).cell 1
          have hl7 : g7 < wr.heap.size := (KR7.out.below hx.out).lt
          have e0 : wr.cell? ⟨NB, 8, none⟩ = some (.string ⟨#[110]⟩) := (B7.out.below hx.out).cell 8
          have e1 : wr.cell? ⟨NB, 9, none⟩ = some (.int .i64 N) := (B7.out.below hx.out).cell 9
          have e2 : wr.cell? ⟨NB, 10, none⟩ = some (.int .i64 0) := (B7.out.below hx.out).cell 10
          have e3 : wr.cell? ⟨NB, 11, none⟩ = some (.int .i64 15) := (B7.out.below hx.out).cell 11
          have hs8 := hb.size
          go_wp2_with fail
          refine cmark (F := fun X => Calls _ _ _ X _) (R := fun W => Below w.heap.size w W ∧ Hid (Blk W (wr.heap.size) (#[.string ⟨#[110]⟩, .int .i64 N, .int .i64 0, .int .i64 15]) 84) ∧ Hid (Below w7.heap.size w7 W)) ⟨by repeat' (first | (with_reducible first | exact Below.refl _ _ | assumption | refine below_alloc ?_ _ | refine Below.drew ?_ | refine Go.Mq.below_drewN ?_ _ | refine below_then ?_ (by assumption) | refine below_put ?_ (by assumption) (by first | (simp; done) | (simp; omega) | omega) | refine Below.setCell ?_ ?_ _) | (simp; done) | (simp; omega) | omega), Lib.hid (by repeat' (first | (with_reducible first | exact Hid.out (by assumption) | exact Blk.new _ _ _ | (refine Blk.new_at _ _ _ _ ?_; simp; done) | refine Blk.alloc ?_ _ | refine Blk.drewN ?_ _ | refine Blk.drew ?_ | apply Blk.set | refine Blk.put ?_ (by assumption) (by first | (simp; done) | (simp; omega) | omega) | refine Blk.below ?_ (by assumption)) | (refine Blk.setAt ?_ (by first | (simp; done) | (simp; omega))) | rfl)), Lib.hid (hx.out.trans ((below_alloc (Below.refl _ _) _).mono hx.out.size))⟩ ?_
          rintro w8 ⟨hbw8, Kw8_0, HB8⟩
          obtain ⟨lw8_0, cw8_0, fw8_0⟩ := Kw8_0.out.use
          refine (CT2.out _ (HL.out.lk.below hbw8)).mono ?_
          rintro e w9 ⟨rfl, hw9⟩
          replace hw9 := hw9.symm
          subst hw9
          have x1 : w8.cell? ⟨wr.heap.size, 1, none⟩ = some (.int .i64 N) := Kw8_0.out.cell 1
          have x2 : w8.cell? ⟨wr.heap.size, 2, none⟩ = some (.int .i64 0) := Kw8_0.out.cell 2
          have x3 : w8.cell? ⟨wr.heap.size, 3, none⟩ = some (.int .i64 15) := Kw8_0.out.cell 3
          cases bN
          · by_cases g1 : N = 0
            · have t1 : (N != 0) = false := by simpa using g1
              have PT : partV false N 0 15 = true := by unfold partV; simpa using g1
              clear g1
              go_wp2
              go_roundw
              case rel => exact ⟨3, by go_num, by omega, Lib.hid ⟨fun _ => hG.out.1 (by omega), fun _ => hG.out.2.1 (by omega), fun _ => PT, by omega⟩, HB8, hbw8⟩
              case measure => simp [intOf]
            · have t1 : (N != 0) = true := by simpa using g1
              have PT : partV false N 0 15 = false := by unfold partV; simpa using g1
              have R3 : Hid (R = 3) := Lib.hid (by rw [hR.out, PT]; simp)
              clear PT g1
              go_wp2
              go_ret
              exact ⟨by rw [R3.out]; rfl, hbw8⟩
          · by_cases g1 : N < 0
            · have t1 : decide (N < 0) = true := by simpa using g1
              have PT : partV true N 0 15 = false := by unfold partV; simp; omega
              have R3 : Hid (R = 3) := Lib.hid (by rw [hR.out, PT]; simp)
              clear PT g1
              go_wp2
              go_ret
              exact ⟨by rw [R3.out]; rfl, hbw8⟩
            · have t1 : decide (N < 0) = false := by simpa using g1
              by_cases g2 : 15 < N
              · have t2 : decide (15 < N) = true := by simpa using g2
                have PT : partV true N 0 15 = false := by unfold partV; simp; omega
                have R3 : Hid (R = 3) := Lib.hid (by rw [hR.out, PT]; simp)
                clear PT g1 g2
                go_wp2
                go_ret
                exact ⟨by rw [R3.out]; rfl, hbw8⟩
              · have t2 : decide (15 < N) = false := by simpa using g2
                have PT : partV true N 0 15 = true := by unfold partV; simp; omega
                clear g1 g2
                go_wp2
                go_roundw
                case rel => exact ⟨3, by go_num, by omega, Lib.hid ⟨fun _ => hG.out.1 (by omega), fun _ => hG.out.2.1 (by omega), fun _ => PT, by omega⟩, HB8, hbw8⟩
                case measure => simp [intOf]
        · have k1 : wr.cell? ⟨g7, 1, none⟩ = some (.string ⟨h.toArray⟩) := (KR7.out.below hx.out).cell 1
          have hl7 : g7 < wr.heap.size := (KR7.out.below hx.out).lt
          have e0 : wr.cell? ⟨NB, 12, none⟩ = some (.string ⟨#[119]⟩) := (B7.out.below hx.out).cell 12
          have e1 : wr.cell? ⟨NB, 13, none⟩ = some (.int .i64 V) := (B7.out.below hx.out).cell 13
          have e2 : wr.cell? ⟨NB, 14, none⟩ = some (.int .i64 0) := (B7.out.below hx.out).cell 14
          have e3 : wr.cell? ⟨NB, 15, none⟩ = some (.int .i64 65535) := (B7.out.below hx.out).cell 15
          have hs8 := hb.size
          go_wp2_with fail
          refine cmark (F := fun X => Calls _ _ _ X _) (R := fun W => Below w.heap.size w W ∧ Hid (Blk W (wr.heap.size) (#[.string ⟨#[119]⟩, .int .i64 V, .int .i64 0, .int .i64 65535]) 84) ∧ Hid (Below w7.heap.size w7 W)) ⟨by repeat' (first | (with_reducible first | exact Below.refl _ _ | assumption | refine below_alloc ?_ _ | refine Below.drew ?_ | refine Go.Mq.below_drewN ?_ _ | refine below_then ?_ (by assumption) | refine below_put ?_ (by assumption) (by first | (simp; done) | (simp; omega) | omega) | refine Below.setCell ?_ ?_ _) | (simp; done) | (simp; omega) | omega), Lib.hid (by repeat' (first | (with_reducible first | exact Hid.out (by assumption) | exact Blk.new _ _ _ | (refine Blk.new_at _ _ _ _ ?_; simp; done) | refine Blk.alloc ?_ _ | refine Blk.drewN ?_ _ | refine Blk.drew ?_ | apply Blk.set | refine Blk.put ?_ (by assumption) (by first | (simp; done) | (simp; omega) | omega) | refine Blk.below ?_ (by assumption)) | (refine Blk.setAt ?_ (by first | (simp; done) | (simp; omega))) | rfl)), Lib.hid (hx.out.trans ((below_alloc (Below.refl _ _) _).mono hx.out.size))⟩ ?_
          rintro w8 ⟨hbw8, Kw8_0, HB8⟩
          obtain ⟨lw8_0, cw8_0, fw8_0⟩ := Kw8_0.out.use
          refine (CT3.out _ (HL.out.lk.below hbw8)).mono ?_
          rintro e w9 ⟨rfl, hw9⟩
          replace hw9 := hw9.symm
          subst hw9
          have x1 : w8.cell? ⟨wr.heap.size, 1, none⟩ = some (.int .i64 V) := Kw8_0.out.cell 1
          have x2 : w8.cell? ⟨wr.heap.size, 2, none⟩ = some (.int .i64 0) := Kw8_0.out.cell 2
          have x3 : w8.cell? ⟨wr.heap.size, 3, none⟩ = some (.int .i64 65535) := Kw8_0.out.cell 3
          cases bW
          · by_cases g1 : V = 0
            · have t1 : (V != 0) = false := by simpa using g1
              have PT : partV false V 0 65535 = true := by unfold partV; simpa using g1
              clear g1
              go_wp2
              go_roundw
              case rel => exact ⟨4, by go_num, by omega, Lib.hid ⟨fun _ => hG.out.1 (by omega), fun _ => hG.out.2.1 (by omega), fun _ => hG.out.2.2.1 (by omega), fun _ => PT⟩, HB8, hbw8⟩
              case measure => simp [intOf]
            · have t1 : (V != 0) = true := by simpa using g1
              have PT : partV false V 0 65535 = false := by unfold partV; simpa using g1
              have R3 : Hid (R = 3) := Lib.hid (by rw [hR.out, PT]; simp)
              clear PT g1
              go_wp2
              go_ret
              exact ⟨by rw [R3.out]; rfl, hbw8⟩
          · by_cases g1 : V < 0
            · have t1 : decide (V < 0) = true := by simpa using g1
              have PT : partV true V 0 65535 = false := by unfold partV; simp; omega
              have R3 : Hid (R = 3) := Lib.hid (by rw [hR.out, PT]; simp)
              clear PT g1
              go_wp2
              go_ret
              exact ⟨by rw [R3.out]; rfl, hbw8⟩
            · have t1 : decide (V < 0) = false := by simpa using g1
              by_cases g2 : 65535 < V
              · have t2 : decide (65535 < V) = true := by simpa using g2
                have PT : partV true V 0 65535 = false := by unfold partV; simp; omega
                have R3 : Hid (R = 3) := Lib.hid (by rw [hR.out, PT]; simp)
                clear PT g1 g2
                go_wp2
                go_ret
                exact ⟨by rw [R3.out]; rfl, hbw8⟩
              · have t2 : decide (65535 < V) = false := by simpa using g2
                have PT : partV true V 0 65535 = true := by unfold partV; simp; omega
                clear g1 g2
                go_wp2
                go_roundw
                case rel => exact ⟨4, by go_num, by omega, Lib.hid ⟨fun _ => hG.out.1 (by omega), fun _ => hG.out.2.1 (by omega), fun _ => hG.out.2.2.1 (by omega), fun _ => PT⟩, HB8, hbw8⟩
                case measure => simp [intOf]
        · have R0 : Hid (R = 0) := Lib.hid (by rw [hR.out, hG.out.1 (by omega), hG.out.2.1 (by omega), hG.out.2.2.1 (by omega), hG.out.2.2.2 (by omega)]; simp)
          go_wp2
          go_ret
          exact ⟨by rw [R0.out]; rfl, hb⟩
    · have t2 : (m == [115, 104, 114]) = false := beq_eq_false_iff_ne.2 m2
      have hR : Hid (R = if (partV bD D 0 7 && partV bS S 0 7 && partV bN N (-16) 15 && partV bW V 0 65535) = true then 0 else 3) := Lib.hid (by rw [hR0.out, HLO.out, t1, t2]; rfl)
      clear m1 m2
      go_wp2
      have B7 := Lib.hid (Blk.new w6 #[.string ⟨#[100]⟩, .int .i64 D, .int .i64 0, .int .i64 7, .string ⟨#[115]⟩, .int .i64 S, .int .i64 0, .int .i64 7, .string ⟨#[110]⟩, .int .i64 N, .int .i64 (-16), .int .i64 15, .string ⟨#[119]⟩, .int .i64 V, .int .i64 0, .int .i64 65535] 84)
      have KR7 := Lib.hid (KR6.out.alloc (.cells #[.string ⟨#[100]⟩, .int .i64 D, .int .i64 0, .int .i64 7, .string ⟨#[115]⟩, .int .i64 S, .int .i64 0, .int .i64 7, .string ⟨#[110]⟩, .int .i64 N, .int .i64 (-16), .int .i64 15, .string ⟨#[119]⟩, .int .i64 V, .int .i64 0, .int .i64 65535] 84))
      have hb7 : Below w.heap.size w (w6.alloc (.cells #[.string ⟨#[100]⟩, .int .i64 D, .int .i64 0, .int .i64 7, .string ⟨#[115]⟩, .int .i64 S, .int .i64 0, .int .i64 7, .string ⟨#[110]⟩, .int .i64 N, .int .i64 (-16), .int .i64 15, .string ⟨#[119]⟩, .int .i64 V, .int .i64 0, .int .i64 65535] 84)) := below_alloc hb6 _
      obtain ⟨NB, eNB⟩ : ∃ NB, NB = w6.heap.size := ⟨_, rfl⟩
      rw [← eNB] at B7 ⊢
      replace eNB := Lib.hid eNB
      generalize w6.alloc (.cells #[.string ⟨#[100]⟩, .int .i64 D, .int .i64 0, .int .i64 7, .string ⟨#[115]⟩, .int .i64 S, .int .i64 0, .int .i64 7, .string ⟨#[110]⟩, .int .i64 N, .int .i64 (-16), .int .i64 15, .string ⟨#[119]⟩, .int .i64 V, .int .i64 0, .int .i64 65535] 84) = w7 at *
      clear k0 k1 d1 d2 d3 d4 hb6 KB6 KR6
      go_loopw [39] (fun i wr => ∃ k : Nat, i = .int .i64 k ∧ k ≤ 4 ∧ Hid ((1 ≤ k → partV bD D 0 7 = true) ∧ (2 ≤ k → partV bS S 0 7 = true) ∧ (3 ≤ k → partV bN N (-16) 15 = true) ∧ (4 ≤ k → partV bW V 0 65535 = true)) ∧ Hid (Below w7.heap.size w7 wr) ∧ Below w.heap.size w wr) (fun i _ => 4 - (intOf i).toNat)
      case atStart => exact ⟨0, rfl, by omega, Lib.hid ⟨by omega, by omega, by omega, by omega⟩, Lib.hid (Below.refl _ _), hb7⟩
      case round =>
        obtain ⟨k, rfl, hk4, hG, hx, hb⟩ := hrel
        rcases (by omega : k = 0 ∨ k = 1 ∨ k = 2 ∨ k = 3 ∨ k = 4) with rfl | rfl | rfl | rfl | rfl
        · have k1 : wr.cell? ⟨g7, 1, none⟩ = some (.string ⟨h.toArray⟩) := (KR7.out.below hx.out).cell 1
          have hl7 : g7 < wr.heap.size := (KR7.out.below hx.out).lt
          have e0 : wr.cell? ⟨NB, 0, none⟩ = some (.string ⟨#[100]⟩) := (B7.out.below hx.out).cell 0
          have e1 : wr.cell? ⟨NB, 1, none⟩ = some (.int .i64 D) := (B7.out.below hx.out).cell 1
          have e2 : wr.cell? ⟨NB, 2, none⟩ = some (.int .i64 0) := (B7.out.below hx.out).cell 2
          have e3 : wr.cell? ⟨NB, 3, none⟩ = some (.int .i64 7) := (B7.out.below hx.out).cell 3
          have hs8 := hb.size
          go_wp2_with fail
          refine cmark (F := fun X => Calls _ _ _ X _) (R := fun W => Below w.heap.size w W ∧ Hid (Blk W (wr.heap.size) (#[.string ⟨#[100]⟩, .int .i64 D, .int .i64 0, .int .i64 7]) 84) ∧ Hid (Below w7.heap.size w7 W)) ⟨by repeat' (first | (with_reducible first | exact Below.refl _ _ | assumption | refine below_alloc ?_ _ | refine Below.drew ?_ | refine Go.Mq.below_drewN ?_ _ | refine below_then ?_ (by assumption) | refine below_put ?_ (by assumption) (by first | (simp; done) | (simp; omega) | omega) | refine Below.setCell ?_ ?_ _) | (simp; done) | (simp; omega) | omega), Lib.hid (by repeat' (first | (with_reducible first | exact Hid.out (by assumption) | exact Blk.new _ _ _ | (refine Blk.new_at _ _ _ _ ?_; simp; done) | refine Blk.alloc ?_ _ | refine Blk.drewN ?_ _ | refine Blk.drew ?_ | apply Blk.set | refine Blk.put ?_ (by assumption) (by first | (simp; done) | (simp; omega) | omega) | refine Blk.below ?_ (by assumption)) | (refine Blk.setAt ?_ (by first | (simp; done) | (simp; omega))) | rfl)), Lib.hid (hx.out.trans ((below_alloc (Below.refl _ _) _).mono hx.out.size))⟩ ?_
          rintro w8 ⟨hbw8, Kw8_0, HB8⟩
          obtain ⟨lw8_0, cw8_0, fw8_0⟩ := Kw8_0.out.use
          refine (CT0.out _ (HL.out.lk.below hbw8)).mono ?_
          rintro e w9 ⟨rfl, hw9⟩
          replace hw9 := hw9.symm
          subst hw9
          have x1 : w8.cell? ⟨wr.heap.size, 1, none⟩ = some (.int .i64 D) := Kw8_0.out.cell 1
          have x2 : w8.cell? ⟨wr.heap.size, 2, none⟩ = some (.int .i64 0) := Kw8_0.out.cell 2
          have x3 : w8.cell? ⟨wr.heap.size, 3, none⟩ = some (.int .i64 7) := Kw8_0.out.cell 3
          cases bD
          · by_cases g1 : D = 0
            · have t1 : (D != 0) = false := by simpa using g1
              have PT : partV false D 0 7 = true := by unfold partV; simpa using g1
              clear g1
              go_wp2
              go_roundw
              case rel => exact ⟨1, by go_num, by omega, Lib.hid ⟨fun _ => PT, by omega, by omega, by omega⟩, HB8, hbw8⟩
              case measure => simp [intOf]
            · have t1 : (D != 0) = true := by simpa using g1
              have PT : partV false D 0 7 = false := by unfold partV; simpa using g1
              have R3 : Hid (R = 3) := Lib.hid (by rw [hR.out, PT]; simp)
              clear PT g1
              go_wp2
              go_ret
              exact ⟨by rw [R3.out]; rfl, hbw8⟩
          · by_cases g1 : D < 0
            · have t1 : decide (D < 0) = true := by simpa using g1
              have PT : partV true D 0 7 = false := by unfold partV; simp; omega
              have R3 : Hid (R = 3) := Lib.hid (by rw [hR.out, PT]; simp)
              clear PT g1
              go_wp2
              go_ret
              exact ⟨by rw [R3.out]; rfl, hbw8⟩
            · have t1 : decide (D < 0) = false := by simpa using g1
              by_cases g2 : 7 < D
              · have t2 : decide (7 < D) = true := by simpa using g2
                have PT : partV true D 0 7 = false := by unfold partV; simp; omega
                have R3 : Hid (R = 3) := Lib.hid (by rw [hR.out, PT]; simp)
                clear PT g1 g2
                go_wp2
                go_ret
                exact ⟨by rw [R3.out]; rfl, hbw8⟩
              · have t2 : decide (7 < D) = false := by simpa using g2
                have PT : partV true D 0 7 = true := by unfold partV; simp; omega
                clear g1 g2
                go_wp2
                go_roundw
                case rel => exact ⟨1, by go_num, by omega, Lib.hid ⟨fun _ => PT, by omega, by omega, by omega⟩, HB8, hbw8⟩
                case measure => simp [intOf]
        · have k1 : wr.cell? ⟨g7, 1, none⟩ = some (.string ⟨h.toArray⟩) := (KR7.out.below hx.out).cell 1
          have hl7 : g7 < wr.heap.size := (KR7.out.below hx.out).lt
          have e0 : wr.cell? ⟨NB, 4, none⟩ = some (.string ⟨#[115]⟩) := (B7.out.below hx.out).cell 4
          have e1 : wr.cell? ⟨NB, 5, none⟩ = some (.int .i64 S) := (B7.out.below hx.out).cell 5
          have e2 : wr.cell? ⟨NB, 6, none⟩ = some (.int .i64 0) := (B7.out.below hx.out).cell 6
          have e3 : wr.cell? ⟨NB, 7, none⟩ = some (.int .i64 7) := (B7.out.below hx.out).cell 7
          have hs8 := hb.size
          go_wp2_with fail
          refine cmark (F := fun X => Calls _ _ _ X _) (R := fun W => Below w.heap.size w W ∧ Hid (Blk W (wr.heap.size) (#[.string ⟨#[115]⟩, .int .i64 S, .int .i64 0, .int .i64 7]) 84) ∧ Hid (Below w7.heap.size w7 W)) ⟨by repeat' (first | (with_reducible first | exact Below.refl _ _ | assumption | refine below_alloc ?_ _ | refine Below.drew ?_ | refine Go.Mq.below_drewN ?_ _ | refine below_then ?_ (by assumption) | refine below_put ?_ (by assumption) (by first | (simp; done) | (simp; omega) | omega) | refine Below.setCell ?_ ?_ _) | (simp; done) | (simp; omega) | omega), Lib.hid (by repeat' (first | (with_reducible first | exact Hid.out (by assumption) | exact Blk.new _ _ _ | (refine Blk.new_at _ _ _ _ ?_; simp; done) | refine Blk.alloc ?_ _ | refine Blk.drewN ?_ _ | refine Blk.drew ?_ | apply Blk.set | refine Blk.put ?_ (by assumption) (by first | (simp; done) | (simp; omega) | omega) | refine Blk.below ?_ (by assumption)) | (refine Blk.setAt ?_ (by first | (simp; done) | (simp; omega))) | rfl)), Lib.hid (hx.out.trans ((below_alloc (Below.refl _ _) _).mono hx.out.size))⟩ ?_
          rintro w8 ⟨hbw8, Kw8_0, HB8⟩
          obtain ⟨lw8_0, cw8_0, fw8_0⟩ := Kw8_0.out.use
          refine (CT1.out _ (HL.out.lk.below hbw8)).mono ?_
          rintro e w9 ⟨rfl, hw9⟩
          replace hw9 := hw9.symm
          subst hw9
          have x1 : w8.cell? ⟨wr.heap.size, 1, none⟩ = some (.int .i64 S) := Kw8_0.out.cell 1
          have x2 : w8.cell? ⟨wr.heap.size, 2, none⟩ = some (.int .i64 0) := Kw8_0.out.cell 2
          have x3 : w8.cell? ⟨wr.heap.size, 3, none⟩ = some (.int .i64 7) := Kw8_0.out.cell 3
          cases bS
          · by_cases g1 : S = 0
            · have t1 : (S != 0) = false := by simpa using g1
              have PT : partV false S 0 7 = true := by unfold partV; simpa using g1
              clear g1
              go_wp2
              go_roundw
              case rel => exact ⟨2, by go_num, by omega, Lib.hid ⟨fun _ => hG.out.1 (by omega), fun _ => PT, by omega, by omega⟩, HB8, hbw8⟩
              case measure => simp [intOf]
            · have t1 : (S != 0) = true := by simpa using g1
              have PT : partV false S 0 7 = false := by unfold partV; simpa using g1
              have R3 : Hid (R = 3) := Lib.hid (by rw [hR.out, PT]; simp)
              clear PT g1
              go_wp2
              go_ret
              exact ⟨by rw [R3.out]; rfl, hbw8⟩
          · by_cases g1 : S < 0
            · have t1 : decide (S < 0) = true := by simpa using g1
              have PT : partV true S 0 7 = false := by unfold partV; simp; omega
              have R3 : Hid (R = 3) := Lib.hid (by rw [hR.out, PT]; simp)
              clear PT g1
              go_wp2
              go_ret
              exact ⟨by rw [R3.out]; rfl, hbw8⟩
            · have t1 : decide (S < 0) = false := by simpa using g1
              by_cases g2 : 7 < S
              · have t2 : decide (7 < S) = true := by simpa using g2
                have PT : partV true S 0 7 = false := by unfold partV; simp; omega
                have R3 : Hid (R = 3) := Lib.hid (by rw [hR.out, PT]; simp)
                clear PT g1 g2
                go_wp2
                go_ret
                exact ⟨by rw [R3.out]; rfl, hbw8⟩
              · have t2 : decide (7 < S) = false := by simpa using g2
                have PT : partV true S 0 7 = true := by unfold partV; simp; omega
                clear g1 g2
                go_wp2
                go_roundw
                case rel => exact ⟨2, by go_num, by omega, Lib.hid ⟨fun _ => hG.out.1 (by omega), fun _ => PT, by omega, by omega⟩, HB8, hbw8⟩
                case measure => simp [intOf]
        · have k1 : wr.cell? ⟨g7, 1, none⟩ = some (.string ⟨h.toArray⟩) := (KR7.out.below hx.out).cell 1
          have hl7 : g7 < wr.heap.size := (KR7.out.below hx.out).lt
          have e0 : wr.cell? ⟨NB, 8, none⟩ = some (.string ⟨#[110]⟩) := (B7.out.below hx.out).cell 8
          have e1 : wr.cell? ⟨NB, 9, none⟩ = some (.int .i64 N) := (B7.out.below hx.out).cell 9
          have e2 : wr.cell? ⟨NB, 10, none⟩ = some (.int .i64 (-16)) := (B7.out.below hx.out).cell 10
          have e3 : wr.cell? ⟨NB, 11, none⟩ = some (.int .i64 15) := (B7.out.below hx.out).cell 11
          have hs8 := hb.size
          go_wp2_with fail
          refine cmark (F := fun X => Calls _ _ _ X _) (R := fun W => Below w.heap.size w W ∧ Hid (Blk W (wr.heap.size) (#[.string ⟨#[110]⟩, .int .i64 N, .int .i64 (-16), .int .i64 15]) 84) ∧ Hid (Below w7.heap.size w7 W)) ⟨by repeat' (first | (with_reducible first | exact Below.refl _ _ | assumption | refine below_alloc ?_ _ | refine Below.drew ?_ | refine Go.Mq.below_drewN ?_ _ | refine below_then ?_ (by assumption) | refine below_put ?_ (by assumption) (by first | (simp; done) | (simp; omega) | omega) | refine Below.setCell ?_ ?_ _) | (simp; done) | (simp; omega) | omega), Lib.hid (by repeat' (first | (with_reducible first | exact Hid.out (by assumption) | exact Blk.new _ _ _ | (refine Blk.new_at _ _ _ _ ?_; simp; done) | refine Blk.alloc ?_ _ | refine Blk.drewN ?_ _ | refine Blk.drew ?_ | apply Blk.set | refine Blk.put ?_ (by assumption) (by first | (simp; done) | (simp; omega) | omega) | refine Blk.below ?_ (by assumption)) | (refine Blk.setAt ?_ (by first | (simp; done) | (simp; omega))) | rfl)), Lib.hid (hx.out.trans ((below_alloc (Below.refl _ _) _).mono hx.out.size))⟩ ?_
          rintro w8 ⟨hbw8, Kw8_0, HB8⟩
          obtain ⟨lw8_0, cw8_0, fw8_0⟩ := Kw8_0.out.use
          refine (CT2.out _ (HL.out.lk.below hbw8)).mono ?_
          rintro e w9 ⟨rfl, hw9⟩
          replace hw9 := hw9.symm
          subst hw9
          have x1 : w8.cell? ⟨wr.heap.size, 1, none⟩ = some (.int .i64 N) := Kw8_0.out.cell 1
          have x2 : w8.cell? ⟨wr.heap.size, 2, none⟩ = some (.int .i64 (-16)) := Kw8_0.out.cell 2
          have x3 : w8.cell? ⟨wr.heap.size, 3, none⟩ = some (.int .i64 15) := Kw8_0.out.cell 3
          cases bN
          · by_cases g1 : N = 0
            · have t1 : (N != 0) = false := by simpa using g1
              have PT : partV false N (-16) 15 = true := by unfold partV; simpa using g1
              clear g1
              go_wp2
              go_roundw
              case rel => exact ⟨3, by go_num, by omega, Lib.hid ⟨fun _ => hG.out.1 (by omega), fun _ => hG.out.2.1 (by omega), fun _ => PT, by omega⟩, HB8, hbw8⟩
              case measure => simp [intOf]
            · have t1 : (N != 0) = true := by simpa using g1
              have PT : partV false N (-16) 15 = false := by unfold partV; simpa using g1
              have R3 : Hid (R = 3) := Lib.hid (by rw [hR.out, PT]; simp)
              clear PT g1
              go_wp2
              go_ret
              exact ⟨by rw [R3.out]; rfl, hbw8⟩
          · by_cases g1 : N < (-16)
            · have t1 : decide (N < (-16)) = true := by simpa using g1
              have PT : partV true N (-16) 15 = false := by unfold partV; simp; omega
              have R3 : Hid (R = 3) := Lib.hid (by rw [hR.out, PT]; simp)
              clear PT g1
              go_wp2
              go_ret
              exact ⟨by rw [R3.out]; rfl, hbw8⟩
            · have t1 : decide (N < (-16)) = false := by simpa using g1
              by_cases g2 : 15 < N
              · have t2 : decide (15 < N) = true := by simpa using g2
                have PT : partV true N (-16) 15 = false := by unfold partV; simp; omega
                have R3 : Hid (R = 3) := Lib.hid (by rw [hR.out, PT]; simp)
                clear PT g1 g2
                go_wp2
                go_ret
                exact ⟨by rw [R3.out]; rfl, hbw8⟩
              · have t2 : decide (15 < N) = false := by simpa using g2
                have PT : partV true N (-16) 15 = true := by unfold partV; simp; omega
                clear g1 g2
                go_wp2
                go_roundw
                case rel => exact ⟨3, by go_num, by omega, Lib.hid ⟨fun _ => hG.out.1 (by omega), fun _ => hG.out.2.1 (by omega), fun _ => PT, by omega⟩, HB8, hbw8⟩
                case measure => simp [intOf]
        · have k1 : wr.cell? ⟨g7, 1, none⟩ = some (.string ⟨h.toArray⟩) := (KR7.out.below hx.out).cell 1
          have hl7 : g7 < wr.heap.size := (KR7.out.below hx.out).lt
          have e0 : wr.cell? ⟨NB, 12, none⟩ = some (.string ⟨#[119]⟩) := (B7.out.below hx.out).cell 12
          have e1 : wr.cell? ⟨NB, 13, none⟩ = some (.int .i64 V) := (B7.out.below hx.out).cell 13
          have e2 : wr.cell? ⟨NB, 14, none⟩ = some (.int .i64 0) := (B7.out.below hx.out).cell 14
          have e3 : wr.cell? ⟨NB, 15, none⟩ = some (.int .i64 65535) := (B7.out.below hx.out).cell 15
          have hs8 := hb.size
          go_wp2_with fail
          refine cmark (F := fun X => Calls _ _ _ X _) (R := fun W => Below w.heap.size w W ∧ Hid (Blk W (wr.heap.size) (#[.string ⟨#[119]⟩, .int .i64 V, .int .i64 0, .int .i64 65535]) 84) ∧ Hid (Below w7.heap.size w7 W)) ⟨by repeat' (first | (with_reducible first | exact Below.refl _ _ | assumption | refine below_alloc ?_ _ | refine Below.drew ?_ | refine Go.Mq.below_drewN ?_ _ | refine below_then ?_ (by assumption) | refine below_put ?_ (by assumption) (by first | (simp; done) | (simp; omega) | omega) | refine Below.setCell ?_ ?_ _) | (simp; done) | (simp; omega) | omega), Lib.hid (by repeat' (first | (with_reducible first | exact Hid.out (by assumption) | exact Blk.new _ _ _ | (refine Blk.new_at _ _ _ _ ?_; simp; done) | refine Blk.alloc ?_ _ | refine Blk.drewN ?_ _ | refine Blk.drew ?_ | apply Blk.set | refine Blk.put ?_ (by assumption) (by first | (simp; done) | (simp; omega) | omega) | refine Blk.below ?_ (by assumption)) | (refine Blk.setAt ?_ (by first | (simp; done) | (simp; omega))) | rfl)), Lib.hid (hx.out.trans ((below_alloc (Below.refl _ _) _).mono hx.out.size))⟩ ?_
          rintro w8 ⟨hbw8, Kw8_0, HB8⟩
          obtain ⟨lw8_0, cw8_0, fw8_0⟩ := Kw8_0.out.use
          refine (CT3.out _ (HL.out.lk.below hbw8)).mono ?_
          rintro e w9 ⟨rfl, hw9⟩
          replace hw9 := hw9.symm
          subst hw9
          have x1 : w8.cell? ⟨wr.heap.size, 1, none⟩ = some (.int .i64 V) := Kw8_0.out.cell 1
          have x2 : w8.cell? ⟨wr.heap.size, 2, none⟩ = some (.int .i64 0) := Kw8_0.out.cell 2
          have x3 : w8.cell? ⟨wr.heap.size, 3, none⟩ = some (.int .i64 65535) := Kw8_0.out.cell 3
          cases bW
          · by_cases g1 : V = 0
            · have t1 : (V != 0) = false := by simpa using g1
              have PT : partV false V 0 65535 = true := by unfold partV; simpa using g1
              clear g1
              go_wp2
              go_roundw
              case rel => exact ⟨4, by go_num, by omega, Lib.hid ⟨fun _ => hG.out.1 (by omega), fun _ => hG.out.2.1 (by omega), fun _ => hG.out.2.2.1 (by omega), fun _ => PT⟩, HB8, hbw8⟩
              case measure => simp [intOf]
            · have t1 : (V != 0) = true := by simpa using g1
              have PT : partV false V 0 65535 = false := by unfold partV; simpa using g1
              have R3 : Hid (R = 3) := Lib.hid (by rw [hR.out, PT]; simp)
              clear PT g1
              go_wp2
              go_ret
              exact ⟨by rw [R3.out]; rfl, hbw8⟩
          · by_cases g1 : V < 0
            · have t1 : decide (V < 0) = true := by simpa using g1
              have PT : partV true V 0 65535 = false := by unfold partV; simp; omega
              have R3 : Hid (R = 3) := Lib.hid (by rw [hR.out, PT]; simp)
              clear PT g1
              go_wp2
              go_ret
              exact ⟨by rw [R3.out]; rfl, hbw8⟩
            · have t1 : decide (V < 0) = false := by simpa using g1
              by_cases g2 : 65535 < V
              · have t2 : decide (65535 < V) = true := by simpa using g2
                have PT : partV true V 0 65535 = false := by unfold partV; simp; omega
                have R3 : Hid (R = 3) := Lib.hid (by rw [hR.out, PT]; simp)
                clear PT g1 g2
                go_wp2
                go_ret
                exact ⟨by rw [R3.out]; rfl, hbw8⟩
              · have t2 : decide (65535 < V) = false := by simpa using g2
                have PT : partV true V 0 65535 = true := by unfold partV; simp; omega
                clear g1 g2
                go_wp2
                go_roundw
                case rel => exact ⟨4, by go_num, by omega, Lib.hid ⟨fun _ => hG.out.1 (by omega), fun _ => hG.out.2.1 (by omega), fun _ => hG.out.2.2.1 (by omega), fun _ => PT⟩, HB8, hbw8⟩
                case measure => simp [intOf]
        · have R0 : Hid (R = 0) := Lib.hid (by rw [hR.out, hG.out.1 (by omega), hG.out.2.1 (by omega), hG.out.2.2.1 (by omega), hG.out.2.2.2 (by omega)]; simp)
          go_wp2
          go_ret
          exact ⟨by rw [R0.out]; rfl, hb⟩
end Go.Proofs.YtmpdoiilakjmbaaDoor
