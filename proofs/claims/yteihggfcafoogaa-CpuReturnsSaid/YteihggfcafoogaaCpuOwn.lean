/- ownSpace: a space's slices, appended to empty ones, are owned and lie apart. Conditions: the slices' cells are bytes, no more than a million. -/
import Derived.Test.YteihggfcafoogaaLibAppend
import Derived.Test.YteihggfcafoogaaCpuSpc
import Derived.Test.YteihggfcafoogaaCpuStp
import Derived.Maps.AppendAt
set_option linter.unusedVariables false
set_option linter.unusedSimpArgs false
namespace Go.Mq
open Go.RowKit
theorem gcut7 {G : Prop} {F : Nat → Nat → Option Addr → Nat → Option Addr → Nat → World → Prop} (R : Nat → Nat → Option Addr → Nat → Option Addr → Nat → World → Prop) (h : (∀ g g' x p y q W, R g g' x p y q W → F g g' x p y q W) → G) (H : ∀ g g' x p y q W, R g g' x p y q W → F g g' x p y q W) : G := h H
/-- two values own no block together -/
def Apart (a b : Value) : Prop := ∀ g, a.ownBlock = some g → b.ownBlock = some g → False
theorem Apart.symm {a b : Value} (h : Apart a b) : Apart b a := fun g h1 h2 => h g h2 h1
theorem own_apart {W W' : World} {base size n : Nat} {e : TypeId} {a b : Value} {xs : List Value} (h : W.ownsRow base e size b n xs) (hg : W.grownBy W' a.ownBlock) (dj : Apart a b) : W'.ownsRow base e size b n xs := by
  refine ⟨h.1, ?_⟩
  have hlt := h.lt
  rcases h.2 with hn | ⟨g, cap, cur, rfl, hbg, hgg, rest⟩
  · exact .inl hn
  · refine .inr ⟨g, cap, cur, rfl, hbg, ?_, rest⟩
    rw [hg.block g (hlt g rfl).2 (fun hk => dj g hk.symm rfl)]
    exact hgg
theorem apart_new {W : World} {base size n : Nat} {e : TypeId} {b : Value} {xs : List Value} (h : W.ownsRow base e size b n xs) {g len cap : Nat} (hg : g = W.heap.size) : Apart (.slice (some ⟨g, 0, none⟩) len cap) b := by
  intro k h1 h2
  have := (h.lt k h2).2
  have e : g = k := by simpa [Value.ownBlock] using h1
  omega
theorem apart_grown {W : World} {base size n : Nat} {e : TypeId} {a a' b : Value} {xs : List Value} (h : W.ownsRow base e size b n xs) (dj : Apart a b) (ho : a'.ownBlock = a.ownBlock ∨ a'.ownBlock = some W.heap.size) : Apart a' b := by
  intro k h1 h2
  rcases ho with ho | ho
  · exact dj k (ho ▸ h1) h2
  · have := (h.lt k h2).2
    rw [ho] at h1
    injection h1 with h1
    omega
theorem own_new {w : World} {e : TypeId} {g base : Nat} (hg : g = w.heap.size) (hb : base ≤ g) : (w.alloc (.cells #[] e)).ownsRow base e 1 (.slice (some ⟨g, 0, none⟩) 0 0) 0 [] := by
  subst hg
  exact ⟨rfl, Or.inr ⟨w.heap.size, 0, #[], rfl, hb, Blk.new _ _ _, Nat.le_refl _, Nat.zero_le _, rfl, rfl⟩⟩
theorem wp_app {P : Program} {w : World} {o : Oper} {a : Act} {K : Act → World → Prop} {Q : Exit → Act → World → Prop} (s x : Operand) (t : TypeId)
    (ho : o.op = .call { callee := .builtin .append, args := #[s, x], argTypes := #[t, t] }) (v u v' : Value) (w' : World) (hs : a.eval s = v) (hx : a.eval x = u)
    (hr : (Builtin.append_ #[t, t] o.type #[v, u]).run P w = .ok v' w') (h : K (a.put o.dst v') w') : o.wp P a w K Q := by
  unfold Oper.wp execOp
  simp only [ho, resolve, invoke, builtin, Sem.run_bind, Sem.run_pure, Result.andThen_ok, List.map_toArray, List.map_cons, List.map_nil, hs, hx, hr]
  exact h
end Go.Mq
namespace Go.Proofs.Yteihggfcafoogaa
open Go.RowKit Go.Mq
set_option maxHeartbeats 2000000
set_option maxRecDepth 100000
/-- append to an empty slice of one's own -/
theorem app_any (w : World) (base : Nat) (v : Value) (hown : w.ownsRow base 5 1 v 0 []) (u : Value) (ys : List Int) (hu : SliceAt w .u8 u ys) (hn : ys.length ≤ 1000000) (hbase : base ≤ w.heap.size) (ty : TypeId) :
    ∃ v' w', (Builtin.append_ #[22, 22] ty #[v, u]).run Try.prog w = .ok v' w' ∧ w'.ownsRow base 5 1 v' ys.length (ys.map (Value.int .u8)) ∧ w.grownBy w' v.ownBlock ∧ (v'.ownBlock = v.ownBlock ∨ v'.ownBlock = some w.heap.size) := by
  obtain ⟨i0, hi, hz0, hz1, hz2⟩ := info_parts infoB
  obtain ⟨a, c, rfl, hc1, hc2, hwf, hcs⟩ := hu
  obtain ⟨ao, cp, rfl⟩ := own_shape hown
  cases a with
  | none =>
    have h0 : ys = [] := by
      cases ys with
      | nil => rfl
      | cons y t => obtain ⟨b, off, he, -⟩ := hcs (by simp); cases he
    subst h0
    exact ⟨_, w, append_none w 22 ty 5 i0 Try.underlying22 hi ao 0 cp c (own_cap hown), hown, ⟨rfl, rfl, rfl, Nat.le_refl _, fun _ _ _ => rfl⟩, Or.inl rfl⟩
  | some ad =>
    obtain ⟨v', w', hr, h2, h3, -, h4⟩ := run_append_own_at (P := Try.prog) (w := w) base 22 ty 5 i0 (.int .u8 0) 1 1 Try.underlying22 hi hz0 hz1 hz2 rfl (by decide) _ _ _ hown ad ys.length c (ys.map (Value.int .u8)) (by simp)
      (fun j u hj => by
        rw [List.getElem?_map] at hj
        cases hy : ys[j]? with
        | none => rw [hy] at hj; cases hj
        | some y =>
          rw [hy] at hj
          injection hj with hj
          obtain ⟨hlt, he⟩ := List.getElem?_eq_some_iff.1 hy
          obtain ⟨b, off, hab, -, hcell⟩ := hcs (by omega)
          injection hab with hab
          subst hab
          rw [Addr.add_lit, hcell j hlt, ← hj, List.getD_eq_getElem?_getD, hy]
          rfl)
      (fun u hu => by
        obtain ⟨y, -, rfl⟩ := List.mem_map.1 hu
        rfl)
      (by unfold maxLen; omega) (by omega) hbase
    exact ⟨v', w', hr, by simpa using h2, h3, h4⟩
theorem own_any (v1 v2 : Value) (xs ys : List Int) (w : World) (h1 : SliceAt w .u8 v1 xs) (h2 : SliceAt w .u8 v2 ys) (l1 : xs.length ≤ 1000000) (l2 : ys.length ≤ 1000000) :
    Calls Try.prog 11 #[.agg #[v1, v2]] w fun e w' => ∃ a b, e = .returned (.agg #[a, b]) ∧ w'.ownsRow (w.heap.size + 2) 5 1 a xs.length (xs.map (Value.int .u8)) ∧ w'.ownsRow (w.heap.size + 2) 5 1 b ys.length (ys.map (Value.int .u8)) ∧ Apart a b ∧ Below w.heap.size w w' := by
  have H1 := Lib.hid h1
  have H2 := Lib.hid h2
  obtain ⟨a1, k1, rfl, -⟩ := h1
  obtain ⟨a2, k2, rfl, -⟩ := h2
  go_enter Try.func11, Try.ntmps11
  go_wp2_with fail
  apply gcut7 (fun _ _ x1 n1 x2 n2 W => Below w.heap.size w W ∧ Hid (Blk W (w.heap.size + 1) #[.slice x1 xs.length n1, .slice x2 ys.length n2] 24) ∧ Hid (W.ownsRow (w.heap.size + 2) 5 1 (.slice x1 xs.length n1) xs.length (xs.map (Value.int .u8))) ∧ Hid (W.ownsRow (w.heap.size + 2) 5 1 (.slice x2 ys.length n2) ys.length (ys.map (Value.int .u8))) ∧ Hid (Apart (.slice x1 xs.length n1) (.slice x2 ys.length n2)))
  · intro hk
    refine wp_region_held_drew (S := fun W => Blk W (w.heap.size) #[.slice a1 xs.length k1, .slice a2 ys.length k2] 24) (by kernel_rfl) (Blk.drew (by repeat' (first | (with_reducible first | exact Hid.out (by assumption) | exact Blk.new _ _ _ | (refine Blk.new_at _ _ _ _ ?_; simp; done) | refine Blk.alloc ?_ _ | refine Blk.drewN ?_ _ | refine Blk.drew ?_ | apply Blk.set | refine Blk.put ?_ (by assumption) (by first | (simp; done) | (simp; omega) | omega) | refine Blk.below ?_ (by assumption)) | (refine Blk.setAt ?_ (by first | (simp; done) | (simp; omega))) | rfl))) (fun hS => ?_)
    refine pmark1 (R := fun Z => Below w.heap.size w Z ∧ w.heap.size + 2 ≤ Z.heap.size ∧ Hid (Blk Z w.heap.size #[.slice a1 xs.length k1, .slice a2 ys.length k2] 24) ∧ Hid (Blk Z (w.heap.size + 1) #[.slice none 0 0, .slice none 0 0] 24)) (F := fun Z => wpAnyH _ _ _ _ _ _ _ _ Z) ⟨by repeat' (first | (with_reducible first | exact Below.refl _ _ | assumption | refine below_alloc ?_ _ | refine Below.drew ?_ | refine below_drewN ?_ _ | refine below_then ?_ (by assumption) | refine below_put ?_ (by assumption) (by first | (simp; done) | (simp; omega) | omega) | refine Below.setCell ?_ ?_ _) | (simp; done) | (simp; omega) | omega), by simp, Lib.hid (by repeat' (first | (with_reducible first | exact Hid.out (by assumption) | exact Blk.new _ _ _ | (refine Blk.new_at _ _ _ _ ?_; simp; done) | refine Blk.alloc ?_ _ | refine Blk.drewN ?_ _ | refine Blk.drew ?_ | apply Blk.set | refine Blk.put ?_ (by assumption) (by first | (simp; done) | (simp; omega) | omega) | refine Blk.below ?_ (by assumption)) | (refine Blk.setAt ?_ (by first | (simp; done) | (simp; omega))) | rfl)), Lib.hid (by repeat' (first | (with_reducible first | exact Hid.out (by assumption) | exact Blk.new _ _ _ | (refine Blk.new_at _ _ _ _ ?_; simp; done) | refine Blk.alloc ?_ _ | refine Blk.drewN ?_ _ | refine Blk.drew ?_ | apply Blk.set | refine Blk.put ?_ (by assumption) (by first | (simp; done) | (simp; omega) | omega) | refine Blk.below ?_ (by assumption)) | (refine Blk.setAt ?_ (by first | (simp; done) | (simp; omega))) | rfl))⟩ ?_
    clear hS
    intro W0 ⟨B0, z0, X0, Y0⟩
    have hS := X0.out
    refine wpAnyH_take (i := 1) (v := ?v1_1) rfl (by kernel_rfl) (by kernel_rfl) (by kernel_rfl) (fun _ _ _ h => h) (Or.inl ⟨by rfl, ?y1_1⟩) hS ?_
    case y1_1 => (intro w hSw; go_simp; try with_reducible rfl)
    try simp only [List.getElem_toArray, List.getElem_cons_succ, List.getElem_cons_zero, Act.put, List.setIfInBounds_toArray, List.set_cons_zero, List.set_cons_succ]
    refine wpAnyH_take (i := 2) (v := ?v2_2) rfl (by kernel_rfl) (by kernel_rfl) (by kernel_rfl) (fun _ _ _ h => h) (Or.inl ⟨by rfl, ?y2_2⟩) hS ?_
    case y2_2 => (intro w hSw; have c0 := hSw.cell 0; go_simp; try with_reducible rfl)
    try simp only [List.getElem_toArray, List.getElem_cons_succ, List.getElem_cons_zero, Act.put, List.setIfInBounds_toArray, List.set_cons_zero, List.set_cons_succ]
    refine wpAnyH_take (i := 5) (v := ?v5_3) rfl (by kernel_rfl) (by kernel_rfl) (by kernel_rfl) (fun _ _ _ h => h) (Or.inl ⟨by rfl, ?y5_3⟩) hS ?_
    case y5_3 => (intro w hSw; go_simp; try with_reducible rfl)
    try simp only [List.getElem_toArray, List.getElem_cons_succ, List.getElem_cons_zero, Act.put, List.setIfInBounds_toArray, List.set_cons_zero, List.set_cons_succ]
    refine wpAnyH_take (i := 6) (v := ?v6_4) rfl (by kernel_rfl) (by kernel_rfl) (by kernel_rfl) (fun _ _ _ h => h) (Or.inl ⟨by rfl, ?y6_4⟩) hS ?_
    case y6_4 => (intro w hSw; have c0 := hSw.cell 1; go_simp; try with_reducible rfl)
    try simp only [List.getElem_toArray, List.getElem_cons_succ, List.getElem_cons_zero, Act.put, List.setIfInBounds_toArray, List.set_cons_zero, List.set_cons_succ]
    refine wpAnyH_ready (rs := [0, 4]) (by kernel_rfl) (by simp) ?_
    refine AllReadyH.cons rfl (fun K hK => ?_) (AllReadyH.cons rfl (fun K hK => ?_) (AllReadyH.nil))
    · go_simp
      obtain ⟨gA, eg⟩ : ∃ g, g = W0.heap.size := ⟨_, rfl⟩
      refine hK.out _ _ (X0.out.alloc _) (fun hS => ?_)
      rw [← eg]
      clear hK K
      try simp only [List.getElem_toArray, List.getElem_cons_succ, List.getElem_cons_zero, Act.put, List.setIfInBounds_toArray, List.set_cons_zero, List.set_cons_succ]
      refine pmark1 (R := fun Z => Below w.heap.size w Z ∧ w.heap.size + 2 ≤ Z.heap.size ∧ Hid (Blk Z w.heap.size #[.slice a1 xs.length k1, .slice a2 ys.length k2] 24) ∧ Hid (Blk Z (w.heap.size + 1) #[.slice none 0 0, .slice none 0 0] 24) ∧ Hid (Z.ownsRow (w.heap.size + 2) 5 1 (.slice (some ⟨gA, 0, none⟩) 0 0) 0 [])) (F := fun Z => wpAnyH _ _ _ _ _ _ _ _ Z) ⟨B0.alloc (by omega) _, by simp; omega, Lib.hid (X0.out.alloc _), Lib.hid (Y0.out.alloc _), Lib.hid (own_new eg (by omega))⟩ ?_
      clear hS
      clear eg
      intro W1 ⟨B1, z1, X1, Y1, OA1⟩
      have hS := X1.out
      refine wpAnyH_ready (rs := [3, 4]) (by kernel_rfl) (by simp) ?_
      refine AllReadyH.cons rfl (fun K hK => ?_) (AllReadyH.cons rfl (fun K hK => ?_) (AllReadyH.nil))
      · obtain ⟨uA, W2, hr, ho, hg, hw⟩ := app_any W1 (w.heap.size + 2) (.slice (some ⟨gA, 0, none⟩) 0 0) OA1.out (.slice a1 xs.length k1) xs (H1.out.below B1) l1 (by omega) 22
        rw [if_pos (by rfl)]
        refine wp_app (.tmp 3) (.tmp 5) 22 rfl _ _ _ _ rfl rfl hr ?_
        have hx := Blk.grown X1.out hg OA1.out (by omega)
        refine hK.out _ _ hx (fun hS => ?_)
        clear hK K
        try simp only [List.getElem_toArray, List.getElem_cons_succ, List.getElem_cons_zero, Act.put, List.setIfInBounds_toArray, List.set_cons_zero, List.set_cons_succ]
        refine pmark1 (R := fun Z => Below w.heap.size w Z ∧ w.heap.size + 2 ≤ Z.heap.size ∧ Hid (Blk Z w.heap.size #[.slice a1 xs.length k1, .slice a2 ys.length k2] 24) ∧ Hid (Blk Z (w.heap.size + 1) #[.slice none 0 0, .slice none 0 0] 24) ∧ Hid (Z.ownsRow (w.heap.size + 2) 5 1 uA xs.length (xs.map (Value.int .u8)))) (F := fun Z => wpAnyH _ _ _ _ _ _ _ _ Z) ⟨below_grown B1 (by omega) hg OA1.out (by omega), by have := hg.size; omega, Lib.hid hx, Lib.hid (Blk.grown Y1.out hg OA1.out (by omega)), Lib.hid ho⟩ ?_
        clear hS
        clear hr ho hg hw hx
        try clear W2
        intro W2 ⟨B2, z2, X2, Y2, OA2⟩
        have hS := X2.out
        refine wpAnyH_ready (rs := [4]) (by kernel_rfl) (by simp) ?_
        refine AllReadyH.cons rfl (fun K hK => ?_) (AllReadyH.nil)
        · go_simp
          obtain ⟨gB, eg⟩ : ∃ g, g = W2.heap.size := ⟨_, rfl⟩
          have DJ : Hid (Apart uA (.slice (some ⟨gB, 0, none⟩) 0 0)) := Lib.hid (Apart.symm (apart_new OA2.out eg))
          refine hK.out _ _ (X2.out.alloc _) (fun hS => ?_)
          rw [← eg]
          clear hK K
          try simp only [List.getElem_toArray, List.getElem_cons_succ, List.getElem_cons_zero, Act.put, List.setIfInBounds_toArray, List.set_cons_zero, List.set_cons_succ]
          refine pmark1 (R := fun Z => Below w.heap.size w Z ∧ w.heap.size + 2 ≤ Z.heap.size ∧ Hid (Blk Z w.heap.size #[.slice a1 xs.length k1, .slice a2 ys.length k2] 24) ∧ Hid (Blk Z (w.heap.size + 1) #[.slice none 0 0, .slice none 0 0] 24) ∧ Hid (Z.ownsRow (w.heap.size + 2) 5 1 uA xs.length (xs.map (Value.int .u8))) ∧ Hid (Z.ownsRow (w.heap.size + 2) 5 1 (.slice (some ⟨gB, 0, none⟩) 0 0) 0 [])) (F := fun Z => wpAnyH _ _ _ _ _ _ _ _ Z) ⟨B2.alloc (by omega) _, by simp; omega, Lib.hid (X2.out.alloc _), Lib.hid (Y2.out.alloc _), Lib.hid (OA2.out.alloc _), Lib.hid (own_new eg (by omega))⟩ ?_
          clear hS
          clear eg
          intro W3 ⟨B3, z3, X3, Y3, OA3, OB3⟩
          have hS := X3.out
          refine wpAnyH_ready (rs := [7]) (by kernel_rfl) (by simp) ?_
          refine AllReadyH.cons rfl (fun K hK => ?_) (AllReadyH.nil)
          · obtain ⟨uB, W4, hr, ho, hg, hw⟩ := app_any W3 (w.heap.size + 2) (.slice (some ⟨gB, 0, none⟩) 0 0) OB3.out (.slice a2 ys.length k2) ys (H2.out.below B3) l2 (by omega) 22
            rw [if_pos (by rfl)]
            refine wp_app (.tmp 7) (.tmp 9) 22 rfl _ _ _ _ rfl rfl hr ?_
            have DJ2 : Hid (Apart uA uB) := Lib.hid (Apart.symm (apart_grown OA3.out DJ.out.symm hw))
            have hx := Blk.grown X3.out hg OB3.out (by omega)
            refine hK.out _ _ hx (fun hS => ?_)
            clear hK K
            try simp only [List.getElem_toArray, List.getElem_cons_succ, List.getElem_cons_zero, Act.put, List.setIfInBounds_toArray, List.set_cons_zero, List.set_cons_succ]
            refine pmark1 (R := fun Z => Below w.heap.size w Z ∧ w.heap.size + 2 ≤ Z.heap.size ∧ Hid (Blk Z w.heap.size #[.slice a1 xs.length k1, .slice a2 ys.length k2] 24) ∧ Hid (Blk Z (w.heap.size + 1) #[.slice none 0 0, .slice none 0 0] 24) ∧ Hid (Z.ownsRow (w.heap.size + 2) 5 1 uA xs.length (xs.map (Value.int .u8))) ∧ Hid (Z.ownsRow (w.heap.size + 2) 5 1 uB ys.length (ys.map (Value.int .u8)))) (F := fun Z => wpAnyH _ _ _ _ _ _ _ _ Z) ⟨below_grown B3 (by omega) hg OB3.out (by omega), by have := hg.size; omega, Lib.hid hx, Lib.hid (Blk.grown Y3.out hg OB3.out (by omega)), Lib.hid (own_apart OA3.out hg DJ.out.symm), Lib.hid ho⟩ ?_
            clear hS
            clear hr ho hg hw hx
            try clear W4
            clear DJ
            have DJ := DJ2
            intro W4 ⟨B4, z4, X4, Y4, OA4, OB4⟩
            have hS := X4.out
            obtain ⟨xA, pA, rfl⟩ := own_shape OA4.out
            obtain ⟨xB, pB, rfl⟩ := own_shape OB4.out
            refine wpAnyH_take (i := 8) (v := ?v8_5) rfl (by kernel_rfl) (by kernel_rfl) (by kernel_rfl) (fun _ _ _ h => h) (Or.inl ⟨by rfl, ?y8_5⟩) hS ?_
            case y8_5 => (intro w hSw; go_simp; try with_reducible rfl)
            try simp only [List.getElem_toArray, List.getElem_cons_succ, List.getElem_cons_zero, Act.put, List.setIfInBounds_toArray, List.set_cons_zero, List.set_cons_succ]
            refine wpAnyH_ready (rs := [9]) (by kernel_rfl) (by simp) (AllReadyH.cons rfl (fun K hK => ?_) AllReadyH.nil)
            rw [if_pos (by rfl)]
            have oa := (own_one OA4.out)
            have ob := (own_one OB4.out)
            refine wp_store_row 24 (.tmp 2) (.tmp 11) rfl (w.heap.size + 1) #[(.slice xA xs.length pA), (.slice xB ys.length pB)] rfl rfl 24 #[.slice none 0 0, .slice none 0 0] Y4.out (by kernel_rfl) rfl (by simp [oa, ob]) ?_
            have hsr := Lib.hid (setRow_heap _ (w.heap.size + 1) _ #[(.slice xA xs.length pA), (.slice xB ys.length pB)] 24 (0, 0) Y4.out)
            refine hK.out _ _ (Blk.put X4.out (put_setRow _ _ _) (by omega)) (fun hS => ?_)
            clear hK K
            try simp only [List.getElem_toArray, List.getElem_cons_succ, List.getElem_cons_zero, Act.put, List.setIfInBounds_toArray, List.set_cons_zero, List.set_cons_succ]
            refine wpAnyH_done (by kernel_rfl) ?_ _
            exact hk gA gB xA pA xB pB _ ⟨below_put B4 (put_setRow _ _ _) (by omega), hsr, Lib.hid (own_put OA4.out (put_setRow _ _ _) (by omega)), Lib.hid (own_put OB4.out (put_setRow _ _ _) (by omega)), DJ⟩
      · go_simp
        obtain ⟨gB, eg⟩ : ∃ g, g = W1.heap.size := ⟨_, rfl⟩
        have DJ : Hid (Apart (.slice (some ⟨gA, 0, none⟩) 0 0) (.slice (some ⟨gB, 0, none⟩) 0 0)) := Lib.hid (Apart.symm (apart_new OA1.out eg))
        refine hK.out _ _ (X1.out.alloc _) (fun hS => ?_)
        rw [← eg]
        clear hK K
        try simp only [List.getElem_toArray, List.getElem_cons_succ, List.getElem_cons_zero, Act.put, List.setIfInBounds_toArray, List.set_cons_zero, List.set_cons_succ]
        refine pmark1 (R := fun Z => Below w.heap.size w Z ∧ w.heap.size + 2 ≤ Z.heap.size ∧ Hid (Blk Z w.heap.size #[.slice a1 xs.length k1, .slice a2 ys.length k2] 24) ∧ Hid (Blk Z (w.heap.size + 1) #[.slice none 0 0, .slice none 0 0] 24) ∧ Hid (Z.ownsRow (w.heap.size + 2) 5 1 (.slice (some ⟨gA, 0, none⟩) 0 0) 0 []) ∧ Hid (Z.ownsRow (w.heap.size + 2) 5 1 (.slice (some ⟨gB, 0, none⟩) 0 0) 0 [])) (F := fun Z => wpAnyH _ _ _ _ _ _ _ _ Z) ⟨B1.alloc (by omega) _, by simp; omega, Lib.hid (X1.out.alloc _), Lib.hid (Y1.out.alloc _), Lib.hid (OA1.out.alloc _), Lib.hid (own_new eg (by omega))⟩ ?_
        clear hS
        clear eg
        intro W2 ⟨B2, z2, X2, Y2, OA2, OB2⟩
        have hS := X2.out
        refine wpAnyH_ready (rs := [3]) (by kernel_rfl) (by simp) ?_
        refine AllReadyH.cons rfl (fun K hK => ?_) (AllReadyH.nil)
        · obtain ⟨uA, W3, hr, ho, hg, hw⟩ := app_any W2 (w.heap.size + 2) (.slice (some ⟨gA, 0, none⟩) 0 0) OA2.out (.slice a1 xs.length k1) xs (H1.out.below B2) l1 (by omega) 22
          rw [if_pos (by rfl)]
          refine wp_app (.tmp 3) (.tmp 5) 22 rfl _ _ _ _ rfl rfl hr ?_
          have DJ2 : Hid (Apart uA (.slice (some ⟨gB, 0, none⟩) 0 0)) := Lib.hid (apart_grown OB2.out DJ.out hw)
          have hx := Blk.grown X2.out hg OA2.out (by omega)
          refine hK.out _ _ hx (fun hS => ?_)
          clear hK K
          try simp only [List.getElem_toArray, List.getElem_cons_succ, List.getElem_cons_zero, Act.put, List.setIfInBounds_toArray, List.set_cons_zero, List.set_cons_succ]
          refine pmark1 (R := fun Z => Below w.heap.size w Z ∧ w.heap.size + 2 ≤ Z.heap.size ∧ Hid (Blk Z w.heap.size #[.slice a1 xs.length k1, .slice a2 ys.length k2] 24) ∧ Hid (Blk Z (w.heap.size + 1) #[.slice none 0 0, .slice none 0 0] 24) ∧ Hid (Z.ownsRow (w.heap.size + 2) 5 1 uA xs.length (xs.map (Value.int .u8))) ∧ Hid (Z.ownsRow (w.heap.size + 2) 5 1 (.slice (some ⟨gB, 0, none⟩) 0 0) 0 [])) (F := fun Z => wpAnyH _ _ _ _ _ _ _ _ Z) ⟨below_grown B2 (by omega) hg OA2.out (by omega), by have := hg.size; omega, Lib.hid hx, Lib.hid (Blk.grown Y2.out hg OA2.out (by omega)), Lib.hid ho, Lib.hid (own_apart OB2.out hg DJ.out)⟩ ?_
          clear hS
          clear hr ho hg hw hx
          try clear W3
          clear DJ
          have DJ := DJ2
          intro W3 ⟨B3, z3, X3, Y3, OA3, OB3⟩
          have hS := X3.out
          refine wpAnyH_ready (rs := [7]) (by kernel_rfl) (by simp) ?_
          refine AllReadyH.cons rfl (fun K hK => ?_) (AllReadyH.nil)
          · obtain ⟨uB, W4, hr, ho, hg, hw⟩ := app_any W3 (w.heap.size + 2) (.slice (some ⟨gB, 0, none⟩) 0 0) OB3.out (.slice a2 ys.length k2) ys (H2.out.below B3) l2 (by omega) 22
            rw [if_pos (by rfl)]
            refine wp_app (.tmp 7) (.tmp 9) 22 rfl _ _ _ _ rfl rfl hr ?_
            have DJ2 : Hid (Apart uA uB) := Lib.hid (Apart.symm (apart_grown OA3.out DJ.out.symm hw))
            have hx := Blk.grown X3.out hg OB3.out (by omega)
            refine hK.out _ _ hx (fun hS => ?_)
            clear hK K
            try simp only [List.getElem_toArray, List.getElem_cons_succ, List.getElem_cons_zero, Act.put, List.setIfInBounds_toArray, List.set_cons_zero, List.set_cons_succ]
            refine pmark1 (R := fun Z => Below w.heap.size w Z ∧ w.heap.size + 2 ≤ Z.heap.size ∧ Hid (Blk Z w.heap.size #[.slice a1 xs.length k1, .slice a2 ys.length k2] 24) ∧ Hid (Blk Z (w.heap.size + 1) #[.slice none 0 0, .slice none 0 0] 24) ∧ Hid (Z.ownsRow (w.heap.size + 2) 5 1 uA xs.length (xs.map (Value.int .u8))) ∧ Hid (Z.ownsRow (w.heap.size + 2) 5 1 uB ys.length (ys.map (Value.int .u8)))) (F := fun Z => wpAnyH _ _ _ _ _ _ _ _ Z) ⟨below_grown B3 (by omega) hg OB3.out (by omega), by have := hg.size; omega, Lib.hid hx, Lib.hid (Blk.grown Y3.out hg OB3.out (by omega)), Lib.hid (own_apart OA3.out hg DJ.out.symm), Lib.hid ho⟩ ?_
            clear hS
            clear hr ho hg hw hx
            try clear W4
            clear DJ
            have DJ := DJ2
            intro W4 ⟨B4, z4, X4, Y4, OA4, OB4⟩
            have hS := X4.out
            obtain ⟨xA, pA, rfl⟩ := own_shape OA4.out
            obtain ⟨xB, pB, rfl⟩ := own_shape OB4.out
            refine wpAnyH_take (i := 8) (v := ?v8_6) rfl (by kernel_rfl) (by kernel_rfl) (by kernel_rfl) (fun _ _ _ h => h) (Or.inl ⟨by rfl, ?y8_6⟩) hS ?_
            case y8_6 => (intro w hSw; go_simp; try with_reducible rfl)
            try simp only [List.getElem_toArray, List.getElem_cons_succ, List.getElem_cons_zero, Act.put, List.setIfInBounds_toArray, List.set_cons_zero, List.set_cons_succ]
            refine wpAnyH_ready (rs := [9]) (by kernel_rfl) (by simp) (AllReadyH.cons rfl (fun K hK => ?_) AllReadyH.nil)
            rw [if_pos (by rfl)]
            have oa := (own_one OA4.out)
            have ob := (own_one OB4.out)
            refine wp_store_row 24 (.tmp 2) (.tmp 11) rfl (w.heap.size + 1) #[(.slice xA xs.length pA), (.slice xB ys.length pB)] rfl rfl 24 #[.slice none 0 0, .slice none 0 0] Y4.out (by kernel_rfl) rfl (by simp [oa, ob]) ?_
            have hsr := Lib.hid (setRow_heap _ (w.heap.size + 1) _ #[(.slice xA xs.length pA), (.slice xB ys.length pB)] 24 (0, 0) Y4.out)
            refine hK.out _ _ (Blk.put X4.out (put_setRow _ _ _) (by omega)) (fun hS => ?_)
            clear hK K
            try simp only [List.getElem_toArray, List.getElem_cons_succ, List.getElem_cons_zero, Act.put, List.setIfInBounds_toArray, List.set_cons_zero, List.set_cons_succ]
            refine wpAnyH_done (by kernel_rfl) ?_ _
            exact hk gA gB xA pA xB pB _ ⟨below_put B4 (put_setRow _ _ _) (by omega), hsr, Lib.hid (own_put OA4.out (put_setRow _ _ _) (by omega)), Lib.hid (own_put OB4.out (put_setRow _ _ _) (by omega)), DJ⟩
    · go_simp
      obtain ⟨gB, eg⟩ : ∃ g, g = W0.heap.size := ⟨_, rfl⟩
      refine hK.out _ _ (X0.out.alloc _) (fun hS => ?_)
      rw [← eg]
      clear hK K
      try simp only [List.getElem_toArray, List.getElem_cons_succ, List.getElem_cons_zero, Act.put, List.setIfInBounds_toArray, List.set_cons_zero, List.set_cons_succ]
      refine pmark1 (R := fun Z => Below w.heap.size w Z ∧ w.heap.size + 2 ≤ Z.heap.size ∧ Hid (Blk Z w.heap.size #[.slice a1 xs.length k1, .slice a2 ys.length k2] 24) ∧ Hid (Blk Z (w.heap.size + 1) #[.slice none 0 0, .slice none 0 0] 24) ∧ Hid (Z.ownsRow (w.heap.size + 2) 5 1 (.slice (some ⟨gB, 0, none⟩) 0 0) 0 [])) (F := fun Z => wpAnyH _ _ _ _ _ _ _ _ Z) ⟨B0.alloc (by omega) _, by simp; omega, Lib.hid (X0.out.alloc _), Lib.hid (Y0.out.alloc _), Lib.hid (own_new eg (by omega))⟩ ?_
      clear hS
      clear eg
      intro W1 ⟨B1, z1, X1, Y1, OB1⟩
      have hS := X1.out
      refine wpAnyH_ready (rs := [0]) (by kernel_rfl) (by simp) ?_
      refine AllReadyH.cons rfl (fun K hK => ?_) (AllReadyH.nil)
      · go_simp
        obtain ⟨gA, eg⟩ : ∃ g, g = W1.heap.size := ⟨_, rfl⟩
        have DJ : Hid (Apart (.slice (some ⟨gA, 0, none⟩) 0 0) (.slice (some ⟨gB, 0, none⟩) 0 0)) := Lib.hid (apart_new OB1.out eg)
        refine hK.out _ _ (X1.out.alloc _) (fun hS => ?_)
        rw [← eg]
        clear hK K
        try simp only [List.getElem_toArray, List.getElem_cons_succ, List.getElem_cons_zero, Act.put, List.setIfInBounds_toArray, List.set_cons_zero, List.set_cons_succ]
        refine pmark1 (R := fun Z => Below w.heap.size w Z ∧ w.heap.size + 2 ≤ Z.heap.size ∧ Hid (Blk Z w.heap.size #[.slice a1 xs.length k1, .slice a2 ys.length k2] 24) ∧ Hid (Blk Z (w.heap.size + 1) #[.slice none 0 0, .slice none 0 0] 24) ∧ Hid (Z.ownsRow (w.heap.size + 2) 5 1 (.slice (some ⟨gA, 0, none⟩) 0 0) 0 []) ∧ Hid (Z.ownsRow (w.heap.size + 2) 5 1 (.slice (some ⟨gB, 0, none⟩) 0 0) 0 [])) (F := fun Z => wpAnyH _ _ _ _ _ _ _ _ Z) ⟨B1.alloc (by omega) _, by simp; omega, Lib.hid (X1.out.alloc _), Lib.hid (Y1.out.alloc _), Lib.hid (own_new eg (by omega)), Lib.hid (OB1.out.alloc _)⟩ ?_
        clear hS
        clear eg
        intro W2 ⟨B2, z2, X2, Y2, OA2, OB2⟩
        have hS := X2.out
        refine wpAnyH_ready (rs := [3]) (by kernel_rfl) (by simp) ?_
        refine AllReadyH.cons rfl (fun K hK => ?_) (AllReadyH.nil)
        · obtain ⟨uA, W3, hr, ho, hg, hw⟩ := app_any W2 (w.heap.size + 2) (.slice (some ⟨gA, 0, none⟩) 0 0) OA2.out (.slice a1 xs.length k1) xs (H1.out.below B2) l1 (by omega) 22
          rw [if_pos (by rfl)]
          refine wp_app (.tmp 3) (.tmp 5) 22 rfl _ _ _ _ rfl rfl hr ?_
          have DJ2 : Hid (Apart uA (.slice (some ⟨gB, 0, none⟩) 0 0)) := Lib.hid (apart_grown OB2.out DJ.out hw)
          have hx := Blk.grown X2.out hg OA2.out (by omega)
          refine hK.out _ _ hx (fun hS => ?_)
          clear hK K
          try simp only [List.getElem_toArray, List.getElem_cons_succ, List.getElem_cons_zero, Act.put, List.setIfInBounds_toArray, List.set_cons_zero, List.set_cons_succ]
          refine pmark1 (R := fun Z => Below w.heap.size w Z ∧ w.heap.size + 2 ≤ Z.heap.size ∧ Hid (Blk Z w.heap.size #[.slice a1 xs.length k1, .slice a2 ys.length k2] 24) ∧ Hid (Blk Z (w.heap.size + 1) #[.slice none 0 0, .slice none 0 0] 24) ∧ Hid (Z.ownsRow (w.heap.size + 2) 5 1 uA xs.length (xs.map (Value.int .u8))) ∧ Hid (Z.ownsRow (w.heap.size + 2) 5 1 (.slice (some ⟨gB, 0, none⟩) 0 0) 0 [])) (F := fun Z => wpAnyH _ _ _ _ _ _ _ _ Z) ⟨below_grown B2 (by omega) hg OA2.out (by omega), by have := hg.size; omega, Lib.hid hx, Lib.hid (Blk.grown Y2.out hg OA2.out (by omega)), Lib.hid ho, Lib.hid (own_apart OB2.out hg DJ.out)⟩ ?_
          clear hS
          clear hr ho hg hw hx
          try clear W3
          clear DJ
          have DJ := DJ2
          intro W3 ⟨B3, z3, X3, Y3, OA3, OB3⟩
          have hS := X3.out
          refine wpAnyH_ready (rs := [7]) (by kernel_rfl) (by simp) ?_
          refine AllReadyH.cons rfl (fun K hK => ?_) (AllReadyH.nil)
          · obtain ⟨uB, W4, hr, ho, hg, hw⟩ := app_any W3 (w.heap.size + 2) (.slice (some ⟨gB, 0, none⟩) 0 0) OB3.out (.slice a2 ys.length k2) ys (H2.out.below B3) l2 (by omega) 22
            rw [if_pos (by rfl)]
            refine wp_app (.tmp 7) (.tmp 9) 22 rfl _ _ _ _ rfl rfl hr ?_
            have DJ2 : Hid (Apart uA uB) := Lib.hid (Apart.symm (apart_grown OA3.out DJ.out.symm hw))
            have hx := Blk.grown X3.out hg OB3.out (by omega)
            refine hK.out _ _ hx (fun hS => ?_)
            clear hK K
            try simp only [List.getElem_toArray, List.getElem_cons_succ, List.getElem_cons_zero, Act.put, List.setIfInBounds_toArray, List.set_cons_zero, List.set_cons_succ]
            refine pmark1 (R := fun Z => Below w.heap.size w Z ∧ w.heap.size + 2 ≤ Z.heap.size ∧ Hid (Blk Z w.heap.size #[.slice a1 xs.length k1, .slice a2 ys.length k2] 24) ∧ Hid (Blk Z (w.heap.size + 1) #[.slice none 0 0, .slice none 0 0] 24) ∧ Hid (Z.ownsRow (w.heap.size + 2) 5 1 uA xs.length (xs.map (Value.int .u8))) ∧ Hid (Z.ownsRow (w.heap.size + 2) 5 1 uB ys.length (ys.map (Value.int .u8)))) (F := fun Z => wpAnyH _ _ _ _ _ _ _ _ Z) ⟨below_grown B3 (by omega) hg OB3.out (by omega), by have := hg.size; omega, Lib.hid hx, Lib.hid (Blk.grown Y3.out hg OB3.out (by omega)), Lib.hid (own_apart OA3.out hg DJ.out.symm), Lib.hid ho⟩ ?_
            clear hS
            clear hr ho hg hw hx
            try clear W4
            clear DJ
            have DJ := DJ2
            intro W4 ⟨B4, z4, X4, Y4, OA4, OB4⟩
            have hS := X4.out
            obtain ⟨xA, pA, rfl⟩ := own_shape OA4.out
            obtain ⟨xB, pB, rfl⟩ := own_shape OB4.out
            refine wpAnyH_take (i := 8) (v := ?v8_7) rfl (by kernel_rfl) (by kernel_rfl) (by kernel_rfl) (fun _ _ _ h => h) (Or.inl ⟨by rfl, ?y8_7⟩) hS ?_
            case y8_7 => (intro w hSw; go_simp; try with_reducible rfl)
            try simp only [List.getElem_toArray, List.getElem_cons_succ, List.getElem_cons_zero, Act.put, List.setIfInBounds_toArray, List.set_cons_zero, List.set_cons_succ]
            refine wpAnyH_ready (rs := [9]) (by kernel_rfl) (by simp) (AllReadyH.cons rfl (fun K hK => ?_) AllReadyH.nil)
            rw [if_pos (by rfl)]
            have oa := (own_one OA4.out)
            have ob := (own_one OB4.out)
            refine wp_store_row 24 (.tmp 2) (.tmp 11) rfl (w.heap.size + 1) #[(.slice xA xs.length pA), (.slice xB ys.length pB)] rfl rfl 24 #[.slice none 0 0, .slice none 0 0] Y4.out (by kernel_rfl) rfl (by simp [oa, ob]) ?_
            have hsr := Lib.hid (setRow_heap _ (w.heap.size + 1) _ #[(.slice xA xs.length pA), (.slice xB ys.length pB)] 24 (0, 0) Y4.out)
            refine hK.out _ _ (Blk.put X4.out (put_setRow _ _ _) (by omega)) (fun hS => ?_)
            clear hK K
            try simp only [List.getElem_toArray, List.getElem_cons_succ, List.getElem_cons_zero, Act.put, List.setIfInBounds_toArray, List.set_cons_zero, List.set_cons_succ]
            refine wpAnyH_done (by kernel_rfl) ?_ _
            exact hk gA gB xA pA xB pB _ ⟨below_put B4 (put_setRow _ _ _) (by omega), hsr, Lib.hid (own_put OA4.out (put_setRow _ _ _) (by omega)), Lib.hid (own_put OB4.out (put_setRow _ _ _) (by omega)), DJ⟩
  intro gA gB x1 n1 x2 n2 W ⟨BW, KW, OA, OB, DJ⟩
  go_wp2_with fail
  exact bodyPost_ret (results_cell_row Try.results11 _ _ (w.heap.size + 1) 24 #[.slice x1 xs.length n1, .slice x2 ys.length n2] (0, 0) _ rfl KW.out Try.underlying24 rfl (by kernel_rfl)) rfl ⟨_, _, rfl, OA.out, OB.out, DJ.out, BW⟩
end Go.Proofs.Yteihggfcafoogaa
