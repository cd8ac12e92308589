/- cpu.Run: so many orders from the start, in a space of one's own. Conditions: the space is right, its slices' cells are bytes; so many orders as are allowed. -/
import Derived.Test.YteihggfcafoogaaCpuStp
import Derived.Test.YteihggfcafoogaaCpuIn
import Derived.Test.YteihggfcafoogaaCpuKeep
import Derived.Test.YteihggfcafoogaaLibIdxI
namespace Go.Mq
open Go.RowKit
theorem Blk.bl {w w' : World} {b H : Nat} {cs : Array Value} {t : TypeId} (h : Blk w b cs t) (k : Below H w w') (hb : b < H) : Blk w' b cs t := by
  unfold Blk
  rw [k.block b hb]
  exact h
end Go.Mq
namespace Go.Proofs.Yteihggfcafoogaa
open Go.RowKit Go.Mq
set_option linter.unusedVariables false
set_option linter.unusedSimpArgs false
set_option maxHeartbeats 2000000
set_option maxRecDepth 100000
/-- the space of a run lies where its bus looks for it -/
def RR (V1 V2 : Value) (a b c d : Nat) (W : World) (m : Spc) : Prop := RelS W V1 V2 a b c d c W m ∧ Bytes8 m.rom ∧ Bytes8 m.ram
theorem RR.of {V1 V2 : Value} {a b c d : Nat} {W w' : World} {m : Spc} (h : RelS W V1 V2 a b c d c w' m ∧ Bytes8 m.rom ∧ Bytes8 m.ram) : RR V1 V2 a b c d w' m := ⟨⟨(Below.refl c w').mono (Nat.le_refl _), h.1.2⟩, h.2⟩
theorem RR.put {V1 V2 : Value} {a b c d g : Nat} {W w' : World} {m : Spc} (h : RR V1 V2 a b c d W m) (hp : Put g W w') (h1 : g < c) (h2 : c ≤ d) (h3 : g ≠ a) (h4 : c ≤ b) : RR V1 V2 a b c d w' m :=
  ⟨⟨(Below.refl c w').mono (Nat.le_refl _), h.1.2.1.put hp (by omega), h.1.2.2.1.put hp (by omega), own_put h.1.2.2.2.1 hp (by omega), own_put h.1.2.2.2.2.1 hp (by omega), h.1.2.2.2.2.2⟩, h.2⟩
theorem RR.drew {V1 V2 : Value} {a b c d : Nat} {W w' : World} {m : Spc} {B b3 : Nat} (L : Lies V1 V2 a b c d b3 B c) (h : RR V1 V2 a b c d W m) (hd : Below B W w') : RR V1 V2 a b c d w' m :=
  RR.of ⟨rel_stable L W w' m h.1 hd, h.2⟩

theorem same_runS (m : Spc) (rings : List Int) (k : Nat) : Same m (runS busS rings m k).m := by
  induction k with
  | zero => exact Same.refl m
  | succ k ih => exact ih.trans (same_dM _ _ _)
theorem run_any (rv mv rg : Value) (m : Spc) (rings : List Int) (n : Nat) (hn : n ≤ 500) (w : World) (h1 : SliceAt w .u8 rv m.rom) (h2 : SliceAt w .u8 mv m.ram) (h3 : SliceAt w .i64 rg rings) (hrl : rings.length ≤ 1000000) (hl1 : m.rom.length ≤ 1024) (hl2 : m.ram.length ≤ 256) :
    Calls Try.prog 6 #[.agg #[rv, mv], .int .i64 n, rg] w fun e w' => ∃ ru mu, e = .returned (.tuple #[.agg (cpuC (runS busS rings m n).c), .agg #[ru, mu], .int .i64 (runS busS rings m n).n, .int .i64 0]) ∧ SliceAt w' .u8 ru (runS busS rings m n).m.rom ∧ SliceAt w' .u8 mu (runS busS rings m n).m.ram ∧ Below w.heap.size w w' := by
  have H1 := Lib.hid h1
  have H2 := Lib.hid h2
  have H3 := Lib.hid h3
  have o1 : rv.oneCell' = true := by obtain ⟨a, q, rfl, -⟩ := h1; rfl
  have o2 : mv.oneCell' = true := by obtain ⟨a, q, rfl, -⟩ := h2; rfl
  have by1 : Bytes8 m.rom := fun x hx => by
    obtain ⟨_, _, _, _, _, hw, _⟩ := h1
    exact byte_in (hw x hx)
  have by2 : Bytes8 m.ram := fun x hx => by
    obtain ⟨_, _, _, _, _, hw, _⟩ := h2
    exact byte_in (hw x hx)
  have BY := Lib.hid (And.intro by1 by2)
  have CK := Lib.hid (fun w' (h : Below w.heap.size w w') => checkS_any rv mv m.rom m.ram w' (H1.out.below h) (H2.out.below h))
  rw [if_neg (show ¬ (1024 < m.rom.length ∨ 256 < m.ram.length) by omega)] at CK
  clear h1 h2 h3 by1 by2
  have hni : (n : Int) ≤ 500 := by omega
  go_enter Try.func6, Try.ntmps6
  go_wp2_with (first | ((with_reducible show wpList _ _ _ _ _ _); refine wpList_loadW rfl 24 (.tmp 3) rfl (w.heap.size) rfl 24 #[rv, mv] (show Blk _ (w.heap.size) #[rv, mv] 24 from (by repeat' (first | (with_reducible first | exact Hid.out (by assumption) | exact Blk.new _ _ _ | (refine Blk.new_at _ _ _ _ ?_; simp; done) | refine Blk.alloc ?_ _ | refine Blk.drewN ?_ _ | refine Blk.drew ?_ | apply Blk.set | refine Blk.put ?_ (by assumption) (by first | (simp; done) | (simp; omega) | omega) | refine Blk.below ?_ (by assumption)) | (refine Blk.setAt ?_ (by first | (simp; done) | (simp; omega))) | rfl))) _ Try.underlying24 rfl (by kernel_rfl) ?_))
  refine (CK.out _ (by repeat' (first | (with_reducible first | exact Below.refl _ _ | assumption | refine below_alloc ?_ _ | refine Below.drew ?_ | refine below_drewN ?_ _ | refine below_then ?_ (by assumption) | refine below_put ?_ (by assumption) (by first | (simp; done) | (simp; omega) | omega) | refine Below.setCell ?_ ?_ _) | (simp; done) | (simp; omega) | omega))).mono ?_
  rintro e w1 ⟨rfl, hb1⟩
  have hs1 := hb1.size
  have hq1 : w.heap.size + 3 ≤ w1.heap.size := by simpa using hs1
  have Ks1 := Lib.hid ((show Blk _ (w.heap.size) #[rv, mv] 24 from (by repeat' (first | (with_reducible first | exact Hid.out (by assumption) | exact Blk.new _ _ _ | (refine Blk.new_at _ _ _ _ ?_; simp; done) | refine Blk.alloc ?_ _ | refine Blk.drewN ?_ _ | refine Blk.drew ?_ | apply Blk.set | refine Blk.put ?_ (by assumption) (by first | (simp; done) | (simp; omega) | omega) | refine Blk.below ?_ (by assumption)) | (refine Blk.setAt ?_ (by first | (simp; done) | (simp; omega))) | rfl))).below hb1)
  have Kr1 := Lib.hid ((show Blk _ (w.heap.size + 1) #[.int .u16 0, .int .u16 0, .int .u16 0, .int .u16 0, .int .u16 0, .int .u16 0, .int .u16 0, .int .u16 0, .int .u16 0, .bool false, .bool false, .bool false, .bool false, .bool false, .bool false] 28 from (by repeat' (first | (with_reducible first | exact Hid.out (by assumption) | exact Blk.new _ _ _ | (refine Blk.new_at _ _ _ _ ?_; simp; done) | refine Blk.alloc ?_ _ | refine Blk.drewN ?_ _ | refine Blk.drew ?_ | apply Blk.set | refine Blk.put ?_ (by assumption) (by first | (simp; done) | (simp; omega) | omega) | refine Blk.below ?_ (by assumption)) | (refine Blk.setAt ?_ (by first | (simp; done) | (simp; omega))) | rfl))).below hb1)
  have Kq1 := Lib.hid ((show Blk _ (w.heap.size + 1 + 1) #[.slice none 0 0, .slice none 0 0] 24 from (by repeat' (first | (with_reducible first | exact Hid.out (by assumption) | exact Blk.new _ _ _ | (refine Blk.new_at _ _ _ _ ?_; simp; done) | refine Blk.alloc ?_ _ | refine Blk.drewN ?_ _ | refine Blk.drew ?_ | apply Blk.set | refine Blk.put ?_ (by assumption) (by first | (simp; done) | (simp; omega) | omega) | refine Blk.below ?_ (by assumption)) | (refine Blk.setAt ?_ (by first | (simp; done) | (simp; omega))) | rfl))).below hb1)
  have B1 : Below w.heap.size w w1 := by repeat' (first | (with_reducible first | exact Below.refl _ _ | assumption | refine below_alloc ?_ _ | refine Below.drew ?_ | refine below_drewN ?_ _ | refine below_then ?_ (by assumption) | refine below_put ?_ (by assumption) (by first | (simp; done) | (simp; omega) | omega) | refine Below.setCell ?_ ?_ _) | (simp; done) | (simp; omega) | omega)
  go_wp2_with fail
  have lss : w.heap.size < w1.heap.size := by omega
  have css0 : w1.cell? ⟨w.heap.size, 0, none⟩ = some rv := Ks1.out.cell 0
  have css1 : w1.cell? ⟨w.heap.size, 1, none⟩ = some mv := Ks1.out.cell 1
  have hrv : SliceAt w1.drew .u8 rv m.rom := H1.out.below B1.drew
  have hmv : SliceAt w1.drew .u8 mv m.ram := H2.out.below B1.drew
  have HRV := Lib.hid hrv
  have HMV := Lib.hid hmv
  clear hrv hmv
  apply gcutS (fun x1 n1 x2 n2 W => Below w.heap.size w W ∧ w1.heap.size ≤ W.heap.size ∧ Hid (Blk W (w.heap.size) #[.slice x1 m.rom.length n1, .slice x2 m.ram.length n2] 24) ∧ Hid (Blk W (w.heap.size + 1) #[.int .u16 0, .int .u16 0, .int .u16 0, .int .u16 0, .int .u16 0, .int .u16 0, .int .u16 0, .int .u16 0, .int .u16 0, .bool false, .bool false, .bool false, .bool false, .bool false, .bool false] 28) ∧ Hid (Blk W (w.heap.size + 1 + 1) #[.slice none 0 0, .slice none 0 0] 24) ∧ Hid (∃ b2, w1.heap.size ≤ b2 ∧ b2 ≤ W.heap.size ∧ (∀ g, (Value.slice x1 m.rom.length n1).ownBlock = some g → g < b2) ∧ W.ownsRow w1.heap.size 5 1 (.slice x1 m.rom.length n1) m.rom.length (m.rom.map (Value.int .u8)) ∧ W.ownsRow b2 5 1 (.slice x2 m.ram.length n2) m.ram.length (m.ram.map (Value.int .u8))))
  · intro hk
    refine wp_region_held_drew (S := fun _ => True) (by kernel_rfl) trivial (fun hS => ?_)
    refine wpAnyH_take (i := 0) (v := ?v0_1) rfl (by kernel_rfl) (by kernel_rfl) (by kernel_rfl) (fun _ _ _ h => h) (Or.inl ⟨by rfl, ?y0_1⟩) hS ?_
    case y0_1 => (intro w hSw; go_simp; try with_reducible rfl)
    try simp only [List.getElem_toArray, List.getElem_cons_succ, List.getElem_cons_zero, Act.put, List.setIfInBounds_toArray, List.set_cons_zero, List.set_cons_succ]
    refine wpAnyH_take (i := 3) (v := ?v3_2) rfl (by kernel_rfl) (by kernel_rfl) (by kernel_rfl) (fun _ _ _ h => h) (Or.inl ⟨by rfl, ?y3_2⟩) hS ?_
    case y3_2 => (intro w hSw; go_simp; try with_reducible rfl)
    try simp only [List.getElem_toArray, List.getElem_cons_succ, List.getElem_cons_zero, Act.put, List.setIfInBounds_toArray, List.set_cons_zero, List.set_cons_succ]
    refine wpAnyH_ready (rs := [1, 4]) (by kernel_rfl) (by simp) ?_
    refine AllReadyH.cons rfl (fun K hK => ?_) (AllReadyH.cons rfl (fun K hK => ?_) (AllReadyH.nil))
    · go_simp
      refine hK.out _ _ trivial (fun hS => ?_)
      clear hK K
      try simp only [List.getElem_toArray, List.getElem_cons_succ, List.getElem_cons_zero, Act.put, List.setIfInBounds_toArray, List.set_cons_zero, List.set_cons_succ]
      refine wpAnyH_ready (rs := [2, 4]) (by kernel_rfl) (by simp) ?_
      refine AllReadyH.cons rfl (fun K hK => ?_) (AllReadyH.cons rfl (fun K hK => ?_) (AllReadyH.nil))
      · go_simp
        refine (clone_any _ rv m.rom HRV.out (by omega)).mono ?_
        rintro e w2 ⟨u1, rfl, ho, hb2⟩
        obtain ⟨x1, n1, rfl⟩ := own_shape ho
        try go_wp2_with fail
        have O2 := Lib.hid ho
        have hs2 := hb2.size
        have hq2 : w1.heap.size ≤ w2.heap.size := by simpa using hs2
        have B2 : Below w.heap.size w w2 := below_then B1.drew hb2
        have Ks2 := Lib.hid (Ks1.out.drew.below hb2)
        have Kr2 := Lib.hid (Kr1.out.drew.below hb2)
        have Kq2 := Lib.hid (Kq1.out.drew.below hb2)
        have css1 : w2.cell? ⟨w.heap.size, 1, none⟩ = some mv := Ks2.out.cell 1
        have HMV2 := Lib.hid (HMV.out.below hb2)
        clear ho
        refine hK.out _ _ trivial (fun hS => ?_)
        clear hK K
        try simp only [List.getElem_toArray, List.getElem_cons_succ, List.getElem_cons_zero, Act.put, List.setIfInBounds_toArray, List.set_cons_zero, List.set_cons_succ]
        refine wpAnyH_ready (rs := [4]) (by kernel_rfl) (by simp) ?_
        refine AllReadyH.cons rfl (fun K hK => ?_) (AllReadyH.nil)
        · go_simp
          refine hK.out _ _ trivial (fun hS => ?_)
          clear hK K
          try simp only [List.getElem_toArray, List.getElem_cons_succ, List.getElem_cons_zero, Act.put, List.setIfInBounds_toArray, List.set_cons_zero, List.set_cons_succ]
          refine wpAnyH_ready (rs := [5]) (by kernel_rfl) (by simp) ?_
          refine AllReadyH.cons rfl (fun K hK => ?_) (AllReadyH.nil)
          · go_simp
            refine (clone_any _ mv m.ram HMV2.out (by omega)).mono ?_
            rintro e w3 ⟨u2, rfl, ho, hb3⟩
            obtain ⟨x2, n2, rfl⟩ := own_shape ho
            try go_wp2_with fail
            have O3 := Lib.hid ho
            have O3a := Lib.hid (own_below O2.out hb3)
            have hs3 := hb3.size
            have B3 : Below w.heap.size w w3 := below_then B2 hb3
            have Ks3 := Lib.hid (Ks2.out.below hb3)
            have Kr3 := Lib.hid (Kr2.out.below hb3)
            have Kq3 := Lib.hid (Kq2.out.below hb3)
            clear ho
            refine hK.out _ _ trivial (fun hS => ?_)
            clear hK K
            try simp only [List.getElem_toArray, List.getElem_cons_succ, List.getElem_cons_zero, Act.put, List.setIfInBounds_toArray, List.set_cons_zero, List.set_cons_succ]
            refine wpAnyH_take (i := 6) (v := ?v6_3) rfl (by kernel_rfl) (by kernel_rfl) (by kernel_rfl) (fun _ _ _ h => h) (Or.inl ⟨by rfl, ?y6_3⟩) hS ?_
            case y6_3 => (intro w hSw; go_simp; try with_reducible rfl)
            try simp only [List.getElem_toArray, List.getElem_cons_succ, List.getElem_cons_zero, Act.put, List.setIfInBounds_toArray, List.set_cons_zero, List.set_cons_succ]
            refine wpAnyH_ready (rs := [7]) (by kernel_rfl) (by simp) (AllReadyH.cons rfl (fun K hK => ?_) AllReadyH.nil)
            rw [if_pos (by rfl)]
            refine wp_store_row 24 (.tmp 3) (.tmp 35) rfl (w.heap.size) #[.slice x1 m.rom.length n1, .slice x2 m.ram.length n2] rfl rfl 24 #[rv, mv] Ks3.out (by kernel_rfl) rfl (by simp [Value.oneCell']) ?_
            have hsr := Lib.hid (setRow_heap _ (w.heap.size) _ #[.slice x1 m.rom.length n1, .slice x2 m.ram.length n2] 24 (0, 0) Ks3.out)
            refine hK.out _ _ trivial (fun hS => ?_)
            clear hK K
            try simp only [List.getElem_toArray, List.getElem_cons_succ, List.getElem_cons_zero, Act.put, List.setIfInBounds_toArray, List.set_cons_zero, List.set_cons_succ]
            refine wpAnyH_done (by kernel_rfl) ?_ _
            refine hk x1 n1 x2 n2 _ ⟨below_put B3 (put_setRow _ _ _) (by omega), by rw [(put_setRow _ _ _).size]; omega, hsr, Lib.hid (Blk.put Kr3.out (put_setRow _ _ _) (by omega)), Lib.hid (Blk.put Kq3.out (put_setRow _ _ _) (by omega)), Lib.hid ⟨w2.heap.size, by omega, by rw [(put_setRow _ _ _).size]; omega, fun g hg => (O2.out.lt g hg).2, own_put O3a.out (put_setRow _ _ _) (by omega), own_put O3.out (put_setRow _ _ _) (by omega)⟩⟩
      · go_simp
        refine hK.out _ _ trivial (fun hS => ?_)
        clear hK K
        try simp only [List.getElem_toArray, List.getElem_cons_succ, List.getElem_cons_zero, Act.put, List.setIfInBounds_toArray, List.set_cons_zero, List.set_cons_succ]
        refine wpAnyH_ready (rs := [2]) (by kernel_rfl) (by simp) ?_
        refine AllReadyH.cons rfl (fun K hK => ?_) (AllReadyH.nil)
        · go_simp
          refine (clone_any _ rv m.rom HRV.out (by omega)).mono ?_
          rintro e w2 ⟨u1, rfl, ho, hb2⟩
          obtain ⟨x1, n1, rfl⟩ := own_shape ho
          try go_wp2_with fail
          have O2 := Lib.hid ho
          have hs2 := hb2.size
          have hq2 : w1.heap.size ≤ w2.heap.size := by simpa using hs2
          have B2 : Below w.heap.size w w2 := below_then B1.drew hb2
          have Ks2 := Lib.hid (Ks1.out.drew.below hb2)
          have Kr2 := Lib.hid (Kr1.out.drew.below hb2)
          have Kq2 := Lib.hid (Kq1.out.drew.below hb2)
          have css1 : w2.cell? ⟨w.heap.size, 1, none⟩ = some mv := Ks2.out.cell 1
          have HMV2 := Lib.hid (HMV.out.below hb2)
          clear ho
          refine hK.out _ _ trivial (fun hS => ?_)
          clear hK K
          try simp only [List.getElem_toArray, List.getElem_cons_succ, List.getElem_cons_zero, Act.put, List.setIfInBounds_toArray, List.set_cons_zero, List.set_cons_succ]
          refine wpAnyH_ready (rs := [5]) (by kernel_rfl) (by simp) ?_
          refine AllReadyH.cons rfl (fun K hK => ?_) (AllReadyH.nil)
          · go_simp
            refine (clone_any _ mv m.ram HMV2.out (by omega)).mono ?_
            rintro e w3 ⟨u2, rfl, ho, hb3⟩
            obtain ⟨x2, n2, rfl⟩ := own_shape ho
            try go_wp2_with fail
            have O3 := Lib.hid ho
            have O3a := Lib.hid (own_below O2.out hb3)
            have hs3 := hb3.size
            have B3 : Below w.heap.size w w3 := below_then B2 hb3
            have Ks3 := Lib.hid (Ks2.out.below hb3)
            have Kr3 := Lib.hid (Kr2.out.below hb3)
            have Kq3 := Lib.hid (Kq2.out.below hb3)
            clear ho
            refine hK.out _ _ trivial (fun hS => ?_)
            clear hK K
            try simp only [List.getElem_toArray, List.getElem_cons_succ, List.getElem_cons_zero, Act.put, List.setIfInBounds_toArray, List.set_cons_zero, List.set_cons_succ]
            refine wpAnyH_take (i := 6) (v := ?v6_4) rfl (by kernel_rfl) (by kernel_rfl) (by kernel_rfl) (fun _ _ _ h => h) (Or.inl ⟨by rfl, ?y6_4⟩) hS ?_
            case y6_4 => (intro w hSw; go_simp; try with_reducible rfl)
            try simp only [List.getElem_toArray, List.getElem_cons_succ, List.getElem_cons_zero, Act.put, List.setIfInBounds_toArray, List.set_cons_zero, List.set_cons_succ]
            refine wpAnyH_ready (rs := [7]) (by kernel_rfl) (by simp) (AllReadyH.cons rfl (fun K hK => ?_) AllReadyH.nil)
            rw [if_pos (by rfl)]
            refine wp_store_row 24 (.tmp 3) (.tmp 35) rfl (w.heap.size) #[.slice x1 m.rom.length n1, .slice x2 m.ram.length n2] rfl rfl 24 #[rv, mv] Ks3.out (by kernel_rfl) rfl (by simp [Value.oneCell']) ?_
            have hsr := Lib.hid (setRow_heap _ (w.heap.size) _ #[.slice x1 m.rom.length n1, .slice x2 m.ram.length n2] 24 (0, 0) Ks3.out)
            refine hK.out _ _ trivial (fun hS => ?_)
            clear hK K
            try simp only [List.getElem_toArray, List.getElem_cons_succ, List.getElem_cons_zero, Act.put, List.setIfInBounds_toArray, List.set_cons_zero, List.set_cons_succ]
            refine wpAnyH_done (by kernel_rfl) ?_ _
            refine hk x1 n1 x2 n2 _ ⟨below_put B3 (put_setRow _ _ _) (by omega), by rw [(put_setRow _ _ _).size]; omega, hsr, Lib.hid (Blk.put Kr3.out (put_setRow _ _ _) (by omega)), Lib.hid (Blk.put Kq3.out (put_setRow _ _ _) (by omega)), Lib.hid ⟨w2.heap.size, by omega, by rw [(put_setRow _ _ _).size]; omega, fun g hg => (O2.out.lt g hg).2, own_put O3a.out (put_setRow _ _ _) (by omega), own_put O3.out (put_setRow _ _ _) (by omega)⟩⟩
    · go_simp
      refine hK.out _ _ trivial (fun hS => ?_)
      clear hK K
      try simp only [List.getElem_toArray, List.getElem_cons_succ, List.getElem_cons_zero, Act.put, List.setIfInBounds_toArray, List.set_cons_zero, List.set_cons_succ]
      refine wpAnyH_ready (rs := [1]) (by kernel_rfl) (by simp) ?_
      refine AllReadyH.cons rfl (fun K hK => ?_) (AllReadyH.nil)
      · go_simp
        refine hK.out _ _ trivial (fun hS => ?_)
        clear hK K
        try simp only [List.getElem_toArray, List.getElem_cons_succ, List.getElem_cons_zero, Act.put, List.setIfInBounds_toArray, List.set_cons_zero, List.set_cons_succ]
        refine wpAnyH_ready (rs := [2]) (by kernel_rfl) (by simp) ?_
        refine AllReadyH.cons rfl (fun K hK => ?_) (AllReadyH.nil)
        · go_simp
          refine (clone_any _ rv m.rom HRV.out (by omega)).mono ?_
          rintro e w2 ⟨u1, rfl, ho, hb2⟩
          obtain ⟨x1, n1, rfl⟩ := own_shape ho
          try go_wp2_with fail
          have O2 := Lib.hid ho
          have hs2 := hb2.size
          have hq2 : w1.heap.size ≤ w2.heap.size := by simpa using hs2
          have B2 : Below w.heap.size w w2 := below_then B1.drew hb2
          have Ks2 := Lib.hid (Ks1.out.drew.below hb2)
          have Kr2 := Lib.hid (Kr1.out.drew.below hb2)
          have Kq2 := Lib.hid (Kq1.out.drew.below hb2)
          have css1 : w2.cell? ⟨w.heap.size, 1, none⟩ = some mv := Ks2.out.cell 1
          have HMV2 := Lib.hid (HMV.out.below hb2)
          clear ho
          refine hK.out _ _ trivial (fun hS => ?_)
          clear hK K
          try simp only [List.getElem_toArray, List.getElem_cons_succ, List.getElem_cons_zero, Act.put, List.setIfInBounds_toArray, List.set_cons_zero, List.set_cons_succ]
          refine wpAnyH_ready (rs := [5]) (by kernel_rfl) (by simp) ?_
          refine AllReadyH.cons rfl (fun K hK => ?_) (AllReadyH.nil)
          · go_simp
            refine (clone_any _ mv m.ram HMV2.out (by omega)).mono ?_
            rintro e w3 ⟨u2, rfl, ho, hb3⟩
            obtain ⟨x2, n2, rfl⟩ := own_shape ho
            try go_wp2_with fail
            have O3 := Lib.hid ho
            have O3a := Lib.hid (own_below O2.out hb3)
            have hs3 := hb3.size
            have B3 : Below w.heap.size w w3 := below_then B2 hb3
            have Ks3 := Lib.hid (Ks2.out.below hb3)
            have Kr3 := Lib.hid (Kr2.out.below hb3)
            have Kq3 := Lib.hid (Kq2.out.below hb3)
            clear ho
            refine hK.out _ _ trivial (fun hS => ?_)
            clear hK K
            try simp only [List.getElem_toArray, List.getElem_cons_succ, List.getElem_cons_zero, Act.put, List.setIfInBounds_toArray, List.set_cons_zero, List.set_cons_succ]
            refine wpAnyH_take (i := 6) (v := ?v6_5) rfl (by kernel_rfl) (by kernel_rfl) (by kernel_rfl) (fun _ _ _ h => h) (Or.inl ⟨by rfl, ?y6_5⟩) hS ?_
            case y6_5 => (intro w hSw; go_simp; try with_reducible rfl)
            try simp only [List.getElem_toArray, List.getElem_cons_succ, List.getElem_cons_zero, Act.put, List.setIfInBounds_toArray, List.set_cons_zero, List.set_cons_succ]
            refine wpAnyH_ready (rs := [7]) (by kernel_rfl) (by simp) (AllReadyH.cons rfl (fun K hK => ?_) AllReadyH.nil)
            rw [if_pos (by rfl)]
            refine wp_store_row 24 (.tmp 3) (.tmp 35) rfl (w.heap.size) #[.slice x1 m.rom.length n1, .slice x2 m.ram.length n2] rfl rfl 24 #[rv, mv] Ks3.out (by kernel_rfl) rfl (by simp [Value.oneCell']) ?_
            have hsr := Lib.hid (setRow_heap _ (w.heap.size) _ #[.slice x1 m.rom.length n1, .slice x2 m.ram.length n2] 24 (0, 0) Ks3.out)
            refine hK.out _ _ trivial (fun hS => ?_)
            clear hK K
            try simp only [List.getElem_toArray, List.getElem_cons_succ, List.getElem_cons_zero, Act.put, List.setIfInBounds_toArray, List.set_cons_zero, List.set_cons_succ]
            refine wpAnyH_done (by kernel_rfl) ?_ _
            refine hk x1 n1 x2 n2 _ ⟨below_put B3 (put_setRow _ _ _) (by omega), by rw [(put_setRow _ _ _).size]; omega, hsr, Lib.hid (Blk.put Kr3.out (put_setRow _ _ _) (by omega)), Lib.hid (Blk.put Kq3.out (put_setRow _ _ _) (by omega)), Lib.hid ⟨w2.heap.size, by omega, by rw [(put_setRow _ _ _).size]; omega, fun g hg => (O2.out.lt g hg).2, own_put O3a.out (put_setRow _ _ _) (by omega), own_put O3.out (put_setRow _ _ _) (by omega)⟩⟩
  intro x1 n1 x2 n2 w4 ⟨B4, hs4, Ks4, Kr4, Kq4, KO4⟩
  obtain ⟨b2, g1, g2, g3, g4, g5⟩ := KO4.out
  have L : Lies (.slice x1 m.rom.length n1) (.slice x2 m.ram.length n2) (w.heap.size) w4.heap.size w1.heap.size b2 w4.heap.size (w4.heap.size + 1) w1.heap.size := ⟨g1, by omega, g1, g2, by omega, by omega, g3, fun g hg => (g5.lt g hg).2⟩
  have LH := Lib.hid L
  have O1 := Lib.hid g4
  have O2 := Lib.hid g5
  have MB := Lib.hid (mkbus_any w.heap.size w4)
  clear css0 css1 g3 g4 g5 L KO4 HRV HMV Ks1 Kr1 Kq1 hb1 hs1 CK H1 H2 B1
  go_wp2_with fail
  refine (MB.out).mono ?_
  rintro e w5 ⟨rfl, hb5, sz5, kp5⟩
  have Kp5 := Lib.hid (show Blk w5 w4.heap.size #[.pointer (some ⟨w.heap.size, 0, none⟩)] 54 from kp5)
  have Ks5 := Lib.hid (Ks4.out.below hb5)
  have Kr5 := Lib.hid (Kr4.out.below hb5)
  have Kq5 := Lib.hid (Kq4.out.below hb5)
  have B5 : Below w.heap.size w w5 := by repeat' (first | (with_reducible first | exact Below.refl _ _ | assumption | refine below_alloc ?_ _ | refine Below.drew ?_ | refine below_drewN ?_ _ | refine below_then ?_ (by assumption) | refine below_put ?_ (by assumption) (by first | (simp; done) | (simp; omega) | omega) | refine Below.setCell ?_ ?_ _) | (simp; done) | (simp; omega) | omega)
  have O15 := Lib.hid (own_below O1.out hb5)
  have O25 := Lib.hid (own_below O2.out hb5)
  clear kp5 MB Ks4 Kr4 Kq4 O1 O2 hb5
  go_wp2_with (first | ((with_reducible show wpList _ _ _ _ _ _); refine wpList_storeW rfl 52 (.tmp 11) (.tmp 36) rfl (w5.heap.size) #[.func (.func 20) #[] #[.pointer (some ⟨w4.heap.size, 0, none⟩)], .func (.func 21) #[] #[.pointer (some ⟨w4.heap.size, 0, none⟩)]] rfl rfl 52 _ (show Blk _ (w5.heap.size) #[.nilFunc, .nilFunc] 52 from (by repeat' (first | (with_reducible first | exact Hid.out (by assumption) | exact Blk.new _ _ _ | (refine Blk.new_at _ _ _ _ ?_; simp; done) | refine Blk.alloc ?_ _ | refine Blk.drewN ?_ _ | refine Blk.drew ?_ | apply Blk.set | refine Blk.put ?_ (by assumption) (by first | (simp; done) | (simp; omega) | omega) | refine Blk.below ?_ (by assumption)) | (refine Blk.setAt ?_ (by first | (simp; done) | (simp; omega))) | rfl))) (by kernel_rfl) rfl (by first | (with_reducible assumption) | simp [Value.oneCell']) ?_; intro w6 hp_w6 K_w6) | ((with_reducible show wpList _ _ _ _ _ _); refine wpList_loadW rfl 52 (.tmp 11) rfl (w5.heap.size) rfl 52 #[.func (.func 20) #[] #[.pointer (some ⟨w4.heap.size, 0, none⟩)], .func (.func 21) #[] #[.pointer (some ⟨w4.heap.size, 0, none⟩)]] (show Blk _ (w5.heap.size) #[.func (.func 20) #[] #[.pointer (some ⟨w4.heap.size, 0, none⟩)], .func (.func 21) #[] #[.pointer (some ⟨w4.heap.size, 0, none⟩)]] 52 from (by repeat' (first | (with_reducible first | exact Hid.out (by assumption) | exact Blk.new _ _ _ | (refine Blk.new_at _ _ _ _ ?_; simp; done) | refine Blk.alloc ?_ _ | refine Blk.drewN ?_ _ | refine Blk.drew ?_ | apply Blk.set | refine Blk.put ?_ (by assumption) (by first | (simp; done) | (simp; omega) | omega) | refine Blk.below ?_ (by assumption)) | (refine Blk.setAt ?_ (by first | (simp; done) | (simp; omega))) | rfl))) _ Try.underlying52 rfl (by kernel_rfl) ?_))
  have hsz6 : w6.heap.size = w5.heap.size + 1 := by have := hp_w6.size; simpa using this
  have RR6 : Hid (RR (.slice x1 m.rom.length n1) (.slice x2 m.ram.length n2) (w.heap.size) w4.heap.size w1.heap.size b2 w6 m) := Lib.hid ⟨⟨(Below.refl _ _).mono (Nat.le_refl _), (by repeat' (first | (with_reducible first | exact Hid.out (by assumption) | exact Blk.new _ _ _ | (refine Blk.new_at _ _ _ _ ?_; simp; done) | refine Blk.alloc ?_ _ | refine Blk.drewN ?_ _ | refine Blk.drew ?_ | apply Blk.set | refine Blk.put ?_ (by assumption) (by first | (simp; done) | (simp; omega) | omega) | refine Blk.below ?_ (by assumption)) | (refine Blk.setAt ?_ (by first | (simp; done) | (simp; omega))) | rfl)), (by repeat' (first | (with_reducible first | exact Hid.out (by assumption) | exact Blk.new _ _ _ | (refine Blk.new_at _ _ _ _ ?_; simp; done) | refine Blk.alloc ?_ _ | refine Blk.drewN ?_ _ | refine Blk.drew ?_ | apply Blk.set | refine Blk.put ?_ (by assumption) (by first | (simp; done) | (simp; omega) | omega) | refine Blk.below ?_ (by assumption)) | (refine Blk.setAt ?_ (by first | (simp; done) | (simp; omega))) | rfl)), (by repeat' (first | (with_reducible first | exact Hid.out (by assumption) | refine own_drewN ?_ _ | refine World.ownsRow.alloc ?_ _ | refine World.ownsRow.drew ?_ | refine own_below ?_ (by assumption) | refine own_put ?_ (by assumption) (by omega) | refine own_made ?_ (by assumption) | refine ownsRow_setCell_below ?_ (by first | (simp; done) | (simp; omega) | omega) _))), (by repeat' (first | (with_reducible first | exact Hid.out (by assumption) | refine own_drewN ?_ _ | refine World.ownsRow.alloc ?_ _ | refine World.ownsRow.drew ?_ | refine own_below ?_ (by assumption) | refine own_put ?_ (by assumption) (by omega) | refine own_made ?_ (by assumption) | refine ownsRow_setCell_below ?_ (by first | (simp; done) | (simp; omega) | omega) _))), BY.out.1, BY.out.2, hl1, hl2⟩, BY.out⟩
  have Kr6 : Hid (Blk w6 (w.heap.size + 1) #[.int .u16 0, .int .u16 0, .int .u16 0, .int .u16 0, .int .u16 0, .int .u16 0, .int .u16 0, .int .u16 0, .int .u16 0, .bool false, .bool false, .bool false, .bool false, .bool false, .bool false] 28) := Lib.hid (by repeat' (first | (with_reducible first | exact Hid.out (by assumption) | exact Blk.new _ _ _ | (refine Blk.new_at _ _ _ _ ?_; simp; done) | refine Blk.alloc ?_ _ | refine Blk.drewN ?_ _ | refine Blk.drew ?_ | apply Blk.set | refine Blk.put ?_ (by assumption) (by first | (simp; done) | (simp; omega) | omega) | refine Blk.below ?_ (by assumption)) | (refine Blk.setAt ?_ (by first | (simp; done) | (simp; omega))) | rfl))
  have Kq6 : Hid (Blk w6 (w.heap.size + 1 + 1) #[.slice none 0 0, .slice none 0 0] 24) := Lib.hid (by repeat' (first | (with_reducible first | exact Hid.out (by assumption) | exact Blk.new _ _ _ | (refine Blk.new_at _ _ _ _ ?_; simp; done) | refine Blk.alloc ?_ _ | refine Blk.drewN ?_ _ | refine Blk.drew ?_ | apply Blk.set | refine Blk.put ?_ (by assumption) (by first | (simp; done) | (simp; omega) | omega) | refine Blk.below ?_ (by assumption)) | (refine Blk.setAt ?_ (by first | (simp; done) | (simp; omega))) | rfl))
  have B6 : Below w.heap.size w w6 := by repeat' (first | (with_reducible first | exact Below.refl _ _ | assumption | refine below_alloc ?_ _ | refine Below.drew ?_ | refine below_drewN ?_ _ | refine below_then ?_ (by assumption) | refine below_put ?_ (by assumption) (by first | (simp; done) | (simp; omega) | omega) | refine Below.setCell ?_ ?_ _) | (simp; done) | (simp; omega) | omega)
  clear O15 O25 Kp5 Ks5 Kr5 Kq5
  refine (start_any (bus_ok (w0 := w6) LH.out) m w6 ⟨RR6.out.1, RR6.out.2⟩ (by omega)).mono ?_
  rintro e w7 ⟨rfl, hr7, k7⟩
  have RR7 := Lib.hid (RR.of hr7)
  have B67 := hr7.1.1
  have Kr7 := Lib.hid (Kr6.out.bl B67 (by omega))
  have Kq7 := Lib.hid (Kq6.out.bl B67 (by omega))
  have Kb7 := Lib.hid (K_w6.out.kp k7 (by omega) (fun h => h))
  have B7 : Below w.heap.size w w7 := B6.trans (B67.mono (by omega))
  have hs7 := k7.size
  have sz7 : w5.heap.size < w7.heap.size := by omega
  clear hr7 Kr6 Kq6 K_w6 RR6 k7 B67 hp_w6 hs7
  have ONE := cpuC_one (start0 (wV busS m 0))
  go_wp2_with (first | ((with_reducible show wpList _ _ _ _ _ _); refine wpList_storeW rfl 28 (.tmp 6) (.tmp 38) rfl (w.heap.size + 1) (cpuC (start0 (wV busS m 0))) rfl rfl 28 _ (show Blk _ (w.heap.size + 1) #[.int .u16 0, .int .u16 0, .int .u16 0, .int .u16 0, .int .u16 0, .int .u16 0, .int .u16 0, .int .u16 0, .int .u16 0, .bool false, .bool false, .bool false, .bool false, .bool false, .bool false] 28 from (by repeat' (first | (with_reducible first | exact Hid.out (by assumption) | exact Blk.new _ _ _ | (refine Blk.new_at _ _ _ _ ?_; simp; done) | refine Blk.alloc ?_ _ | refine Blk.drewN ?_ _ | refine Blk.drew ?_ | apply Blk.set | refine Blk.put ?_ (by assumption) (by first | (simp; done) | (simp; omega) | omega) | refine Blk.below ?_ (by assumption)) | (refine Blk.setAt ?_ (by first | (simp; done) | (simp; omega))) | rfl))) (by kernel_rfl) rfl (by first | (with_reducible assumption) | simp [Value.oneCell']) ?_; intro w8 hp_w8 K_w8))
  have RR8 : Hid (RR (.slice x1 m.rom.length n1) (.slice x2 m.ram.length n2) (w.heap.size) w4.heap.size w1.heap.size b2 w8 (runS busS rings m 0).m) := Lib.hid (RR7.out.put hp_w8 (by omega) g1 (by omega) (by omega))
  have Kq8 := Lib.hid (Kq7.out.put hp_w8 (by omega))
  have Kb8 := Lib.hid (Kb7.out.put hp_w8 (by omega))
  have B8 : Below w.heap.size w w8 := below_put B7 hp_w8 (by omega)
  have sz8 : w5.heap.size < w8.heap.size := by rw [hp_w8.size]; exact sz7
  clear RR7 Kr7 Kq7 Kb7 B7 sz7 hp_w8 ONE
  go_loopw [40, 12, 8, 13] (fun i x y z wr => ∃ k : Nat, k ≤ n ∧ i = .int .i64 k ∧ y = .int .i64 (runS busS rings m k).n ∧ Below w.heap.size w wr ∧ w5.heap.size < wr.heap.size ∧ Hid (RR (.slice x1 m.rom.length n1) (.slice x2 m.ram.length n2) (w.heap.size) w4.heap.size w1.heap.size b2 wr (runS busS rings m k).m) ∧ Hid (Blk wr (w.heap.size + 1) (cpuC (runS busS rings m k).c) 28) ∧ Hid (Blk wr (w.heap.size + 1 + 1) #[.slice none 0 0, .slice none 0 0] 24) ∧ Hid (Blk wr w5.heap.size #[.func (.func 20) #[] #[.pointer (some ⟨w4.heap.size, 0, none⟩)], .func (.func 21) #[] #[.pointer (some ⟨w4.heap.size, 0, none⟩)]] 52)) (fun i _ _ _ _ => (n - intOf i).toNat)
  case atStart => exact ⟨0, by omega, rfl, rfl, B8, sz8, RR8, K_w8, Kq8, Kb8⟩
  case round =>
    clear B8 sz8 RR8 K_w8 Kq8 Kb8
    obtain ⟨k, hkn, rfl, rfl, Bk, szk, RRk, Kck, Kqk, Kbk⟩ := hrel
    by_cases hk : k < n
    · have hst : runS busS rings m (k + 1) = rnStep busS (runS busS rings m k) (decide ((k : Int) ∈ rings)) := rfl
      have HST := Lib.hid hst
      clear hst
      have hin := runS_in tells_busS rings m k
      obtain ⟨nb1, nb2⟩ := runS_n tells_busS rings m k
      generalize runS busS rings m k = s at *
      obtain ⟨c, m', q⟩ := s
      simp only at *
      have CT := Lib.hid (fun W (h : Below w.heap.size w W) => containsI_any rg rings (k : Int) W (H3.out.below h) hrl)
      obtain ⟨r, hr⟩ : ∃ r, r = decide ((k : Int) ∈ rings) := ⟨_, rfl⟩
      rw [← hr] at CT HST
      clear hr
      obtain ⟨db1, db2⟩ := dN_b tells_busS m' c r
      have HIN := Lib.hid hin
      clear hin
      have hkni : (k : Int) < n := by omega
      go_wp2_with (first | ((with_reducible show wpList _ _ _ _ _ _); refine wpList_storeW rfl 28 (.tmp 6) (.tmp 38) rfl (w.heap.size + 1) (cpuC (start0 (wV busS m 0))) rfl rfl 28 _ (show Blk _ (w.heap.size + 1) #[.int .u16 0, .int .u16 0, .int .u16 0, .int .u16 0, .int .u16 0, .int .u16 0, .int .u16 0, .int .u16 0, .int .u16 0, .bool false, .bool false, .bool false, .bool false, .bool false, .bool false] 28 from (by repeat' (first | (with_reducible first | exact Hid.out (by assumption) | exact Blk.new _ _ _ | (refine Blk.new_at _ _ _ _ ?_; simp; done) | refine Blk.alloc ?_ _ | refine Blk.drewN ?_ _ | refine Blk.drew ?_ | apply Blk.set | refine Blk.put ?_ (by assumption) (by first | (simp; done) | (simp; omega) | omega) | refine Blk.below ?_ (by assumption)) | (refine Blk.setAt ?_ (by first | (simp; done) | (simp; omega))) | rfl))) (by kernel_rfl) rfl (by first | (with_reducible assumption) | simp [Value.oneCell']) ?_; intro w8 hp_w8 K_w8))
      apply gcutW (fun W => Below w.heap.size w W ∧ w5.heap.size < W.heap.size ∧ Hid (RR (.slice x1 m.rom.length n1) (.slice x2 m.ram.length n2) (w.heap.size) w4.heap.size w1.heap.size b2 W (dM busS m' c r)) ∧ Hid (Blk W (w.heap.size + 1) (cpuC (dC busS m' c r)) 28) ∧ Hid (Blk W (w.heap.size + 1 + 1) #[.slice none 0 0, .slice none 0 0] 24) ∧ Hid (Blk W w5.heap.size #[.func (.func 20) #[] #[.pointer (some ⟨w4.heap.size, 0, none⟩)], .func (.func 21) #[] #[.pointer (some ⟨w4.heap.size, 0, none⟩)]] 52))
      · intro hk
        refine wp_region_held_drew (S := fun W => Blk W (w5.heap.size) (#[.func (.func 20) #[] #[.pointer (some ⟨w4.heap.size, 0, none⟩)], .func (.func 21) #[] #[.pointer (some ⟨w4.heap.size, 0, none⟩)]]) 52) (by kernel_rfl) (Blk.drew (show Blk _ (w5.heap.size) (#[.func (.func 20) #[] #[.pointer (some ⟨w4.heap.size, 0, none⟩)], .func (.func 21) #[] #[.pointer (some ⟨w4.heap.size, 0, none⟩)]]) 52 from (by repeat' (first | (with_reducible first | exact Hid.out (by assumption) | exact Blk.new _ _ _ | (refine Blk.new_at _ _ _ _ ?_; simp; done) | refine Blk.alloc ?_ _ | refine Blk.drewN ?_ _ | refine Blk.drew ?_ | apply Blk.set | refine Blk.put ?_ (by assumption) (by first | (simp; done) | (simp; omega) | omega) | refine Blk.below ?_ (by assumption)) | (refine Blk.setAt ?_ (by first | (simp; done) | (simp; omega))) | rfl)))) (fun hS => ?_)
        refine wpAnyH_take (i := 1) rfl (by kernel_rfl) (by kernel_rfl) (by kernel_rfl) (fun _ _ _ h => h) (yields_loadA (by rfl) 52 (.tmp 11) rfl (w5.heap.size) 0 2 rfl 52 #[.func (.func 20) #[] #[.pointer (some ⟨w4.heap.size, 0, none⟩)], .func (.func 21) #[] #[.pointer (some ⟨w4.heap.size, 0, none⟩)]] #[.func (.func 20) #[] #[.pointer (some ⟨w4.heap.size, 0, none⟩)], .func (.func 21) #[] #[.pointer (some ⟨w4.heap.size, 0, none⟩)]] (fun W hSw => hSw) _ Try.underlying52 rfl (by kernel_rfl) rfl rfl) hS ?_
        try simp only [List.getElem_toArray, List.getElem_cons_succ, List.getElem_cons_zero, Act.put, List.setIfInBounds_toArray, List.set_cons_zero, List.set_cons_succ]
        refine wpAnyH_take (i := 2) (v := ?v2_1) rfl (by kernel_rfl) (by kernel_rfl) (by kernel_rfl) (fun _ _ _ h => h) (Or.inl ⟨by rfl, ?y2_1⟩) hS ?_
        case y2_1 => (intro w hSw; go_simp; try with_reducible rfl)
        try simp only [List.getElem_toArray, List.getElem_cons_succ, List.getElem_cons_zero, Act.put, List.setIfInBounds_toArray, List.set_cons_zero, List.set_cons_succ]
        refine wpAnyH_take (i := 3) (v := ?v3_1) rfl (by kernel_rfl) (by kernel_rfl) (by kernel_rfl) (fun _ _ _ h => h) (Or.inl ⟨by rfl, ?y3_1⟩) hS ?_
        case y3_1 => (intro w hSw; go_simp; try with_reducible rfl)
        try simp only [List.getElem_toArray, List.getElem_cons_succ, List.getElem_cons_zero, Act.put, List.setIfInBounds_toArray, List.set_cons_zero, List.set_cons_succ]
        refine wpAnyH_ready (rs := [0, 4]) (by kernel_rfl) (by simp) ?_
        refine AllReadyH.cons rfl (fun K hK => ?_) (AllReadyH.cons rfl (fun K hK => ?_) AllReadyH.nil)
        · rw [if_pos (by rfl)]
          refine wp_loadA 28 (.tmp 6) rfl (w.heap.size + 1) 0 15 rfl 28 (cpuC c) (cpuC c) (Kck.out.drew) _ Try.underlying28 rfl (by kernel_rfl) rfl rfl ?_
          refine hK.out _ _ hS (fun hS => ?_)
          clear hK K
          try simp only [List.getElem_toArray, List.getElem_cons_succ, List.getElem_cons_zero, Act.put, List.setIfInBounds_toArray, List.set_cons_zero, List.set_cons_succ]
          refine wpAnyH_ready (rs := [4]) (by kernel_rfl) (by simp) (AllReadyH.cons rfl (fun K hK => ?_) AllReadyH.nil)
          go_simp
          refine (CT.out _ (by repeat' (first | (with_reducible first | exact Below.refl _ _ | assumption | refine below_alloc ?_ _ | refine Below.drew ?_ | refine below_drewN ?_ _ | refine below_then ?_ (by assumption) | refine below_put ?_ (by assumption) (by first | (simp; done) | (simp; omega) | omega) | refine Below.setCell ?_ ?_ _) | (simp; done) | (simp; omega) | omega))).mono ?_
          rintro e w' ⟨rfl, rfl⟩
          try go_wp2_with fail
          refine hK.out _ _ hS (fun hS => ?_)
          clear hK K
          try simp only [List.getElem_toArray, List.getElem_cons_succ, List.getElem_cons_zero, Act.put, List.setIfInBounds_toArray, List.set_cons_zero, List.set_cons_succ]
          refine wpAnyH_ready (rs := [5]) (by kernel_rfl) (by simp) (AllReadyH.cons rfl (fun K hK => ?_) AllReadyH.nil)
          go_simp
          have RRd := Lib.hid (RRk.out.drew LH.out ((Below.refl _ wr).drew))
          refine (do_any (bus_ok (w0 := wr.drew) LH.out) m' c HIN.out r wr.drew ⟨RRd.out.1, RRd.out.2⟩ (by simp; omega)).mono ?_
          rintro e wd ⟨rfl, hrd, kd⟩
          try go_wp2_with fail
          have RR6 := Lib.hid (RR.of hrd)
          have Bd := hrd.1.1
          have Kc6 := Lib.hid (Kck.out.drew.bl Bd (by omega))
          have Kq6 := Lib.hid (Kqk.out.drew.bl Bd (by omega))
          have Kb6 := Lib.hid (Kbk.out.drew.kp kd (by omega) (fun h => h))
          have B6 : Below w.heap.size w wd := Bk.drew.trans (Bd.mono (by omega))
          have hs6 : w5.heap.size < wd.heap.size := by have := kd.size; simp at this; omega
          clear hrd kd Bd
          refine hK.out _ _ Kb6.out (fun hS => ?_)
          clear hK K
          try simp only [List.getElem_toArray, List.getElem_cons_succ, List.getElem_cons_zero, Act.put, List.setIfInBounds_toArray, List.set_cons_zero, List.set_cons_succ]
          refine wpAnyH_take (i := 6) (v := ?v6_6) rfl (by kernel_rfl) (by kernel_rfl) (by kernel_rfl) (fun _ _ _ h => h) (Or.inl ⟨by rfl, ?y6_6⟩) hS ?_
          case y6_6 => (intro w hSw; go_simp; try with_reducible rfl)
          try simp only [List.getElem_toArray, List.getElem_cons_succ, List.getElem_cons_zero, Act.put, List.setIfInBounds_toArray, List.set_cons_zero, List.set_cons_succ]
          refine wpAnyH_take (i := 7) (v := ?v7_7) rfl (by kernel_rfl) (by kernel_rfl) (by kernel_rfl) (fun _ _ _ h => h) (Or.inl ⟨by rfl, ?y7_7⟩) hS ?_
          case y7_7 => (intro w hSw; go_simp; try with_reducible rfl)
          try simp only [List.getElem_toArray, List.getElem_cons_succ, List.getElem_cons_zero, Act.put, List.setIfInBounds_toArray, List.set_cons_zero, List.set_cons_succ]
          refine wpAnyH_take (i := 8) (v := ?v8_8) rfl (by kernel_rfl) (by kernel_rfl) (by kernel_rfl) (fun _ _ _ h => h) (Or.inl ⟨by rfl, ?y8_8⟩) hS ?_
          case y8_8 => (intro w hSw; go_simp; try with_reducible rfl)
          try simp only [List.getElem_toArray, List.getElem_cons_succ, List.getElem_cons_zero, Act.put, List.setIfInBounds_toArray, List.set_cons_zero, List.set_cons_succ]
          refine wpAnyH_ready (rs := [9]) (by kernel_rfl) (by simp) (AllReadyH.cons rfl (fun K hK => ?_) AllReadyH.nil)
          rw [if_pos (by rfl)]
          refine wp_store_row 28 (.tmp 6) (.tmp 50) rfl (w.heap.size + 1) (cpuC (dC busS m' c r)) rfl rfl 28 (cpuC c) Kc6.out (by kernel_rfl) rfl (by simp [cpuC, Value.oneCell']) ?_
          have hsr := Lib.hid (setRow_heap _ (w.heap.size + 1) _ (cpuC (dC busS m' c r)) 28 (0, 0) Kc6.out)
          refine hK.out _ _ (Kb6.out.put (put_setRow _ _ _) (by omega)) (fun hS => ?_)
          clear hK K
          try simp only [List.getElem_toArray, List.getElem_cons_succ, List.getElem_cons_zero, Act.put, List.setIfInBounds_toArray, List.set_cons_zero, List.set_cons_succ]
          refine wpAnyH_take (i := 10) (v := ?v10_9) rfl (by kernel_rfl) (by kernel_rfl) (by kernel_rfl) (fun _ _ _ h => h) (Or.inl ⟨by rfl, ?y10_9⟩) hS ?_
          case y10_9 => (intro w hSw; go_simp; try with_reducible rfl)
          try simp only [List.getElem_toArray, List.getElem_cons_succ, List.getElem_cons_zero, Act.put, List.setIfInBounds_toArray, List.set_cons_zero, List.set_cons_succ]
          refine wpAnyH_done (by kernel_rfl) ?_ _
          refine hk _ ⟨below_put B6 (put_setRow _ _ _) (by omega), by rw [(put_setRow _ _ _).size]; exact hs6, Lib.hid (RR6.out.put (put_setRow _ _ _) (by omega) g1 (by omega) (by omega)), hsr, Lib.hid (Blk.put Kq6.out (put_setRow _ _ _) (by omega)), Lib.hid (Blk.put Kb6.out (put_setRow _ _ _) (by omega))⟩
        · go_simp
          refine (CT.out _ (by repeat' (first | (with_reducible first | exact Below.refl _ _ | assumption | refine below_alloc ?_ _ | refine Below.drew ?_ | refine below_drewN ?_ _ | refine below_then ?_ (by assumption) | refine below_put ?_ (by assumption) (by first | (simp; done) | (simp; omega) | omega) | refine Below.setCell ?_ ?_ _) | (simp; done) | (simp; omega) | omega))).mono ?_
          rintro e w' ⟨rfl, rfl⟩
          try go_wp2_with fail
          refine hK.out _ _ hS (fun hS => ?_)
          clear hK K
          try simp only [List.getElem_toArray, List.getElem_cons_succ, List.getElem_cons_zero, Act.put, List.setIfInBounds_toArray, List.set_cons_zero, List.set_cons_succ]
          refine wpAnyH_ready (rs := [0]) (by kernel_rfl) (by simp) (AllReadyH.cons rfl (fun K hK => ?_) AllReadyH.nil)
          rw [if_pos (by rfl)]
          refine wp_loadA 28 (.tmp 6) rfl (w.heap.size + 1) 0 15 rfl 28 (cpuC c) (cpuC c) (Kck.out.drew) _ Try.underlying28 rfl (by kernel_rfl) rfl rfl ?_
          refine hK.out _ _ hS (fun hS => ?_)
          clear hK K
          try simp only [List.getElem_toArray, List.getElem_cons_succ, List.getElem_cons_zero, Act.put, List.setIfInBounds_toArray, List.set_cons_zero, List.set_cons_succ]
          refine wpAnyH_ready (rs := [5]) (by kernel_rfl) (by simp) (AllReadyH.cons rfl (fun K hK => ?_) AllReadyH.nil)
          go_simp
          have RRd := Lib.hid (RRk.out.drew LH.out ((Below.refl _ wr).drew))
          refine (do_any (bus_ok (w0 := wr.drew) LH.out) m' c HIN.out r wr.drew ⟨RRd.out.1, RRd.out.2⟩ (by simp; omega)).mono ?_
          rintro e wd ⟨rfl, hrd, kd⟩
          try go_wp2_with fail
          have RR6 := Lib.hid (RR.of hrd)
          have Bd := hrd.1.1
          have Kc6 := Lib.hid (Kck.out.drew.bl Bd (by omega))
          have Kq6 := Lib.hid (Kqk.out.drew.bl Bd (by omega))
          have Kb6 := Lib.hid (Kbk.out.drew.kp kd (by omega) (fun h => h))
          have B6 : Below w.heap.size w wd := Bk.drew.trans (Bd.mono (by omega))
          have hs6 : w5.heap.size < wd.heap.size := by have := kd.size; simp at this; omega
          clear hrd kd Bd
          refine hK.out _ _ Kb6.out (fun hS => ?_)
          clear hK K
          try simp only [List.getElem_toArray, List.getElem_cons_succ, List.getElem_cons_zero, Act.put, List.setIfInBounds_toArray, List.set_cons_zero, List.set_cons_succ]
          refine wpAnyH_take (i := 6) (v := ?v6_10) rfl (by kernel_rfl) (by kernel_rfl) (by kernel_rfl) (fun _ _ _ h => h) (Or.inl ⟨by rfl, ?y6_10⟩) hS ?_
          case y6_10 => (intro w hSw; go_simp; try with_reducible rfl)
          try simp only [List.getElem_toArray, List.getElem_cons_succ, List.getElem_cons_zero, Act.put, List.setIfInBounds_toArray, List.set_cons_zero, List.set_cons_succ]
          refine wpAnyH_take (i := 7) (v := ?v7_11) rfl (by kernel_rfl) (by kernel_rfl) (by kernel_rfl) (fun _ _ _ h => h) (Or.inl ⟨by rfl, ?y7_11⟩) hS ?_
          case y7_11 => (intro w hSw; go_simp; try with_reducible rfl)
          try simp only [List.getElem_toArray, List.getElem_cons_succ, List.getElem_cons_zero, Act.put, List.setIfInBounds_toArray, List.set_cons_zero, List.set_cons_succ]
          refine wpAnyH_take (i := 8) (v := ?v8_12) rfl (by kernel_rfl) (by kernel_rfl) (by kernel_rfl) (fun _ _ _ h => h) (Or.inl ⟨by rfl, ?y8_12⟩) hS ?_
          case y8_12 => (intro w hSw; go_simp; try with_reducible rfl)
          try simp only [List.getElem_toArray, List.getElem_cons_succ, List.getElem_cons_zero, Act.put, List.setIfInBounds_toArray, List.set_cons_zero, List.set_cons_succ]
          refine wpAnyH_ready (rs := [9]) (by kernel_rfl) (by simp) (AllReadyH.cons rfl (fun K hK => ?_) AllReadyH.nil)
          rw [if_pos (by rfl)]
          refine wp_store_row 28 (.tmp 6) (.tmp 50) rfl (w.heap.size + 1) (cpuC (dC busS m' c r)) rfl rfl 28 (cpuC c) Kc6.out (by kernel_rfl) rfl (by simp [cpuC, Value.oneCell']) ?_
          have hsr := Lib.hid (setRow_heap _ (w.heap.size + 1) _ (cpuC (dC busS m' c r)) 28 (0, 0) Kc6.out)
          refine hK.out _ _ (Kb6.out.put (put_setRow _ _ _) (by omega)) (fun hS => ?_)
          clear hK K
          try simp only [List.getElem_toArray, List.getElem_cons_succ, List.getElem_cons_zero, Act.put, List.setIfInBounds_toArray, List.set_cons_zero, List.set_cons_succ]
          refine wpAnyH_take (i := 10) (v := ?v10_13) rfl (by kernel_rfl) (by kernel_rfl) (by kernel_rfl) (fun _ _ _ h => h) (Or.inl ⟨by rfl, ?y10_13⟩) hS ?_
          case y10_13 => (intro w hSw; go_simp; try with_reducible rfl)
          try simp only [List.getElem_toArray, List.getElem_cons_succ, List.getElem_cons_zero, Act.put, List.setIfInBounds_toArray, List.set_cons_zero, List.set_cons_succ]
          refine wpAnyH_done (by kernel_rfl) ?_ _
          refine hk _ ⟨below_put B6 (put_setRow _ _ _) (by omega), by rw [(put_setRow _ _ _).size]; exact hs6, Lib.hid (RR6.out.put (put_setRow _ _ _) (by omega) g1 (by omega) (by omega)), hsr, Lib.hid (Blk.put Kq6.out (put_setRow _ _ _) (by omega)), Lib.hid (Blk.put Kb6.out (put_setRow _ _ _) (by omega))⟩
      intro w9 ⟨B9, sz9, RR9, Kc9, Kq9, Kb9⟩
      clear RRk Kck Kqk Kbk Bk szk CT
      obtain ⟨dn, hdn⟩ : ∃ d, d = dN busS m' c r := ⟨_, rfl⟩
      rw [← hdn] at db1 db2 ⊢
      have HDN := Lib.hid hdn
      clear hdn
      go_wp2_with (first | ((with_reducible show wpList _ _ _ _ _ _); refine wpList_storeW rfl 28 (.tmp 6) (.tmp 38) rfl (w.heap.size + 1) (cpuC (start0 (wV busS m 0))) rfl rfl 28 _ (show Blk _ (w.heap.size + 1) #[.int .u16 0, .int .u16 0, .int .u16 0, .int .u16 0, .int .u16 0, .int .u16 0, .int .u16 0, .int .u16 0, .int .u16 0, .bool false, .bool false, .bool false, .bool false, .bool false, .bool false] 28 from (by repeat' (first | (with_reducible first | exact Hid.out (by assumption) | exact Blk.new _ _ _ | (refine Blk.new_at _ _ _ _ ?_; simp; done) | refine Blk.alloc ?_ _ | refine Blk.drewN ?_ _ | refine Blk.drew ?_ | apply Blk.set | refine Blk.put ?_ (by assumption) (by first | (simp; done) | (simp; omega) | omega) | refine Blk.below ?_ (by assumption)) | (refine Blk.setAt ?_ (by first | (simp; done) | (simp; omega))) | rfl))) (by kernel_rfl) rfl (by first | (with_reducible assumption) | simp [Value.oneCell']) ?_; intro w8 hp_w8 K_w8))
      go_roundw
      case rel =>
        refine ⟨k + 1, by omega, by go_num, ?_, B9, sz9, ?_, ?_, Kq9, Kb9⟩
        · rw [HST.out]; simp only [rnStep]; rw [← HDN.out]
        · rw [HST.out]; exact RR9
        · rw [HST.out]; exact Kc9
      case measure => simp [intOf]; omega
    · have hkn' : k = n := by omega
      subst hkn'
      go_wp2_with (first | ((with_reducible show wpList _ _ _ _ _ _); refine wpList_storeW rfl 28 (.tmp 6) (.tmp 38) rfl (w.heap.size + 1) (cpuC (start0 (wV busS m 0))) rfl rfl 28 _ (show Blk _ (w.heap.size + 1) #[.int .u16 0, .int .u16 0, .int .u16 0, .int .u16 0, .int .u16 0, .int .u16 0, .int .u16 0, .int .u16 0, .int .u16 0, .bool false, .bool false, .bool false, .bool false, .bool false, .bool false] 28 from (by repeat' (first | (with_reducible first | exact Hid.out (by assumption) | exact Blk.new _ _ _ | (refine Blk.new_at _ _ _ _ ?_; simp; done) | refine Blk.alloc ?_ _ | refine Blk.drewN ?_ _ | refine Blk.drew ?_ | apply Blk.set | refine Blk.put ?_ (by assumption) (by first | (simp; done) | (simp; omega) | omega) | refine Blk.below ?_ (by assumption)) | (refine Blk.setAt ?_ (by first | (simp; done) | (simp; omega))) | rfl))) (by kernel_rfl) rfl (by first | (with_reducible assumption) | simp [Value.oneCell']) ?_; intro w8 hp_w8 K_w8))
      have Ksk := Lib.hid RRk.out.1.2.2.1
      have ONE := cpuC_one (runS busS rings m k).c
      refine wp_region_held_drew (S := fun W => Blk W (w.heap.size + 1) ((cpuC (runS busS rings m k).c)) 28 ∧ Blk W (w.heap.size) (#[.slice x1 m.rom.length n1, .slice x2 m.ram.length n2]) 24) (by kernel_rfl) ⟨Blk.drew (show Blk _ (w.heap.size + 1) ((cpuC (runS busS rings m k).c)) 28 from (by repeat' (first | (with_reducible first | exact Hid.out (by assumption) | exact Blk.new _ _ _ | (refine Blk.new_at _ _ _ _ ?_; simp; done) | refine Blk.alloc ?_ _ | refine Blk.drewN ?_ _ | refine Blk.drew ?_ | apply Blk.set | refine Blk.put ?_ (by assumption) (by first | (simp; done) | (simp; omega) | omega) | refine Blk.below ?_ (by assumption)) | (refine Blk.setAt ?_ (by first | (simp; done) | (simp; omega))) | rfl))), Blk.drew (show Blk _ (w.heap.size) (#[.slice x1 m.rom.length n1, .slice x2 m.ram.length n2]) 24 from (by repeat' (first | (with_reducible first | exact Hid.out (by assumption) | exact Blk.new _ _ _ | (refine Blk.new_at _ _ _ _ ?_; simp; done) | refine Blk.alloc ?_ _ | refine Blk.drewN ?_ _ | refine Blk.drew ?_ | apply Blk.set | refine Blk.put ?_ (by assumption) (by first | (simp; done) | (simp; omega) | omega) | refine Blk.below ?_ (by assumption)) | (refine Blk.setAt ?_ (by first | (simp; done) | (simp; omega))) | rfl)))⟩ (fun hS => ?_)
      refine wpAnyH_take (i := 0) rfl (by kernel_rfl) (by kernel_rfl) (by kernel_rfl) (fun _ _ _ h => h) (yields_loadA (by rfl) 28 (.tmp 6) rfl (w.heap.size + 1) 0 15 rfl 28 (cpuC (runS busS rings m k).c) (cpuC (runS busS rings m k).c) (fun W hSw => hSw.1) _ Try.underlying28 rfl (by kernel_rfl) rfl rfl) hS ?_
      try simp only [List.getElem_toArray, List.getElem_cons_succ, List.getElem_cons_zero, Act.put, List.setIfInBounds_toArray, List.set_cons_zero, List.set_cons_succ]
      refine wpAnyH_take (i := 1) rfl (by kernel_rfl) (by kernel_rfl) (by kernel_rfl) (fun _ _ _ h => h) (yields_loadA (by rfl) 24 (.tmp 3) rfl (w.heap.size) 0 2 rfl 24 #[.slice x1 m.rom.length n1, .slice x2 m.ram.length n2] #[.slice x1 m.rom.length n1, .slice x2 m.ram.length n2] (fun W hSw => hSw.2) _ Try.underlying24 rfl (by kernel_rfl) rfl rfl) hS ?_
      try simp only [List.getElem_toArray, List.getElem_cons_succ, List.getElem_cons_zero, Act.put, List.setIfInBounds_toArray, List.set_cons_zero, List.set_cons_succ]
      refine wpAnyH_take (i := 2) (v := ?v2_2) rfl (by kernel_rfl) (by kernel_rfl) (by kernel_rfl) (fun _ _ _ h => h) (Or.inl ⟨by rfl, ?y2_2⟩) hS ?_
      case y2_2 => (intro w hSw; go_simp; try with_reducible rfl)
      try simp only [List.getElem_toArray, List.getElem_cons_succ, List.getElem_cons_zero, Act.put, List.setIfInBounds_toArray, List.set_cons_zero, List.set_cons_succ]
      refine wpAnyH_ready (rs := [3]) (by kernel_rfl) (by simp) (AllReadyH.cons rfl (fun K hK => ?_) AllReadyH.nil)
      rw [if_pos (by rfl)]
      refine wp_store_row 28 (.tmp 6) (.tmp 56) rfl (w.heap.size + 1) (cpuC (runS busS rings m k).c) rfl rfl 28 (cpuC (runS busS rings m k).c) hS.1 (by kernel_rfl) rfl ONE ?_
      have hsr := Lib.hid (setRow_heap _ (w.heap.size + 1) _ (cpuC (runS busS rings m k).c) 28 (0, 0) hS.1)
      obtain ⟨w9, hw9⟩ : ∃ W, W = (wr.drew).setRow (w.heap.size + 1) (cpuC (runS busS rings m k).c) := ⟨_, rfl⟩
      have hp9 : Put (w.heap.size + 1) wr.drew w9 := by rw [hw9]; exact put_setRow _ _ _
      rw [← hw9] at hsr ⊢
      clear hw9
      refine hK.out _ _ ⟨hsr.out, Blk.put hS.2 hp9 (by omega)⟩ (fun hS => ?_)
      clear hK K
      try simp only [List.getElem_toArray, List.getElem_cons_succ, List.getElem_cons_zero, Act.put, List.setIfInBounds_toArray, List.set_cons_zero, List.set_cons_succ]
      have Kq9 := Lib.hid (Blk.put Kqk.out.drew hp9 (by omega))
      have RR9 := Lib.hid ((RRk.out.drew LH.out ((Below.refl _ wr).drew)).put hp9 (by omega) g1 (by omega) (by omega))
      have B9 : Below w.heap.size w w9 := below_put Bk.drew hp9 (by omega)
      refine wpAnyH_ready (rs := [4]) (by kernel_rfl) (by simp) (AllReadyH.cons rfl (fun K hK => ?_) AllReadyH.nil)
      rw [if_pos (by rfl)]
      refine wp_store_row 24 (.tmp 7) (.tmp 57) rfl (w.heap.size + 1 + 1) #[.slice x1 m.rom.length n1, .slice x2 m.ram.length n2] rfl rfl 24 #[.slice none 0 0, .slice none 0 0] Kq9.out (by kernel_rfl) rfl (by simp [Value.oneCell']) ?_
      have hst := Lib.hid (setRow_heap _ (w.heap.size + 1 + 1) _ #[.slice x1 m.rom.length n1, .slice x2 m.ram.length n2] 24 (0, 0) Kq9.out)
      have hsr2 := Lib.hid (Blk.put hsr.out (put_setRow w9 (w.heap.size + 1 + 1) #[.slice x1 m.rom.length n1, .slice x2 m.ram.length n2]) (by omega))
      refine hK.out _ _ ⟨Blk.put hS.1 (put_setRow _ _ _) (by omega), Blk.put hS.2 (put_setRow _ _ _) (by omega)⟩ (fun hS => ?_)
      clear hK K
      try simp only [List.getElem_toArray, List.getElem_cons_succ, List.getElem_cons_zero, Act.put, List.setIfInBounds_toArray, List.set_cons_zero, List.set_cons_succ]
      refine wpAnyH_take (i := 5) (v := ?v5_14) rfl (by kernel_rfl) (by kernel_rfl) (by kernel_rfl) (fun _ _ _ h => h) (Or.inl ⟨by rfl, ?y5_14⟩) hS ?_
      case y5_14 => (intro w hSw; go_simp; try with_reducible rfl)
      try simp only [List.getElem_toArray, List.getElem_cons_succ, List.getElem_cons_zero, Act.put, List.setIfInBounds_toArray, List.set_cons_zero, List.set_cons_succ]
      refine wpAnyH_take (i := 6) (v := ?v6_15) rfl (by kernel_rfl) (by kernel_rfl) (by kernel_rfl) (fun _ _ _ h => h) (Or.inl ⟨by rfl, ?y6_15⟩) hS ?_
      case y6_15 => (intro w hSw; go_simp; try with_reducible rfl)
      try simp only [List.getElem_toArray, List.getElem_cons_succ, List.getElem_cons_zero, Act.put, List.setIfInBounds_toArray, List.set_cons_zero, List.set_cons_succ]
      refine wpAnyH_done (by kernel_rfl) ?_ _
      have R10 := Lib.hid (RR9.out.put (put_setRow w9 (w.heap.size + 1 + 1) #[.slice x1 m.rom.length n1, .slice x2 m.ram.length n2]) (by omega) g1 (by omega) (by omega))
      have B10 : Below w.heap.size w (w9.setRow (w.heap.size + 1 + 1) #[.slice x1 m.rom.length n1, .slice x2 m.ram.length n2]) := below_put B9 (put_setRow _ _ _) (by omega)
      have l1 : (runS busS rings m k).m.rom.length = m.rom.length := by rw [(same_runS m rings k).1]
      have l2 : (runS busS rings m k).m.ram.length = m.ram.length := (same_runS m rings k).2
      have SL1 : SliceAt _ .u8 (.slice x1 m.rom.length n1) (runS busS rings m k).m.rom := bytes_slice R10.out.1.2.2.2.1 R10.out.2.1
      have SL2 : SliceAt _ .u8 (.slice x2 m.ram.length n2) (runS busS rings m k).m.ram := bytes_slice R10.out.1.2.2.2.2.1 R10.out.2.2
      go_wp2_with (first | ((with_reducible show wpList _ _ _ _ _ _); refine wpList_storeW rfl 28 (.tmp 6) (.tmp 38) rfl (w.heap.size + 1) (cpuC (start0 (wV busS m 0))) rfl rfl 28 _ (show Blk _ (w.heap.size + 1) #[.int .u16 0, .int .u16 0, .int .u16 0, .int .u16 0, .int .u16 0, .int .u16 0, .int .u16 0, .int .u16 0, .int .u16 0, .bool false, .bool false, .bool false, .bool false, .bool false, .bool false] 28 from (by repeat' (first | (with_reducible first | exact Hid.out (by assumption) | exact Blk.new _ _ _ | (refine Blk.new_at _ _ _ _ ?_; simp; done) | refine Blk.alloc ?_ _ | refine Blk.drewN ?_ _ | refine Blk.drew ?_ | apply Blk.set | refine Blk.put ?_ (by assumption) (by first | (simp; done) | (simp; omega) | omega) | refine Blk.below ?_ (by assumption)) | (refine Blk.setAt ?_ (by first | (simp; done) | (simp; omega))) | rfl))) (by kernel_rfl) rfl (by first | (with_reducible assumption) | simp [Value.oneCell']) ?_; intro w8 hp_w8 K_w8))
      exact bodyPost_ret (results_cctt Try.results6 _ _ (w.heap.size + 1) (w.heap.size + 1 + 1) 28 24 (cpuC (runS busS rings m k).c) #[.slice x1 m.rom.length n1, .slice x2 m.ram.length n2] _ _ rfl hsr2.out Try.underlying28 rfl (by kernel_rfl) rfl hst.out Try.underlying24 rfl (by kernel_rfl)) rfl ⟨_, _, rfl, SL1, SL2, B10⟩
end Go.Proofs.Yteihggfcafoogaa
