/- cpu.Step: one order in a space of one's own. Conditions: the space is right, its slices' cells are bytes, the fields words. -/
import Derived.Test.YteihggfcafoogaaCpuStep
import Derived.Test.YteihggfcafoogaaCpuSpc
import Derived.Test.YteihggfcafoogaaCpuMk
import Derived.Test.YteihggfcafoogaaLibEq
namespace Go.Mq
open Go.RowKit
theorem gcutS {G : Prop} {F : Option Addr → Nat → Option Addr → Nat → World → Prop} (R : Option Addr → Nat → Option Addr → Nat → World → Prop) (h : (∀ x p y q W, R x p y q W → F x p y q W) → G) (H : ∀ x p y q W, R x p y q W → F x p y q W) : G := h H
theorem gcutW {G : Prop} {F : World → Prop} (R : World → Prop) (h : (∀ W, R W → F W) → G) (H : ∀ W, R W → F W) : G := h H
theorem bytes_slice {w : World} {base : Nat} {e : TypeId} {v : Value} {xs : List Int} (h : w.ownsRow base e 1 v xs.length (xs.map (Value.int .u8))) (hb : Bytes8 xs) : SliceAt w .u8 v xs := own_slice h (fun x hx => by
  have := hb x hx
  simp only [Lit.wf, Bool.and_eq_true, decide_eq_true_eq]
  exact ⟨this.1, Int.le_trans this.2 (by decide)⟩)
theorem results_cctt {P : Program} {fn : Func} {p q r s : Tmp} {ty tz : TypeId} (h : fn.results = #[.cell p ty, .cell q tz, .tmp r, .tmp s]) (tmps : Array Value) (w : World) (g g' : Nat) (tb tb' : TypeId) (cs cs' : Array Value) (d d' : TypeDesc)
    (hp : tmps.getD p undef = .pointer (some ⟨g, 0, none⟩)) (hg : Blk w g cs tb) (hu : P.underlying ty = some d) (hd : (match d with | .struct _ | .array _ _ => true | _ => false) = true) (hi : (P.info? ty).map (·.size) = some cs.size)
    (hq : tmps.getD q undef = .pointer (some ⟨g', 0, none⟩)) (hg' : Blk w g' cs' tb') (hu' : P.underlying tz = some d') (hd' : (match d' with | .struct _ | .array _ _ => true | _ => false) = true) (hi' : (P.info? tz).map (·.size) = some cs'.size) :
    (results fn tmps).run P w = .ok (.tuple #[.agg cs, .agg cs', tmps.getD r undef, tmps.getD s undef]) w := by
  have hp' : tmps[p]?.getD undef = .pointer (some ⟨g, 0, none⟩) := by simpa using hp
  have hq' : tmps[q]?.getD undef = .pointer (some ⟨g', 0, none⟩) := by simpa using hq
  simp [results, h, hp', hq', asAddr, run_loadVar_row w g tb ty cs (0, 0) d hg hu hd hi, run_loadVar_row w g' tb' tz cs' (0, 0) d' hg' hu' hd' hi']
theorem own_one {w : World} {base size n : Nat} {e : TypeId} {v : Value} {xs : List Value} (h : w.ownsRow base e size v n xs) : v.oneCell' = true := by
  obtain ⟨a, c, rfl⟩ := own_shape h
  rfl
end Go.Mq
namespace Go.Proofs.Yteihggfcafoogaa
open Go.RowKit Go.Mq
set_option linter.unusedVariables false
set_option linter.unusedSimpArgs false
set_option maxHeartbeats 2000000
set_option maxRecDepth 100000

theorem step_any (c : Cp) (hi : c.In) (rv mv : Value) (m : Spc) (rings : Bool) (w : World) (h1 : SliceAt w .u8 rv m.rom) (h2 : SliceAt w .u8 mv m.ram) (hl1 : m.rom.length ≤ 1024) (hl2 : m.ram.length ≤ 256) :
    Calls Try.prog 8 #[.agg (cpuC c), .agg #[rv, mv], .bool rings] w fun e w' => ∃ ru mu, e = .returned (.tuple #[.agg (cpuC (dC busS m c rings)), .agg #[ru, mu], .int .i64 (dN busS m c rings), .int .i64 0]) ∧ SliceAt w' .u8 ru (dM busS m c rings).rom ∧ SliceAt w' .u8 mu (dM busS m c rings).ram ∧ Below w.heap.size w w' := by
  have H1 := Lib.hid h1
  have H2 := Lib.hid h2
  have o1 : rv.oneCell' = true := by obtain ⟨a, q, rfl, -⟩ := h1; rfl
  have o2 : mv.oneCell' = true := by obtain ⟨a, q, rfl, -⟩ := h2; rfl
  have by1 : Bytes8 m.rom := fun x hx => by
    obtain ⟨_, _, _, _, _, hw, _⟩ := h1
    exact byte_in (hw x hx)
  have by2 : Bytes8 m.ram := fun x hx => by
    obtain ⟨_, _, _, _, _, hw, _⟩ := h2
    exact byte_in (hw x hx)
  have BY := Lib.hid (And.intro by1 by2)
  have CK := Lib.hid (fun w' (h : Below w.heap.size w w') => checkS_any rv mv m.rom m.ram w' (H1.out.below h) (H2.out.below h))
  rw [if_neg (show ¬ (1024 < m.rom.length ∨ 256 < m.ram.length) by omega)] at CK
  clear h1 h2 by1 by2
  have hc0 : ∀ W, Blk W w.heap.size #[.int .u16 (c.r 0), .int .u16 (c.r 1), .int .u16 (c.r 2), .int .u16 (c.r 3), .int .u16 (c.r 4), .int .u16 (c.r 5), .int .u16 (c.r 6), .int .u16 (c.r 7), .int .u16 c.pc, .bool c.z, .bool c.n, .bool c.c, .bool c.v, .bool c.may, .bool c.wt] 28 → Blk W w.heap.size (cpuC c) 28 := fun W h => h
  have HC0 := Lib.hid hc0
  clear hc0
  rw [show (#[.agg (cpuC c), .agg #[rv, mv], .bool rings] : Array Value) = #[.agg #[.int .u16 (c.r 0), .int .u16 (c.r 1), .int .u16 (c.r 2), .int .u16 (c.r 3), .int .u16 (c.r 4), .int .u16 (c.r 5), .int .u16 (c.r 6), .int .u16 (c.r 7), .int .u16 c.pc, .bool c.z, .bool c.n, .bool c.c, .bool c.v, .bool c.may, .bool c.wt], .agg #[rv, mv], .bool rings] from rfl]
  go_enter Try.func8, Try.ntmps8
  go_wp2_with (first | ((with_reducible show wpList _ _ _ _ _ _); refine wpList_loadW rfl 24 (.tmp 4) rfl (w.heap.size + 1) rfl 24 #[rv, mv] (show Blk _ (w.heap.size + 1) #[rv, mv] 24 from (by repeat' (first | (with_reducible first | exact Hid.out (by assumption) | exact Blk.new _ _ _ | (refine Blk.new_at _ _ _ _ ?_; simp; done) | refine Blk.alloc ?_ _ | refine Blk.drewN ?_ _ | refine Blk.drew ?_ | apply Blk.set | refine Blk.put ?_ (by assumption) (by first | (simp; done) | (simp; omega) | omega) | refine Blk.below ?_ (by assumption)) | (refine Blk.setAt ?_ (by first | (simp; done) | (simp; omega))) | rfl))) _ Try.underlying24 rfl (by kernel_rfl) ?_))
  refine (CK.out _ (by repeat' (first | (with_reducible first | exact Below.refl _ _ | assumption | refine below_alloc ?_ _ | refine Below.drew ?_ | refine below_drewN ?_ _ | refine below_then ?_ (by assumption) | refine below_put ?_ (by assumption) (by first | (simp; done) | (simp; omega) | omega) | refine Below.setCell ?_ ?_ _) | (simp; done) | (simp; omega) | omega))).mono ?_
  rintro e w1 ⟨rfl, hb1⟩
  have hs1 := hb1.size
  have hq1 : w.heap.size + 4 ≤ w1.heap.size := by simpa using hs1
  have Kc1 := Lib.hid ((HC0.out _ (by repeat' (first | (with_reducible first | exact Hid.out (by assumption) | exact Blk.new _ _ _ | (refine Blk.new_at _ _ _ _ ?_; simp; done) | refine Blk.alloc ?_ _ | refine Blk.drewN ?_ _ | refine Blk.drew ?_ | apply Blk.set | refine Blk.put ?_ (by assumption) (by first | (simp; done) | (simp; omega) | omega) | refine Blk.below ?_ (by assumption)) | (refine Blk.setAt ?_ (by first | (simp; done) | (simp; omega))) | rfl))).below hb1)
  have Ks1 := Lib.hid ((show Blk _ (w.heap.size + 1) #[rv, mv] 24 from (by repeat' (first | (with_reducible first | exact Hid.out (by assumption) | exact Blk.new _ _ _ | (refine Blk.new_at _ _ _ _ ?_; simp; done) | refine Blk.alloc ?_ _ | refine Blk.drewN ?_ _ | refine Blk.drew ?_ | apply Blk.set | refine Blk.put ?_ (by assumption) (by first | (simp; done) | (simp; omega) | omega) | refine Blk.below ?_ (by assumption)) | (refine Blk.setAt ?_ (by first | (simp; done) | (simp; omega))) | rfl))).below hb1)
  have Kr1 := Lib.hid ((show Blk _ (w.heap.size + 1 + 1) #[.int .u16 0, .int .u16 0, .int .u16 0, .int .u16 0, .int .u16 0, .int .u16 0, .int .u16 0, .int .u16 0, .int .u16 0, .bool false, .bool false, .bool false, .bool false, .bool false, .bool false] 28 from (by repeat' (first | (with_reducible first | exact Hid.out (by assumption) | exact Blk.new _ _ _ | (refine Blk.new_at _ _ _ _ ?_; simp; done) | refine Blk.alloc ?_ _ | refine Blk.drewN ?_ _ | refine Blk.drew ?_ | apply Blk.set | refine Blk.put ?_ (by assumption) (by first | (simp; done) | (simp; omega) | omega) | refine Blk.below ?_ (by assumption)) | (refine Blk.setAt ?_ (by first | (simp; done) | (simp; omega))) | rfl))).below hb1)
  have Kq1 := Lib.hid ((show Blk _ (w.heap.size + 1 + 1 + 1) #[.slice none 0 0, .slice none 0 0] 24 from (by repeat' (first | (with_reducible first | exact Hid.out (by assumption) | exact Blk.new _ _ _ | (refine Blk.new_at _ _ _ _ ?_; simp; done) | refine Blk.alloc ?_ _ | refine Blk.drewN ?_ _ | refine Blk.drew ?_ | apply Blk.set | refine Blk.put ?_ (by assumption) (by first | (simp; done) | (simp; omega) | omega) | refine Blk.below ?_ (by assumption)) | (refine Blk.setAt ?_ (by first | (simp; done) | (simp; omega))) | rfl))).below hb1)
  have B1 : Below w.heap.size w w1 := by repeat' (first | (with_reducible first | exact Below.refl _ _ | assumption | refine below_alloc ?_ _ | refine Below.drew ?_ | refine below_drewN ?_ _ | refine below_then ?_ (by assumption) | refine below_put ?_ (by assumption) (by first | (simp; done) | (simp; omega) | omega) | refine Below.setCell ?_ ?_ _) | (simp; done) | (simp; omega) | omega)
  go_wp2_with fail
  have lss : w.heap.size + 1 < w1.heap.size := by omega
  have css0 : w1.cell? ⟨w.heap.size + 1, 0, none⟩ = some rv := Ks1.out.cell 0
  have css1 : w1.cell? ⟨w.heap.size + 1, 1, none⟩ = some mv := Ks1.out.cell 1
  have hrv : SliceAt w1.drew .u8 rv m.rom := H1.out.below B1.drew
  have hmv : SliceAt w1.drew .u8 mv m.ram := H2.out.below B1.drew
  have HRV := Lib.hid hrv
  have HMV := Lib.hid hmv
  clear hrv hmv
  apply gcutS (fun x1 n1 x2 n2 W => Below w.heap.size w W ∧ w1.heap.size ≤ W.heap.size ∧ Hid (Blk W w.heap.size (cpuC c) 28) ∧ Hid (Blk W (w.heap.size + 1) #[.slice x1 m.rom.length n1, .slice x2 m.ram.length n2] 24) ∧ Hid (Blk W (w.heap.size + 1 + 1) #[.int .u16 0, .int .u16 0, .int .u16 0, .int .u16 0, .int .u16 0, .int .u16 0, .int .u16 0, .int .u16 0, .int .u16 0, .bool false, .bool false, .bool false, .bool false, .bool false, .bool false] 28) ∧ Hid (Blk W (w.heap.size + 1 + 1 + 1) #[.slice none 0 0, .slice none 0 0] 24) ∧ Hid (∃ b2, w1.heap.size ≤ b2 ∧ b2 ≤ W.heap.size ∧ (∀ g, (Value.slice x1 m.rom.length n1).ownBlock = some g → g < b2) ∧ W.ownsRow w1.heap.size 5 1 (.slice x1 m.rom.length n1) m.rom.length (m.rom.map (Value.int .u8)) ∧ W.ownsRow b2 5 1 (.slice x2 m.ram.length n2) m.ram.length (m.ram.map (Value.int .u8))))
  · intro hk
    refine wp_region_held_drew (S := fun _ => True) (by kernel_rfl) trivial (fun hS => ?_)
    refine wpAnyH_take (i := 0) (v := ?v0_1) rfl (by kernel_rfl) (by kernel_rfl) (by kernel_rfl) (fun _ _ _ h => h) (Or.inl ⟨by rfl, ?y0_1⟩) hS ?_
    case y0_1 => (intro w hSw; go_simp; try with_reducible rfl)
    try simp only [List.getElem_toArray, List.getElem_cons_succ, List.getElem_cons_zero, Act.put, List.setIfInBounds_toArray, List.set_cons_zero, List.set_cons_succ]
    refine wpAnyH_take (i := 3) (v := ?v3_2) rfl (by kernel_rfl) (by kernel_rfl) (by kernel_rfl) (fun _ _ _ h => h) (Or.inl ⟨by rfl, ?y3_2⟩) hS ?_
    case y3_2 => (intro w hSw; go_simp; try with_reducible rfl)
    try simp only [List.getElem_toArray, List.getElem_cons_succ, List.getElem_cons_zero, Act.put, List.setIfInBounds_toArray, List.set_cons_zero, List.set_cons_succ]
    refine wpAnyH_ready (rs := [1, 4]) (by kernel_rfl) (by simp) ?_
    refine AllReadyH.cons rfl (fun K hK => ?_) (AllReadyH.cons rfl (fun K hK => ?_) (AllReadyH.nil))
    · go_simp
      refine hK.out _ _ trivial (fun hS => ?_)
      clear hK K
      try simp only [List.getElem_toArray, List.getElem_cons_succ, List.getElem_cons_zero, Act.put, List.setIfInBounds_toArray, List.set_cons_zero, List.set_cons_succ]
      refine wpAnyH_ready (rs := [2, 4]) (by kernel_rfl) (by simp) ?_
      refine AllReadyH.cons rfl (fun K hK => ?_) (AllReadyH.cons rfl (fun K hK => ?_) (AllReadyH.nil))
      · go_simp
        refine (clone_any _ rv m.rom HRV.out (by omega)).mono ?_
        rintro e w2 ⟨u1, rfl, ho, hb2⟩
        obtain ⟨x1, n1, rfl⟩ := own_shape ho
        try go_wp2_with fail
        have O2 := Lib.hid ho
        have hs2 := hb2.size
        have hq2 : w1.heap.size ≤ w2.heap.size := by simpa using hs2
        have B2 : Below w.heap.size w w2 := below_then B1.drew hb2
        have Ks2 := Lib.hid (Ks1.out.drew.below hb2)
        have Kc2 := Lib.hid (Kc1.out.drew.below hb2)
        have Kr2 := Lib.hid (Kr1.out.drew.below hb2)
        have Kq2 := Lib.hid (Kq1.out.drew.below hb2)
        have css1 : w2.cell? ⟨w.heap.size + 1, 1, none⟩ = some mv := Ks2.out.cell 1
        have HMV2 := Lib.hid (HMV.out.below hb2)
        clear ho
        refine hK.out _ _ trivial (fun hS => ?_)
        clear hK K
        try simp only [List.getElem_toArray, List.getElem_cons_succ, List.getElem_cons_zero, Act.put, List.setIfInBounds_toArray, List.set_cons_zero, List.set_cons_succ]
        refine wpAnyH_ready (rs := [4]) (by kernel_rfl) (by simp) ?_
        refine AllReadyH.cons rfl (fun K hK => ?_) (AllReadyH.nil)
        · go_simp
          refine hK.out _ _ trivial (fun hS => ?_)
          clear hK K
          try simp only [List.getElem_toArray, List.getElem_cons_succ, List.getElem_cons_zero, Act.put, List.setIfInBounds_toArray, List.set_cons_zero, List.set_cons_succ]
          refine wpAnyH_ready (rs := [5]) (by kernel_rfl) (by simp) ?_
          refine AllReadyH.cons rfl (fun K hK => ?_) (AllReadyH.nil)
          · go_simp
            refine (clone_any _ mv m.ram HMV2.out (by omega)).mono ?_
            rintro e w3 ⟨u2, rfl, ho, hb3⟩
            obtain ⟨x2, n2, rfl⟩ := own_shape ho
            try go_wp2_with fail
            have O3 := Lib.hid ho
            have O3a := Lib.hid (own_below O2.out hb3)
            have hs3 := hb3.size
            have B3 : Below w.heap.size w w3 := below_then B2 hb3
            have Ks3 := Lib.hid (Ks2.out.below hb3)
            have Kc3 := Lib.hid (Kc2.out.below hb3)
            have Kr3 := Lib.hid (Kr2.out.below hb3)
            have Kq3 := Lib.hid (Kq2.out.below hb3)
            clear ho
            refine hK.out _ _ trivial (fun hS => ?_)
            clear hK K
            try simp only [List.getElem_toArray, List.getElem_cons_succ, List.getElem_cons_zero, Act.put, List.setIfInBounds_toArray, List.set_cons_zero, List.set_cons_succ]
            refine wpAnyH_take (i := 6) (v := ?v6_3) rfl (by kernel_rfl) (by kernel_rfl) (by kernel_rfl) (fun _ _ _ h => h) (Or.inl ⟨by rfl, ?y6_3⟩) hS ?_
            case y6_3 => (intro w hSw; go_simp; try with_reducible rfl)
            try simp only [List.getElem_toArray, List.getElem_cons_succ, List.getElem_cons_zero, Act.put, List.setIfInBounds_toArray, List.set_cons_zero, List.set_cons_succ]
            refine wpAnyH_ready (rs := [7]) (by kernel_rfl) (by simp) (AllReadyH.cons rfl (fun K hK => ?_) AllReadyH.nil)
            rw [if_pos (by rfl)]
            refine wp_store_row 24 (.tmp 4) (.tmp 25) rfl (w.heap.size + 1) #[.slice x1 m.rom.length n1, .slice x2 m.ram.length n2] rfl rfl 24 #[rv, mv] Ks3.out (by kernel_rfl) rfl (by simp [Value.oneCell']) ?_
            have hsr := Lib.hid (setRow_heap _ (w.heap.size + 1) _ #[.slice x1 m.rom.length n1, .slice x2 m.ram.length n2] 24 (0, 0) Ks3.out)
            refine hK.out _ _ trivial (fun hS => ?_)
            clear hK K
            try simp only [List.getElem_toArray, List.getElem_cons_succ, List.getElem_cons_zero, Act.put, List.setIfInBounds_toArray, List.set_cons_zero, List.set_cons_succ]
            refine wpAnyH_done (by kernel_rfl) ?_ _
            refine hk x1 n1 x2 n2 _ ⟨below_put B3 (put_setRow _ _ _) (by omega), by rw [(put_setRow _ _ _).size]; omega, Lib.hid (Blk.put Kc3.out (put_setRow _ _ _) (by omega)), hsr, Lib.hid (Blk.put Kr3.out (put_setRow _ _ _) (by omega)), Lib.hid (Blk.put Kq3.out (put_setRow _ _ _) (by omega)), Lib.hid ⟨w2.heap.size, by omega, by rw [(put_setRow _ _ _).size]; omega, fun g hg => (O2.out.lt g hg).2, own_put O3a.out (put_setRow _ _ _) (by omega), own_put O3.out (put_setRow _ _ _) (by omega)⟩⟩
      · go_simp
        refine hK.out _ _ trivial (fun hS => ?_)
        clear hK K
        try simp only [List.getElem_toArray, List.getElem_cons_succ, List.getElem_cons_zero, Act.put, List.setIfInBounds_toArray, List.set_cons_zero, List.set_cons_succ]
        refine wpAnyH_ready (rs := [2]) (by kernel_rfl) (by simp) ?_
        refine AllReadyH.cons rfl (fun K hK => ?_) (AllReadyH.nil)
        · go_simp
          refine (clone_any _ rv m.rom HRV.out (by omega)).mono ?_
          rintro e w2 ⟨u1, rfl, ho, hb2⟩
          obtain ⟨x1, n1, rfl⟩ := own_shape ho
          try go_wp2_with fail
          have O2 := Lib.hid ho
          have hs2 := hb2.size
          have hq2 : w1.heap.size ≤ w2.heap.size := by simpa using hs2
          have B2 : Below w.heap.size w w2 := below_then B1.drew hb2
          have Ks2 := Lib.hid (Ks1.out.drew.below hb2)
          have Kc2 := Lib.hid (Kc1.out.drew.below hb2)
          have Kr2 := Lib.hid (Kr1.out.drew.below hb2)
          have Kq2 := Lib.hid (Kq1.out.drew.below hb2)
          have css1 : w2.cell? ⟨w.heap.size + 1, 1, none⟩ = some mv := Ks2.out.cell 1
          have HMV2 := Lib.hid (HMV.out.below hb2)
          clear ho
          refine hK.out _ _ trivial (fun hS => ?_)
          clear hK K
          try simp only [List.getElem_toArray, List.getElem_cons_succ, List.getElem_cons_zero, Act.put, List.setIfInBounds_toArray, List.set_cons_zero, List.set_cons_succ]
          refine wpAnyH_ready (rs := [5]) (by kernel_rfl) (by simp) ?_
          refine AllReadyH.cons rfl (fun K hK => ?_) (AllReadyH.nil)
          · go_simp
            refine (clone_any _ mv m.ram HMV2.out (by omega)).mono ?_
            rintro e w3 ⟨u2, rfl, ho, hb3⟩
            obtain ⟨x2, n2, rfl⟩ := own_shape ho
            try go_wp2_with fail
            have O3 := Lib.hid ho
            have O3a := Lib.hid (own_below O2.out hb3)
            have hs3 := hb3.size
            have B3 : Below w.heap.size w w3 := below_then B2 hb3
            have Ks3 := Lib.hid (Ks2.out.below hb3)
            have Kc3 := Lib.hid (Kc2.out.below hb3)
            have Kr3 := Lib.hid (Kr2.out.below hb3)
            have Kq3 := Lib.hid (Kq2.out.below hb3)
            clear ho
            refine hK.out _ _ trivial (fun hS => ?_)
            clear hK K
            try simp only [List.getElem_toArray, List.getElem_cons_succ, List.getElem_cons_zero, Act.put, List.setIfInBounds_toArray, List.set_cons_zero, List.set_cons_succ]
            refine wpAnyH_take (i := 6) (v := ?v6_4) rfl (by kernel_rfl) (by kernel_rfl) (by kernel_rfl) (fun _ _ _ h => h) (Or.inl ⟨by rfl, ?y6_4⟩) hS ?_
            case y6_4 => (intro w hSw; go_simp; try with_reducible rfl)
            try simp only [List.getElem_toArray, List.getElem_cons_succ, List.getElem_cons_zero, Act.put, List.setIfInBounds_toArray, List.set_cons_zero, List.set_cons_succ]
            refine wpAnyH_ready (rs := [7]) (by kernel_rfl) (by simp) (AllReadyH.cons rfl (fun K hK => ?_) AllReadyH.nil)
            rw [if_pos (by rfl)]
            refine wp_store_row 24 (.tmp 4) (.tmp 25) rfl (w.heap.size + 1) #[.slice x1 m.rom.length n1, .slice x2 m.ram.length n2] rfl rfl 24 #[rv, mv] Ks3.out (by kernel_rfl) rfl (by simp [Value.oneCell']) ?_
            have hsr := Lib.hid (setRow_heap _ (w.heap.size + 1) _ #[.slice x1 m.rom.length n1, .slice x2 m.ram.length n2] 24 (0, 0) Ks3.out)
            refine hK.out _ _ trivial (fun hS => ?_)
            clear hK K
            try simp only [List.getElem_toArray, List.getElem_cons_succ, List.getElem_cons_zero, Act.put, List.setIfInBounds_toArray, List.set_cons_zero, List.set_cons_succ]
            refine wpAnyH_done (by kernel_rfl) ?_ _
            refine hk x1 n1 x2 n2 _ ⟨below_put B3 (put_setRow _ _ _) (by omega), by rw [(put_setRow _ _ _).size]; omega, Lib.hid (Blk.put Kc3.out (put_setRow _ _ _) (by omega)), hsr, Lib.hid (Blk.put Kr3.out (put_setRow _ _ _) (by omega)), Lib.hid (Blk.put Kq3.out (put_setRow _ _ _) (by omega)), Lib.hid ⟨w2.heap.size, by omega, by rw [(put_setRow _ _ _).size]; omega, fun g hg => (O2.out.lt g hg).2, own_put O3a.out (put_setRow _ _ _) (by omega), own_put O3.out (put_setRow _ _ _) (by omega)⟩⟩
    · go_simp
      refine hK.out _ _ trivial (fun hS => ?_)
      clear hK K
      try simp only [List.getElem_toArray, List.getElem_cons_succ, List.getElem_cons_zero, Act.put, List.setIfInBounds_toArray, List.set_cons_zero, List.set_cons_succ]
      refine wpAnyH_ready (rs := [1]) (by kernel_rfl) (by simp) ?_
      refine AllReadyH.cons rfl (fun K hK => ?_) (AllReadyH.nil)
      · go_simp
        refine hK.out _ _ trivial (fun hS => ?_)
        clear hK K
        try simp only [List.getElem_toArray, List.getElem_cons_succ, List.getElem_cons_zero, Act.put, List.setIfInBounds_toArray, List.set_cons_zero, List.set_cons_succ]
        refine wpAnyH_ready (rs := [2]) (by kernel_rfl) (by simp) ?_
        refine AllReadyH.cons rfl (fun K hK => ?_) (AllReadyH.nil)
        · go_simp
          refine (clone_any _ rv m.rom HRV.out (by omega)).mono ?_
          rintro e w2 ⟨u1, rfl, ho, hb2⟩
          obtain ⟨x1, n1, rfl⟩ := own_shape ho
          try go_wp2_with fail
          have O2 := Lib.hid ho
          have hs2 := hb2.size
          have hq2 : w1.heap.size ≤ w2.heap.size := by simpa using hs2
          have B2 : Below w.heap.size w w2 := below_then B1.drew hb2
          have Ks2 := Lib.hid (Ks1.out.drew.below hb2)
          have Kc2 := Lib.hid (Kc1.out.drew.below hb2)
          have Kr2 := Lib.hid (Kr1.out.drew.below hb2)
          have Kq2 := Lib.hid (Kq1.out.drew.below hb2)
          have css1 : w2.cell? ⟨w.heap.size + 1, 1, none⟩ = some mv := Ks2.out.cell 1
          have HMV2 := Lib.hid (HMV.out.below hb2)
          clear ho
          refine hK.out _ _ trivial (fun hS => ?_)
          clear hK K
          try simp only [List.getElem_toArray, List.getElem_cons_succ, List.getElem_cons_zero, Act.put, List.setIfInBounds_toArray, List.set_cons_zero, List.set_cons_succ]
          refine wpAnyH_ready (rs := [5]) (by kernel_rfl) (by simp) ?_
          refine AllReadyH.cons rfl (fun K hK => ?_) (AllReadyH.nil)
          · go_simp
            refine (clone_any _ mv m.ram HMV2.out (by omega)).mono ?_
            rintro e w3 ⟨u2, rfl, ho, hb3⟩
            obtain ⟨x2, n2, rfl⟩ := own_shape ho
            try go_wp2_with fail
            have O3 := Lib.hid ho
            have O3a := Lib.hid (own_below O2.out hb3)
            have hs3 := hb3.size
            have B3 : Below w.heap.size w w3 := below_then B2 hb3
            have Ks3 := Lib.hid (Ks2.out.below hb3)
            have Kc3 := Lib.hid (Kc2.out.below hb3)
            have Kr3 := Lib.hid (Kr2.out.below hb3)
            have Kq3 := Lib.hid (Kq2.out.below hb3)
            clear ho
            refine hK.out _ _ trivial (fun hS => ?_)
            clear hK K
            try simp only [List.getElem_toArray, List.getElem_cons_succ, List.getElem_cons_zero, Act.put, List.setIfInBounds_toArray, List.set_cons_zero, List.set_cons_succ]
            refine wpAnyH_take (i := 6) (v := ?v6_5) rfl (by kernel_rfl) (by kernel_rfl) (by kernel_rfl) (fun _ _ _ h => h) (Or.inl ⟨by rfl, ?y6_5⟩) hS ?_
            case y6_5 => (intro w hSw; go_simp; try with_reducible rfl)
            try simp only [List.getElem_toArray, List.getElem_cons_succ, List.getElem_cons_zero, Act.put, List.setIfInBounds_toArray, List.set_cons_zero, List.set_cons_succ]
            refine wpAnyH_ready (rs := [7]) (by kernel_rfl) (by simp) (AllReadyH.cons rfl (fun K hK => ?_) AllReadyH.nil)
            rw [if_pos (by rfl)]
            refine wp_store_row 24 (.tmp 4) (.tmp 25) rfl (w.heap.size + 1) #[.slice x1 m.rom.length n1, .slice x2 m.ram.length n2] rfl rfl 24 #[rv, mv] Ks3.out (by kernel_rfl) rfl (by simp [Value.oneCell']) ?_
            have hsr := Lib.hid (setRow_heap _ (w.heap.size + 1) _ #[.slice x1 m.rom.length n1, .slice x2 m.ram.length n2] 24 (0, 0) Ks3.out)
            refine hK.out _ _ trivial (fun hS => ?_)
            clear hK K
            try simp only [List.getElem_toArray, List.getElem_cons_succ, List.getElem_cons_zero, Act.put, List.setIfInBounds_toArray, List.set_cons_zero, List.set_cons_succ]
            refine wpAnyH_done (by kernel_rfl) ?_ _
            refine hk x1 n1 x2 n2 _ ⟨below_put B3 (put_setRow _ _ _) (by omega), by rw [(put_setRow _ _ _).size]; omega, Lib.hid (Blk.put Kc3.out (put_setRow _ _ _) (by omega)), hsr, Lib.hid (Blk.put Kr3.out (put_setRow _ _ _) (by omega)), Lib.hid (Blk.put Kq3.out (put_setRow _ _ _) (by omega)), Lib.hid ⟨w2.heap.size, by omega, by rw [(put_setRow _ _ _).size]; omega, fun g hg => (O2.out.lt g hg).2, own_put O3a.out (put_setRow _ _ _) (by omega), own_put O3.out (put_setRow _ _ _) (by omega)⟩⟩
  intro x1 n1 x2 n2 w4 ⟨B4, hs4, Kc4, Ks4, Kr4, Kq4, KO4⟩
  obtain ⟨b2, g1, g2, g3, g4, g5⟩ := KO4.out
  have L : Lies (.slice x1 m.rom.length n1) (.slice x2 m.ram.length n2) (w.heap.size + 1) w4.heap.size w1.heap.size b2 w4.heap.size (w4.heap.size + 1) w1.heap.size := ⟨g1, by omega, g1, g2, by omega, by omega, g3, fun g hg => (g5.lt g hg).2⟩
  have LL := Lib.hid (bus_ok (w0 := w4) L)
  have O1 := Lib.hid g4
  have O2 := Lib.hid g5
  have MB := Lib.hid (mkbus_any (w.heap.size + 1) w4.drew)
  clear css0 css1 g3 g4 g5 L KO4
  go_wp2_with fail
  apply gcutW (fun W => Below w.heap.size w W ∧ Hid (Blk W w.heap.size (cpuC (dC busS m c rings)) 28) ∧ Hid (Blk W (w.heap.size + 1) #[.slice x1 m.rom.length n1, .slice x2 m.ram.length n2] 24) ∧ Hid (Blk W (w.heap.size + 1 + 1) #[.int .u16 0, .int .u16 0, .int .u16 0, .int .u16 0, .int .u16 0, .int .u16 0, .int .u16 0, .int .u16 0, .int .u16 0, .bool false, .bool false, .bool false, .bool false, .bool false, .bool false] 28) ∧ Hid (Blk W (w.heap.size + 1 + 1 + 1) #[.slice none 0 0, .slice none 0 0] 24) ∧ Hid (W.ownsRow w1.heap.size 5 1 (.slice x1 m.rom.length n1) (dM busS m c rings).rom.length ((dM busS m c rings).rom.map (Value.int .u8))) ∧ Hid (W.ownsRow b2 5 1 (.slice x2 m.ram.length n2) (dM busS m c rings).ram.length ((dM busS m c rings).ram.map (Value.int .u8))) ∧ Hid (Bytes8 (dM busS m c rings).rom ∧ Bytes8 (dM busS m c rings).ram))
  · intro hk
    refine wp_region_held_drew (S := fun _ => True) (by kernel_rfl) trivial (fun hS => ?_)
    refine wpAnyH_take (i := 2) (v := ?v2_8) rfl (by kernel_rfl) (by kernel_rfl) (by kernel_rfl) (fun _ _ _ h => h) (Or.inl ⟨by rfl, ?y2_8⟩) hS ?_
    case y2_8 => (intro w hSw; go_simp; try with_reducible rfl)
    try simp only [List.getElem_toArray, List.getElem_cons_succ, List.getElem_cons_zero, Act.put, List.setIfInBounds_toArray, List.set_cons_zero, List.set_cons_succ]
    refine wpAnyH_ready (rs := [0, 1]) (by kernel_rfl) (by simp) ?_
    refine AllReadyH.cons rfl (fun K hK => ?_) (AllReadyH.cons rfl (fun K hK => ?_) AllReadyH.nil)
    · rw [if_pos (by rfl)]
      refine wp_loadA 28 (.tmp 3) rfl w.heap.size 0 15 rfl 28 (cpuC c) (cpuC c) Kc4.out.drew _ Try.underlying28 rfl (by kernel_rfl) rfl rfl ?_
      refine hK.out _ _ trivial (fun hS => ?_)
      clear hK K
      try simp only [List.getElem_toArray, List.getElem_cons_succ, List.getElem_cons_zero, Act.put, List.setIfInBounds_toArray, List.set_cons_zero, List.set_cons_succ]
      refine wpAnyH_ready (rs := [1]) (by kernel_rfl) (by simp) (AllReadyH.cons rfl (fun K hK => ?_) AllReadyH.nil)
      go_simp
      refine (MB.out).mono ?_
      rintro e w5 ⟨rfl, hb5, sz5, kp5⟩
      try go_wp2_with fail
      have Kp5 := Lib.hid (show Blk w5 w4.heap.size #[.pointer (some ⟨w.heap.size + 1, 0, none⟩)] 54 from kp5)
      have Kc5 := Lib.hid (Kc4.out.drew.below hb5)
      have Ks5 := Lib.hid (Ks4.out.drew.below hb5)
      clear kp5
      refine hK.out _ _ trivial (fun hS => ?_)
      clear hK K
      try simp only [List.getElem_toArray, List.getElem_cons_succ, List.getElem_cons_zero, Act.put, List.setIfInBounds_toArray, List.set_cons_zero, List.set_cons_succ]
      have hr5 : RelS w4 (.slice x1 m.rom.length n1) (.slice x2 m.ram.length n2) (w.heap.size + 1) w4.heap.size w1.heap.size b2 w1.heap.size w5 m := ⟨((Below.refl _ _).drew.trans (hb5.mono (show w1.heap.size ≤ w4.drew.heap.size by simpa using hs4))), Kp5.out, Ks5.out, own_below (World.ownsRow.drew O1.out) hb5, own_below (World.ownsRow.drew O2.out) hb5, BY.out.1, BY.out.2, hl1, hl2⟩
      refine wpAnyH_ready (rs := [3]) (by kernel_rfl) (by simp) (AllReadyH.cons rfl (fun K hK => ?_) AllReadyH.nil)
      go_simp
      refine (do_any LL.out m c hi rings w5 ⟨hr5, BY.out⟩ (Nat.succ_le_of_lt sz5)).mono ?_
      rintro e w6 ⟨rfl, hr6, k6⟩
      try go_wp2_with fail
      have B6 := hr6.1.1
      have Kc6 := Lib.hid (show Blk w6 w.heap.size (cpuC c) 28 from by unfold Blk; rw [B6.block _ (by omega)]; exact Kc4.out)
      have Kr6 := Lib.hid (show Blk w6 (w.heap.size + 1 + 1) #[.int .u16 0, .int .u16 0, .int .u16 0, .int .u16 0, .int .u16 0, .int .u16 0, .int .u16 0, .int .u16 0, .int .u16 0, .bool false, .bool false, .bool false, .bool false, .bool false, .bool false] 28 from by unfold Blk; rw [B6.block _ (by omega)]; exact Kr4.out)
      have Kq6 := Lib.hid (show Blk w6 (w.heap.size + 1 + 1 + 1) #[.slice none 0 0, .slice none 0 0] 24 from by unfold Blk; rw [B6.block _ (by omega)]; exact Kq4.out)
      have HR6 := Lib.hid hr6
      clear hr6
      refine hK.out _ _ trivial (fun hS => ?_)
      clear hK K
      try simp only [List.getElem_toArray, List.getElem_cons_succ, List.getElem_cons_zero, Act.put, List.setIfInBounds_toArray, List.set_cons_zero, List.set_cons_succ]
      refine wpAnyH_take (i := 4) (v := ?v4_9) rfl (by kernel_rfl) (by kernel_rfl) (by kernel_rfl) (fun _ _ _ h => h) (Or.inl ⟨by rfl, ?y4_9⟩) hS ?_
      case y4_9 => (intro w hSw; go_simp; try with_reducible rfl)
      try simp only [List.getElem_toArray, List.getElem_cons_succ, List.getElem_cons_zero, Act.put, List.setIfInBounds_toArray, List.set_cons_zero, List.set_cons_succ]
      refine wpAnyH_take (i := 5) (v := ?v5_10) rfl (by kernel_rfl) (by kernel_rfl) (by kernel_rfl) (fun _ _ _ h => h) (Or.inl ⟨by rfl, ?y5_10⟩) hS ?_
      case y5_10 => (intro w hSw; go_simp; try with_reducible rfl)
      try simp only [List.getElem_toArray, List.getElem_cons_succ, List.getElem_cons_zero, Act.put, List.setIfInBounds_toArray, List.set_cons_zero, List.set_cons_succ]
      refine wpAnyH_take (i := 6) (v := ?v6_11) rfl (by kernel_rfl) (by kernel_rfl) (by kernel_rfl) (fun _ _ _ h => h) (Or.inl ⟨by rfl, ?y6_11⟩) hS ?_
      case y6_11 => (intro w hSw; go_simp; try with_reducible rfl)
      try simp only [List.getElem_toArray, List.getElem_cons_succ, List.getElem_cons_zero, Act.put, List.setIfInBounds_toArray, List.set_cons_zero, List.set_cons_succ]
      refine wpAnyH_ready (rs := [7]) (by kernel_rfl) (by simp) (AllReadyH.cons rfl (fun K hK => ?_) AllReadyH.nil)
      rw [if_pos (by rfl)]
      refine wp_store_row 28 (.tmp 3) (.tmp 31) rfl w.heap.size (cpuC (dC busS m c rings)) rfl rfl 28 (cpuC c) Kc6.out (by kernel_rfl) rfl (by simp [cpuC, Value.oneCell']) ?_
      have hsr := Lib.hid (setRow_heap _ w.heap.size _ (cpuC (dC busS m c rings)) 28 (0, 0) Kc6.out)
      refine hK.out _ _ trivial (fun hS => ?_)
      clear hK K
      try simp only [List.getElem_toArray, List.getElem_cons_succ, List.getElem_cons_zero, Act.put, List.setIfInBounds_toArray, List.set_cons_zero, List.set_cons_succ]
      refine wpAnyH_take (i := 8) (v := ?v8_12) rfl (by kernel_rfl) (by kernel_rfl) (by kernel_rfl) (fun _ _ _ h => h) (Or.inl ⟨by rfl, ?y8_12⟩) hS ?_
      case y8_12 => (intro w hSw; go_simp; try with_reducible rfl)
      try simp only [List.getElem_toArray, List.getElem_cons_succ, List.getElem_cons_zero, Act.put, List.setIfInBounds_toArray, List.set_cons_zero, List.set_cons_succ]
      refine wpAnyH_done (by kernel_rfl) ?_ _
      refine hk _ ⟨below_put (B4.trans (B6.mono (by omega))) (put_setRow _ _ _) (Nat.le_refl _), hsr, Lib.hid (Blk.put HR6.out.1.2.2.1 (put_setRow _ _ _) (by omega)), Lib.hid (Blk.put Kr6.out (put_setRow _ _ _) (by omega)), Lib.hid (Blk.put Kq6.out (put_setRow _ _ _) (by omega)), Lib.hid (own_put HR6.out.1.2.2.2.1 (put_setRow _ _ _) (by omega)), Lib.hid (own_put HR6.out.1.2.2.2.2.1 (put_setRow _ _ _) (by omega)), Lib.hid HR6.out.2⟩
    · go_simp
      refine (MB.out).mono ?_
      rintro e w5 ⟨rfl, hb5, sz5, kp5⟩
      try go_wp2_with fail
      have Kp5 := Lib.hid (show Blk w5 w4.heap.size #[.pointer (some ⟨w.heap.size + 1, 0, none⟩)] 54 from kp5)
      have Kc5 := Lib.hid (Kc4.out.drew.below hb5)
      have Ks5 := Lib.hid (Ks4.out.drew.below hb5)
      clear kp5
      refine hK.out _ _ trivial (fun hS => ?_)
      clear hK K
      try simp only [List.getElem_toArray, List.getElem_cons_succ, List.getElem_cons_zero, Act.put, List.setIfInBounds_toArray, List.set_cons_zero, List.set_cons_succ]
      refine wpAnyH_ready (rs := [0]) (by kernel_rfl) (by simp) (AllReadyH.cons rfl (fun K hK => ?_) AllReadyH.nil)
      rw [if_pos (by rfl)]
      refine wp_loadA 28 (.tmp 3) rfl w.heap.size 0 15 rfl 28 (cpuC c) (cpuC c) Kc5.out _ Try.underlying28 rfl (by kernel_rfl) rfl rfl ?_
      refine hK.out _ _ trivial (fun hS => ?_)
      clear hK K
      try simp only [List.getElem_toArray, List.getElem_cons_succ, List.getElem_cons_zero, Act.put, List.setIfInBounds_toArray, List.set_cons_zero, List.set_cons_succ]
      have hr5 : RelS w4 (.slice x1 m.rom.length n1) (.slice x2 m.ram.length n2) (w.heap.size + 1) w4.heap.size w1.heap.size b2 w1.heap.size w5 m := ⟨((Below.refl _ _).drew.trans (hb5.mono (show w1.heap.size ≤ w4.drew.heap.size by simpa using hs4))), Kp5.out, Ks5.out, own_below (World.ownsRow.drew O1.out) hb5, own_below (World.ownsRow.drew O2.out) hb5, BY.out.1, BY.out.2, hl1, hl2⟩
      refine wpAnyH_ready (rs := [3]) (by kernel_rfl) (by simp) (AllReadyH.cons rfl (fun K hK => ?_) AllReadyH.nil)
      go_simp
      refine (do_any LL.out m c hi rings w5 ⟨hr5, BY.out⟩ (Nat.succ_le_of_lt sz5)).mono ?_
      rintro e w6 ⟨rfl, hr6, k6⟩
      try go_wp2_with fail
      have B6 := hr6.1.1
      have Kc6 := Lib.hid (show Blk w6 w.heap.size (cpuC c) 28 from by unfold Blk; rw [B6.block _ (by omega)]; exact Kc4.out)
      have Kr6 := Lib.hid (show Blk w6 (w.heap.size + 1 + 1) #[.int .u16 0, .int .u16 0, .int .u16 0, .int .u16 0, .int .u16 0, .int .u16 0, .int .u16 0, .int .u16 0, .int .u16 0, .bool false, .bool false, .bool false, .bool false, .bool false, .bool false] 28 from by unfold Blk; rw [B6.block _ (by omega)]; exact Kr4.out)
      have Kq6 := Lib.hid (show Blk w6 (w.heap.size + 1 + 1 + 1) #[.slice none 0 0, .slice none 0 0] 24 from by unfold Blk; rw [B6.block _ (by omega)]; exact Kq4.out)
      have HR6 := Lib.hid hr6
      clear hr6
      refine hK.out _ _ trivial (fun hS => ?_)
      clear hK K
      try simp only [List.getElem_toArray, List.getElem_cons_succ, List.getElem_cons_zero, Act.put, List.setIfInBounds_toArray, List.set_cons_zero, List.set_cons_succ]
      refine wpAnyH_take (i := 4) (v := ?v4_13) rfl (by kernel_rfl) (by kernel_rfl) (by kernel_rfl) (fun _ _ _ h => h) (Or.inl ⟨by rfl, ?y4_13⟩) hS ?_
      case y4_13 => (intro w hSw; go_simp; try with_reducible rfl)
      try simp only [List.getElem_toArray, List.getElem_cons_succ, List.getElem_cons_zero, Act.put, List.setIfInBounds_toArray, List.set_cons_zero, List.set_cons_succ]
      refine wpAnyH_take (i := 5) (v := ?v5_14) rfl (by kernel_rfl) (by kernel_rfl) (by kernel_rfl) (fun _ _ _ h => h) (Or.inl ⟨by rfl, ?y5_14⟩) hS ?_
      case y5_14 => (intro w hSw; go_simp; try with_reducible rfl)
      try simp only [List.getElem_toArray, List.getElem_cons_succ, List.getElem_cons_zero, Act.put, List.setIfInBounds_toArray, List.set_cons_zero, List.set_cons_succ]
      refine wpAnyH_take (i := 6) (v := ?v6_15) rfl (by kernel_rfl) (by kernel_rfl) (by kernel_rfl) (fun _ _ _ h => h) (Or.inl ⟨by rfl, ?y6_15⟩) hS ?_
      case y6_15 => (intro w hSw; go_simp; try with_reducible rfl)
      try simp only [List.getElem_toArray, List.getElem_cons_succ, List.getElem_cons_zero, Act.put, List.setIfInBounds_toArray, List.set_cons_zero, List.set_cons_succ]
      refine wpAnyH_ready (rs := [7]) (by kernel_rfl) (by simp) (AllReadyH.cons rfl (fun K hK => ?_) AllReadyH.nil)
      rw [if_pos (by rfl)]
      refine wp_store_row 28 (.tmp 3) (.tmp 31) rfl w.heap.size (cpuC (dC busS m c rings)) rfl rfl 28 (cpuC c) Kc6.out (by kernel_rfl) rfl (by simp [cpuC, Value.oneCell']) ?_
      have hsr := Lib.hid (setRow_heap _ w.heap.size _ (cpuC (dC busS m c rings)) 28 (0, 0) Kc6.out)
      refine hK.out _ _ trivial (fun hS => ?_)
      clear hK K
      try simp only [List.getElem_toArray, List.getElem_cons_succ, List.getElem_cons_zero, Act.put, List.setIfInBounds_toArray, List.set_cons_zero, List.set_cons_succ]
      refine wpAnyH_take (i := 8) (v := ?v8_16) rfl (by kernel_rfl) (by kernel_rfl) (by kernel_rfl) (fun _ _ _ h => h) (Or.inl ⟨by rfl, ?y8_16⟩) hS ?_
      case y8_16 => (intro w hSw; go_simp; try with_reducible rfl)
      try simp only [List.getElem_toArray, List.getElem_cons_succ, List.getElem_cons_zero, Act.put, List.setIfInBounds_toArray, List.set_cons_zero, List.set_cons_succ]
      refine wpAnyH_done (by kernel_rfl) ?_ _
      refine hk _ ⟨below_put (B4.trans (B6.mono (by omega))) (put_setRow _ _ _) (Nat.le_refl _), hsr, Lib.hid (Blk.put HR6.out.1.2.2.1 (put_setRow _ _ _) (by omega)), Lib.hid (Blk.put Kr6.out (put_setRow _ _ _) (by omega)), Lib.hid (Blk.put Kq6.out (put_setRow _ _ _) (by omega)), Lib.hid (own_put HR6.out.1.2.2.2.1 (put_setRow _ _ _) (by omega)), Lib.hid (own_put HR6.out.1.2.2.2.2.1 (put_setRow _ _ _) (by omega)), Lib.hid HR6.out.2⟩
  intro w8 ⟨B8, Kc8, Ks8, Kr8, Kq8, S1, S2, BB⟩
  go_wp2_with fail
  refine wp_region_held_drew (S := fun W => Blk W (w.heap.size) ((cpuC (dC busS m c rings))) 28 ∧ Blk W (w.heap.size + 1) (#[.slice x1 m.rom.length n1, .slice x2 m.ram.length n2]) 24) (by kernel_rfl) ⟨Blk.drew (show Blk _ (w.heap.size) ((cpuC (dC busS m c rings))) 28 from (by repeat' (first | (with_reducible first | exact Hid.out (by assumption) | exact Blk.new _ _ _ | (refine Blk.new_at _ _ _ _ ?_; simp; done) | refine Blk.alloc ?_ _ | refine Blk.drewN ?_ _ | refine Blk.drew ?_ | apply Blk.set | refine Blk.put ?_ (by assumption) (by first | (simp; done) | (simp; omega) | omega) | refine Blk.below ?_ (by assumption)) | (refine Blk.setAt ?_ (by first | (simp; done) | (simp; omega))) | rfl))), Blk.drew (show Blk _ (w.heap.size + 1) (#[.slice x1 m.rom.length n1, .slice x2 m.ram.length n2]) 24 from (by repeat' (first | (with_reducible first | exact Hid.out (by assumption) | exact Blk.new _ _ _ | (refine Blk.new_at _ _ _ _ ?_; simp; done) | refine Blk.alloc ?_ _ | refine Blk.drewN ?_ _ | refine Blk.drew ?_ | apply Blk.set | refine Blk.put ?_ (by assumption) (by first | (simp; done) | (simp; omega) | omega) | refine Blk.below ?_ (by assumption)) | (refine Blk.setAt ?_ (by first | (simp; done) | (simp; omega))) | rfl)))⟩ (fun hS => ?_)
  refine wpAnyH_take (i := 0) rfl (by kernel_rfl) (by kernel_rfl) (by kernel_rfl) (fun _ _ _ h => h) (yields_loadA (by rfl) 28 (.tmp 3) rfl (w.heap.size) 0 15 rfl 28 (cpuC (dC busS m c rings)) (cpuC (dC busS m c rings)) (fun W hSw => hSw.1) _ Try.underlying28 rfl (by kernel_rfl) rfl rfl) hS ?_
  try simp only [List.getElem_toArray, List.getElem_cons_succ, List.getElem_cons_zero, Act.put, List.setIfInBounds_toArray, List.set_cons_zero, List.set_cons_succ]
  refine wpAnyH_take (i := 1) rfl (by kernel_rfl) (by kernel_rfl) (by kernel_rfl) (fun _ _ _ h => h) (yields_loadA (by rfl) 24 (.tmp 4) rfl (w.heap.size + 1) 0 2 rfl 24 #[.slice x1 m.rom.length n1, .slice x2 m.ram.length n2] #[.slice x1 m.rom.length n1, .slice x2 m.ram.length n2] (fun W hSw => hSw.2) _ Try.underlying24 rfl (by kernel_rfl) rfl rfl) hS ?_
  try simp only [List.getElem_toArray, List.getElem_cons_succ, List.getElem_cons_zero, Act.put, List.setIfInBounds_toArray, List.set_cons_zero, List.set_cons_succ]
  refine wpAnyH_take (i := 2) (v := ?v2_1) rfl (by kernel_rfl) (by kernel_rfl) (by kernel_rfl) (fun _ _ _ h => h) (Or.inl ⟨by rfl, ?y2_1⟩) hS ?_
  case y2_1 => (intro w hSw; go_simp; try with_reducible rfl)
  try simp only [List.getElem_toArray, List.getElem_cons_succ, List.getElem_cons_zero, Act.put, List.setIfInBounds_toArray, List.set_cons_zero, List.set_cons_succ]
  refine wpAnyH_ready (rs := [3]) (by kernel_rfl) (by simp) (AllReadyH.cons rfl (fun K hK => ?_) AllReadyH.nil)
  rw [if_pos (by rfl)]
  refine wp_store_row 28 (.tmp 6) (.tmp 33) rfl (w.heap.size + 1 + 1) (cpuC (dC busS m c rings)) rfl rfl 28 #[.int .u16 0, .int .u16 0, .int .u16 0, .int .u16 0, .int .u16 0, .int .u16 0, .int .u16 0, .int .u16 0, .int .u16 0, .bool false, .bool false, .bool false, .bool false, .bool false, .bool false] Kr8.out.drew (by kernel_rfl) rfl (by simp [cpuC, Value.oneCell']) ?_
  have hsr := Lib.hid (setRow_heap _ (w.heap.size + 1 + 1) _ (cpuC (dC busS m c rings)) 28 (0, 0) Kr8.out.drew)
  obtain ⟨w9, hw9⟩ : ∃ W, W = (w8.drew).setRow (w.heap.size + 1 + 1) (cpuC (dC busS m c rings)) := ⟨_, rfl⟩
  have hp9 : Put (w.heap.size + 1 + 1) w8.drew w9 := by rw [hw9]; exact put_setRow _ _ _
  rw [← hw9] at hsr ⊢
  clear hw9
  refine hK.out _ _ ⟨Blk.put hS.1 hp9 (by omega), Blk.put hS.2 hp9 (by omega)⟩ (fun hS => ?_)
  clear hK K
  try simp only [List.getElem_toArray, List.getElem_cons_succ, List.getElem_cons_zero, Act.put, List.setIfInBounds_toArray, List.set_cons_zero, List.set_cons_succ]
  have Kq9 := Lib.hid (Blk.put Kq8.out.drew hp9 (by omega))
  have S19 := Lib.hid (own_put (World.ownsRow.drew S1.out) hp9 (by omega))
  have S29 := Lib.hid (own_put (World.ownsRow.drew S2.out) hp9 (by omega))
  refine wpAnyH_ready (rs := [4]) (by kernel_rfl) (by simp) (AllReadyH.cons rfl (fun K hK => ?_) AllReadyH.nil)
  rw [if_pos (by rfl)]
  refine wp_store_row 24 (.tmp 7) (.tmp 34) rfl (w.heap.size + 1 + 1 + 1) #[.slice x1 m.rom.length n1, .slice x2 m.ram.length n2] rfl rfl 24 #[.slice none 0 0, .slice none 0 0] Kq9.out (by kernel_rfl) rfl (by simp [Value.oneCell']) ?_
  have hst := Lib.hid (setRow_heap _ (w.heap.size + 1 + 1 + 1) _ #[.slice x1 m.rom.length n1, .slice x2 m.ram.length n2] 24 (0, 0) Kq9.out)
  have hsr2 := Lib.hid (Blk.put (show Blk w9 (w.heap.size + 1 + 1) (cpuC (dC busS m c rings)) 28 from hsr.out) (put_setRow w9 (w.heap.size + 1 + 1 + 1) #[.slice x1 m.rom.length n1, .slice x2 m.ram.length n2]) (by omega))
  refine hK.out _ _ ⟨Blk.put hS.1 (put_setRow _ _ _) (by omega), Blk.put hS.2 (put_setRow _ _ _) (by omega)⟩ (fun hS => ?_)
  clear hK K
  try simp only [List.getElem_toArray, List.getElem_cons_succ, List.getElem_cons_zero, Act.put, List.setIfInBounds_toArray, List.set_cons_zero, List.set_cons_succ]
  refine wpAnyH_take (i := 5) (v := ?v5_6) rfl (by kernel_rfl) (by kernel_rfl) (by kernel_rfl) (fun _ _ _ h => h) (Or.inl ⟨by rfl, ?y5_6⟩) hS ?_
  case y5_6 => (intro w hSw; go_simp; try with_reducible rfl)
  try simp only [List.getElem_toArray, List.getElem_cons_succ, List.getElem_cons_zero, Act.put, List.setIfInBounds_toArray, List.set_cons_zero, List.set_cons_succ]
  refine wpAnyH_take (i := 6) (v := ?v6_7) rfl (by kernel_rfl) (by kernel_rfl) (by kernel_rfl) (fun _ _ _ h => h) (Or.inl ⟨by rfl, ?y6_7⟩) hS ?_
  case y6_7 => (intro w hSw; go_simp; try with_reducible rfl)
  try simp only [List.getElem_toArray, List.getElem_cons_succ, List.getElem_cons_zero, Act.put, List.setIfInBounds_toArray, List.set_cons_zero, List.set_cons_succ]
  refine wpAnyH_done (by kernel_rfl) ?_ _
  go_wp2_with fail
  exact bodyPost_ret (results_cctt Try.results8 _ _ (w.heap.size + 1 + 1) (w.heap.size + 1 + 1 + 1) 28 24 (cpuC (dC busS m c rings)) #[.slice x1 m.rom.length n1, .slice x2 m.ram.length n2] _ _ rfl hsr2.out Try.underlying28 rfl (by kernel_rfl) rfl hst.out Try.underlying24 rfl (by kernel_rfl)) rfl ⟨_, _, rfl, bytes_slice (own_put S19.out (put_setRow _ _ _) (by omega)) BB.out.1, bytes_slice (own_put S29.out (put_setRow _ _ _) (by omega)) BB.out.2, below_put (below_put B8.drew hp9 (by omega)) (put_setRow _ _ _) (by omega)⟩
end Go.Proofs.Yteihggfcafoogaa
