/- The bus of a space: its program, its memory. Conditions: its slices are its own, apart from one another. -/
import Derived.Test.YteihggfcafoogaaCpuBase
import Derived.BigQuiet
namespace Go.Mq
open Go.RowKit
structure Spc where
  rom : List Int
  ram : List Int
def rix (m : Spc) (a : Int) : Nat := (a - 32768).toNat % m.ram.length
def spG (m : Spc) (a : Int) : Int := if a < m.rom.length ∧ a < 32768 then m.rom.getD a.toNat 0 else if 32768 ≤ a ∧ a < 49152 ∧ 0 < m.ram.length then m.ram.getD (rix m a) 0 else 255
def spP (m : Spc) (a v : Int) : Spc := if 32768 ≤ a ∧ a < 49152 ∧ 0 < m.ram.length then ⟨m.rom, m.ram.set (rix m a) v⟩ else m
def busS : Bus Spc := ⟨fun m a => spG m a % 256, fun m _ => m, spP⟩
def Bytes8 (l : List Int) : Prop := ∀ x ∈ l, 0 ≤ x ∧ x ≤ 255
theorem own_stable {w w' : World} {B base size n : Nat} {e : TypeId} {v : Value} {xs : List Value} (h : w.ownsRow base e size v n xs) (hb : Below B w w') (hg : ∀ g, v.ownBlock = some g → g < B) : w'.ownsRow base e size v n xs := by
  refine ⟨h.1, ?_⟩
  rcases h.2 with hn | ⟨g, cap, cur, rfl, hbg, hgg, rest⟩
  · exact .inl hn
  · exact .inr ⟨g, cap, cur, rfl, hbg, by rw [hb.block g (hg g rfl)]; exact hgg, rest⟩
theorem own_setAt {w : World} {base size n : Nat} {e : TypeId} {v : Value} {xs : List Value} (h : w.ownsRow base e size v n xs) {p : Addr} {u : Value} (hp : ∀ g, v.ownBlock = some g → g ≠ p.block) : (w.setCell p u).ownsRow base e size v n xs := by
  refine ⟨h.1, ?_⟩
  rcases h.2 with hn | ⟨g, cap, cur, rfl, hbg, hgg, rest⟩
  · exact .inl hn
  · exact .inr ⟨g, cap, cur, rfl, hbg, by rw [Below.heap_setCell w p u g (hp g rfl)]; exact hgg, rest⟩
theorem own_set {w : World} {base n g cap : Nat} {e : TypeId} {xs : List Value} (h : w.ownsRow base e 1 (.slice (some ⟨g, 0, none⟩) n cap) n xs) (i : Nat) (u : Value) : (w.setCell ⟨g, i, none⟩ u).ownsRow base e 1 (.slice (some ⟨g, 0, none⟩) n cap) n (xs.set i u) := by
  refine ⟨by rw [List.length_set]; exact h.1, ?_⟩
  rcases h.2 with ⟨hn, -⟩ | ⟨g', cap', cur, hv, hbg, hgg, h1, h2, h3, h4⟩
  · cases hn
  · injection hv with e1 e2 e3
    injection e1 with e1
    injection e1 with e1
    subst e1 e3
    refine .inr ⟨g, cap, cur.setIfInBounds i u, rfl, hbg, Joins.block_setCell hgg u, h1, h2, by simpa using h3, ?_⟩
    rw [← h4, Array.toList_setIfInBounds, List.take_set]
theorem own_cell {w : World} {base n g cap : Nat} {e : TypeId} {k : IntKind} {xs : List Int} (h : w.ownsRow base e 1 (.slice (some ⟨g, 0, none⟩) n cap) n (xs.map (Value.int k))) (i : Nat) (hi : i < xs.length) : w.cell? ⟨g, i, none⟩ = some (.int k (xs.getD i 0)) := by
  have := h.cells (g := g) rfl i (.int k (xs.getD i 0)) (by simp [List.getElem?_eq_getElem hi])
  rw [Addr.add_lit, Nat.zero_add] at this
  exact this
end Go.Mq
namespace Go.Proofs.Yteihggfcafoogaa
open Go.RowKit Go.Mq
set_option linter.unusedVariables false
set_option linter.unusedSimpArgs false
set_option maxHeartbeats 1000000
set_option maxRecDepth 100000
/-- where a space lies -/
structure Lies (rv mv : Value) (sb pb b1 b2 b3 B H : Nat) : Prop where
  h0 : H ≤ b2
  h1 : sb < b1
  h2 : b1 ≤ b2
  h3 : b2 ≤ b3
  h4 : b3 ≤ pb
  h5 : pb < B
  r : ∀ g, rv.ownBlock = some g → g < b2
  m : ∀ g, mv.ownBlock = some g → g < b3
def RelS (w0 : World) (rv mv : Value) (sb pb b1 b2 H : Nat) (w : World) (m : Spc) : Prop :=
  Below H w0 w ∧ Blk w pb #[.pointer (some ⟨sb, 0, none⟩)] 54 ∧ Blk w sb #[rv, mv] 24 ∧ w.ownsRow b1 5 1 rv m.rom.length (m.rom.map (Value.int .u8)) ∧ w.ownsRow b2 5 1 mv m.ram.length (m.ram.map (Value.int .u8)) ∧ Bytes8 m.rom ∧ Bytes8 m.ram ∧ m.rom.length ≤ 1024 ∧ m.ram.length ≤ 256
theorem getD_byte {l : List Int} (h : Bytes8 l) (i : Nat) : U8 (l.getD i 0) := by
  unfold U8
  rw [List.getD_eq_getElem?_getD]
  cases hi : l[i]? with
  | none => simp
  | some x => simpa using h x (List.mem_of_getElem? hi)
theorem rel_stable {w0 : World} {rv mv : Value} {sb pb b1 b2 b3 B H : Nat} (L : Lies rv mv sb pb b1 b2 b3 B H) (w w' : World) (m : Spc) (h : RelS w0 rv mv sb pb b1 b2 H w m) (hb : Below B w w') : RelS w0 rv mv sb pb b1 b2 H w' m := by
  obtain ⟨l0, l1, l2, l3, l4, l5, lr, lm⟩ := L
  obtain ⟨a1, a2, a3, a4, a5, a6⟩ := h
  refine ⟨a1.trans (hb.mono (by omega)), ?_, ?_, own_stable a4 hb (fun g hg => by have := lr g hg; omega), own_stable a5 hb (fun g hg => by have := lm g hg; omega), a6⟩
  · unfold Blk; rw [hb.block pb (by omega)]; exact a2
  · unfold Blk; rw [hb.block sb (by omega)]; exact a3

theorem get_any {w0 : World} {rv mv : Value} {sb pb b1 b2 b3 B H : Nat} (L : Lies rv mv sb pb b1 b2 b3 B H) (w : World) (m : Spc) (a : Int) (ha : U16 a) (h : RelS w0 rv mv sb pb b1 b2 H w m) (hB : B ≤ w.heap.size) :
    Calls Try.prog 20 #[.int .u16 a, .pointer (some ⟨pb, 0, none⟩)] w fun e w' => e = .returned (.int .u8 (spG m a)) ∧ Drew w w' := by
  obtain ⟨l0, l1, l2, l3, l4, l5, lr, lm⟩ := L
  obtain ⟨a1, a2, a3, a4, a5, a6, a7, a8, a9⟩ := h
  obtain ⟨lp, cp, fp⟩ := a2.use
  obtain ⟨ls, cs, fs⟩ := a3.use
  obtain ⟨ra, rc, rfl⟩ := own_shape a4
  obtain ⟨ma, mc, rfl⟩ := own_shape a5
  obtain ⟨ha0, ha1⟩ := ha
  obtain ⟨rom, ram⟩ := m
  simp only at *
  have KR := Lib.hid a4
  have KM := Lib.hid a5
  clear a4 a5 a6 a7 a1 a2 a3 lr lm
  unfold spG rix
  simp only
  have r0 : (rom.length : Int) ≤ 1024 := by omega
  have m0 : (ram.length : Int) ≤ 256 := by omega
  by_cases c1 : a < (rom.length : Int) ∧ a < 32768
  · rw [if_pos c1]
    obtain ⟨k, rfl⟩ := Int.eq_ofNat_of_zero_le ha0
    have hk : k < rom.length := by omega
    rcases KR.out.2 with ⟨hn, h0⟩ | ⟨g, cap, cur, hv, -⟩
    · omega
    · injection hv with e1 e2 e3
      subst e1
      have ck := own_cell KR.out k (by omega)
      simp only [Int.toNat_natCast]
      obtain ⟨q1, q2⟩ := c1
      clear cur e3
      go_enter Try.func20, Try.ntmps20
      go_wp2
      go_ret
      exact ⟨rfl, by first | exact Drew.refl _ | exact ⟨_, rfl⟩⟩
  · rw [if_neg c1]
    have c1' : (rom.length : Int) ≤ a ∨ 32768 ≤ a := by omega
    by_cases c2 : 32768 ≤ a ∧ a < 49152 ∧ 0 < ram.length
    · rw [if_pos c2]
      obtain ⟨q1, q2, q3⟩ := c2
      have q4 : (0 : Int) < ram.length := by omega
      have hw : IntKind.u16.wrap (a - 32768) = a - 32768 := by rw [wrap16]; omega
      obtain ⟨k, ek⟩ : ∃ k, k = (a - 32768).toNat % ram.length := ⟨_, rfl⟩
      have hk : k < ram.length := by rw [ek]; exact Nat.mod_lt _ q3
      have hki : (k : Int) < ram.length := by omega
      have hmod : (a - 32768).tmod (ram.length : Int) = (k : Int) := by
        rw [ek, Int.tmod_eq_emod_of_nonneg (by omega), Int.natCast_emod]
        congr 1
        omega
      rw [← ek]
      replace ek := Lib.hid ek
      rcases KM.out.2 with ⟨hn, h0⟩ | ⟨g, cap, cur, hv, -⟩
      · omega
      · injection hv with e1 e2 e3
        subst e1
        have ck := own_cell KM.out k hk
        obtain ⟨V, eV⟩ : ∃ V, V = ram.getD k 0 := ⟨_, rfl⟩
        rw [← eV] at ck ⊢
        clear cur e3 c1 eV
        by_cases c3 : a < (rom.length : Int)
        · exfalso; omega
        · go_enter Try.func20, Try.ntmps20
          go_wp2_with fail
          go_region
          go_wp2
          go_ret
          exact ⟨rfl, by first | exact Drew.refl _ | exact ⟨_, rfl⟩ | exact (Drew.refl _).drewN 1⟩
    · rw [if_neg c2]
      have c2' : a < 32768 ∨ 49152 ≤ a ∨ (ram.length : Int) ≤ 0 := by omega
      clear c1 c2
      go_enter Try.func20, Try.ntmps20
      go_wp2
      all_goals
        go_ret
        exact ⟨rfl, by first | exact Drew.refl _ | exact ⟨_, rfl⟩⟩

theorem put_any {w0 : World} {rv mv : Value} {sb pb b1 b2 b3 B H : Nat} (L : Lies rv mv sb pb b1 b2 b3 B H) (w : World) (m : Spc) (a v : Int) (ha : U16 a) (hv : U8 v) (h : RelS w0 rv mv sb pb b1 b2 H w m) (hB : B ≤ w.heap.size) :
    Calls Try.prog 21 #[.int .u16 a, .int .u8 v, .pointer (some ⟨pb, 0, none⟩)] w fun e w' => e = .returned (.tuple #[]) ∧ RelS w0 rv mv sb pb b1 b2 H w' (spP m a v) ∧ Kp B NoX w w' := by
  have HH := Lib.hid h
  have LL := Lib.hid L
  obtain ⟨l0, l1, l2, l3, l4, l5, lr, lm⟩ := L
  obtain ⟨a1, a2, a3, a4, a5, a6, a7, a8, a9⟩ := h
  obtain ⟨lp, cp, fp⟩ := a2.use
  obtain ⟨ls, cs, fs⟩ := a3.use
  obtain ⟨ra, rc, rfl⟩ := own_shape a4
  obtain ⟨ma, mc, rfl⟩ := own_shape a5
  obtain ⟨ha0, ha1⟩ := ha
  obtain ⟨rom, ram⟩ := m
  simp only at *
  have KM := Lib.hid a5
  have LM := Lib.hid lm
  clear a4 a5 a6 a7 a1 a2 a3 lr lm
  unfold spP rix
  simp only
  have m0 : (ram.length : Int) ≤ 256 := by omega
  by_cases c2 : 32768 ≤ a ∧ a < 49152 ∧ 0 < ram.length
  · rw [if_pos c2]
    obtain ⟨q1, q2, q3⟩ := c2
    have q4 : (0 : Int) < ram.length := by omega
    have hw : IntKind.u16.wrap (a - 32768) = a - 32768 := by rw [wrap16]; omega
    obtain ⟨k, ek⟩ : ∃ k, k = (a - 32768).toNat % ram.length := ⟨_, rfl⟩
    have hk : k < ram.length := by rw [ek]; exact Nat.mod_lt _ q3
    have hki : (k : Int) < ram.length := by omega
    have hmod : (a - 32768).tmod (ram.length : Int) = (k : Int) := by
      rw [ek, Int.tmod_eq_emod_of_nonneg (by omega), Int.natCast_emod]
      congr 1
      omega
    rw [← ek]
    replace ek := Lib.hid ek
    rcases KM.out.2 with ⟨hn, h0⟩ | ⟨g, cap, cur, hv', hbg, hgg, -⟩
    · omega
    · injection hv' with e1 e2 e3
      subst e1
      have ck := own_cell KM.out k hk
      have fg : ∀ i, w.frozen? ⟨g, i, none⟩ = false := Blk.free (show Blk w g cur 5 from hgg)
      have lg : g < w.heap.size := (Array.getElem?_eq_some_iff.1 hgg).1
      have hgb : g < b3 := LM.out g rfl
      clear e3 hgg
      go_enter Try.func21, Try.ntmps21
      go_wp2_with fail
      go_region
      go_wp2
      refine bodyPost_end (results_none rfl _ _ _) rfl ⟨rfl, ?_, ?_⟩
      · obtain ⟨z1, z2, z3, z4, z5, z6, z7, z8, z9⟩ := HH.out
        refine ⟨(Below.setCell (p := ⟨g, k, none⟩) z1 (show H ≤ g by omega) (.int .u8 v)).drew, Blk.setAt (by first | exact z2 | exact z2.drew) (show pb ≠ g by omega), Blk.setAt (by first | exact z3 | exact z3.drew) (show sb ≠ g by omega), own_setAt (by exact z4) (fun g' hg' => by have := LL.out.r g' hg'; show g' ≠ g; omega), ?_, z6, ?_, z8, by simpa using z9⟩
        · have := own_set z5 k (Value.int .u8 v)
          rw [List.map_set, List.length_set]
          exact this
        · intro y hy
          rcases List.mem_or_eq_of_mem_set hy with hy | hy
          · exact z7 y hy
          · rw [hy]; exact hv
      · exact Kp.drew ⟨rfl, rfl, rfl, by simp, fun i hi hn _ => Below.heap_setCell w _ _ i (show i ≠ g by omega)⟩
  · rw [if_neg c2]
    have c2' : a < 32768 ∨ 49152 ≤ a ∨ (ram.length : Int) ≤ 0 := by omega
    clear c2
    go_enter Try.func21, Try.ntmps21
    go_wp2
    all_goals exact bodyPost_end (results_none rfl _ _ _) rfl ⟨rfl, HH.out, Kp.refl _ _ _⟩

theorem spG_u {m : Spc} (h1 : Bytes8 m.rom) (h2 : Bytes8 m.ram) (a : Int) : spG m a % 256 = spG m a := by
  have e1 := getD_byte h1 a.toNat
  have e2 := getD_byte h2 (rix m a)
  unfold U8 at e1 e2
  unfold spG
  repeat' split
  · omega
  · omega
  · rfl
/-- the bus of a space is one -/
theorem bus_ok {w0 : World} {rv mv : Value} {sb pb b1 b2 b3 B H : Nat} (L : Lies rv mv sb pb b1 b2 b3 B H) :
    BusOk Try.prog 20 21 (.pointer (some ⟨pb, 0, none⟩)) (.pointer (some ⟨pb, 0, none⟩)) busS (fun w m => RelS w0 rv mv sb pb b1 b2 H w m ∧ Bytes8 m.rom ∧ Bytes8 m.ram) B where
  stable := fun w w' m h hb => ⟨rel_stable L w w' m h.1 hb, h.2⟩
  byte := fun m a => by
    show U8 (spG m a % 256)
    unfold U8
    omega
  eg := fun args w => by kernel_rfl
  ep := fun args w => by kernel_rfl
  get := fun w m a ha h hB => (get_any L w m a ha h.1 hB).mono fun e w' ⟨he, hd⟩ => ⟨he.trans (by show _ = Ending.returned (.int .u8 (spG m a % 256)); rw [spG_u h.2.1 h.2.2]), ⟨rel_stable L w w' m h.1 (hd.below _), h.2⟩, Kp.below (Kp.refl _ _ _) (hd.below w.heap.size) (Nat.le_refl _)⟩
  put := fun w m a n ha hn h hB => (put_any L w m a n ha hn h.1 hB).mono fun e w' ⟨he, hr, hk⟩ => ⟨he, ⟨hr, hr.2.2.2.2.2.1, hr.2.2.2.2.2.2.1⟩, hk⟩
end Go.Proofs.Yteihggfcafoogaa
