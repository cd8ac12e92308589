/- The document's machine: where a place lies, what a program holds, halves of words, pairs of bits. Conditions: the machine lies in a game. -/
import Derived.Test.YtimccpmdgfneoaaBxM
import Derived.Test.YtimccpmdgfneoaaTonePutD
import Derived.Test.YtimccpmdgfneoaaRegF
import Derived.Test.YtimccpmdgfneoaaRefCp
import Derived.Deep.QuietTactic
import Derived.Test.YtimccpmdgfneoaaStoreF
namespace Go.Proofs.Ytimccpmdgfneoaa
open Go.RowKit Go.Mq
set_option linter.unusedVariables false
set_option linter.unusedSimpArgs false
set_option maxHeartbeats 1000000
set_option maxRecDepth 100000
def sRom : Value := .string ⟨#[114, 111, 109]⟩
def sRam : Value := .string ⟨#[114, 97, 109]⟩
def sWin : Value := .string ⟨#[119, 105, 110, 100, 111, 119]⟩
def sPorts : Value := .string ⟨#[112, 111, 114, 116, 115]⟩
def sNo : Value := .string ⟨#[]⟩
theorem region_rom (a : Int) (h0 : 0 ≤ a) (h1 : a < 32768) (w : World) :
    Calls Try.prog 32 #[.int .u16 a] w fun e w' => e = .returned (.string ⟨#[114, 111, 109]⟩) ∧ w = w' := by
  obtain ⟨q, hq⟩ : ∃ q : Nat, (q : Int) = a / 4096 := ⟨(a / 4096).toNat, by omega⟩
  have t1 : a.tdiv 4096 = (q : Int) := by rw [Int.tdiv_eq_ediv_of_nonneg (by omega), hq]
  have t2 : q < 8 := by omega
  have t3 : a / 4096 = (q : Int) := hq.symm
  have t4 : (q : Int) < 8 ∨ ¬ (q : Int) < 8 := by omega
  clear hq
  have u1 : (q : Int) < 8 := by omega
  clear t4
  go_enter Try.func32, Try.ntmps32
  go_wp2
  go_ret
  exact ⟨rfl, rfl⟩
theorem region_ram (a : Int) (h0 : 32768 ≤ a) (h1 : a < 49152) (w : World) :
    Calls Try.prog 32 #[.int .u16 a] w fun e w' => e = .returned (.string ⟨#[114, 97, 109]⟩) ∧ w = w' := by
  obtain ⟨q, hq⟩ : ∃ q : Nat, (q : Int) = a / 4096 := ⟨(a / 4096).toNat, by omega⟩
  have t1 : a.tdiv 4096 = (q : Int) := by rw [Int.tdiv_eq_ediv_of_nonneg (by omega), hq]
  have t2 : 8 ≤ q ∧ q < 12 := by omega
  have t3 : a / 4096 = (q : Int) := hq.symm
  have t4 : (q : Int) < 8 ∨ ¬ (q : Int) < 8 := by omega
  clear hq
  have u1 : ¬ (q : Int) < 8 := by omega
  have u2 : (q : Int) < 12 := by omega
  clear t4
  go_enter Try.func32, Try.ntmps32
  go_wp2
  go_ret
  exact ⟨rfl, rfl⟩
theorem region_win (a : Int) (h0 : 49152 ≤ a) (h1 : a < 53248) (w : World) :
    Calls Try.prog 32 #[.int .u16 a] w fun e w' => e = .returned (.string ⟨#[119, 105, 110, 100, 111, 119]⟩) ∧ w = w' := by
  obtain ⟨q, hq⟩ : ∃ q : Nat, (q : Int) = a / 4096 := ⟨(a / 4096).toNat, by omega⟩
  have t1 : a.tdiv 4096 = (q : Int) := by rw [Int.tdiv_eq_ediv_of_nonneg (by omega), hq]
  have t2 : q = 12 := by omega
  have t3 : a / 4096 = (q : Int) := hq.symm
  have t4 : (q : Int) < 8 ∨ ¬ (q : Int) < 8 := by omega
  clear hq
  subst t2
  clear t4
  go_enter Try.func32, Try.ntmps32
  go_wp2
  go_ret
  exact ⟨rfl, rfl⟩
theorem region_ports (a : Int) (h0 : 53248 ≤ a) (h1 : a < 57344) (w : World) :
    Calls Try.prog 32 #[.int .u16 a] w fun e w' => e = .returned (.string ⟨#[112, 111, 114, 116, 115]⟩) ∧ w = w' := by
  obtain ⟨q, hq⟩ : ∃ q : Nat, (q : Int) = a / 4096 := ⟨(a / 4096).toNat, by omega⟩
  have t1 : a.tdiv 4096 = (q : Int) := by rw [Int.tdiv_eq_ediv_of_nonneg (by omega), hq]
  have t2 : q = 13 := by omega
  have t3 : a / 4096 = (q : Int) := hq.symm
  have t4 : (q : Int) < 8 ∨ ¬ (q : Int) < 8 := by omega
  clear hq
  subst t2
  clear t4
  go_enter Try.func32, Try.ntmps32
  go_wp2
  go_ret
  exact ⟨rfl, rfl⟩
theorem region_no (a : Int) (h0 : 57344 ≤ a) (h1 : a < 65536) (w : World) :
    Calls Try.prog 32 #[.int .u16 a] w fun e w' => e = .returned (.string ⟨#[]⟩) ∧ w = w' := by
  obtain ⟨q, hq⟩ : ∃ q : Nat, (q : Int) = a / 4096 := ⟨(a / 4096).toNat, by omega⟩
  have t1 : a.tdiv 4096 = (q : Int) := by rw [Int.tdiv_eq_ediv_of_nonneg (by omega), hq]
  have t2 : 14 ≤ q := by omega
  have t3 : a / 4096 = (q : Int) := hq.symm
  have t4 : (q : Int) < 8 ∨ ¬ (q : Int) < 8 := by omega
  clear hq
  have u1 : ¬ (q : Int) < 8 := by omega
  have u2 : ¬ (q : Int) < 12 := by omega
  have u3 : ((q : Int) == 12) = false := by simp; omega
  have u4 : ((q : Int) == 13) = false := by simp; omega
  clear t4
  go_enter Try.func32, Try.ntmps32
  go_wp2
  go_ret
  exact ⟨rfl, rfl⟩
theorem romAt_any (v : Value) (xs : List Int) (a : Int) (ha : U16 a) (hl : xs.length ≤ 1024) (w : World) (h : SliceAt w .u8 v xs) :
    Calls Try.prog 41 #[v, .int .u16 a] w fun e w' => e = .returned (.int .u8 (if a < xs.length then xs.getD a.toNat 0 else 255)) ∧ w = w' := by
  obtain ⟨p, cap, rfl, h1, h2, hwf, h3⟩ := h
  obtain ⟨a0, a1⟩ := ha
  obtain ⟨k, rfl⟩ := Int.eq_ofNat_of_zero_le a0
  simp only [Int.toNat_natCast]
  have hn : (xs.length : Int) ≤ 1024 := by omega
  by_cases hk : (k : Int) < xs.length
  · rw [if_pos hk]
    obtain ⟨b, off, rfl, hlt, hc⟩ := h3 (by omega)
    have hck := hc k (by omega)
    obtain ⟨q, hq⟩ : ∃ q, q = xs.getD k 0 := ⟨_, rfl⟩
    rw [← hq] at hck ⊢
    obtain ⟨n, en⟩ : ∃ n, n = xs.length := ⟨_, rfl⟩
    rw [← en] at hk hn
    rw [show xs.length = n from en.symm]
    clear hq hc hwf h3 h1 h2 en a0 hl
    go_enter Try.func41, Try.ntmps41
    go_wp2
    go_ret
    exact ⟨rfl, rfl⟩
  · rw [if_neg hk]
    clear hwf h3
    go_enter Try.func41, Try.ntmps41
    go_wp2
    go_ret
    exact ⟨rfl, rfl⟩
theorem high_any (n b : Int) (hn : U16 n) (hb : U8 b) (w : World) :
    Calls Try.prog 36 #[.int .u16 n, .int .u8 b] w fun e w' => e = .returned (.int .u16 (hi16 n b)) ∧ w = w' := by
  unfold hi16
  obtain ⟨h0, h1⟩ := hn
  obtain ⟨b0, b1⟩ := hb
  go_enter Try.func36, Try.ntmps36
  go_wp2
  go_ret
  refine ⟨ret1 (vi ?_), rfl⟩
  first | rfl | omega | (simp only [wrap16]; omega)
theorem low_any (n b : Int) (hn : U16 n) (hb : U8 b) (w : World) :
    Calls Try.prog 37 #[.int .u16 n, .int .u8 b] w fun e w' => e = .returned (.int .u16 (lo16 n b)) ∧ w = w' := by
  unfold lo16
  obtain ⟨h0, h1⟩ := hn
  obtain ⟨b0, b1⟩ := hb
  have t1 : n.tdiv 256 = n / 256 := Int.tdiv_eq_ediv_of_nonneg h0
  go_enter Try.func37, Try.ntmps37
  go_wp2
  go_ret
  refine ⟨ret1 (vi ?_), rfl⟩
  first | rfl | omega | (simp only [wrap16]; omega)
theorem put_map (w0 : World) (n : Nat) (hn : n = w0.heap.size) (v : Value) :
    (Instr.mapUpdate 92 (.map (some n)) (.bool true) v).run Try.prog (w0.alloc (.map #[] 0)) = .ok () (w0.alloc (.map #[{ key := .bool true, val := v, born := 0 }] 1)) :=
  run_put_new (P := Try.prog) w0 (es := #[]) (clock := 0) hn Try.underlying92 Try.underlying4 (by simp [MapKept.IsKey]) rfl
theorem get_map (w0 : World) (n : Nat) (hn : n = w0.heap.size) (v : Int) (b : Bool) :
    (Instr.lookup 92 (.map (some n)) (.bool b) false).run Try.prog (w0.alloc (.map #[{ key := .bool true, val := .int .u8 v, born := 0 }] 1)) = .ok (.int .u8 (b1 b v)) (w0.alloc (.map #[{ key := .bool true, val := .int .u8 v, born := 0 }] 1)) := by
  cases b
  · exact run_get_none (P := Try.prog) w0 (es := #[{ key := .bool true, val := .int .u8 v, born := 0 }]) (clock := 1) (z := .int .u8 0) hn Try.underlying92 Try.underlying4 (by simp [MapKept.IsKey]) rfl (fun w => by kernel_rfl)
  · exact run_get_new (P := Try.prog) w0 (es := #[{ key := .bool true, val := .int .u8 v, born := 0 }]) (clock := 1) (i := 0) hn Try.underlying92 Try.underlying4 (by simp [MapKept.IsKey]) rfl
theorem both_any (a b : Bool) (w : World) : Calls Try.prog 35 #[.bool a, .bool b] w fun e w' => e = .returned (.int .u8 (b1 a 1 + b1 b 2)) ∧ Below w.heap.size w w' := by
  have hmm := @run_makeMap Try.prog
  have p1 := put_map w w.heap.size rfl (.int .u8 1)
  have p2 := put_map (w.alloc (.map #[{ key := .bool true, val := .int .u8 1, born := 0 }] 1)) (w.heap.size + 1) (by simp) (.int .u8 2)
  have g1 := get_map w w.heap.size rfl 1 a
  have g2 := get_map (w.alloc (.map #[{ key := .bool true, val := .int .u8 1, born := 0 }] 1)) (w.heap.size + 1) (by simp) 2 b
  go_enter Try.func35, Try.ntmps35
  go_wp2
  go_ret
  refine ⟨ret1 (vi ?_), by repeat' (first | (with_reducible first | exact Below.refl _ _ | assumption | refine below_alloc ?_ _ | refine Below.drew ?_ | refine below_drewN ?_ _ | refine below_then ?_ (by assumption) | refine below_put ?_ (by assumption) (by first | (simp; done) | (simp; omega) | omega) | refine Below.setCell ?_ ?_ _) | (simp; done) | (simp; omega) | omega)⟩
  cases a <;> cases b <;> decide
end Go.Proofs.Ytimccpmdgfneoaa

/- The document's machine: what the main processor reads at a place that is no port. Conditions: the machine lies in a game. -/
namespace Go.Mq
open Go.RowKit
theorem SliceAt.drewN {w : World} {k : IntKind} {v : Value} {xs : List Int} (h : SliceAt w k v xs) (n : Nat) : SliceAt (w.drewN n) k v xs := by
  obtain ⟨a, cap, hv, h1, h2, h3, h4⟩ := h
  exact ⟨a, cap, hv, h1, h2, h3, h4⟩
theorem byte_wf9 {xs : List Int} (h : Bytes8 xs) : ∀ x ∈ xs, (Lit.int .u8 x).wf = true := fun x hx => by
  have := h x hx
  simp only [Lit.wf, Bool.and_eq_true, decide_eq_true_eq]
  exact ⟨this.1, Int.le_trans this.2 (by decide)⟩
def MVb (w : World) (V : Nat → Value) (m : Mach) : Prop := ∀ i, i < 5 → SliceAt w .u8 (V i) (m.mem i)
end Go.Mq
namespace Go.Proofs.Ytimccpmdgfneoaa
open Go.RowKit Go.Mq
set_option linter.unusedVariables false
set_option linter.unusedSimpArgs false
set_option maxHeartbeats 1000000
set_option maxRecDepth 100000
theorem gmv {w0 : World} {V : Nat → Value} {bb H : Nat} {w : World} {x : Bx} (h : RelX 59 w0 V bb H w x) : MVb w V x.m := fun i hi => own_slice (h.mems i hi) (byte_wf9 (h.inn.mem i))
theorem bare_any {w0 : World} {V : Nat → Value} {bb H : Nat} (w : World) (x : Bx) (a : Int) (ha : U16 a) (h : RelX 59 w0 V bb H w x) :
    Calls Try.prog 33 #[.pointer (some ⟨bb, 0, none⟩), .int .u16 a] w fun e w' => e = .returned (.int .u8 (plainF x.m a)) ∧ w = w' := by
  have hs := gmv h
  obtain ⟨-, ⟨wv, hbx, -⟩, hm, hf, -⟩ := h
  obtain ⟨ha0, ha1⟩ := ha
  have lb := hbx.lt
  have fb := hbx.free
  have c30 : w.cell? ⟨bb, 30, none⟩ = some (V 0) := (hbx.cell 30).trans (bx30 ..)
  have c32 : w.cell? ⟨bb, 32, none⟩ = some (V 2) := (hbx.cell 32).trans (bx32 ..)
  have c34 : w.cell? ⟨bb, 34, none⟩ = some (V 4) := (hbx.cell 34).trans (bx34 ..)
  have l0 : (x.m.mem 0).length ≤ 1024 := hf.l0
  have e2 := hf.l2
  have e4 := hf.l4
  clear hbx
  unfold plainF
  by_cases d0 : a < 32768
  · have RO := Lib.hid (romAt_any (V 0) (x.m.mem 0) a ⟨ha0, ha1⟩ l0 w (hs 0 (by omega)))
    have e : (if a < (x.m.mem 0).length ∧ a < 32768 then (x.m.mem 0).getD a.toNat 0 else if 32768 ≤ a ∧ a < 49152 then (x.m.mem 2).getD (a % 128).toNat 0 else if 49152 ≤ a ∧ a < 53248 then (x.m.mem 4).getD (a % 256).toNat 0 else 255) = (if a < (x.m.mem 0).length then (x.m.mem 0).getD a.toNat 0 else 255) := by
      by_cases c : a < ((x.m.mem 0).length : Int)
      · rw [if_pos ⟨c, d0⟩, if_pos c]
      · rw [if_neg (by omega), if_neg (by omega), if_neg (by omega), if_neg c]
    rw [e]
    obtain ⟨r, hr⟩ : ∃ r, r = (if a < (x.m.mem 0).length then (x.m.mem 0).getD a.toNat 0 else 255) := ⟨_, rfl⟩
    rw [← hr] at RO ⊢
    clear e hr hm hf hs c32 c34
    have RG := Lib.hid (region_rom a ha0 d0 w)
    go_enter Try.func33, Try.ntmps33
    go_wp2_with fail
    refine RG.out.mono ?_
    rintro e w' ⟨rfl, rfl⟩
    go_wp2_with fail
    refine RO.out.mono ?_
    rintro e w' ⟨rfl, rfl⟩
    go_wp2
    go_ret
    exact ⟨rfl, rfl⟩
  · rw [if_neg (by omega)]
    by_cases d1 : a < 49152
    · rw [if_pos (by omega)]
      obtain ⟨k, hk⟩ : ∃ k : Nat, (a - 32768).tmod 128 = (k : Int) := ⟨((a - 32768).tmod 128).toNat, by have := Int.tmod_nonneg 128 (show 0 ≤ a - 32768 by omega); omega⟩
      have hk2 : (a - 32768) % 128 = (k : Int) := by rw [← hk, Int.tmod_eq_emod_of_nonneg (by omega)]
      have hk3 : a % 128 = (k : Int) := by omega
      obtain ⟨g, cap, hv, -, hc, hz, hl⟩ := hm.at 2 (by omega) k (by omega)
      rw [hv, e2] at c32
      have k1 : (k : Int) < 128 := by omega
      rw [hk3]
      simp only [Int.toNat_natCast]
      obtain ⟨q, hq⟩ : ∃ q, q = (x.m.mem 2).getD k 0 := ⟨_, rfl⟩
      rw [← hq] at hc ⊢
      have RG := Lib.hid (region_ram a (by omega) d1 w)
      clear hq hv e2 e4 hm hf hs c30 c34 hk3 hk2 l0
      go_enter Try.func33, Try.ntmps33
      go_wp2_with fail
      refine RG.out.mono ?_
      rintro e w' ⟨rfl, rfl⟩
      go_wp2
      go_ret
      exact ⟨rfl, rfl⟩
    · rw [if_neg (by omega)]
      by_cases d2 : a < 53248
      · rw [if_pos (by omega)]
        obtain ⟨k, hk⟩ : ∃ k : Nat, a.tmod 256 = (k : Int) := ⟨(a.tmod 256).toNat, by have := Int.tmod_nonneg 256 ha0; omega⟩
        have hk2 : a % 256 = (k : Int) := by rw [← hk, Int.tmod_eq_emod_of_nonneg (by omega)]
        obtain ⟨g, cap, hv, -, hc, hz, hl⟩ := hm.at 4 (by omega) k (by omega)
        rw [hv, e4] at c34
        have k1 : (k : Int) < 256 := by omega
        rw [hk2]
        simp only [Int.toNat_natCast]
        obtain ⟨q, hq⟩ : ∃ q, q = (x.m.mem 4).getD k 0 := ⟨_, rfl⟩
        rw [← hq] at hc ⊢
        have RG := Lib.hid (region_win a (by omega) d2 w)
        have hk3 := hk2
        clear hq hv e2 e4 hm hf hs c30 c32 hk2 l0
        go_enter Try.func33, Try.ntmps33
        go_wp2_with fail
        refine RG.out.mono ?_
        rintro e w' ⟨rfl, rfl⟩
        go_wp2
        go_ret
        exact ⟨rfl, rfl⟩
      · rw [if_neg (by omega)]
        have RG := Lib.hid (show ∃ s, (s = #[112, 111, 114, 116, 115] ∨ s = #[]) ∧ Calls Try.prog 32 #[.int .u16 a] w fun e w' => e = .returned (.string ⟨s⟩) ∧ w = w' from by
          by_cases d3 : a < 57344
          · exact ⟨_, Or.inl rfl, region_ports a (by omega) d3 w⟩
          · exact ⟨_, Or.inr rfl, region_no a (by omega) (by omega) w⟩)
        obtain ⟨s, hs2, RG⟩ := RG.out
        replace RG := Lib.hid RG
        clear hm hf hs c30 c32 c34 l0
        rcases hs2 with rfl | rfl
        all_goals
          go_enter Try.func33, Try.ntmps33
          go_wp2_with fail
          refine RG.out.mono ?_
          rintro e w' ⟨rfl, rfl⟩
          go_wp2
          go_ret
          exact ⟨rfl, rfl⟩
end Go.Proofs.Ytimccpmdgfneoaa

/- The document's machine: what the main processor reads. Conditions: the machine lies in a game. -/
namespace Go.Mq
open Go.RowKit
set_option linter.unusedVariables false
/-- the machine's own blocks -/
def InX (V : Nat → Value) (bb : Nat) (k : Nat) : Prop := k = bb ∨ ∃ i, i < 5 ∧ (V i).ownBlock = some k
theorem But.kpx {V : Nat → Value} {bb : Nat} {a b : World} (h : But bb a b) : Kp 0 (InX V bb) a b := ⟨h.os, h.tape, h.output, h.size, fun k _ hl hx _ => h.block k hl (fun e => hx (Or.inl e))⟩
theorem kpx_drew {V : Nat → Value} {bb : Nat} {w w' : World} (h : Drew w w') : Kp 0 (InX V bb) w w' := Kp.below (Kp.refl _ _ _) (h.below w.heap.size) (Nat.le_refl _)
theorem kpx_of {V : Nat → Value} {bb : Nat} {w w' : World} (h : Below w.heap.size w w') : Kp 0 (InX V bb) w w' := Kp.below (Kp.refl _ _ _) h (Nat.le_refl _)
theorem Kp.inx {V : Nat → Value} {bb B H : Nat} {a b : World} (L : LiesX V bb B H) (h : Kp 0 (InX V bb) a b) : Kp B NoX a b :=
  ⟨h.os, h.tape, h.output, h.size, fun k hk hl _ hw => h.block k (Nat.zero_le _) hl (fun hx => by
    rcases hx with e | ⟨i, hi, hg⟩
    · have := L.hi; omega
    · have := (L.own i k hi hg).2.1; omega) hw⟩
end Go.Mq
namespace Go.Proofs.Ytimccpmdgfneoaa
open Go.RowKit Go.Mq
set_option linter.unusedVariables false
set_option linter.unusedSimpArgs false
set_option maxHeartbeats 1000000
set_option maxRecDepth 100000
/-- the variables that the game's functions have caught -/
structure Clo (bb gc mc hc lc : Nat) (w : World) : Prop where
  g : Blk w gc #[.pointer (some ⟨bb, 0, none⟩)] 56
  m : Blk w mc #[.pointer (some ⟨bb, 0, none⟩)] 80
  h : Blk w hc #[.func (.func 36) #[] #[]] 85
  l : Blk w lc #[.func (.func 37) #[] #[]] 85
structure Far (V : Nat → Value) (bb gc mc hc lc B : Nat) : Prop where
  g : ¬ InX V bb gc
  m : ¬ InX V bb mc
  h : ¬ InX V bb hc
  l : ¬ InX V bb lc
  gB : gc < B
  mB : mc < B
  hB : hc < B
  lB : lc < B
theorem Clo.kp {V : Nat → Value} {bb gc mc hc lc B : Nat} {w w' : World} (c : Clo bb gc mc hc lc w) (F : Far V bb gc mc hc lc B) (k : Kp 0 (InX V bb) w w') : Clo bb gc mc hc lc w' :=
  ⟨c.g.kp k (Nat.zero_le _) F.g, c.m.kp k (Nat.zero_le _) F.m, c.h.kp k (Nat.zero_le _) F.h, c.l.kp k (Nat.zero_le _) F.l⟩
theorem gg_rom {w0 : World} {V : Nat → Value} {bb gc mc B H : Nat} (L : LiesX V bb B H) (w : World) (x : Bx) (a : Int) (ha : U16 a) (h : RelX 59 w0 V bb H w x) (hB : B ≤ w.heap.size) (cg : Blk w gc #[.pointer (some ⟨bb, 0, none⟩)] 56) (cm : Blk w mc #[.pointer (some ⟨bb, 0, none⟩)] 80) (ng : gc ≠ bb) (nm : mc ≠ bb) (h0 : 0 ≤ a) (h1 : a < 32768) : Calls Try.prog 31 #[.int .u16 a, .pointer (some ⟨gc, 0, none⟩), .pointer (some ⟨mc, 0, none⟩)] w fun e w' => e = .returned (.int .u8 (mainG x.m a)) ∧ RelX 59 w0 V bb H w' (mainGS x a) ∧ Kp 0 (InX V bb) w w' := by
  have hp : isPort a = false := by unfold isPort; rw [decide_eq_false]; omega
  have PL := Lib.hid (bare_any w x a ha h)
  have e1 : mainG x.m a = plainF x.m a := by unfold mainG; rw [hp, if_neg Bool.false_ne_true]
  have e2 : mainGS x a = x := by unfold mainGS; rw [hp, if_neg Bool.false_ne_true]
  rw [e1, e2]
  have hh := Lib.hid h
  have RG := Lib.hid (region_rom a h0 h1 w)
  have g1 : w.cell? ⟨gc, 0, none⟩ = some (.pointer (some ⟨bb, 0, none⟩)) := cg.cell 0
  clear e1 e2 h L hp
  go_enter Try.func31, Try.ntmps31
  go_wp2_with fail
  refine RG.out.mono ?_
  rintro e w' ⟨rfl, rfl⟩
  go_wp2_with fail
  refine PL.out.mono ?_
  rintro e w1 ⟨rfl, rfl⟩
  go_wp2
  go_ret
  exact ⟨rfl, hh.out, kpx_drew (Drew.refl _)⟩
theorem gg_ram {w0 : World} {V : Nat → Value} {bb gc mc B H : Nat} (L : LiesX V bb B H) (w : World) (x : Bx) (a : Int) (ha : U16 a) (h : RelX 59 w0 V bb H w x) (hB : B ≤ w.heap.size) (cg : Blk w gc #[.pointer (some ⟨bb, 0, none⟩)] 56) (cm : Blk w mc #[.pointer (some ⟨bb, 0, none⟩)] 80) (ng : gc ≠ bb) (nm : mc ≠ bb) (h0 : 32768 ≤ a) (h1 : a < 49152) : Calls Try.prog 31 #[.int .u16 a, .pointer (some ⟨gc, 0, none⟩), .pointer (some ⟨mc, 0, none⟩)] w fun e w' => e = .returned (.int .u8 (mainG x.m a)) ∧ RelX 59 w0 V bb H w' (mainGS x a) ∧ Kp 0 (InX V bb) w w' := by
  have hp : isPort a = false := by unfold isPort; rw [decide_eq_false]; omega
  have PL := Lib.hid (bare_any w x a ha h)
  have e1 : mainG x.m a = plainF x.m a := by unfold mainG; rw [hp, if_neg Bool.false_ne_true]
  have e2 : mainGS x a = x := by unfold mainGS; rw [hp, if_neg Bool.false_ne_true]
  rw [e1, e2]
  have hh := Lib.hid h
  have RG := Lib.hid (region_ram a h0 h1 w)
  have g1 : w.cell? ⟨gc, 0, none⟩ = some (.pointer (some ⟨bb, 0, none⟩)) := cg.cell 0
  clear e1 e2 h L hp
  go_enter Try.func31, Try.ntmps31
  go_wp2_with fail
  refine RG.out.mono ?_
  rintro e w' ⟨rfl, rfl⟩
  go_wp2_with fail
  refine PL.out.mono ?_
  rintro e w1 ⟨rfl, rfl⟩
  go_wp2
  go_ret
  exact ⟨rfl, hh.out, kpx_drew (Drew.refl _)⟩
theorem gg_win {w0 : World} {V : Nat → Value} {bb gc mc B H : Nat} (L : LiesX V bb B H) (w : World) (x : Bx) (a : Int) (ha : U16 a) (h : RelX 59 w0 V bb H w x) (hB : B ≤ w.heap.size) (cg : Blk w gc #[.pointer (some ⟨bb, 0, none⟩)] 56) (cm : Blk w mc #[.pointer (some ⟨bb, 0, none⟩)] 80) (ng : gc ≠ bb) (nm : mc ≠ bb) (h0 : 49152 ≤ a) (h1 : a < 53248) : Calls Try.prog 31 #[.int .u16 a, .pointer (some ⟨gc, 0, none⟩), .pointer (some ⟨mc, 0, none⟩)] w fun e w' => e = .returned (.int .u8 (mainG x.m a)) ∧ RelX 59 w0 V bb H w' (mainGS x a) ∧ Kp 0 (InX V bb) w w' := by
  have hp : isPort a = false := by unfold isPort; rw [decide_eq_false]; omega
  have PL := Lib.hid (bare_any w x a ha h)
  have e1 : mainG x.m a = plainF x.m a := by unfold mainG; rw [hp, if_neg Bool.false_ne_true]
  have e2 : mainGS x a = x := by unfold mainGS; rw [hp, if_neg Bool.false_ne_true]
  rw [e1, e2]
  have hh := Lib.hid h
  have RG := Lib.hid (region_win a h0 h1 w)
  have g1 : w.cell? ⟨gc, 0, none⟩ = some (.pointer (some ⟨bb, 0, none⟩)) := cg.cell 0
  clear e1 e2 h L hp
  go_enter Try.func31, Try.ntmps31
  go_wp2_with fail
  refine RG.out.mono ?_
  rintro e w' ⟨rfl, rfl⟩
  go_wp2_with fail
  refine PL.out.mono ?_
  rintro e w1 ⟨rfl, rfl⟩
  go_wp2
  go_ret
  exact ⟨rfl, hh.out, kpx_drew (Drew.refl _)⟩
theorem gg_no {w0 : World} {V : Nat → Value} {bb gc mc B H : Nat} (L : LiesX V bb B H) (w : World) (x : Bx) (a : Int) (ha : U16 a) (h : RelX 59 w0 V bb H w x) (hB : B ≤ w.heap.size) (cg : Blk w gc #[.pointer (some ⟨bb, 0, none⟩)] 56) (cm : Blk w mc #[.pointer (some ⟨bb, 0, none⟩)] 80) (ng : gc ≠ bb) (nm : mc ≠ bb) (h0 : 57344 ≤ a) (h1 : a < 65536) : Calls Try.prog 31 #[.int .u16 a, .pointer (some ⟨gc, 0, none⟩), .pointer (some ⟨mc, 0, none⟩)] w fun e w' => e = .returned (.int .u8 (mainG x.m a)) ∧ RelX 59 w0 V bb H w' (mainGS x a) ∧ Kp 0 (InX V bb) w w' := by
  have hp : isPort a = false := by unfold isPort; rw [decide_eq_false]; omega
  have PL := Lib.hid (bare_any w x a ha h)
  have e1 : mainG x.m a = plainF x.m a := by unfold mainG; rw [hp, if_neg Bool.false_ne_true]
  have e2 : mainGS x a = x := by unfold mainGS; rw [hp, if_neg Bool.false_ne_true]
  rw [e1, e2]
  have hh := Lib.hid h
  have RG := Lib.hid (region_no a h0 h1 w)
  have g1 : w.cell? ⟨gc, 0, none⟩ = some (.pointer (some ⟨bb, 0, none⟩)) := cg.cell 0
  clear e1 e2 h L hp
  go_enter Try.func31, Try.ntmps31
  go_wp2_with fail
  refine RG.out.mono ?_
  rintro e w' ⟨rfl, rfl⟩
  go_wp2_with fail
  refine PL.out.mono ?_
  rintro e w1 ⟨rfl, rfl⟩
  go_wp2
  go_ret
  exact ⟨rfl, hh.out, kpx_drew (Drew.refl _)⟩
theorem gg_pad0 {w0 : World} {V : Nat → Value} {bb gc mc B H : Nat} (L : LiesX V bb B H) (w : World) (x : Bx) (a : Int) (ha : U16 a) (h : RelX 59 w0 V bb H w x) (hB : B ≤ w.heap.size) (cg : Blk w gc #[.pointer (some ⟨bb, 0, none⟩)] 56) (cm : Blk w mc #[.pointer (some ⟨bb, 0, none⟩)] 80) (ng : gc ≠ bb) (nm : mc ≠ bb) (hp : isPort a = true) (hk : a % 32 = 0) : Calls Try.prog 31 #[.int .u16 a, .pointer (some ⟨gc, 0, none⟩), .pointer (some ⟨mc, 0, none⟩)] w fun e w' => e = .returned (.int .u8 (mainG x.m a)) ∧ RelX 59 w0 V bb H w' (mainGS x a) ∧ Kp 0 (InX V bb) w w' := by
  have RD := Lib.hid (refread_any x.m.p0 h.inn.p0)
  have e1 : mainG x.m a = bitP x.m.p0 := by unfold mainG; rw [hp, if_pos rfl, hk]; unfold portG; rw [if_pos rfl]
  have e2 : mainGS x a = x.wP0 (readP x.m.p0) := by unfold mainGS; rw [hp, if_pos rfl, hk]; unfold portGS; rw [if_pos rfl]
  rw [e1, e2]
  have d : 53248 ≤ a ∧ a < 57344 := by unfold isPort at hp; simpa using hp
  obtain ⟨d1, d2⟩ := d
  have RG := Lib.hid (region_ports a d1 d2 w)
  have hr := readP_ok x.m.p0 h.inn.p0
  obtain ⟨h1, ⟨wv, hbx, hws⟩, hm, hf, hi⟩ := h
  have L1 := L.lo
  have L2 := L.hi
  have lb := hbx.lt
  have fb := hbx.free
  have lg := cg.lt
  have lm := cm.lt
  have g1 : w.cell? ⟨mc, 0, none⟩ = some (.pointer (some ⟨bb, 0, none⟩)) := cm.cell 0
  have KB := Lib.hid hbx
  have KB0 := Lib.hid hbx
  have KM := Lib.hid cm
  have ST := Lib.hid (And.intro h1 (And.intro hws (And.intro hm (And.intro hf hi))))
  clear e1 e2 hbx hws hm hf hi h1 hp cg cm
  go_enter Try.func31, Try.ntmps31
  go_wp2_with fail
  refine RG.out.mono ?_
  rintro e w' ⟨rfl, rfl⟩
  go_wp2_with (first | ((with_reducible show wpList _ _ _ _ _ _); refine wpList_loadA rfl 28 (.tmp 23) rfl (bb) (35) 3 rfl 59 (boxC V x wv) #[.int .u8 x.m.p0.dn, .bool x.m.p0.la, .int .u8 x.m.p0.sh] (show Blk _ (bb) (boxC V x wv) 59 from (by repeat' (first | (with_reducible first | exact Hid.out (by assumption) | exact Blk.new _ _ _ | (refine Blk.new_at _ _ _ _ ?_; simp; done) | refine Blk.alloc ?_ _ | refine Blk.drewN ?_ _ | refine Blk.drew ?_ | apply Blk.set | refine Blk.put ?_ (by assumption) (by first | (simp; done) | (simp; omega) | omega) | refine Blk.below ?_ (by assumption)) | (refine Blk.setAt ?_ (by first | (simp; done) | (simp; omega))) | rfl))) _ Try.underlying28 rfl (by kernel_rfl) rfl rfl ?_))
  refine (RD.out _).mono ?_
  rintro e w1 ⟨rfl, hb1⟩
  have s1 := hb1.size
  have KB1 := Lib.hid (KB.out.below hb1)
  have KM1 := Lib.hid (KM.out.below hb1)
  go_wp2_with (first | ((with_reducible show wpList _ _ _ _ _ _); refine wpList_storeW rfl 28 (.tmp 6) (.tmp 27) rfl (w1.heap.size) #[.int .u8 (readP x.m.p0).dn, .bool (readP x.m.p0).la, .int .u8 (readP x.m.p0).sh] rfl rfl 28 _ (show Blk _ (w1.heap.size) #[.int .u8 0, .bool false, .int .u8 0] 28 from (by repeat' (first | (with_reducible first | exact Hid.out (by assumption) | exact Blk.new _ _ _ | (refine Blk.new_at _ _ _ _ ?_; simp; done) | refine Blk.alloc ?_ _ | refine Blk.drewN ?_ _ | refine Blk.drew ?_ | apply Blk.set | refine Blk.put ?_ (by assumption) (by first | (simp; done) | (simp; omega) | omega) | refine Blk.below ?_ (by assumption)) | (refine Blk.setAt ?_ (by first | (simp; done) | (simp; omega))) | rfl))) (by kernel_rfl) rfl (by first | (with_reducible assumption) | simp [Value.oneCell']) ?_; intro w2 hp_w2 K_w2))
  have KB2 := Lib.hid (show Blk w2 bb (boxC V x wv) 59 from (by repeat' (first | (with_reducible first | exact Hid.out (by assumption) | exact Blk.new _ _ _ | (refine Blk.new_at _ _ _ _ ?_; simp; done) | refine Blk.alloc ?_ _ | refine Blk.drewN ?_ _ | refine Blk.drew ?_ | apply Blk.set | refine Blk.put ?_ (by assumption) (by first | (simp; done) | (simp; omega) | omega) | refine Blk.below ?_ (by assumption)) | (refine Blk.setAt ?_ (by first | (simp; done) | (simp; omega))) | rfl)))
  have KM2 := Lib.hid (show Blk w2 mc #[.pointer (some ⟨bb, 0, none⟩)] 80 from (by repeat' (first | (with_reducible first | exact Hid.out (by assumption) | exact Blk.new _ _ _ | (refine Blk.new_at _ _ _ _ ?_; simp; done) | refine Blk.alloc ?_ _ | refine Blk.drewN ?_ _ | refine Blk.drew ?_ | apply Blk.set | refine Blk.put ?_ (by assumption) (by first | (simp; done) | (simp; omega) | omega) | refine Blk.below ?_ (by assumption)) | (refine Blk.setAt ?_ (by first | (simp; done) | (simp; omega))) | rfl)))
  have B2 : But bb w w2 := But.of (n := w.heap.size) (by repeat' (first | (with_reducible first | exact Below.refl _ _ | assumption | refine below_alloc ?_ _ | refine Below.drew ?_ | refine below_drewN ?_ _ | refine below_then ?_ (by assumption) | refine below_put ?_ (by assumption) (by first | (simp; done) | (simp; omega) | omega) | refine Below.setCell ?_ ?_ _) | (simp; done) | (simp; omega) | omega)) (Nat.le_refl _)
  have KP2 := Lib.hid K_w2.out
  have q1 : bb ≠ w1.heap.size := by omega
  have q2 : mc ≠ w1.heap.size := by omega
  clear KB KM KB1 KM1 hb1 hp_w2 K_w2 RD RG g1 lm lg hk
  refine wp_region_held_drew (S := fun W => Blk W (mc) (#[.pointer (some ⟨bb, 0, none⟩)]) 80 ∧ Blk W (w1.heap.size) (#[.int .u8 (readP x.m.p0).dn, .bool (readP x.m.p0).la, .int .u8 (readP x.m.p0).sh]) 28) (by kernel_rfl) ⟨Blk.drew (show Blk _ (mc) (#[.pointer (some ⟨bb, 0, none⟩)]) 80 from (by repeat' (first | (with_reducible first | exact Hid.out (by assumption) | exact Blk.new _ _ _ | (refine Blk.new_at _ _ _ _ ?_; simp; done) | refine Blk.alloc ?_ _ | refine Blk.drewN ?_ _ | refine Blk.drew ?_ | apply Blk.set | refine Blk.put ?_ (by assumption) (by first | (simp; done) | (simp; omega) | omega) | refine Blk.below ?_ (by assumption)) | (refine Blk.setAt ?_ (by first | (simp; done) | (simp; omega))) | rfl))), Blk.drew (show Blk _ (w1.heap.size) (#[.int .u8 (readP x.m.p0).dn, .bool (readP x.m.p0).la, .int .u8 (readP x.m.p0).sh]) 28 from (by repeat' (first | (with_reducible first | exact Hid.out (by assumption) | exact Blk.new _ _ _ | (refine Blk.new_at _ _ _ _ ?_; simp; done) | refine Blk.alloc ?_ _ | refine Blk.drewN ?_ _ | refine Blk.drew ?_ | apply Blk.set | refine Blk.put ?_ (by assumption) (by first | (simp; done) | (simp; omega) | omega) | refine Blk.below ?_ (by assumption)) | (refine Blk.setAt ?_ (by first | (simp; done) | (simp; omega))) | rfl)))⟩ (fun hS => ?_)
  refine wpAnyH_take (i := 0) (v := ?v0_1) rfl (by kernel_rfl) (by kernel_rfl) (by kernel_rfl) (fun _ _ _ h => h) (Or.inl ⟨by rfl, ?y0_1⟩) hS ?_
  case y0_1 => (intro w hSw; have c0 := (hSw.1).cell; have c1 := (hSw.2).cell; go_simp; try with_reducible rfl)
  try simp only [List.getElem_toArray, List.getElem_cons_succ, List.getElem_cons_zero, Act.put, List.setIfInBounds_toArray, List.set_cons_zero, List.set_cons_succ]
  refine wpAnyH_take (i := 1) (v := ?v1_1) rfl (by kernel_rfl) (by kernel_rfl) (by kernel_rfl) (fun _ _ _ h => h) (Or.inl ⟨by rfl, ?y1_1⟩) hS ?_
  case y1_1 => (intro w hSw; have c0 := (hSw.1).cell; have c1 := (hSw.2).cell; go_simp; try with_reducible rfl)
  try simp only [List.getElem_toArray, List.getElem_cons_succ, List.getElem_cons_zero, Act.put, List.setIfInBounds_toArray, List.set_cons_zero, List.set_cons_succ]
  refine wpAnyH_take (i := 2) (v := ?v2_1) rfl (by kernel_rfl) (by kernel_rfl) (by kernel_rfl) (fun _ _ _ h => h) (Or.inl ⟨by rfl, ?y2_1⟩) hS ?_
  case y2_1 => (intro w hSw; go_simp; try with_reducible rfl)
  try simp only [List.getElem_toArray, List.getElem_cons_succ, List.getElem_cons_zero, Act.put, List.setIfInBounds_toArray, List.set_cons_zero, List.set_cons_succ]
  refine wpAnyH_take (i := 3) (v := ?v3_1) rfl (by kernel_rfl) (by kernel_rfl) (by kernel_rfl) (fun _ _ _ h => h) (Or.inl ⟨by rfl, ?y3_1⟩) hS ?_
  case y3_1 => (intro w hSw; go_simp; try with_reducible rfl)
  try simp only [List.getElem_toArray, List.getElem_cons_succ, List.getElem_cons_zero, Act.put, List.setIfInBounds_toArray, List.set_cons_zero, List.set_cons_succ]
  refine wpAnyH_take (i := 4) (v := ?v4_1) rfl (by kernel_rfl) (by kernel_rfl) (by kernel_rfl) (fun _ _ _ h => h) (Or.inl ⟨by rfl, ?y4_1⟩) hS ?_
  case y4_1 => (intro w hSw; go_simp; try with_reducible rfl)
  try simp only [List.getElem_toArray, List.getElem_cons_succ, List.getElem_cons_zero, Act.put, List.setIfInBounds_toArray, List.set_cons_zero, List.set_cons_succ]
  have lb2 := KB2.out.lt
  refine wpAnyH_ready (rs := [5]) (by kernel_rfl) (by simp) (AllReadyH.cons rfl (fun K hK => ?_) AllReadyH.nil)
  refine wp_storeA 28 (.tmp 32) (.tmp 29) rfl bb 35 #[.int .u8 (readP x.m.p0).dn, .bool (readP x.m.p0).la, .int .u8 (readP x.m.p0).sh] rfl rfl 59 (boxC V x wv) (boxC V (x.wP0 (readP x.m.p0)) wv) KB2.out.drew (by kernel_rfl) (by simp) (by simp [Value.oneCell']) rfl ?_
  intro w3 hp_w3 K_w3
  refine hK.out _ _ ⟨hS.1.put hp_w3 nm, hS.2.put hp_w3 (fun e => q1 e.symm)⟩ (fun hS => ?_)
  clear hK K
  refine wpAnyH_done (by kernel_rfl) ?_ _
  clear hS
  have FB : But bb w w3 := B2.drew.put hp_w3
  have RF := RelX.box1 L ST.out KB0.out FB (by decide) K_w3.out rfl rfl (inP0 ST.out.2.2.2.2 hr)
  clear hp_w3 K_w3 KP2 KM2 KB2
  go_wp2_with (first | ((with_reducible show wpList _ _ _ _ _ _); refine wpList_storeW rfl 28 (.tmp 6) (.tmp 27) rfl (w1.heap.size) #[.int .u8 (readP x.m.p0).dn, .bool (readP x.m.p0).la, .int .u8 (readP x.m.p0).sh] rfl rfl 28 _ (show Blk _ (w1.heap.size) #[.int .u8 0, .bool false, .int .u8 0] 28 from (by repeat' (first | (with_reducible first | exact Hid.out (by assumption) | exact Blk.new _ _ _ | (refine Blk.new_at _ _ _ _ ?_; simp; done) | refine Blk.alloc ?_ _ | refine Blk.drewN ?_ _ | refine Blk.drew ?_ | apply Blk.set | refine Blk.put ?_ (by assumption) (by first | (simp; done) | (simp; omega) | omega) | refine Blk.below ?_ (by assumption)) | (refine Blk.setAt ?_ (by first | (simp; done) | (simp; omega))) | rfl))) (by kernel_rfl) rfl (by first | (with_reducible assumption) | simp [Value.oneCell']) ?_; intro w2 hp_w2 K_w2) | go_in)
  go_ret
  exact ⟨rfl, RF, FB.kpx⟩
theorem gg_pad1 {w0 : World} {V : Nat → Value} {bb gc mc B H : Nat} (L : LiesX V bb B H) (w : World) (x : Bx) (a : Int) (ha : U16 a) (h : RelX 59 w0 V bb H w x) (hB : B ≤ w.heap.size) (cg : Blk w gc #[.pointer (some ⟨bb, 0, none⟩)] 56) (cm : Blk w mc #[.pointer (some ⟨bb, 0, none⟩)] 80) (ng : gc ≠ bb) (nm : mc ≠ bb) (hp : isPort a = true) (hk : a % 32 = 1) : Calls Try.prog 31 #[.int .u16 a, .pointer (some ⟨gc, 0, none⟩), .pointer (some ⟨mc, 0, none⟩)] w fun e w' => e = .returned (.int .u8 (mainG x.m a)) ∧ RelX 59 w0 V bb H w' (mainGS x a) ∧ Kp 0 (InX V bb) w w' := by
  have RD := Lib.hid (refread_any x.m.p1 h.inn.p1)
  have e1 : mainG x.m a = bitP x.m.p1 := by unfold mainG; rw [hp, if_pos rfl, hk]; unfold portG; rw [if_neg (by decide), if_pos rfl]
  have e2 : mainGS x a = x.wP1 (readP x.m.p1) := by unfold mainGS; rw [hp, if_pos rfl, hk]; unfold portGS; rw [if_neg (by decide), if_pos rfl]
  rw [e1, e2]
  have d : 53248 ≤ a ∧ a < 57344 := by unfold isPort at hp; simpa using hp
  obtain ⟨d1, d2⟩ := d
  have RG := Lib.hid (region_ports a d1 d2 w)
  have hr := readP_ok x.m.p1 h.inn.p1
  obtain ⟨h1, ⟨wv, hbx, hws⟩, hm, hf, hi⟩ := h
  have L1 := L.lo
  have L2 := L.hi
  have lb := hbx.lt
  have fb := hbx.free
  have lg := cg.lt
  have lm := cm.lt
  have g1 : w.cell? ⟨mc, 0, none⟩ = some (.pointer (some ⟨bb, 0, none⟩)) := cm.cell 0
  have KB := Lib.hid hbx
  have KB0 := Lib.hid hbx
  have KM := Lib.hid cm
  have ST := Lib.hid (And.intro h1 (And.intro hws (And.intro hm (And.intro hf hi))))
  clear e1 e2 hbx hws hm hf hi h1 hp cg cm
  go_enter Try.func31, Try.ntmps31
  go_wp2_with (first | ((with_reducible show wpList _ _ _ _ _ _); refine wpList_storeW rfl 28 (.tmp 6) (.tmp 27) rfl (w1.heap.size) #[.int .u8 (readP x.m.p0).dn, .bool (readP x.m.p0).la, .int .u8 (readP x.m.p0).sh] rfl rfl 28 _ (show Blk _ (w1.heap.size) #[.int .u8 0, .bool false, .int .u8 0] 28 from (by repeat' (first | (with_reducible first | exact Hid.out (by assumption) | exact Blk.new _ _ _ | (refine Blk.new_at _ _ _ _ ?_; simp; done) | refine Blk.alloc ?_ _ | refine Blk.drewN ?_ _ | refine Blk.drew ?_ | apply Blk.set | refine Blk.put ?_ (by assumption) (by first | (simp; done) | (simp; omega) | omega) | refine Blk.below ?_ (by assumption)) | (refine Blk.setAt ?_ (by first | (simp; done) | (simp; omega))) | rfl))) (by kernel_rfl) rfl (by first | (with_reducible assumption) | simp [Value.oneCell']) ?_; intro w2 hp_w2 K_w2))
  refine RG.out.mono ?_
  rintro e w' ⟨rfl, rfl⟩
  go_wp2_with (first | ((with_reducible show wpList _ _ _ _ _ _); refine wpList_loadA rfl 28 (.tmp 40) rfl (bb) (38) 3 rfl 59 (boxC V x wv) #[.int .u8 x.m.p1.dn, .bool x.m.p1.la, .int .u8 x.m.p1.sh] (show Blk _ (bb) (boxC V x wv) 59 from (by repeat' (first | (with_reducible first | exact Hid.out (by assumption) | exact Blk.new _ _ _ | (refine Blk.new_at _ _ _ _ ?_; simp; done) | refine Blk.alloc ?_ _ | refine Blk.drewN ?_ _ | refine Blk.drew ?_ | apply Blk.set | refine Blk.put ?_ (by assumption) (by first | (simp; done) | (simp; omega) | omega) | refine Blk.below ?_ (by assumption)) | (refine Blk.setAt ?_ (by first | (simp; done) | (simp; omega))) | rfl))) _ Try.underlying28 rfl (by kernel_rfl) rfl rfl ?_))
  refine (RD.out _).mono ?_
  rintro e w1 ⟨rfl, hb1⟩
  have s1 := hb1.size
  have KB1 := Lib.hid (KB.out.below hb1)
  have KM1 := Lib.hid (KM.out.below hb1)
  go_wp2_with (first | ((with_reducible show wpList _ _ _ _ _ _); refine wpList_storeW rfl 28 (.tmp 8) (.tmp 44) rfl (w1.heap.size) #[.int .u8 (readP x.m.p1).dn, .bool (readP x.m.p1).la, .int .u8 (readP x.m.p1).sh] rfl rfl 28 _ (show Blk _ (w1.heap.size) #[.int .u8 0, .bool false, .int .u8 0] 28 from (by repeat' (first | (with_reducible first | exact Hid.out (by assumption) | exact Blk.new _ _ _ | (refine Blk.new_at _ _ _ _ ?_; simp; done) | refine Blk.alloc ?_ _ | refine Blk.drewN ?_ _ | refine Blk.drew ?_ | apply Blk.set | refine Blk.put ?_ (by assumption) (by first | (simp; done) | (simp; omega) | omega) | refine Blk.below ?_ (by assumption)) | (refine Blk.setAt ?_ (by first | (simp; done) | (simp; omega))) | rfl))) (by kernel_rfl) rfl (by first | (with_reducible assumption) | simp [Value.oneCell']) ?_; intro w2 hp_w2 K_w2))
  have KB2 := Lib.hid (show Blk w2 bb (boxC V x wv) 59 from (by repeat' (first | (with_reducible first | exact Hid.out (by assumption) | exact Blk.new _ _ _ | (refine Blk.new_at _ _ _ _ ?_; simp; done) | refine Blk.alloc ?_ _ | refine Blk.drewN ?_ _ | refine Blk.drew ?_ | apply Blk.set | refine Blk.put ?_ (by assumption) (by first | (simp; done) | (simp; omega) | omega) | refine Blk.below ?_ (by assumption)) | (refine Blk.setAt ?_ (by first | (simp; done) | (simp; omega))) | rfl)))
  have KM2 := Lib.hid (show Blk w2 mc #[.pointer (some ⟨bb, 0, none⟩)] 80 from (by repeat' (first | (with_reducible first | exact Hid.out (by assumption) | exact Blk.new _ _ _ | (refine Blk.new_at _ _ _ _ ?_; simp; done) | refine Blk.alloc ?_ _ | refine Blk.drewN ?_ _ | refine Blk.drew ?_ | apply Blk.set | refine Blk.put ?_ (by assumption) (by first | (simp; done) | (simp; omega) | omega) | refine Blk.below ?_ (by assumption)) | (refine Blk.setAt ?_ (by first | (simp; done) | (simp; omega))) | rfl)))
  have B2 : But bb w w2 := But.of (n := w.heap.size) (by repeat' (first | (with_reducible first | exact Below.refl _ _ | assumption | refine below_alloc ?_ _ | refine Below.drew ?_ | refine below_drewN ?_ _ | refine below_then ?_ (by assumption) | refine below_put ?_ (by assumption) (by first | (simp; done) | (simp; omega) | omega) | refine Below.setCell ?_ ?_ _) | (simp; done) | (simp; omega) | omega)) (Nat.le_refl _)
  have KP2 := Lib.hid K_w2.out
  have q1 : bb ≠ w1.heap.size := by omega
  have q2 : mc ≠ w1.heap.size := by omega
  clear KB KM KB1 KM1 hb1 hp_w2 K_w2 RD RG g1 lm lg hk
  refine wp_region_held_drew (S := fun W => Blk W (mc) (#[.pointer (some ⟨bb, 0, none⟩)]) 80 ∧ Blk W (w1.heap.size) (#[.int .u8 (readP x.m.p1).dn, .bool (readP x.m.p1).la, .int .u8 (readP x.m.p1).sh]) 28) (by kernel_rfl) ⟨Blk.drew (show Blk _ (mc) (#[.pointer (some ⟨bb, 0, none⟩)]) 80 from (by repeat' (first | (with_reducible first | exact Hid.out (by assumption) | exact Blk.new _ _ _ | (refine Blk.new_at _ _ _ _ ?_; simp; done) | refine Blk.alloc ?_ _ | refine Blk.drewN ?_ _ | refine Blk.drew ?_ | apply Blk.set | refine Blk.put ?_ (by assumption) (by first | (simp; done) | (simp; omega) | omega) | refine Blk.below ?_ (by assumption)) | (refine Blk.setAt ?_ (by first | (simp; done) | (simp; omega))) | rfl))), Blk.drew (show Blk _ (w1.heap.size) (#[.int .u8 (readP x.m.p1).dn, .bool (readP x.m.p1).la, .int .u8 (readP x.m.p1).sh]) 28 from (by repeat' (first | (with_reducible first | exact Hid.out (by assumption) | exact Blk.new _ _ _ | (refine Blk.new_at _ _ _ _ ?_; simp; done) | refine Blk.alloc ?_ _ | refine Blk.drewN ?_ _ | refine Blk.drew ?_ | apply Blk.set | refine Blk.put ?_ (by assumption) (by first | (simp; done) | (simp; omega) | omega) | refine Blk.below ?_ (by assumption)) | (refine Blk.setAt ?_ (by first | (simp; done) | (simp; omega))) | rfl)))⟩ (fun hS => ?_)
  refine wpAnyH_take (i := 0) (v := ?v0_2) rfl (by kernel_rfl) (by kernel_rfl) (by kernel_rfl) (fun _ _ _ h => h) (Or.inl ⟨by rfl, ?y0_2⟩) hS ?_
  case y0_2 => (intro w hSw; have c0 := (hSw.1).cell; have c1 := (hSw.2).cell; go_simp; try with_reducible rfl)
  try simp only [List.getElem_toArray, List.getElem_cons_succ, List.getElem_cons_zero, Act.put, List.setIfInBounds_toArray, List.set_cons_zero, List.set_cons_succ]
  refine wpAnyH_take (i := 1) (v := ?v1_2) rfl (by kernel_rfl) (by kernel_rfl) (by kernel_rfl) (fun _ _ _ h => h) (Or.inl ⟨by rfl, ?y1_2⟩) hS ?_
  case y1_2 => (intro w hSw; have c0 := (hSw.1).cell; have c1 := (hSw.2).cell; go_simp; try with_reducible rfl)
  try simp only [List.getElem_toArray, List.getElem_cons_succ, List.getElem_cons_zero, Act.put, List.setIfInBounds_toArray, List.set_cons_zero, List.set_cons_succ]
  refine wpAnyH_take (i := 2) (v := ?v2_2) rfl (by kernel_rfl) (by kernel_rfl) (by kernel_rfl) (fun _ _ _ h => h) (Or.inl ⟨by rfl, ?y2_2⟩) hS ?_
  case y2_2 => (intro w hSw; go_simp; try with_reducible rfl)
  try simp only [List.getElem_toArray, List.getElem_cons_succ, List.getElem_cons_zero, Act.put, List.setIfInBounds_toArray, List.set_cons_zero, List.set_cons_succ]
  refine wpAnyH_take (i := 3) (v := ?v3_2) rfl (by kernel_rfl) (by kernel_rfl) (by kernel_rfl) (fun _ _ _ h => h) (Or.inl ⟨by rfl, ?y3_2⟩) hS ?_
  case y3_2 => (intro w hSw; go_simp; try with_reducible rfl)
  try simp only [List.getElem_toArray, List.getElem_cons_succ, List.getElem_cons_zero, Act.put, List.setIfInBounds_toArray, List.set_cons_zero, List.set_cons_succ]
  refine wpAnyH_take (i := 4) (v := ?v4_2) rfl (by kernel_rfl) (by kernel_rfl) (by kernel_rfl) (fun _ _ _ h => h) (Or.inl ⟨by rfl, ?y4_2⟩) hS ?_
  case y4_2 => (intro w hSw; go_simp; try with_reducible rfl)
  try simp only [List.getElem_toArray, List.getElem_cons_succ, List.getElem_cons_zero, Act.put, List.setIfInBounds_toArray, List.set_cons_zero, List.set_cons_succ]
  have lb2 := KB2.out.lt
  refine wpAnyH_ready (rs := [5]) (by kernel_rfl) (by simp) (AllReadyH.cons rfl (fun K hK => ?_) AllReadyH.nil)
  refine wp_storeA 28 (.tmp 49) (.tmp 46) rfl bb 38 #[.int .u8 (readP x.m.p1).dn, .bool (readP x.m.p1).la, .int .u8 (readP x.m.p1).sh] rfl rfl 59 (boxC V x wv) (boxC V (x.wP1 (readP x.m.p1)) wv) KB2.out.drew (by kernel_rfl) (by simp) (by simp [Value.oneCell']) rfl ?_
  intro w3 hp_w3 K_w3
  refine hK.out _ _ ⟨hS.1.put hp_w3 nm, hS.2.put hp_w3 (fun e => q1 e.symm)⟩ (fun hS => ?_)
  clear hK K
  refine wpAnyH_done (by kernel_rfl) ?_ _
  clear hS
  have FB : But bb w w3 := B2.drew.put hp_w3
  have RF := RelX.box1 L ST.out KB0.out FB (by decide) K_w3.out rfl rfl (inP1 ST.out.2.2.2.2 hr)
  clear hp_w3 K_w3 KP2 KM2 KB2
  go_wp2_with (first | ((with_reducible show wpList _ _ _ _ _ _); refine wpList_storeW rfl 28 (.tmp 8) (.tmp 44) rfl (w1.heap.size) #[.int .u8 (readP x.m.p1).dn, .bool (readP x.m.p1).la, .int .u8 (readP x.m.p1).sh] rfl rfl 28 _ (show Blk _ (w1.heap.size) #[.int .u8 0, .bool false, .int .u8 0] 28 from (by repeat' (first | (with_reducible first | exact Hid.out (by assumption) | exact Blk.new _ _ _ | (refine Blk.new_at _ _ _ _ ?_; simp; done) | refine Blk.alloc ?_ _ | refine Blk.drewN ?_ _ | refine Blk.drew ?_ | apply Blk.set | refine Blk.put ?_ (by assumption) (by first | (simp; done) | (simp; omega) | omega) | refine Blk.below ?_ (by assumption)) | (refine Blk.setAt ?_ (by first | (simp; done) | (simp; omega))) | rfl))) (by kernel_rfl) rfl (by first | (with_reducible assumption) | simp [Value.oneCell']) ?_; intro w2 hp_w2 K_w2) | go_in)
  go_ret
  exact ⟨rfl, RF, FB.kpx⟩
theorem gg_p4 {w0 : World} {V : Nat → Value} {bb gc mc B H : Nat} (L : LiesX V bb B H) (w : World) (x : Bx) (a : Int) (ha : U16 a) (h : RelX 59 w0 V bb H w x) (hB : B ≤ w.heap.size) (cg : Blk w gc #[.pointer (some ⟨bb, 0, none⟩)] 56) (cm : Blk w mc #[.pointer (some ⟨bb, 0, none⟩)] 80) (ng : gc ≠ bb) (nm : mc ≠ bb) (hp : isPort a = true) (hk : a % 32 = 4) : Calls Try.prog 31 #[.int .u16 a, .pointer (some ⟨gc, 0, none⟩), .pointer (some ⟨mc, 0, none⟩)] w fun e w' => e = .returned (.int .u8 (mainG x.m a)) ∧ RelX 59 w0 V bb H w' (mainGS x a) ∧ Kp 0 (InX V bb) w w' := by
  have e1 : mainG x.m a = b1 x.m.tm.on 1 + b1 x.m.tm.rg 2 := by unfold mainG; rw [hp, if_pos rfl, hk]; unfold portG; rw [if_neg (by decide), if_neg (by decide), if_pos rfl]
  have e2 : mainGS x a = x := by unfold mainGS; rw [hp, if_pos rfl, hk]; unfold portGS; rw [if_neg (by decide), if_neg (by decide)]
  rw [e1, e2]
  have d : 53248 ≤ a ∧ a < 57344 := by unfold isPort at hp; simpa using hp
  obtain ⟨d1, d2⟩ := d; have RG := Lib.hid (region_ports a d1 d2 w); have hh := Lib.hid (fun w' (k : Below w.heap.size w w') => h.stable L (St.of k (by omega) (Nat.le_refl _))); obtain ⟨h1, ⟨wv, hbx, hws⟩, hm, hf, hi⟩ := h; have lb := hbx.lt; have g1 : w.cell? ⟨mc, 0, none⟩ = some (.pointer (some ⟨bb, 0, none⟩)) := cm.cell 0
  have BO := Lib.hid both_any
  have KB := Lib.hid hbx
  have KM := Lib.hid cm
  have x1 := bx43 V x wv
  have x2 := bx44 V x wv
  clear e1 e2 hbx hws hm hf hi h1 hp cg cm
  go_enter Try.func31, Try.ntmps31
  go_wp2_with (first | ((with_reducible show wpList _ _ _ _ _ _); refine wpList_storeW rfl 28 (.tmp 8) (.tmp 44) rfl (w1.heap.size) #[.int .u8 (readP x.m.p1).dn, .bool (readP x.m.p1).la, .int .u8 (readP x.m.p1).sh] rfl rfl 28 _ (show Blk _ (w1.heap.size) #[.int .u8 0, .bool false, .int .u8 0] 28 from (by repeat' (first | (with_reducible first | exact Hid.out (by assumption) | exact Blk.new _ _ _ | (refine Blk.new_at _ _ _ _ ?_; simp; done) | refine Blk.alloc ?_ _ | refine Blk.drewN ?_ _ | refine Blk.drew ?_ | apply Blk.set | refine Blk.put ?_ (by assumption) (by first | (simp; done) | (simp; omega) | omega) | refine Blk.below ?_ (by assumption)) | (refine Blk.setAt ?_ (by first | (simp; done) | (simp; omega))) | rfl))) (by kernel_rfl) rfl (by first | (with_reducible assumption) | simp [Value.oneCell']) ?_; intro w2 hp_w2 K_w2))
  refine RG.out.mono ?_
  rintro e w' ⟨rfl, rfl⟩
  go_wp2_with (first | ((with_reducible show wpList _ _ _ _ _ _); refine wpList_storeW rfl 28 (.tmp 8) (.tmp 44) rfl (w1.heap.size) #[.int .u8 (readP x.m.p1).dn, .bool (readP x.m.p1).la, .int .u8 (readP x.m.p1).sh] rfl rfl 28 _ (show Blk _ (w1.heap.size) #[.int .u8 0, .bool false, .int .u8 0] 28 from (by repeat' (first | (with_reducible first | exact Hid.out (by assumption) | exact Blk.new _ _ _ | (refine Blk.new_at _ _ _ _ ?_; simp; done) | refine Blk.alloc ?_ _ | refine Blk.drewN ?_ _ | refine Blk.drew ?_ | apply Blk.set | refine Blk.put ?_ (by assumption) (by first | (simp; done) | (simp; omega) | omega) | refine Blk.below ?_ (by assumption)) | (refine Blk.setAt ?_ (by first | (simp; done) | (simp; omega))) | rfl))) (by kernel_rfl) rfl (by first | (with_reducible assumption) | simp [Value.oneCell']) ?_; intro w2 hp_w2 K_w2))
  clear g1
  refine wp_region_held_drew (S := fun W => Blk W (mc) (#[.pointer (some ⟨bb, 0, none⟩)]) 80 ∧ Blk W (bb) (boxC V x wv) 59) (by kernel_rfl) ⟨Blk.drew (show Blk _ (mc) (#[.pointer (some ⟨bb, 0, none⟩)]) 80 from (by repeat' (first | (with_reducible first | exact Hid.out (by assumption) | exact Blk.new _ _ _ | (refine Blk.new_at _ _ _ _ ?_; simp; done) | refine Blk.alloc ?_ _ | refine Blk.drewN ?_ _ | refine Blk.drew ?_ | apply Blk.set | refine Blk.put ?_ (by assumption) (by first | (simp; done) | (simp; omega) | omega) | refine Blk.below ?_ (by assumption)) | (refine Blk.setAt ?_ (by first | (simp; done) | (simp; omega))) | rfl))), Blk.drew (show Blk _ (bb) (boxC V x wv) 59 from (by repeat' (first | (with_reducible first | exact Hid.out (by assumption) | exact Blk.new _ _ _ | (refine Blk.new_at _ _ _ _ ?_; simp; done) | refine Blk.alloc ?_ _ | refine Blk.drewN ?_ _ | refine Blk.drew ?_ | apply Blk.set | refine Blk.put ?_ (by assumption) (by first | (simp; done) | (simp; omega) | omega) | refine Blk.below ?_ (by assumption)) | (refine Blk.setAt ?_ (by first | (simp; done) | (simp; omega))) | rfl)))⟩ (fun hS => ?_)
  refine wpAnyH_take (i := 0) (v := ?v0_3) rfl (by kernel_rfl) (by kernel_rfl) (by kernel_rfl) (fun _ _ _ h => h) (Or.inl ⟨by rfl, ?y0_3⟩) hS ?_
  case y0_3 => (intro w hSw; have c0 := (hSw.1).cell; have c1 := (hSw.2).cell; go_simp; try with_reducible rfl)
  try simp only [List.getElem_toArray, List.getElem_cons_succ, List.getElem_cons_zero, Act.put, List.setIfInBounds_toArray, List.set_cons_zero, List.set_cons_succ]
  refine wpAnyH_take (i := 1) (v := ?v1_3) rfl (by kernel_rfl) (by kernel_rfl) (by kernel_rfl) (fun _ _ _ h => h) (Or.inl ⟨by rfl, ?y1_3⟩) hS ?_
  case y1_3 => (intro w hSw; go_simp; try with_reducible rfl)
  try simp only [List.getElem_toArray, List.getElem_cons_succ, List.getElem_cons_zero, Act.put, List.setIfInBounds_toArray, List.set_cons_zero, List.set_cons_succ]
  refine wpAnyH_take (i := 2) (v := ?v2_3) rfl (by kernel_rfl) (by kernel_rfl) (by kernel_rfl) (fun _ _ _ h => h) (Or.inl ⟨by rfl, ?y2_3⟩) hS ?_
  case y2_3 => (intro w hSw; go_simp; try with_reducible rfl)
  try simp only [List.getElem_toArray, List.getElem_cons_succ, List.getElem_cons_zero, Act.put, List.setIfInBounds_toArray, List.set_cons_zero, List.set_cons_succ]
  refine wpAnyH_take (i := 3) (v := ?v3_3) rfl (by kernel_rfl) (by kernel_rfl) (by kernel_rfl) (fun _ _ _ h => h) (Or.inl ⟨by rfl, ?y3_3⟩) hS ?_
  case y3_3 => (intro w hSw; go_simp; try with_reducible rfl)
  try simp only [List.getElem_toArray, List.getElem_cons_succ, List.getElem_cons_zero, Act.put, List.setIfInBounds_toArray, List.set_cons_zero, List.set_cons_succ]
  refine wpAnyH_take (i := 4) (v := ?v4_3) rfl (by kernel_rfl) (by kernel_rfl) (by kernel_rfl) (fun _ _ _ h => h) (Or.inl ⟨by rfl, ?y4_3⟩) hS ?_
  case y4_3 => (intro w hSw; have c0 := (hSw.1).cell; have c1 := (hSw.2).cell; go_simp; try with_reducible rfl)
  try simp only [List.getElem_toArray, List.getElem_cons_succ, List.getElem_cons_zero, Act.put, List.setIfInBounds_toArray, List.set_cons_zero, List.set_cons_succ]
  refine wpAnyH_take (i := 5) (v := ?v5_3) rfl (by kernel_rfl) (by kernel_rfl) (by kernel_rfl) (fun _ _ _ h => h) (Or.inl ⟨by rfl, ?y5_3⟩) hS ?_
  case y5_3 => (intro w hSw; have c0 := (hSw.1).cell; have c1 := (hSw.2).cell; go_simp; try with_reducible rfl)
  try simp only [List.getElem_toArray, List.getElem_cons_succ, List.getElem_cons_zero, Act.put, List.setIfInBounds_toArray, List.set_cons_zero, List.set_cons_succ]
  refine wpAnyH_take (i := 6) (v := ?v6_3) rfl (by kernel_rfl) (by kernel_rfl) (by kernel_rfl) (fun _ _ _ h => h) (Or.inl ⟨by rfl, ?y6_3⟩) hS ?_
  case y6_3 => (intro w hSw; go_simp; try with_reducible rfl)
  try simp only [List.getElem_toArray, List.getElem_cons_succ, List.getElem_cons_zero, Act.put, List.setIfInBounds_toArray, List.set_cons_zero, List.set_cons_succ]
  refine wpAnyH_take (i := 7) (v := ?v7_3) rfl (by kernel_rfl) (by kernel_rfl) (by kernel_rfl) (fun _ _ _ h => h) (Or.inl ⟨by rfl, ?y7_3⟩) hS ?_
  case y7_3 => (intro w hSw; go_simp; try with_reducible rfl)
  try simp only [List.getElem_toArray, List.getElem_cons_succ, List.getElem_cons_zero, Act.put, List.setIfInBounds_toArray, List.set_cons_zero, List.set_cons_succ]
  refine wpAnyH_take (i := 8) (v := ?v8_3) rfl (by kernel_rfl) (by kernel_rfl) (by kernel_rfl) (fun _ _ _ h => h) (Or.inl ⟨by rfl, ?y8_3⟩) hS ?_
  case y8_3 => (intro w hSw; go_simp; try with_reducible rfl)
  try simp only [List.getElem_toArray, List.getElem_cons_succ, List.getElem_cons_zero, Act.put, List.setIfInBounds_toArray, List.set_cons_zero, List.set_cons_succ]
  refine wpAnyH_take (i := 9) (v := ?v9_3) rfl (by kernel_rfl) (by kernel_rfl) (by kernel_rfl) (fun _ _ _ h => h) (Or.inl ⟨by rfl, ?y9_3⟩) hS ?_
  case y9_3 => (intro w hSw; have c0 := (hSw.1).cell; have c1 := (hSw.2).cell; go_simp; try with_reducible rfl)
  try simp only [List.getElem_toArray, List.getElem_cons_succ, List.getElem_cons_zero, Act.put, List.setIfInBounds_toArray, List.set_cons_zero, List.set_cons_succ]
  refine wpAnyH_ready (rs := [10]) (by kernel_rfl) (by simp) (AllReadyH.cons rfl (fun K hK => ?_) AllReadyH.nil)
  go_simp
  refine (BO.out _ _ _).mono ?_
  rintro e w1 ⟨rfl, hb1⟩
  try go_wp2_with fail
  refine hK.out _ _ ⟨hS.1.below hb1, hS.2.below hb1⟩ (fun hS => ?_)
  clear hK K
  try simp only [List.getElem_toArray, List.getElem_cons_succ, List.getElem_cons_zero, Act.put, List.setIfInBounds_toArray, List.set_cons_zero, List.set_cons_succ]
  refine wpAnyH_take (i := 11) (v := ?v11_3) rfl (by kernel_rfl) (by kernel_rfl) (by kernel_rfl) (fun _ _ _ h => h) (Or.inl ⟨by rfl, ?y11_3⟩) hS ?_
  case y11_3 => (intro w hSw; go_simp; try with_reducible rfl)
  try simp only [List.getElem_toArray, List.getElem_cons_succ, List.getElem_cons_zero, Act.put, List.setIfInBounds_toArray, List.set_cons_zero, List.set_cons_succ]
  refine wpAnyH_done (by kernel_rfl) ?_ _
  go_wp2_with (first | ((with_reducible show wpList _ _ _ _ _ _); refine wpList_storeW rfl 28 (.tmp 8) (.tmp 44) rfl (w1.heap.size) #[.int .u8 (readP x.m.p1).dn, .bool (readP x.m.p1).la, .int .u8 (readP x.m.p1).sh] rfl rfl 28 _ (show Blk _ (w1.heap.size) #[.int .u8 0, .bool false, .int .u8 0] 28 from (by repeat' (first | (with_reducible first | exact Hid.out (by assumption) | exact Blk.new _ _ _ | (refine Blk.new_at _ _ _ _ ?_; simp; done) | refine Blk.alloc ?_ _ | refine Blk.drewN ?_ _ | refine Blk.drew ?_ | apply Blk.set | refine Blk.put ?_ (by assumption) (by first | (simp; done) | (simp; omega) | omega) | refine Blk.below ?_ (by assumption)) | (refine Blk.setAt ?_ (by first | (simp; done) | (simp; omega))) | rfl))) (by kernel_rfl) rfl (by first | (with_reducible assumption) | simp [Value.oneCell']) ?_; intro w2 hp_w2 K_w2) | go_in)
  go_ret
  exact ⟨rfl, hh.out _ (by repeat' (first | (with_reducible first | exact Below.refl _ _ | assumption | refine below_alloc ?_ _ | refine Below.drew ?_ | refine below_drewN ?_ _ | refine below_then ?_ (by assumption) | refine below_put ?_ (by assumption) (by first | (simp; done) | (simp; omega) | omega) | refine Below.setCell ?_ ?_ _) | (simp; done) | (simp; omega) | omega)), kpx_of (by repeat' (first | (with_reducible first | exact Below.refl _ _ | assumption | refine below_alloc ?_ _ | refine Below.drew ?_ | refine below_drewN ?_ _ | refine below_then ?_ (by assumption) | refine below_put ?_ (by assumption) (by first | (simp; done) | (simp; omega) | omega) | refine Below.setCell ?_ ?_ _) | (simp; done) | (simp; omega) | omega))⟩
theorem gg_p16 {w0 : World} {V : Nat → Value} {bb gc mc B H : Nat} (L : LiesX V bb B H) (w : World) (x : Bx) (a : Int) (ha : U16 a) (h : RelX 59 w0 V bb H w x) (hB : B ≤ w.heap.size) (cg : Blk w gc #[.pointer (some ⟨bb, 0, none⟩)] 56) (cm : Blk w mc #[.pointer (some ⟨bb, 0, none⟩)] 80) (ng : gc ≠ bb) (nm : mc ≠ bb) (hp : isPort a = true) (hk : a % 32 = 16) : Calls Try.prog 31 #[.int .u16 a, .pointer (some ⟨gc, 0, none⟩), .pointer (some ⟨mc, 0, none⟩)] w fun e w' => e = .returned (.int .u8 (mainG x.m a)) ∧ RelX 59 w0 V bb H w' (mainGS x a) ∧ Kp 0 (InX V bb) w w' := by
  have e1 : mainG x.m a = b1 x.m.gr 1 + b1 x.m.hd 2 := by unfold mainG; rw [hp, if_pos rfl, hk]; unfold portG; rw [if_neg (by decide), if_neg (by decide), if_neg (by decide), if_neg (by decide), if_neg (by decide), if_neg (by decide), if_pos rfl]
  have e2 : mainGS x a = x := by unfold mainGS; rw [hp, if_pos rfl, hk]; unfold portGS; rw [if_neg (by decide), if_neg (by decide)]
  rw [e1, e2]
  have d : 53248 ≤ a ∧ a < 57344 := by unfold isPort at hp; simpa using hp
  obtain ⟨d1, d2⟩ := d; have RG := Lib.hid (region_ports a d1 d2 w); have hh := Lib.hid (fun w' (k : Below w.heap.size w w') => h.stable L (St.of k (by omega) (Nat.le_refl _))); obtain ⟨h1, ⟨wv, hbx, hws⟩, hm, hf, hi⟩ := h; have lb := hbx.lt; have g1 : w.cell? ⟨mc, 0, none⟩ = some (.pointer (some ⟨bb, 0, none⟩)) := cm.cell 0
  have BO := Lib.hid both_any
  have KB := Lib.hid hbx
  have KM := Lib.hid cm
  have x1 := bx67 V x wv
  have x2 := bx68 V x wv
  clear e1 e2 hbx hws hm hf hi h1 hp cg cm
  go_enter Try.func31, Try.ntmps31
  go_wp2_with (first | ((with_reducible show wpList _ _ _ _ _ _); refine wpList_storeW rfl 28 (.tmp 8) (.tmp 44) rfl (w1.heap.size) #[.int .u8 (readP x.m.p1).dn, .bool (readP x.m.p1).la, .int .u8 (readP x.m.p1).sh] rfl rfl 28 _ (show Blk _ (w1.heap.size) #[.int .u8 0, .bool false, .int .u8 0] 28 from (by repeat' (first | (with_reducible first | exact Hid.out (by assumption) | exact Blk.new _ _ _ | (refine Blk.new_at _ _ _ _ ?_; simp; done) | refine Blk.alloc ?_ _ | refine Blk.drewN ?_ _ | refine Blk.drew ?_ | apply Blk.set | refine Blk.put ?_ (by assumption) (by first | (simp; done) | (simp; omega) | omega) | refine Blk.below ?_ (by assumption)) | (refine Blk.setAt ?_ (by first | (simp; done) | (simp; omega))) | rfl))) (by kernel_rfl) rfl (by first | (with_reducible assumption) | simp [Value.oneCell']) ?_; intro w2 hp_w2 K_w2))
  refine RG.out.mono ?_
  rintro e w' ⟨rfl, rfl⟩
  go_wp2_with (first | ((with_reducible show wpList _ _ _ _ _ _); refine wpList_storeW rfl 28 (.tmp 8) (.tmp 44) rfl (w1.heap.size) #[.int .u8 (readP x.m.p1).dn, .bool (readP x.m.p1).la, .int .u8 (readP x.m.p1).sh] rfl rfl 28 _ (show Blk _ (w1.heap.size) #[.int .u8 0, .bool false, .int .u8 0] 28 from (by repeat' (first | (with_reducible first | exact Hid.out (by assumption) | exact Blk.new _ _ _ | (refine Blk.new_at _ _ _ _ ?_; simp; done) | refine Blk.alloc ?_ _ | refine Blk.drewN ?_ _ | refine Blk.drew ?_ | apply Blk.set | refine Blk.put ?_ (by assumption) (by first | (simp; done) | (simp; omega) | omega) | refine Blk.below ?_ (by assumption)) | (refine Blk.setAt ?_ (by first | (simp; done) | (simp; omega))) | rfl))) (by kernel_rfl) rfl (by first | (with_reducible assumption) | simp [Value.oneCell']) ?_; intro w2 hp_w2 K_w2))
  clear g1
  refine wp_region_held_drew (S := fun W => Blk W (mc) (#[.pointer (some ⟨bb, 0, none⟩)]) 80 ∧ Blk W (bb) (boxC V x wv) 59) (by kernel_rfl) ⟨Blk.drew (show Blk _ (mc) (#[.pointer (some ⟨bb, 0, none⟩)]) 80 from (by repeat' (first | (with_reducible first | exact Hid.out (by assumption) | exact Blk.new _ _ _ | (refine Blk.new_at _ _ _ _ ?_; simp; done) | refine Blk.alloc ?_ _ | refine Blk.drewN ?_ _ | refine Blk.drew ?_ | apply Blk.set | refine Blk.put ?_ (by assumption) (by first | (simp; done) | (simp; omega) | omega) | refine Blk.below ?_ (by assumption)) | (refine Blk.setAt ?_ (by first | (simp; done) | (simp; omega))) | rfl))), Blk.drew (show Blk _ (bb) (boxC V x wv) 59 from (by repeat' (first | (with_reducible first | exact Hid.out (by assumption) | exact Blk.new _ _ _ | (refine Blk.new_at _ _ _ _ ?_; simp; done) | refine Blk.alloc ?_ _ | refine Blk.drewN ?_ _ | refine Blk.drew ?_ | apply Blk.set | refine Blk.put ?_ (by assumption) (by first | (simp; done) | (simp; omega) | omega) | refine Blk.below ?_ (by assumption)) | (refine Blk.setAt ?_ (by first | (simp; done) | (simp; omega))) | rfl)))⟩ (fun hS => ?_)
  refine wpAnyH_take (i := 0) (v := ?v0_4) rfl (by kernel_rfl) (by kernel_rfl) (by kernel_rfl) (fun _ _ _ h => h) (Or.inl ⟨by rfl, ?y0_4⟩) hS ?_
  case y0_4 => (intro w hSw; have c0 := (hSw.1).cell; have c1 := (hSw.2).cell; go_simp; try with_reducible rfl)
  try simp only [List.getElem_toArray, List.getElem_cons_succ, List.getElem_cons_zero, Act.put, List.setIfInBounds_toArray, List.set_cons_zero, List.set_cons_succ]
  refine wpAnyH_take (i := 1) (v := ?v1_4) rfl (by kernel_rfl) (by kernel_rfl) (by kernel_rfl) (fun _ _ _ h => h) (Or.inl ⟨by rfl, ?y1_4⟩) hS ?_
  case y1_4 => (intro w hSw; go_simp; try with_reducible rfl)
  try simp only [List.getElem_toArray, List.getElem_cons_succ, List.getElem_cons_zero, Act.put, List.setIfInBounds_toArray, List.set_cons_zero, List.set_cons_succ]
  refine wpAnyH_take (i := 2) (v := ?v2_4) rfl (by kernel_rfl) (by kernel_rfl) (by kernel_rfl) (fun _ _ _ h => h) (Or.inl ⟨by rfl, ?y2_4⟩) hS ?_
  case y2_4 => (intro w hSw; go_simp; try with_reducible rfl)
  try simp only [List.getElem_toArray, List.getElem_cons_succ, List.getElem_cons_zero, Act.put, List.setIfInBounds_toArray, List.set_cons_zero, List.set_cons_succ]
  refine wpAnyH_take (i := 3) (v := ?v3_4) rfl (by kernel_rfl) (by kernel_rfl) (by kernel_rfl) (fun _ _ _ h => h) (Or.inl ⟨by rfl, ?y3_4⟩) hS ?_
  case y3_4 => (intro w hSw; have c0 := (hSw.1).cell; have c1 := (hSw.2).cell; go_simp; try with_reducible rfl)
  try simp only [List.getElem_toArray, List.getElem_cons_succ, List.getElem_cons_zero, Act.put, List.setIfInBounds_toArray, List.set_cons_zero, List.set_cons_succ]
  refine wpAnyH_take (i := 4) (v := ?v4_4) rfl (by kernel_rfl) (by kernel_rfl) (by kernel_rfl) (fun _ _ _ h => h) (Or.inl ⟨by rfl, ?y4_4⟩) hS ?_
  case y4_4 => (intro w hSw; have c0 := (hSw.1).cell; have c1 := (hSw.2).cell; go_simp; try with_reducible rfl)
  try simp only [List.getElem_toArray, List.getElem_cons_succ, List.getElem_cons_zero, Act.put, List.setIfInBounds_toArray, List.set_cons_zero, List.set_cons_succ]
  refine wpAnyH_take (i := 5) (v := ?v5_4) rfl (by kernel_rfl) (by kernel_rfl) (by kernel_rfl) (fun _ _ _ h => h) (Or.inl ⟨by rfl, ?y5_4⟩) hS ?_
  case y5_4 => (intro w hSw; go_simp; try with_reducible rfl)
  try simp only [List.getElem_toArray, List.getElem_cons_succ, List.getElem_cons_zero, Act.put, List.setIfInBounds_toArray, List.set_cons_zero, List.set_cons_succ]
  refine wpAnyH_take (i := 6) (v := ?v6_4) rfl (by kernel_rfl) (by kernel_rfl) (by kernel_rfl) (fun _ _ _ h => h) (Or.inl ⟨by rfl, ?y6_4⟩) hS ?_
  case y6_4 => (intro w hSw; go_simp; try with_reducible rfl)
  try simp only [List.getElem_toArray, List.getElem_cons_succ, List.getElem_cons_zero, Act.put, List.setIfInBounds_toArray, List.set_cons_zero, List.set_cons_succ]
  refine wpAnyH_take (i := 7) (v := ?v7_4) rfl (by kernel_rfl) (by kernel_rfl) (by kernel_rfl) (fun _ _ _ h => h) (Or.inl ⟨by rfl, ?y7_4⟩) hS ?_
  case y7_4 => (intro w hSw; have c0 := (hSw.1).cell; have c1 := (hSw.2).cell; go_simp; try with_reducible rfl)
  try simp only [List.getElem_toArray, List.getElem_cons_succ, List.getElem_cons_zero, Act.put, List.setIfInBounds_toArray, List.set_cons_zero, List.set_cons_succ]
  refine wpAnyH_ready (rs := [8]) (by kernel_rfl) (by simp) (AllReadyH.cons rfl (fun K hK => ?_) AllReadyH.nil)
  go_simp
  refine (BO.out _ _ _).mono ?_
  rintro e w1 ⟨rfl, hb1⟩
  try go_wp2_with fail
  refine hK.out _ _ ⟨hS.1.below hb1, hS.2.below hb1⟩ (fun hS => ?_)
  clear hK K
  try simp only [List.getElem_toArray, List.getElem_cons_succ, List.getElem_cons_zero, Act.put, List.setIfInBounds_toArray, List.set_cons_zero, List.set_cons_succ]
  refine wpAnyH_take (i := 9) (v := ?v9_4) rfl (by kernel_rfl) (by kernel_rfl) (by kernel_rfl) (fun _ _ _ h => h) (Or.inl ⟨by rfl, ?y9_4⟩) hS ?_
  case y9_4 => (intro w hSw; go_simp; try with_reducible rfl)
  try simp only [List.getElem_toArray, List.getElem_cons_succ, List.getElem_cons_zero, Act.put, List.setIfInBounds_toArray, List.set_cons_zero, List.set_cons_succ]
  refine wpAnyH_done (by kernel_rfl) ?_ _
  go_wp2_with (first | ((with_reducible show wpList _ _ _ _ _ _); refine wpList_storeW rfl 28 (.tmp 8) (.tmp 44) rfl (w1.heap.size) #[.int .u8 (readP x.m.p1).dn, .bool (readP x.m.p1).la, .int .u8 (readP x.m.p1).sh] rfl rfl 28 _ (show Blk _ (w1.heap.size) #[.int .u8 0, .bool false, .int .u8 0] 28 from (by repeat' (first | (with_reducible first | exact Hid.out (by assumption) | exact Blk.new _ _ _ | (refine Blk.new_at _ _ _ _ ?_; simp; done) | refine Blk.alloc ?_ _ | refine Blk.drewN ?_ _ | refine Blk.drew ?_ | apply Blk.set | refine Blk.put ?_ (by assumption) (by first | (simp; done) | (simp; omega) | omega) | refine Blk.below ?_ (by assumption)) | (refine Blk.setAt ?_ (by first | (simp; done) | (simp; omega))) | rfl))) (by kernel_rfl) rfl (by first | (with_reducible assumption) | simp [Value.oneCell']) ?_; intro w2 hp_w2 K_w2) | go_in)
  go_ret
  exact ⟨rfl, hh.out _ (by repeat' (first | (with_reducible first | exact Below.refl _ _ | assumption | refine below_alloc ?_ _ | refine Below.drew ?_ | refine below_drewN ?_ _ | refine below_then ?_ (by assumption) | refine below_put ?_ (by assumption) (by first | (simp; done) | (simp; omega) | omega) | refine Below.setCell ?_ ?_ _) | (simp; done) | (simp; omega) | omega)), kpx_of (by repeat' (first | (with_reducible first | exact Below.refl _ _ | assumption | refine below_alloc ?_ _ | refine Below.drew ?_ | refine below_drewN ?_ _ | refine below_then ?_ (by assumption) | refine below_put ?_ (by assumption) (by first | (simp; done) | (simp; omega) | omega) | refine Below.setCell ?_ ?_ _) | (simp; done) | (simp; omega) | omega))⟩
theorem gg_p6 {w0 : World} {V : Nat → Value} {bb gc mc B H : Nat} (L : LiesX V bb B H) (w : World) (x : Bx) (a : Int) (ha : U16 a) (h : RelX 59 w0 V bb H w x) (hB : B ≤ w.heap.size) (cg : Blk w gc #[.pointer (some ⟨bb, 0, none⟩)] 56) (cm : Blk w mc #[.pointer (some ⟨bb, 0, none⟩)] 80) (ng : gc ≠ bb) (nm : mc ≠ bb) (hp : isPort a = true) (hk : a % 32 = 6) : Calls Try.prog 31 #[.int .u16 a, .pointer (some ⟨gc, 0, none⟩), .pointer (some ⟨mc, 0, none⟩)] w fun e w' => e = .returned (.int .u8 (mainG x.m a)) ∧ RelX 59 w0 V bb H w' (mainGS x a) ∧ Kp 0 (InX V bb) w w' := by
  have e1 : mainG x.m a = x.m.bm.ln % 256 := by unfold mainG; rw [hp, if_pos rfl, hk]; unfold portG; rw [if_neg (by decide), if_neg (by decide), if_neg (by decide), if_pos rfl]
  have e2 : mainGS x a = x := by unfold mainGS; rw [hp, if_pos rfl, hk]; unfold portGS; rw [if_neg (by decide), if_neg (by decide)]
  rw [e1, e2]
  have d : 53248 ≤ a ∧ a < 57344 := by unfold isPort at hp; simpa using hp
  obtain ⟨d1, d2⟩ := d; have RG := Lib.hid (region_ports a d1 d2 w); have hh := Lib.hid (fun w' (k : Below w.heap.size w w') => h.stable L (St.of k (by omega) (Nat.le_refl _))); obtain ⟨h1, ⟨wv, hbx, hws⟩, hm, hf, hi⟩ := h; have lb := hbx.lt; have g1 : w.cell? ⟨mc, 0, none⟩ = some (.pointer (some ⟨bb, 0, none⟩)) := cm.cell 0
  have c1 : w.cell? ⟨bb, 61, none⟩ = some (.int .i64 x.m.bm.ln) := (hbx.cell 61).trans (bx61 ..)
  clear e1 e2 hbx hws hm hf hi h1 hp cg cm
  go_enter Try.func31, Try.ntmps31
  go_wp2_with (first | ((with_reducible show wpList _ _ _ _ _ _); refine wpList_storeW rfl 28 (.tmp 8) (.tmp 44) rfl (w1.heap.size) #[.int .u8 (readP x.m.p1).dn, .bool (readP x.m.p1).la, .int .u8 (readP x.m.p1).sh] rfl rfl 28 _ (show Blk _ (w1.heap.size) #[.int .u8 0, .bool false, .int .u8 0] 28 from (by repeat' (first | (with_reducible first | exact Hid.out (by assumption) | exact Blk.new _ _ _ | (refine Blk.new_at _ _ _ _ ?_; simp; done) | refine Blk.alloc ?_ _ | refine Blk.drewN ?_ _ | refine Blk.drew ?_ | apply Blk.set | refine Blk.put ?_ (by assumption) (by first | (simp; done) | (simp; omega) | omega) | refine Blk.below ?_ (by assumption)) | (refine Blk.setAt ?_ (by first | (simp; done) | (simp; omega))) | rfl))) (by kernel_rfl) rfl (by first | (with_reducible assumption) | simp [Value.oneCell']) ?_; intro w2 hp_w2 K_w2))
  refine RG.out.mono ?_
  rintro e w' ⟨rfl, rfl⟩
  go_wp2_with (first | ((with_reducible show wpList _ _ _ _ _ _); refine wpList_storeW rfl 28 (.tmp 8) (.tmp 44) rfl (w1.heap.size) #[.int .u8 (readP x.m.p1).dn, .bool (readP x.m.p1).la, .int .u8 (readP x.m.p1).sh] rfl rfl 28 _ (show Blk _ (w1.heap.size) #[.int .u8 0, .bool false, .int .u8 0] 28 from (by repeat' (first | (with_reducible first | exact Hid.out (by assumption) | exact Blk.new _ _ _ | (refine Blk.new_at _ _ _ _ ?_; simp; done) | refine Blk.alloc ?_ _ | refine Blk.drewN ?_ _ | refine Blk.drew ?_ | apply Blk.set | refine Blk.put ?_ (by assumption) (by first | (simp; done) | (simp; omega) | omega) | refine Blk.below ?_ (by assumption)) | (refine Blk.setAt ?_ (by first | (simp; done) | (simp; omega))) | rfl))) (by kernel_rfl) rfl (by first | (with_reducible assumption) | simp [Value.oneCell']) ?_; intro w2 hp_w2 K_w2) | go_in)
  go_ret
  exact ⟨by first | rfl | exact ret1 (vi (wrap8 _)), hh.out _ (by repeat' (first | (with_reducible first | exact Below.refl _ _ | assumption | refine below_alloc ?_ _ | refine Below.drew ?_ | refine below_drewN ?_ _ | refine below_then ?_ (by assumption) | refine below_put ?_ (by assumption) (by first | (simp; done) | (simp; omega) | omega) | refine Below.setCell ?_ ?_ _) | (simp; done) | (simp; omega) | omega)), kpx_of (by repeat' (first | (with_reducible first | exact Below.refl _ _ | assumption | refine below_alloc ?_ _ | refine Below.drew ?_ | refine below_drewN ?_ _ | refine below_then ?_ (by assumption) | refine below_put ?_ (by assumption) (by first | (simp; done) | (simp; omega) | omega) | refine Below.setCell ?_ ?_ _) | (simp; done) | (simp; omega) | omega))⟩
theorem gg_p7 {w0 : World} {V : Nat → Value} {bb gc mc B H : Nat} (L : LiesX V bb B H) (w : World) (x : Bx) (a : Int) (ha : U16 a) (h : RelX 59 w0 V bb H w x) (hB : B ≤ w.heap.size) (cg : Blk w gc #[.pointer (some ⟨bb, 0, none⟩)] 56) (cm : Blk w mc #[.pointer (some ⟨bb, 0, none⟩)] 80) (ng : gc ≠ bb) (nm : mc ≠ bb) (hp : isPort a = true) (hk : a % 32 = 7) : Calls Try.prog 31 #[.int .u16 a, .pointer (some ⟨gc, 0, none⟩), .pointer (some ⟨mc, 0, none⟩)] w fun e w' => e = .returned (.int .u8 (mainG x.m a)) ∧ RelX 59 w0 V bb H w' (mainGS x a) ∧ Kp 0 (InX V bb) w w' := by
  have e1 : mainG x.m a = x.m.bm.pt % 256 := by unfold mainG; rw [hp, if_pos rfl, hk]; unfold portG; rw [if_neg (by decide), if_neg (by decide), if_neg (by decide), if_neg (by decide), if_pos rfl]
  have e2 : mainGS x a = x := by unfold mainGS; rw [hp, if_pos rfl, hk]; unfold portGS; rw [if_neg (by decide), if_neg (by decide)]
  rw [e1, e2]
  have d : 53248 ≤ a ∧ a < 57344 := by unfold isPort at hp; simpa using hp
  obtain ⟨d1, d2⟩ := d; have RG := Lib.hid (region_ports a d1 d2 w); have hh := Lib.hid (fun w' (k : Below w.heap.size w w') => h.stable L (St.of k (by omega) (Nat.le_refl _))); obtain ⟨h1, ⟨wv, hbx, hws⟩, hm, hf, hi⟩ := h; have lb := hbx.lt; have g1 : w.cell? ⟨mc, 0, none⟩ = some (.pointer (some ⟨bb, 0, none⟩)) := cm.cell 0
  have c1 : w.cell? ⟨bb, 62, none⟩ = some (.int .i64 x.m.bm.pt) := (hbx.cell 62).trans (bx62 ..)
  clear e1 e2 hbx hws hm hf hi h1 hp cg cm
  go_enter Try.func31, Try.ntmps31
  go_wp2_with (first | ((with_reducible show wpList _ _ _ _ _ _); refine wpList_storeW rfl 28 (.tmp 8) (.tmp 44) rfl (w1.heap.size) #[.int .u8 (readP x.m.p1).dn, .bool (readP x.m.p1).la, .int .u8 (readP x.m.p1).sh] rfl rfl 28 _ (show Blk _ (w1.heap.size) #[.int .u8 0, .bool false, .int .u8 0] 28 from (by repeat' (first | (with_reducible first | exact Hid.out (by assumption) | exact Blk.new _ _ _ | (refine Blk.new_at _ _ _ _ ?_; simp; done) | refine Blk.alloc ?_ _ | refine Blk.drewN ?_ _ | refine Blk.drew ?_ | apply Blk.set | refine Blk.put ?_ (by assumption) (by first | (simp; done) | (simp; omega) | omega) | refine Blk.below ?_ (by assumption)) | (refine Blk.setAt ?_ (by first | (simp; done) | (simp; omega))) | rfl))) (by kernel_rfl) rfl (by first | (with_reducible assumption) | simp [Value.oneCell']) ?_; intro w2 hp_w2 K_w2))
  refine RG.out.mono ?_
  rintro e w' ⟨rfl, rfl⟩
  go_wp2_with (first | ((with_reducible show wpList _ _ _ _ _ _); refine wpList_storeW rfl 28 (.tmp 8) (.tmp 44) rfl (w1.heap.size) #[.int .u8 (readP x.m.p1).dn, .bool (readP x.m.p1).la, .int .u8 (readP x.m.p1).sh] rfl rfl 28 _ (show Blk _ (w1.heap.size) #[.int .u8 0, .bool false, .int .u8 0] 28 from (by repeat' (first | (with_reducible first | exact Hid.out (by assumption) | exact Blk.new _ _ _ | (refine Blk.new_at _ _ _ _ ?_; simp; done) | refine Blk.alloc ?_ _ | refine Blk.drewN ?_ _ | refine Blk.drew ?_ | apply Blk.set | refine Blk.put ?_ (by assumption) (by first | (simp; done) | (simp; omega) | omega) | refine Blk.below ?_ (by assumption)) | (refine Blk.setAt ?_ (by first | (simp; done) | (simp; omega))) | rfl))) (by kernel_rfl) rfl (by first | (with_reducible assumption) | simp [Value.oneCell']) ?_; intro w2 hp_w2 K_w2) | go_in)
  go_ret
  exact ⟨by first | rfl | exact ret1 (vi (wrap8 _)), hh.out _ (by repeat' (first | (with_reducible first | exact Below.refl _ _ | assumption | refine below_alloc ?_ _ | refine Below.drew ?_ | refine below_drewN ?_ _ | refine below_then ?_ (by assumption) | refine below_put ?_ (by assumption) (by first | (simp; done) | (simp; omega) | omega) | refine Below.setCell ?_ ?_ _) | (simp; done) | (simp; omega) | omega)), kpx_of (by repeat' (first | (with_reducible first | exact Below.refl _ _ | assumption | refine below_alloc ?_ _ | refine Below.drew ?_ | refine below_drewN ?_ _ | refine below_then ?_ (by assumption) | refine below_put ?_ (by assumption) (by first | (simp; done) | (simp; omega) | omega) | refine Below.setCell ?_ ?_ _) | (simp; done) | (simp; omega) | omega))⟩
theorem gg_p17 {w0 : World} {V : Nat → Value} {bb gc mc B H : Nat} (L : LiesX V bb B H) (w : World) (x : Bx) (a : Int) (ha : U16 a) (h : RelX 59 w0 V bb H w x) (hB : B ≤ w.heap.size) (cg : Blk w gc #[.pointer (some ⟨bb, 0, none⟩)] 56) (cm : Blk w mc #[.pointer (some ⟨bb, 0, none⟩)] 80) (ng : gc ≠ bb) (nm : mc ≠ bb) (hp : isPort a = true) (hk : a % 32 = 17) : Calls Try.prog 31 #[.int .u16 a, .pointer (some ⟨gc, 0, none⟩), .pointer (some ⟨mc, 0, none⟩)] w fun e w' => e = .returned (.int .u8 (mainG x.m a)) ∧ RelX 59 w0 V bb H w' (mainGS x a) ∧ Kp 0 (InX V bb) w w' := by
  have e1 : mainG x.m a = x.m.m1 := by unfold mainG; rw [hp, if_pos rfl, hk]; unfold portG; rw [if_neg (by decide), if_neg (by decide), if_neg (by decide), if_neg (by decide), if_neg (by decide), if_neg (by decide), if_neg (by decide), if_pos rfl]
  have e2 : mainGS x a = x := by unfold mainGS; rw [hp, if_pos rfl, hk]; unfold portGS; rw [if_neg (by decide), if_neg (by decide)]
  rw [e1, e2]
  have d : 53248 ≤ a ∧ a < 57344 := by unfold isPort at hp; simpa using hp
  obtain ⟨d1, d2⟩ := d; have RG := Lib.hid (region_ports a d1 d2 w); have hh := Lib.hid (fun w' (k : Below w.heap.size w w') => h.stable L (St.of k (by omega) (Nat.le_refl _))); obtain ⟨h1, ⟨wv, hbx, hws⟩, hm, hf, hi⟩ := h; have lb := hbx.lt; have g1 : w.cell? ⟨mc, 0, none⟩ = some (.pointer (some ⟨bb, 0, none⟩)) := cm.cell 0
  have c1 : w.cell? ⟨bb, 70, none⟩ = some (.int .u8 x.m.m1) := (hbx.cell 70).trans (bx70 ..)
  clear e1 e2 hbx hws hm hf hi h1 hp cg cm
  go_enter Try.func31, Try.ntmps31
  go_wp2_with (first | ((with_reducible show wpList _ _ _ _ _ _); refine wpList_storeW rfl 28 (.tmp 8) (.tmp 44) rfl (w1.heap.size) #[.int .u8 (readP x.m.p1).dn, .bool (readP x.m.p1).la, .int .u8 (readP x.m.p1).sh] rfl rfl 28 _ (show Blk _ (w1.heap.size) #[.int .u8 0, .bool false, .int .u8 0] 28 from (by repeat' (first | (with_reducible first | exact Hid.out (by assumption) | exact Blk.new _ _ _ | (refine Blk.new_at _ _ _ _ ?_; simp; done) | refine Blk.alloc ?_ _ | refine Blk.drewN ?_ _ | refine Blk.drew ?_ | apply Blk.set | refine Blk.put ?_ (by assumption) (by first | (simp; done) | (simp; omega) | omega) | refine Blk.below ?_ (by assumption)) | (refine Blk.setAt ?_ (by first | (simp; done) | (simp; omega))) | rfl))) (by kernel_rfl) rfl (by first | (with_reducible assumption) | simp [Value.oneCell']) ?_; intro w2 hp_w2 K_w2))
  refine RG.out.mono ?_
  rintro e w' ⟨rfl, rfl⟩
  go_wp2_with (first | ((with_reducible show wpList _ _ _ _ _ _); refine wpList_storeW rfl 28 (.tmp 8) (.tmp 44) rfl (w1.heap.size) #[.int .u8 (readP x.m.p1).dn, .bool (readP x.m.p1).la, .int .u8 (readP x.m.p1).sh] rfl rfl 28 _ (show Blk _ (w1.heap.size) #[.int .u8 0, .bool false, .int .u8 0] 28 from (by repeat' (first | (with_reducible first | exact Hid.out (by assumption) | exact Blk.new _ _ _ | (refine Blk.new_at _ _ _ _ ?_; simp; done) | refine Blk.alloc ?_ _ | refine Blk.drewN ?_ _ | refine Blk.drew ?_ | apply Blk.set | refine Blk.put ?_ (by assumption) (by first | (simp; done) | (simp; omega) | omega) | refine Blk.below ?_ (by assumption)) | (refine Blk.setAt ?_ (by first | (simp; done) | (simp; omega))) | rfl))) (by kernel_rfl) rfl (by first | (with_reducible assumption) | simp [Value.oneCell']) ?_; intro w2 hp_w2 K_w2) | go_in)
  go_ret
  exact ⟨by first | rfl | exact ret1 (vi (wrap8 _)), hh.out _ (by repeat' (first | (with_reducible first | exact Below.refl _ _ | assumption | refine below_alloc ?_ _ | refine Below.drew ?_ | refine below_drewN ?_ _ | refine below_then ?_ (by assumption) | refine below_put ?_ (by assumption) (by first | (simp; done) | (simp; omega) | omega) | refine Below.setCell ?_ ?_ _) | (simp; done) | (simp; omega) | omega)), kpx_of (by repeat' (first | (with_reducible first | exact Below.refl _ _ | assumption | refine below_alloc ?_ _ | refine Below.drew ?_ | refine below_drewN ?_ _ | refine below_then ?_ (by assumption) | refine below_put ?_ (by assumption) (by first | (simp; done) | (simp; omega) | omega) | refine Below.setCell ?_ ?_ _) | (simp; done) | (simp; omega) | omega))⟩
theorem both_one (c : Bool) (w : World) : Calls Try.prog 35 #[.bool c, .bool false] w fun e w' => e = .returned (.int .u8 (b1 c 1)) ∧ Below w.heap.size w w' := by
  have := both_any c false w
  rw [show b1 c 1 + b1 false 2 = b1 c 1 from by cases c <;> decide] at this
  exact this
theorem gg_p8 {w0 : World} {V : Nat → Value} {bb gc mc B H : Nat} (L : LiesX V bb B H) (w : World) (x : Bx) (a : Int) (ha : U16 a) (h : RelX 59 w0 V bb H w x) (hB : B ≤ w.heap.size) (cg : Blk w gc #[.pointer (some ⟨bb, 0, none⟩)] 56) (cm : Blk w mc #[.pointer (some ⟨bb, 0, none⟩)] 80) (ng : gc ≠ bb) (nm : mc ≠ bb) (hp : isPort a = true) (hk : a % 32 = 8) : Calls Try.prog 31 #[.int .u16 a, .pointer (some ⟨gc, 0, none⟩), .pointer (some ⟨mc, 0, none⟩)] w fun e w' => e = .returned (.int .u8 (mainG x.m a)) ∧ RelX 59 w0 V bb H w' (mainGS x a) ∧ Kp 0 (InX V bb) w w' := by
  have e1 : mainG x.m a = b1 x.m.bm.rg 1 := by unfold mainG; rw [hp, if_pos rfl, hk]; unfold portG; rw [if_neg (by decide), if_neg (by decide), if_neg (by decide), if_neg (by decide), if_neg (by decide), if_pos rfl]
  have e2 : mainGS x a = x := by unfold mainGS; rw [hp, if_pos rfl, hk]; unfold portGS; rw [if_neg (by decide), if_neg (by decide)]
  rw [e1, e2]
  have d : 53248 ≤ a ∧ a < 57344 := by unfold isPort at hp; simpa using hp
  obtain ⟨d1, d2⟩ := d; have RG := Lib.hid (region_ports a d1 d2 w); have hh := Lib.hid (fun w' (k : Below w.heap.size w w') => h.stable L (St.of k (by omega) (Nat.le_refl _))); obtain ⟨h1, ⟨wv, hbx, hws⟩, hm, hf, hi⟩ := h; have lb := hbx.lt; have g1 : w.cell? ⟨mc, 0, none⟩ = some (.pointer (some ⟨bb, 0, none⟩)) := cm.cell 0
  have c1 : w.cell? ⟨bb, 63, none⟩ = some (.bool x.m.bm.rg) := (hbx.cell 63).trans (bx63 ..)
  have BO := Lib.hid (both_one x.m.bm.rg)
  clear e1 e2 hbx hws hm hf hi h1 hp cg cm
  go_enter Try.func31, Try.ntmps31
  go_wp2_with (first | ((with_reducible show wpList _ _ _ _ _ _); refine wpList_storeW rfl 28 (.tmp 8) (.tmp 44) rfl (w1.heap.size) #[.int .u8 (readP x.m.p1).dn, .bool (readP x.m.p1).la, .int .u8 (readP x.m.p1).sh] rfl rfl 28 _ (show Blk _ (w1.heap.size) #[.int .u8 0, .bool false, .int .u8 0] 28 from (by repeat' (first | (with_reducible first | exact Hid.out (by assumption) | exact Blk.new _ _ _ | (refine Blk.new_at _ _ _ _ ?_; simp; done) | refine Blk.alloc ?_ _ | refine Blk.drewN ?_ _ | refine Blk.drew ?_ | apply Blk.set | refine Blk.put ?_ (by assumption) (by first | (simp; done) | (simp; omega) | omega) | refine Blk.below ?_ (by assumption)) | (refine Blk.setAt ?_ (by first | (simp; done) | (simp; omega))) | rfl))) (by kernel_rfl) rfl (by first | (with_reducible assumption) | simp [Value.oneCell']) ?_; intro w2 hp_w2 K_w2))
  refine RG.out.mono ?_
  rintro e w' ⟨rfl, rfl⟩
  go_wp2_with (first | ((with_reducible show wpList _ _ _ _ _ _); refine wpList_storeW rfl 28 (.tmp 8) (.tmp 44) rfl (w1.heap.size) #[.int .u8 (readP x.m.p1).dn, .bool (readP x.m.p1).la, .int .u8 (readP x.m.p1).sh] rfl rfl 28 _ (show Blk _ (w1.heap.size) #[.int .u8 0, .bool false, .int .u8 0] 28 from (by repeat' (first | (with_reducible first | exact Hid.out (by assumption) | exact Blk.new _ _ _ | (refine Blk.new_at _ _ _ _ ?_; simp; done) | refine Blk.alloc ?_ _ | refine Blk.drewN ?_ _ | refine Blk.drew ?_ | apply Blk.set | refine Blk.put ?_ (by assumption) (by first | (simp; done) | (simp; omega) | omega) | refine Blk.below ?_ (by assumption)) | (refine Blk.setAt ?_ (by first | (simp; done) | (simp; omega))) | rfl))) (by kernel_rfl) rfl (by first | (with_reducible assumption) | simp [Value.oneCell']) ?_; intro w2 hp_w2 K_w2))
  refine (BO.out _).mono ?_
  rintro e w1 ⟨rfl, hb1⟩
  go_wp2_with (first | ((with_reducible show wpList _ _ _ _ _ _); refine wpList_storeW rfl 28 (.tmp 8) (.tmp 44) rfl (w1.heap.size) #[.int .u8 (readP x.m.p1).dn, .bool (readP x.m.p1).la, .int .u8 (readP x.m.p1).sh] rfl rfl 28 _ (show Blk _ (w1.heap.size) #[.int .u8 0, .bool false, .int .u8 0] 28 from (by repeat' (first | (with_reducible first | exact Hid.out (by assumption) | exact Blk.new _ _ _ | (refine Blk.new_at _ _ _ _ ?_; simp; done) | refine Blk.alloc ?_ _ | refine Blk.drewN ?_ _ | refine Blk.drew ?_ | apply Blk.set | refine Blk.put ?_ (by assumption) (by first | (simp; done) | (simp; omega) | omega) | refine Blk.below ?_ (by assumption)) | (refine Blk.setAt ?_ (by first | (simp; done) | (simp; omega))) | rfl))) (by kernel_rfl) rfl (by first | (with_reducible assumption) | simp [Value.oneCell']) ?_; intro w2 hp_w2 K_w2) | go_in)
  go_ret
  exact ⟨rfl, hh.out _ (by repeat' (first | (with_reducible first | exact Below.refl _ _ | assumption | refine below_alloc ?_ _ | refine Below.drew ?_ | refine below_drewN ?_ _ | refine below_then ?_ (by assumption) | refine below_put ?_ (by assumption) (by first | (simp; done) | (simp; omega) | omega) | refine Below.setCell ?_ ?_ _) | (simp; done) | (simp; omega) | omega)), kpx_of (by repeat' (first | (with_reducible first | exact Below.refl _ _ | assumption | refine below_alloc ?_ _ | refine Below.drew ?_ | refine below_drewN ?_ _ | refine below_then ?_ (by assumption) | refine below_put ?_ (by assumption) (by first | (simp; done) | (simp; omega) | omega) | refine Below.setCell ?_ ?_ _) | (simp; done) | (simp; omega) | omega))⟩
theorem gg_none {w0 : World} {V : Nat → Value} {bb gc mc B H : Nat} (L : LiesX V bb B H) (w : World) (x : Bx) (a : Int) (ha : U16 a) (h : RelX 59 w0 V bb H w x) (hB : B ≤ w.heap.size) (cg : Blk w gc #[.pointer (some ⟨bb, 0, none⟩)] 56) (cm : Blk w mc #[.pointer (some ⟨bb, 0, none⟩)] 80) (ng : gc ≠ bb) (nm : mc ≠ bb) (hp : isPort a = true) (n0 : a % 32 ≠ 0) (n1 : a % 32 ≠ 1) (n4 : a % 32 ≠ 4) (n6 : a % 32 ≠ 6) (n7 : a % 32 ≠ 7) (n8 : a % 32 ≠ 8) (n16 : a % 32 ≠ 16) (n17 : a % 32 ≠ 17) : Calls Try.prog 31 #[.int .u16 a, .pointer (some ⟨gc, 0, none⟩), .pointer (some ⟨mc, 0, none⟩)] w fun e w' => e = .returned (.int .u8 (mainG x.m a)) ∧ RelX 59 w0 V bb H w' (mainGS x a) ∧ Kp 0 (InX V bb) w w' := by
  have e1 : mainG x.m a = 255 := by unfold mainG; rw [hp, if_pos rfl]; unfold portG; rw [if_neg n0, if_neg n1, if_neg n4, if_neg n6, if_neg n7, if_neg n8, if_neg n16, if_neg n17]
  have e2 : mainGS x a = x := by unfold mainGS; rw [hp, if_pos rfl]; unfold portGS; rw [if_neg n0, if_neg n1]
  rw [e1, e2]
  obtain ⟨p, hpp⟩ : ∃ p, p = a % 32 := ⟨_, rfl⟩
  rw [← hpp] at n0 n1 n4 n6 n7 n8 n16 n17
  have m0 : (p == 0) = false := by simpa using n0
  have m1 : (p == 1) = false := by simpa using n1
  have m4 : (p == 4) = false := by simpa using n4
  have m6 : (p == 6) = false := by simpa using n6
  have m7 : (p == 7) = false := by simpa using n7
  have m8 : (p == 8) = false := by simpa using n8
  have m16 : (p == 16) = false := by simpa using n16
  have m17 : (p == 17) = false := by simpa using n17
  have hk : a % 32 = p := hpp.symm
  clear n0 n1 n4 n6 n7 n8 n16 n17 hpp
  have d : 53248 ≤ a ∧ a < 57344 := by unfold isPort at hp; simpa using hp
  obtain ⟨d1, d2⟩ := d
  have RG := Lib.hid (region_ports a d1 d2 w)
  have hh := Lib.hid h
  clear e1 e2 h hp L
  go_enter Try.func31, Try.ntmps31
  go_wp2_with (first | ((with_reducible show wpList _ _ _ _ _ _); refine wpList_storeW rfl 28 (.tmp 8) (.tmp 44) rfl (w1.heap.size) #[.int .u8 (readP x.m.p1).dn, .bool (readP x.m.p1).la, .int .u8 (readP x.m.p1).sh] rfl rfl 28 _ (show Blk _ (w1.heap.size) #[.int .u8 0, .bool false, .int .u8 0] 28 from (by repeat' (first | (with_reducible first | exact Hid.out (by assumption) | exact Blk.new _ _ _ | (refine Blk.new_at _ _ _ _ ?_; simp; done) | refine Blk.alloc ?_ _ | refine Blk.drewN ?_ _ | refine Blk.drew ?_ | apply Blk.set | refine Blk.put ?_ (by assumption) (by first | (simp; done) | (simp; omega) | omega) | refine Blk.below ?_ (by assumption)) | (refine Blk.setAt ?_ (by first | (simp; done) | (simp; omega))) | rfl))) (by kernel_rfl) rfl (by first | (with_reducible assumption) | simp [Value.oneCell']) ?_; intro w2 hp_w2 K_w2))
  refine RG.out.mono ?_
  rintro e w' ⟨rfl, rfl⟩
  go_wp2_with (first | ((with_reducible show wpList _ _ _ _ _ _); refine wpList_storeW rfl 28 (.tmp 8) (.tmp 44) rfl (w1.heap.size) #[.int .u8 (readP x.m.p1).dn, .bool (readP x.m.p1).la, .int .u8 (readP x.m.p1).sh] rfl rfl 28 _ (show Blk _ (w1.heap.size) #[.int .u8 0, .bool false, .int .u8 0] 28 from (by repeat' (first | (with_reducible first | exact Hid.out (by assumption) | exact Blk.new _ _ _ | (refine Blk.new_at _ _ _ _ ?_; simp; done) | refine Blk.alloc ?_ _ | refine Blk.drewN ?_ _ | refine Blk.drew ?_ | apply Blk.set | refine Blk.put ?_ (by assumption) (by first | (simp; done) | (simp; omega) | omega) | refine Blk.below ?_ (by assumption)) | (refine Blk.setAt ?_ (by first | (simp; done) | (simp; omega))) | rfl))) (by kernel_rfl) rfl (by first | (with_reducible assumption) | simp [Value.oneCell']) ?_; intro w2 hp_w2 K_w2) | go_in)
  go_ret
  exact ⟨rfl, hh.out, kpx_drew (Drew.refl _)⟩
theorem gget_any {w0 : World} {V : Nat → Value} {bb gc mc B H : Nat} (L : LiesX V bb B H) (w : World) (x : Bx) (a : Int) (ha : U16 a) (h : RelX 59 w0 V bb H w x) (hB : B ≤ w.heap.size) (cg : Blk w gc #[.pointer (some ⟨bb, 0, none⟩)] 56) (cm : Blk w mc #[.pointer (some ⟨bb, 0, none⟩)] 80) (ng : gc ≠ bb) (nm : mc ≠ bb) : Calls Try.prog 31 #[.int .u16 a, .pointer (some ⟨gc, 0, none⟩), .pointer (some ⟨mc, 0, none⟩)] w fun e w' => e = .returned (.int .u8 (mainG x.m a)) ∧ RelX 59 w0 V bb H w' (mainGS x a) ∧ Kp 0 (InX V bb) w w' := by
  by_cases hp : isPort a = true
  · by_cases n0 : a % 32 = 0
    · exact gg_pad0 L w x a ha h hB cg cm ng nm hp n0
    by_cases n1 : a % 32 = 1
    · exact gg_pad1 L w x a ha h hB cg cm ng nm hp n1
    by_cases n4 : a % 32 = 4
    · exact gg_p4 L w x a ha h hB cg cm ng nm hp n4
    by_cases n6 : a % 32 = 6
    · exact gg_p6 L w x a ha h hB cg cm ng nm hp n6
    by_cases n7 : a % 32 = 7
    · exact gg_p7 L w x a ha h hB cg cm ng nm hp n7
    by_cases n8 : a % 32 = 8
    · exact gg_p8 L w x a ha h hB cg cm ng nm hp n8
    by_cases n16 : a % 32 = 16
    · exact gg_p16 L w x a ha h hB cg cm ng nm hp n16
    by_cases n17 : a % 32 = 17
    · exact gg_p17 L w x a ha h hB cg cm ng nm hp n17
    exact gg_none L w x a ha h hB cg cm ng nm hp n0 n1 n4 n6 n7 n8 n16 n17
  · have hq : ¬ (53248 ≤ a ∧ a < 57344) := by unfold isPort at hp; simpa using hp
    obtain ⟨a0, a1⟩ := ha
    by_cases c1 : a < 32768
    · exact gg_rom L w x a ⟨a0, a1⟩ h hB cg cm ng nm a0 c1
    by_cases c2 : a < 49152
    · exact gg_ram L w x a ⟨a0, a1⟩ h hB cg cm ng nm (by omega) c2
    by_cases c3 : a < 53248
    · exact gg_win L w x a ⟨a0, a1⟩ h hB cg cm ng nm (by omega) c3
    exact gg_no L w x a ⟨a0, a1⟩ h hB cg cm ng nm (by omega) (by omega)
end Go.Proofs.Ytimccpmdgfneoaa

/- The document's machine: what the other processor reads and writes. Conditions: the machine lies in a game. -/
namespace Go.Mq
open Go.RowKit
theorem kpx_cell {V : Nat → Value} {bb i g k : Nat} (hi : i < 5) (hg : (V i).ownBlock = some g) (w : World) (v : Value) : Kp 0 (InX V bb) w (w.setCell ⟨g, k, none⟩ v) := (Kp.refl 0 (InX V bb) w).setCell (Or.inr (Or.inr ⟨i, hi, hg⟩))
theorem kpx_bb {V : Nat → Value} {bb : Nat} {a b : World} (h : Kp 0 (· = bb) a b) : Kp 0 (InX V bb) a b := ⟨h.os, h.tape, h.output, h.size, fun k hk hl hx hw => h.block k hk hl (fun e => hx (Or.inl e)) hw⟩
end Go.Mq
namespace Go.Proofs.Ytimccpmdgfneoaa
open Go.RowKit Go.Mq
set_option linter.unusedVariables false
set_option linter.unusedSimpArgs false
set_option maxHeartbeats 2000000
set_option maxRecDepth 100000
theorem ga_rom {w0 : World} {V : Nat → Value} {bb mc B H : Nat} (L : LiesX V bb B H) (w : World) (x : Bx) (a : Int) (ha : U16 a) (h : RelX 59 w0 V bb H w x) (hB : B ≤ w.heap.size) (cm : Blk w mc #[.pointer (some ⟨bb, 0, none⟩)] 80) (nm : mc ≠ bb) (h0 : 0 ≤ a) (h1 : a < 32768) : Calls Try.prog 40 #[.int .u16 a, .pointer (some ⟨mc, 0, none⟩)] w fun e w' => e = .returned (.int .u8 (auxG x.m a)) ∧ RelX 59 w0 V bb H w' (auxGS x a) ∧ Kp 0 (InX V bb) w w' := by
  have np : isPort a = false := by unfold isPort; rw [decide_eq_false]; omega
  have l1 := h.fit.l1
  have e1 : auxG x.m a = (if a < (x.m.mem 1).length then (x.m.mem 1).getD a.toNat 0 else 255) := by
    unfold auxG
    by_cases c : a < ((x.m.mem 1).length : Int)
    · rw [if_pos ⟨c, h1⟩, if_pos c]
    · rw [if_neg (by omega), if_neg (by omega), if_neg (by omega), if_neg (by rw [np]; simp), if_neg c]
  have e2 : auxGS x a = x := by unfold auxGS; rw [if_neg (by rw [np]; simp)]
  rw [e1, e2]
  have RO := Lib.hid (romAt_any (V 1) (x.m.mem 1) a ha l1 w (gmv h 1 (by omega)))
  obtain ⟨r, hr⟩ : ∃ r, r = (if a < (x.m.mem 1).length then (x.m.mem 1).getD a.toNat 0 else 255) := ⟨_, rfl⟩
  rw [← hr] at RO ⊢
  clear e1 e2 hr
  have RG := Lib.hid (region_rom a h0 h1 w)
  have hh := Lib.hid h
  obtain ⟨-, ⟨wv, hbx, hws⟩, -, -, -⟩ := h
  have lb := hbx.lt
  have g1 : w.cell? ⟨mc, 0, none⟩ = some (.pointer (some ⟨bb, 0, none⟩)) := cm.cell 0
  have c31 : w.cell? ⟨bb, 31, none⟩ = some (V 1) := (hbx.cell 31).trans (bx31 ..)
  clear hbx hws cm np
  go_enter Try.func40, Try.ntmps40
  go_wp2_with fail
  refine RG.out.mono ?_
  rintro e w' ⟨rfl, rfl⟩
  go_wp2_with fail
  refine RO.out.mono ?_
  rintro e w' ⟨rfl, rfl⟩
  go_wp2
  go_ret
  exact ⟨rfl, hh.out, Kp.refl _ _ _⟩
theorem ga_ram {w0 : World} {V : Nat → Value} {bb mc B H : Nat} (L : LiesX V bb B H) (w : World) (x : Bx) (a : Int) (ha : U16 a) (h : RelX 59 w0 V bb H w x) (hB : B ≤ w.heap.size) (cm : Blk w mc #[.pointer (some ⟨bb, 0, none⟩)] 80) (nm : mc ≠ bb) (h0 : 32768 ≤ a) (h1 : a < 49152) : Calls Try.prog 40 #[.int .u16 a, .pointer (some ⟨mc, 0, none⟩)] w fun e w' => e = .returned (.int .u8 (auxG x.m a)) ∧ RelX 59 w0 V bb H w' (auxGS x a) ∧ Kp 0 (InX V bb) w w' := by
  have np : isPort a = false := by unfold isPort; rw [decide_eq_false]; omega
  have e1 : auxG x.m a = (x.m.mem 3).getD (a % 64).toNat 0 := by unfold auxG; rw [if_neg (by omega), if_pos (by omega)]
  have e2 : auxGS x a = x := by unfold auxGS; rw [if_neg (by rw [np]; simp)]
  rw [e1, e2]
  clear e1 e2
  have RG := Lib.hid (region_ram a h0 h1 w)
  have hh := Lib.hid h; have hs := gmv h; obtain ⟨h1, ⟨wv, hbx, hws⟩, hm, hf, hi⟩ := h; have lb := hbx.lt; have fb := hbx.free; have g1 : w.cell? ⟨mc, 0, none⟩ = some (.pointer (some ⟨bb, 0, none⟩)) := cm.cell 0; have c31 : w.cell? ⟨bb, 31, none⟩ = some (V 1) := (hbx.cell 31).trans (bx31 ..); have c32 : w.cell? ⟨bb, 32, none⟩ = some (V 2) := (hbx.cell 32).trans (bx32 ..); have c33 : w.cell? ⟨bb, 33, none⟩ = some (V 3) := (hbx.cell 33).trans (bx33 ..); have e2 := hf.l2; have e3 := hf.l3
  obtain ⟨k, hk⟩ : ∃ k : Nat, (a - 32768).tmod 64 = (k : Int) := ⟨((a - 32768).tmod 64).toNat, by have := Int.tmod_nonneg 64 (show 0 ≤ a - 32768 by omega); omega⟩
  have hk2 : (a - 32768) % 64 = (k : Int) := by rw [← hk, Int.tmod_eq_emod_of_nonneg (by omega)]
  have hk3 : a % 64 = (k : Int) := by omega
  obtain ⟨g, cap, hv, -, hc, hz, hl⟩ := hm.at 3 (by omega) k (by omega)
  rw [hv, e3] at c33
  have k1 : (k : Int) < 64 := by omega
  rw [hk3]
  simp only [Int.toNat_natCast]
  obtain ⟨q, hq⟩ : ∃ q, q = (x.m.mem 3).getD k 0 := ⟨_, rfl⟩
  rw [← hq] at hc ⊢
  obtain ⟨a0, a1⟩ := ha
  clear hq hv e2 e3 hm hf hs c31 c32 hk3 hk2 hbx hws hi h1 cm np
  go_enter Try.func40, Try.ntmps40
  go_wp2_with fail
  refine RG.out.mono ?_
  rintro e w' ⟨rfl, rfl⟩
  go_wp2
  go_ret
  exact ⟨rfl, hh.out, Kp.refl _ _ _⟩
theorem ga_win {w0 : World} {V : Nat → Value} {bb mc B H : Nat} (L : LiesX V bb B H) (w : World) (x : Bx) (a : Int) (ha : U16 a) (h : RelX 59 w0 V bb H w x) (hB : B ≤ w.heap.size) (cm : Blk w mc #[.pointer (some ⟨bb, 0, none⟩)] 80) (nm : mc ≠ bb) (h0 : 49152 ≤ a) (h1 : a < 53248) (hg : x.m.gr = true) : Calls Try.prog 40 #[.int .u16 a, .pointer (some ⟨mc, 0, none⟩)] w fun e w' => e = .returned (.int .u8 (auxG x.m a)) ∧ RelX 59 w0 V bb H w' (auxGS x a) ∧ Kp 0 (InX V bb) w w' := by
  have np : isPort a = false := by unfold isPort; rw [decide_eq_false]; omega
  have e1 : auxG x.m a = (x.m.mem 2).getD (a % 128).toNat 0 := by unfold auxG; rw [if_neg (by omega), if_neg (by omega), if_pos ⟨h0, h1, hg⟩]
  have e2 : auxGS x a = x := by unfold auxGS; rw [if_neg (by rw [np]; simp)]
  rw [e1, e2]
  clear e1 e2
  have RG := Lib.hid (region_win a h0 h1 w)
  have hh := Lib.hid h; have hs := gmv h; obtain ⟨h1, ⟨wv, hbx, hws⟩, hm, hf, hi⟩ := h; have lb := hbx.lt; have fb := hbx.free; have g1 : w.cell? ⟨mc, 0, none⟩ = some (.pointer (some ⟨bb, 0, none⟩)) := cm.cell 0; have c31 : w.cell? ⟨bb, 31, none⟩ = some (V 1) := (hbx.cell 31).trans (bx31 ..); have c32 : w.cell? ⟨bb, 32, none⟩ = some (V 2) := (hbx.cell 32).trans (bx32 ..); have c33 : w.cell? ⟨bb, 33, none⟩ = some (V 3) := (hbx.cell 33).trans (bx33 ..); have e2 := hf.l2; have e3 := hf.l3
  have c67 : w.cell? ⟨bb, 67, none⟩ = some (.bool true) := by rw [← hg]; exact (hbx.cell 67).trans (bx67 ..)
  obtain ⟨k, hk⟩ : ∃ k : Nat, a.tmod 128 = (k : Int) := ⟨(a.tmod 128).toNat, by have := Int.tmod_nonneg 128 ha.1; omega⟩
  have hk2 : a % 128 = (k : Int) := by rw [← hk, Int.tmod_eq_emod_of_nonneg ha.1]
  obtain ⟨g, cap, hv, -, hc, hz, hl⟩ := hm.at 2 (by omega) k (by omega)
  rw [hv, e2] at c32
  have k1 : (k : Int) < 128 := by omega
  rw [hk2]
  simp only [Int.toNat_natCast]
  obtain ⟨q, hq⟩ : ∃ q, q = (x.m.mem 2).getD k 0 := ⟨_, rfl⟩
  rw [← hq] at hc ⊢
  obtain ⟨a0, a1⟩ := ha
  have hk3 := hk2
  clear hq hv e2 e3 hm hf hs c31 c33 hk2 hbx hws hi h1 cm np hg
  go_enter Try.func40, Try.ntmps40
  go_wp2_with fail
  refine RG.out.mono ?_
  rintro e w' ⟨rfl, rfl⟩
  go_wp2
  go_ret
  exact ⟨rfl, hh.out, Kp.refl _ _ _⟩
theorem ga_closed {w0 : World} {V : Nat → Value} {bb mc B H : Nat} (L : LiesX V bb B H) (w : World) (x : Bx) (a : Int) (ha : U16 a) (h : RelX 59 w0 V bb H w x) (hB : B ≤ w.heap.size) (cm : Blk w mc #[.pointer (some ⟨bb, 0, none⟩)] 80) (nm : mc ≠ bb) (h0 : 49152 ≤ a) (h1 : a < 53248) (hg : x.m.gr = false) : Calls Try.prog 40 #[.int .u16 a, .pointer (some ⟨mc, 0, none⟩)] w fun e w' => e = .returned (.int .u8 (auxG x.m a)) ∧ RelX 59 w0 V bb H w' (auxGS x a) ∧ Kp 0 (InX V bb) w w' := by
  have np : isPort a = false := by unfold isPort; rw [decide_eq_false]; omega
  have e1 : auxG x.m a = 255 := by unfold auxG; rw [if_neg (by omega), if_neg (by omega), if_neg (by rw [hg]; simp), if_neg (by rw [np]; simp)]
  have e2 : auxGS x a = x := by unfold auxGS; rw [if_neg (by rw [np]; simp)]
  rw [e1, e2]
  clear e1 e2
  have RG := Lib.hid (region_win a h0 h1 w)
  have hh := Lib.hid h; have hs := gmv h; obtain ⟨h1, ⟨wv, hbx, hws⟩, hm, hf, hi⟩ := h; have lb := hbx.lt; have fb := hbx.free; have g1 : w.cell? ⟨mc, 0, none⟩ = some (.pointer (some ⟨bb, 0, none⟩)) := cm.cell 0; have c31 : w.cell? ⟨bb, 31, none⟩ = some (V 1) := (hbx.cell 31).trans (bx31 ..); have c32 : w.cell? ⟨bb, 32, none⟩ = some (V 2) := (hbx.cell 32).trans (bx32 ..); have c33 : w.cell? ⟨bb, 33, none⟩ = some (V 3) := (hbx.cell 33).trans (bx33 ..); have e2 := hf.l2; have e3 := hf.l3
  have c67 : w.cell? ⟨bb, 67, none⟩ = some (.bool false) := by rw [← hg]; exact (hbx.cell 67).trans (bx67 ..)
  clear e2 e3 hm hf hs c31 c33 c32 hbx hws hi h1 cm np hg
  go_enter Try.func40, Try.ntmps40
  go_wp2_with fail
  refine RG.out.mono ?_
  rintro e w' ⟨rfl, rfl⟩
  go_wp2
  go_ret
  exact ⟨rfl, hh.out, Kp.refl _ _ _⟩
theorem ga_mail {w0 : World} {V : Nat → Value} {bb mc B H : Nat} (L : LiesX V bb B H) (w : World) (x : Bx) (a : Int) (ha : U16 a) (h : RelX 59 w0 V bb H w x) (hB : B ≤ w.heap.size) (cm : Blk w mc #[.pointer (some ⟨bb, 0, none⟩)] 80) (nm : mc ≠ bb) (hp : isPort a = true) (hk : a % 32 = 24) : Calls Try.prog 40 #[.int .u16 a, .pointer (some ⟨mc, 0, none⟩)] w fun e w' => e = .returned (.int .u8 (auxG x.m a)) ∧ RelX 59 w0 V bb H w' (auxGS x a) ∧ Kp 0 (InX V bb) w w' := by
  have d : 53248 ≤ a ∧ a < 57344 := by unfold isPort at hp; simpa using hp
  have e1 : auxG x.m a = x.m.m0 := by unfold auxG; rw [if_neg (by omega), if_neg (by omega), if_neg (by omega), if_pos ⟨hp, hk⟩]
  have e2 : auxGS x a = { x with m := { x.m with rg := false } } := by unfold auxGS; rw [if_pos ⟨hp, hk⟩]
  rw [e1, e2]
  clear e1 e2
  have RG := Lib.hid (region_ports a d.1 d.2 w)
  obtain ⟨h1, ⟨wv, hbx, hws⟩, hm, hf, hi⟩ := h
  have lb := hbx.lt
  have fb := hbx.free
  have g1 : w.cell? ⟨mc, 0, none⟩ = some (.pointer (some ⟨bb, 0, none⟩)) := cm.cell 0
  have c71 : w.cell? ⟨bb, 71, none⟩ = some (.bool x.m.rg) := (hbx.cell 71).trans (bx71 ..)
  have c69 : w.cell? ⟨bb, 69, none⟩ = some (.int .u8 x.m.m0) := (hbx.cell 69).trans (bx69 ..)
  have lm := cm.lt
  have KB := Lib.hid hbx
  have ST := Lib.hid (And.intro h1 (And.intro hws (And.intro hm (And.intro hf hi))))
  obtain ⟨d1, d2⟩ := d
  clear hbx hws hm hf hi h1 hp cm
  go_enter Try.func40, Try.ntmps40
  go_wp2_with fail
  refine RG.out.mono ?_
  rintro e w' ⟨rfl, rfl⟩
  go_wp2
  go_ret
  exact ⟨rfl, RelX.box1 L ST.out KB.out ((But.refl bb w).setCell rfl _) (by decide) (Blk.set KB.out (bs71 V x wv false)) rfl rfl (inRg ST.out.2.2.2.2 false), ((But.refl bb w).setCell rfl _).kpx⟩
theorem ga_none {w0 : World} {V : Nat → Value} {bb mc B H : Nat} (L : LiesX V bb B H) (w : World) (x : Bx) (a : Int) (ha : U16 a) (h : RelX 59 w0 V bb H w x) (hB : B ≤ w.heap.size) (cm : Blk w mc #[.pointer (some ⟨bb, 0, none⟩)] 80) (nm : mc ≠ bb) (h0 : 53248 ≤ a) (hn : ¬ (isPort a = true ∧ a % 32 = 24)) : Calls Try.prog 40 #[.int .u16 a, .pointer (some ⟨mc, 0, none⟩)] w fun e w' => e = .returned (.int .u8 (auxG x.m a)) ∧ RelX 59 w0 V bb H w' (auxGS x a) ∧ Kp 0 (InX V bb) w w' := by
  have e1 : auxG x.m a = 255 := by unfold auxG; rw [if_neg (by omega), if_neg (by omega), if_neg (by omega), if_neg hn]
  have e2 : auxGS x a = x := by unfold auxGS; rw [if_neg hn]
  rw [e1, e2]
  clear e1 e2
  have hh := Lib.hid h
  clear h L cm
  by_cases d : a < 57344
  · have hp : isPort a = true := by unfold isPort; rw [decide_eq_true]; omega
    have n24 : ¬ a % 32 = 24 := fun e => hn ⟨hp, e⟩
    obtain ⟨p, hpp⟩ : ∃ p, p = a % 32 := ⟨_, rfl⟩
    rw [← hpp] at n24
    have m24 : (p == 24) = false := by simpa using n24
    have hk : a % 32 = p := hpp.symm
    have RG := Lib.hid (region_ports a h0 d w)
    clear hn hp n24 hpp
    go_enter Try.func40, Try.ntmps40
    go_wp2_with fail
    refine RG.out.mono ?_
    rintro e w' ⟨rfl, rfl⟩
    go_wp2
    go_ret
    exact ⟨rfl, hh.out, Kp.refl _ _ _⟩
  · have RG := Lib.hid (region_no a (by omega) (by have := ha.2; omega) w)
    clear hn
    go_enter Try.func40, Try.ntmps40
    go_wp2_with fail
    refine RG.out.mono ?_
    rintro e w' ⟨rfl, rfl⟩
    go_wp2
    go_ret
    exact ⟨rfl, hh.out, Kp.refl _ _ _⟩
theorem gaget_any {w0 : World} {V : Nat → Value} {bb mc B H : Nat} (L : LiesX V bb B H) (w : World) (x : Bx) (a : Int) (ha : U16 a) (h : RelX 59 w0 V bb H w x) (hB : B ≤ w.heap.size) (cm : Blk w mc #[.pointer (some ⟨bb, 0, none⟩)] 80) (nm : mc ≠ bb) : Calls Try.prog 40 #[.int .u16 a, .pointer (some ⟨mc, 0, none⟩)] w fun e w' => e = .returned (.int .u8 (auxG x.m a)) ∧ RelX 59 w0 V bb H w' (auxGS x a) ∧ Kp 0 (InX V bb) w w' := by
  by_cases c1 : a < 32768
  · exact ga_rom L w x a ha h hB cm nm ha.1 c1
  by_cases c2 : a < 49152
  · exact ga_ram L w x a ha h hB cm nm (by omega) c2
  by_cases c3 : a < 53248
  · cases hg : x.m.gr
    · exact ga_closed L w x a ha h hB cm nm (by omega) c3 hg
    · exact ga_win L w x a ha h hB cm nm (by omega) c3 hg
  by_cases c4 : isPort a = true ∧ a % 32 = 24
  · exact ga_mail L w x a ha h hB cm nm c4.1 c4.2
  · exact ga_none L w x a ha h hB cm nm (by omega) c4
end Go.Proofs.Ytimccpmdgfneoaa

/- The document's machine: what the other processor writes. Conditions: the machine lies in a game. -/
namespace Go.Proofs.Ytimccpmdgfneoaa
open Go.RowKit Go.Mq
set_option linter.unusedVariables false
set_option linter.unusedSimpArgs false
set_option maxHeartbeats 4000000
set_option maxRecDepth 100000
theorem gp_own {w0 : World} {V : Nat → Value} {bb gc mc B H : Nat} (L : LiesX V bb B H) (w : World) (x : Bx) (a b : Int) (ha : U16 a) (hb : U8 b) (hroom : x.ws.length < 1000000) (h : RelX 59 w0 V bb H w x) (hB : B ≤ w.heap.size) (cg : Blk w gc #[.pointer (some ⟨bb, 0, none⟩)] 56) (cm : Blk w mc #[.pointer (some ⟨bb, 0, none⟩)] 80) (ng : gc ≠ bb) (nm : mc ≠ bb) (h0 : 32768 ≤ a) (h1 : a < 49152) : Calls Try.prog 42 #[.int .u16 a, .int .u8 b, .pointer (some ⟨mc, 0, none⟩), .pointer (some ⟨gc, 0, none⟩)] w fun e w' => e = .returned (.tuple #[]) ∧ RelX 59 w0 V bb H w' (auxP x a b) ∧ Kp 0 (InX V bb) w w' := by
  have e1 : auxP x a b = { x with m := poke x.m 3 (a % 64).toNat b } := by unfold auxP; rw [if_pos ⟨h0, h1⟩]
  rw [e1]
  have RG := Lib.hid (region_ram a h0 h1 w)
  have hh := Lib.hid h
  obtain ⟨h1', ⟨wv, hbx, hws⟩, hm, hf, hi⟩ := h
  have lb := hbx.lt
  have g1 : w.cell? ⟨mc, 0, none⟩ = some (.pointer (some ⟨bb, 0, none⟩)) := cm.cell 0
  have c33 : w.cell? ⟨bb, 33, none⟩ = some (V 3) := (hbx.cell 33).trans (bx33 ..)
  have e3 := hf.l3
  obtain ⟨k, hk⟩ : ∃ k : Nat, (a - 32768).tmod 64 = (k : Int) := ⟨((a - 32768).tmod 64).toNat, by have := Int.tmod_nonneg 64 (show 0 ≤ a - 32768 by omega); omega⟩
  have hk2 : (a - 32768) % 64 = (k : Int) := by rw [← hk, Int.tmod_eq_emod_of_nonneg (by omega)]
  have hk3 : a % 64 = (k : Int) := by omega
  obtain ⟨g, cap, hv, hg, hc, hz, hl⟩ := hm.at 3 (by omega) k (by omega)
  rw [hv, e3] at c33
  have k1 : (k : Int) < 64 := by omega
  have RP := Lib.hid (RelX.poke L hh.out 3 (by omega) k b hb g hg (by decide))
  have KP := Lib.hid (kpx_cell (bb := bb) (k := k) (by omega) hg w (.int .u8 b))
  rw [hk3]
  simp only [Int.toNat_natCast]
  obtain ⟨a0, a1⟩ := ha
  clear hv e3 hm hg hh hk2 hk3 e1 hbx hws hi h1' hf cm cg
  go_enter Try.func42, Try.ntmps42
  go_wp2_with fail
  refine RG.out.mono ?_
  rintro e w' ⟨rfl, rfl⟩
  go_wp2
  all_goals exact bodyPost_end (results_none rfl _ _ _) rfl ⟨rfl, RP.out, KP.out⟩
theorem gp_win {w0 : World} {V : Nat → Value} {bb gc mc B H : Nat} (L : LiesX V bb B H) (w : World) (x : Bx) (a b : Int) (ha : U16 a) (hb : U8 b) (hroom : x.ws.length < 1000000) (h : RelX 59 w0 V bb H w x) (hB : B ≤ w.heap.size) (cg : Blk w gc #[.pointer (some ⟨bb, 0, none⟩)] 56) (cm : Blk w mc #[.pointer (some ⟨bb, 0, none⟩)] 80) (ng : gc ≠ bb) (nm : mc ≠ bb) (h0 : 49152 ≤ a) (h1 : a < 53248) (hg : x.m.gr = true) : Calls Try.prog 42 #[.int .u16 a, .int .u8 b, .pointer (some ⟨mc, 0, none⟩), .pointer (some ⟨gc, 0, none⟩)] w fun e w' => e = .returned (.tuple #[]) ∧ RelX 59 w0 V bb H w' (auxP x a b) ∧ Kp 0 (InX V bb) w w' := by
  have e1 : auxP x a b = { x with m := poke x.m 2 (a % 128).toNat b } := by unfold auxP; rw [if_neg (by omega), if_pos ⟨h0, h1⟩, hg, if_pos rfl]
  rw [e1]
  have RG := Lib.hid (region_win a h0 h1 w)
  have hh := Lib.hid h
  obtain ⟨h1', ⟨wv, hbx, hws⟩, hm, hf, hi⟩ := h
  have lb := hbx.lt
  have g1 : w.cell? ⟨mc, 0, none⟩ = some (.pointer (some ⟨bb, 0, none⟩)) := cm.cell 0
  have c32 : w.cell? ⟨bb, 32, none⟩ = some (V 2) := (hbx.cell 32).trans (bx32 ..)
  have c67 : w.cell? ⟨bb, 67, none⟩ = some (.bool true) := by rw [← hg]; exact (hbx.cell 67).trans (bx67 ..)
  have e2 := hf.l2
  obtain ⟨k, hk⟩ : ∃ k : Nat, a.tmod 128 = (k : Int) := ⟨(a.tmod 128).toNat, by have := Int.tmod_nonneg 128 ha.1; omega⟩
  have hk2 : a % 128 = (k : Int) := by rw [← hk, Int.tmod_eq_emod_of_nonneg ha.1]
  obtain ⟨g, cap, hv, hgo, hc, hz, hl⟩ := hm.at 2 (by omega) k (by omega)
  rw [hv, e2] at c32
  have k1 : (k : Int) < 128 := by omega
  have RP := Lib.hid (RelX.poke L hh.out 2 (by omega) k b hb g hgo (by decide))
  have KP := Lib.hid (kpx_cell (bb := bb) (k := k) (by omega) hgo w (.int .u8 b))
  have hk3 := hk2
  rw [hk2]
  simp only [Int.toNat_natCast]
  obtain ⟨a0, a1⟩ := ha
  clear hv e2 hm hgo hh hk2 e1 hbx hws hi h1' hf cm cg hg
  go_enter Try.func42, Try.ntmps42
  go_wp2_with fail
  refine RG.out.mono ?_
  rintro e w' ⟨rfl, rfl⟩
  go_wp2
  all_goals exact bodyPost_end (results_none rfl _ _ _) rfl ⟨rfl, RP.out, KP.out⟩
theorem gp_mail {w0 : World} {V : Nat → Value} {bb gc mc B H : Nat} (L : LiesX V bb B H) (w : World) (x : Bx) (a b : Int) (ha : U16 a) (hb : U8 b) (hroom : x.ws.length < 1000000) (h : RelX 59 w0 V bb H w x) (hB : B ≤ w.heap.size) (cg : Blk w gc #[.pointer (some ⟨bb, 0, none⟩)] 56) (cm : Blk w mc #[.pointer (some ⟨bb, 0, none⟩)] 80) (ng : gc ≠ bb) (nm : mc ≠ bb) (hp : isPort a = true) (hk : a % 32 = 24) : Calls Try.prog 42 #[.int .u16 a, .int .u8 b, .pointer (some ⟨mc, 0, none⟩), .pointer (some ⟨gc, 0, none⟩)] w fun e w' => e = .returned (.tuple #[]) ∧ RelX 59 w0 V bb H w' (auxP x a b) ∧ Kp 0 (InX V bb) w w' := by
  have d : 53248 ≤ a ∧ a < 57344 := by unfold isPort at hp; simpa using hp
  have e1 : auxP x a b = { x with m := { x.m with m1 := b } } := by unfold auxP; rw [if_neg (by omega), if_neg (by omega), if_pos hp, if_neg (by omega), if_pos hk]
  rw [e1]
  have RG := Lib.hid (region_ports a d.1 d.2 w)
  obtain ⟨h1, ⟨wv, hbx, hws⟩, hm, hf, hi⟩ := h
  have lb := hbx.lt
  have fb := hbx.free
  have g1 : w.cell? ⟨mc, 0, none⟩ = some (.pointer (some ⟨bb, 0, none⟩)) := cm.cell 0
  have c70 : w.cell? ⟨bb, 70, none⟩ = some (.int .u8 x.m.m1) := (hbx.cell 70).trans (bx70 ..)
  have KB := Lib.hid hbx
  have ST := Lib.hid (And.intro h1 (And.intro hws (And.intro hm (And.intro hf hi))))
  obtain ⟨d1, d2⟩ := d
  clear hbx hws hm hf hi h1 hp cm cg e1
  go_enter Try.func42, Try.ntmps42
  go_wp2_with fail
  refine RG.out.mono ?_
  rintro e w' ⟨rfl, rfl⟩
  go_wp2
  all_goals exact bodyPost_end (results_none rfl _ _ _) rfl ⟨rfl, RelX.box1 L ST.out KB.out ((But.refl bb w).setCell rfl _) (by decide) (Blk.set KB.out (bs70 V x wv b)) rfl rfl (inM1 ST.out.2.2.2.2 hb), ((But.refl bb w).setCell rfl _).kpx⟩
theorem gp_none {w0 : World} {V : Nat → Value} {bb gc mc B H : Nat} (L : LiesX V bb B H) (w : World) (x : Bx) (a b : Int) (ha : U16 a) (hb : U8 b) (hroom : x.ws.length < 1000000) (h : RelX 59 w0 V bb H w x) (hB : B ≤ w.heap.size) (cg : Blk w gc #[.pointer (some ⟨bb, 0, none⟩)] 56) (cm : Blk w mc #[.pointer (some ⟨bb, 0, none⟩)] 80) (ng : gc ≠ bb) (nm : mc ≠ bb) (hn : a < 32768 ∨ (49152 ≤ a ∧ a < 53248 ∧ x.m.gr = false) ∨ (isPort a = true ∧ 24 < a % 32) ∨ 57344 ≤ a) : Calls Try.prog 42 #[.int .u16 a, .int .u8 b, .pointer (some ⟨mc, 0, none⟩), .pointer (some ⟨gc, 0, none⟩)] w fun e w' => e = .returned (.tuple #[]) ∧ RelX 59 w0 V bb H w' (auxP x a b) ∧ Kp 0 (InX V bb) w w' := by
  have e1 : auxP x a b = x := by
    unfold auxP
    rcases hn with h0 | ⟨h0, h1, h2⟩ | ⟨h0, h1⟩ | h0
    · rw [if_neg (by omega), if_neg (by omega), if_neg (by unfold isPort; simp; omega)]
    · rw [if_neg (by omega), if_pos ⟨h0, h1⟩, h2, if_neg Bool.false_ne_true]
    · have d : 53248 ≤ a ∧ a < 57344 := by unfold isPort at h0; simpa using h0
      rw [if_neg (by omega), if_neg (by omega), if_pos h0, if_neg (by omega), if_neg (by omega)]
    · rw [if_neg (by omega), if_neg (by omega), if_neg (by unfold isPort; simp; omega)]
  rw [e1]
  clear e1
  rcases hn with h0 | ⟨h0, h1, h2⟩ | ⟨h0, h1⟩ | h0
  · have RG := Lib.hid (region_rom a ha.1 h0 w)
    have hh := Lib.hid h
    clear h L cm cg
    go_enter Try.func42, Try.ntmps42
    go_wp2_with fail
    refine RG.out.mono ?_
    rintro e w' ⟨rfl, rfl⟩
    go_wp2
    all_goals exact bodyPost_end (results_none rfl _ _ _) rfl ⟨rfl, hh.out, Kp.refl _ _ _⟩
  · have RG := Lib.hid (region_win a h0 h1 w)
    have hh := Lib.hid h
    obtain ⟨-, ⟨wv, hbx, hws⟩, -, -, -⟩ := h
    have lb := hbx.lt
    have g1 : w.cell? ⟨mc, 0, none⟩ = some (.pointer (some ⟨bb, 0, none⟩)) := cm.cell 0
    have c67 : w.cell? ⟨bb, 67, none⟩ = some (.bool false) := by rw [← h2]; exact (hbx.cell 67).trans (bx67 ..)
    clear L cm cg hbx hws h2
    go_enter Try.func42, Try.ntmps42
    go_wp2_with fail
    refine RG.out.mono ?_
    rintro e w' ⟨rfl, rfl⟩
    go_wp2
    all_goals exact bodyPost_end (results_none rfl _ _ _) rfl ⟨rfl, hh.out, Kp.refl _ _ _⟩
  · have d : 53248 ≤ a ∧ a < 57344 := by unfold isPort at h0; simpa using h0
    have RG := Lib.hid (region_ports a d.1 d.2 w)
    obtain ⟨p, hpp⟩ : ∃ p, p = a % 32 := ⟨_, rfl⟩
    rw [← hpp] at h1
    have p0 : 0 ≤ p := by omega
    have p1 : p < 32 := by omega
    have m24 : (p == 24) = false := by simp; omega
    have ml : ¬ p < 24 := by omega
    have hk : a % 32 = p := hpp.symm
    have wp : IntKind.i64.wrap p = p := by rw [IntKind.wrap_i64]; omega
    have hh := Lib.hid h
    obtain ⟨d1, d2⟩ := d
    clear h L cm cg h0 h1 hpp
    go_enter Try.func42, Try.ntmps42
    go_wp2_with fail
    refine RG.out.mono ?_
    rintro e w' ⟨rfl, rfl⟩
    go_wp2
    all_goals exact bodyPost_end (results_none rfl _ _ _) rfl ⟨rfl, hh.out, Kp.refl _ _ _⟩
  · have RG := Lib.hid (region_no a h0 (by have := ha.2; omega) w)
    have hh := Lib.hid h
    clear h L cm cg
    go_enter Try.func42, Try.ntmps42
    go_wp2_with fail
    refine RG.out.mono ?_
    rintro e w' ⟨rfl, rfl⟩
    go_wp2
    all_goals exact bodyPost_end (results_none rfl _ _ _) rfl ⟨rfl, hh.out, Kp.refl _ _ _⟩
theorem gp_sound {w0 : World} {V : Nat → Value} {bb gc mc B H : Nat} (L : LiesX V bb B H) (w : World) (x : Bx) (a b : Int) (ha : U16 a) (hb : U8 b) (hroom : x.ws.length < 1000000) (h : RelX 59 w0 V bb H w x) (hB : B ≤ w.heap.size) (cg : Blk w gc #[.pointer (some ⟨bb, 0, none⟩)] 56) (cm : Blk w mc #[.pointer (some ⟨bb, 0, none⟩)] 80) (ng : gc ≠ bb) (nm : mc ≠ bb) (hp : isPort a = true) (hk : a % 32 < 24) : Calls Try.prog 42 #[.int .u16 a, .int .u8 b, .pointer (some ⟨mc, 0, none⟩), .pointer (some ⟨gc, 0, none⟩)] w fun e w' => e = .returned (.tuple #[]) ∧ RelX 59 w0 V bb H w' (auxP x a b) ∧ Kp 0 (InX V bb) w w' := by
  have d : 53248 ≤ a ∧ a < 57344 := by unfold isPort at hp; simpa using hp
  obtain ⟨d1, d2⟩ := d
  have RG := Lib.hid (region_ports a d1 d2 w)
  obtain ⟨p, hpp⟩ : ∃ p, p = a % 32 := ⟨_, rfl⟩
  have e1 : auxP x a b = snd2 x (putS x.m.sd p b) ⟨x.m.ck, p, b⟩ := by unfold auxP snd2; rw [if_neg (by omega), if_neg (by omega), if_pos hp, if_pos hk, ← hpp]
  rw [e1]
  have k1 : a % 32 = p := hpp.symm
  rw [← hpp] at hk
  have hp0 : 0 ≤ p := by omega
  have wp : IntKind.i64.wrap p = p := by rw [IntKind.wrap_i64]; omega
  have PA := Lib.hid (refputAll_any x.m.sd h.inn.sd p b hp0 hk hb)
  have hps := putS_in h.inn.sd p hb
  have hpw := putS_wt x.m.sd p b
  obtain ⟨s', hs'⟩ : ∃ s', s' = putS x.m.sd p b := ⟨_, rfl⟩
  rw [← hs'] at PA hps hpw ⊢
  obtain ⟨h1, ⟨wv, hbx, hws⟩, hm, hf, hi⟩ := h
  obtain ⟨a0, a1⟩ := ha
  have L1 := L.lo
  have L2 := L.hi
  have lb := hbx.lt
  have fb := hbx.free
  have g1 : w.cell? ⟨mc, 0, none⟩ = some (.pointer (some ⟨bb, 0, none⟩)) := cm.cell 0
  have KB := Lib.hid hbx
  have KM := Lib.hid cm
  have KG := Lib.hid cg
  have ST := Lib.hid (And.intro h1 (And.intro hws (And.intro hm (And.intro hf hi))))
  have HP := Lib.hid (And.intro hps hpw)
  clear e1 hbx hws hm hf hi h1 hp hpp hs' hps hpw cm cg
  go_enter Try.func42, Try.ntmps42
  go_wp2_with fail
  refine RG.out.mono ?_
  rintro e w' ⟨rfl, rfl⟩
  go_wp2_with fail
  clear g1 RG
  refine wp_region_F (fun k W => (k = 0 → W.cell? ⟨mc, 0, none⟩ = some (.pointer (some ⟨bb, 0, none⟩))) ∧ (k = 1 → W.cell? ⟨mc, 0, none⟩ = some (.pointer (some ⟨bb, 0, none⟩))) ∧ (k = 4 → Blk W bb (boxC V x wv) 59)) [0, 1, 2, 3, 4, 5, 6, 8, 9] (by kernel_rfl) ?_
  refine wpAnyF_take (i := 0) (v := ?v0_1) rfl (by kernel_rfl) (by kernel_rfl) (by kernel_rfl) (by kernel_rfl) (fun _ _ _ h => h) (Or.inl ⟨by rfl, ?y0_1⟩) ⟨(fun _ => (KM.out.drew.cell 0)), (fun h => absurd h (by decide)), (fun h => absurd h (by decide))⟩ ?_
  case y0_1 => (intro w hF; have hF2 := hF.1 rfl; clear hF; go_simp; try with_reducible rfl)
  try simp only [List.getElem_toArray, List.getElem_cons_succ, List.getElem_cons_zero, Act.put, List.setIfInBounds_toArray, List.set_cons_zero, List.set_cons_succ]
  refine wpAnyF_take (i := 1) (v := ?v1_1) rfl (by kernel_rfl) (by kernel_rfl) (by kernel_rfl) (by kernel_rfl) (fun _ _ _ h => h) (Or.inl ⟨by rfl, ?y1_1⟩) ⟨(fun h => absurd h (by decide)), (fun _ => (KM.out.drew.cell 0)), (fun h => absurd h (by decide))⟩ ?_
  case y1_1 => (intro w hF; have hF2 := hF.2.1 rfl; clear hF; go_simp; try with_reducible rfl)
  try simp only [List.getElem_toArray, List.getElem_cons_succ, List.getElem_cons_zero, Act.put, List.setIfInBounds_toArray, List.set_cons_zero, List.set_cons_succ]
  refine wpAnyF_take (i := 2) (v := ?v2_1) rfl (by kernel_rfl) (by kernel_rfl) (by kernel_rfl) (by kernel_rfl) (fun _ _ _ h => h) (Or.inl ⟨by rfl, ?y2_1⟩) ⟨(fun h => absurd h (by decide)), (fun h => absurd h (by decide)), (fun h => absurd h (by decide))⟩ ?_
  case y2_1 => (intro w hF; clear hF; go_simp; try with_reducible rfl)
  try simp only [List.getElem_toArray, List.getElem_cons_succ, List.getElem_cons_zero, Act.put, List.setIfInBounds_toArray, List.set_cons_zero, List.set_cons_succ]
  refine wpAnyF_take (i := 3) (v := ?v3_1) rfl (by kernel_rfl) (by kernel_rfl) (by kernel_rfl) (by kernel_rfl) (fun _ _ _ h => h) (Or.inl ⟨by rfl, ?y3_1⟩) ⟨(fun h => absurd h (by decide)), (fun h => absurd h (by decide)), (fun h => absurd h (by decide))⟩ ?_
  case y3_1 => (intro w hF; clear hF; go_simp; try with_reducible rfl)
  try simp only [List.getElem_toArray, List.getElem_cons_succ, List.getElem_cons_zero, Act.put, List.setIfInBounds_toArray, List.set_cons_zero, List.set_cons_succ]
  refine wpAnyF_take (i := 4) rfl (by kernel_rfl) (by kernel_rfl) (by kernel_rfl) (by kernel_rfl) (fun _ _ _ h => h) (yields_loadA (by rfl) 36 (.tmp 46) rfl (bb) 45 16 rfl 59 (boxC V x wv) (#[.int .u16 x.m.sd.a.pd, .int .u16 x.m.sd.a.ct, .int .u8 x.m.sd.a.ld, .bool x.m.sd.a.hi, .int .u16 x.m.sd.a.nz, .int .u16 x.m.sd.b.pd, .int .u16 x.m.sd.b.ct, .int .u8 x.m.sd.b.ld, .bool x.m.sd.b.hi, .int .u16 x.m.sd.b.nz, .int .u16 x.m.sd.c.pd, .int .u16 x.m.sd.c.ct, .int .u8 x.m.sd.c.ld, .bool x.m.sd.c.hi, .int .u16 x.m.sd.c.nz, .int .i64 x.m.sd.wt]) (fun W hF => hF.2.2 rfl) _ Try.underlying36 rfl (by kernel_rfl) rfl rfl) ⟨(fun h => absurd h (by decide)), (fun h => absurd h (by decide)), (fun _ => KB.out.drew)⟩ ?_
  try simp only [List.getElem_toArray, List.getElem_cons_succ, List.getElem_cons_zero, Act.put, List.setIfInBounds_toArray, List.set_cons_zero, List.set_cons_succ]
  refine wpAnyF_take (i := 5) (v := ?v5_1) rfl (by kernel_rfl) (by kernel_rfl) (by kernel_rfl) (by kernel_rfl) (fun _ _ _ h => h) (Or.inl ⟨by rfl, ?y5_1⟩) ⟨(fun h => absurd h (by decide)), (fun h => absurd h (by decide)), (fun h => absurd h (by decide))⟩ ?_
  case y5_1 => (intro w hF; clear hF; go_simp; try with_reducible rfl)
  try simp only [List.getElem_toArray, List.getElem_cons_succ, List.getElem_cons_zero, Act.put, List.setIfInBounds_toArray, List.set_cons_zero, List.set_cons_succ]
  refine wpAnyF_take (i := 6) (v := ?v6_1) rfl (by kernel_rfl) (by kernel_rfl) (by kernel_rfl) (by kernel_rfl) (fun _ _ _ h => h) (Or.inl ⟨by rfl, ?y6_1⟩) ⟨(fun h => absurd h (by decide)), (fun h => absurd h (by decide)), (fun h => absurd h (by decide))⟩ ?_
  case y6_1 => (intro w hF; clear hF; go_simp; try with_reducible rfl)
  try simp only [List.getElem_toArray, List.getElem_cons_succ, List.getElem_cons_zero, Act.put, List.setIfInBounds_toArray, List.set_cons_zero, List.set_cons_succ]
  refine wpAnyF_ready (rs := [7]) (by kernel_rfl) (by simp) (AllReadyF.cons rfl (fun K hK => ?_) AllReadyF.nil)
  go_simp
  refine (PA.out _).mono ?_
  rintro e w1 ⟨rfl, hb1⟩
  try go_wp2_with fail
  refine hK.out _ _ (Sat.all (by kernel_rfl) (fun k => ⟨(fun _ => ((KM.out.drew.below hb1).cell 0)), (fun _ => ((KM.out.drew.below hb1).cell 0)), (fun _ => (KB.out.drew.below hb1))⟩)) ?_
  clear hK K
  try simp only [List.getElem_toArray, List.getElem_cons_succ, List.getElem_cons_zero, Act.put, List.setIfInBounds_toArray, List.set_cons_zero, List.set_cons_succ]
  refine wpAnyF_take (i := 8) (v := ?v8_1) rfl (by kernel_rfl) (by kernel_rfl) (by kernel_rfl) (by kernel_rfl) (fun _ _ _ h => h) (Or.inl ⟨by rfl, ?y8_1⟩) ⟨(fun h => absurd h (by decide)), (fun h => absurd h (by decide)), (fun h => absurd h (by decide))⟩ ?_
  case y8_1 => (intro w hF; clear hF; go_simp; try with_reducible rfl)
  try simp only [List.getElem_toArray, List.getElem_cons_succ, List.getElem_cons_zero, Act.put, List.setIfInBounds_toArray, List.set_cons_zero, List.set_cons_succ]
  refine wpAnyF_take (i := 9) (v := ?v9_1) rfl (by kernel_rfl) (by kernel_rfl) (by kernel_rfl) (by kernel_rfl) (fun _ _ _ h => h) (Or.inl ⟨by rfl, ?y9_1⟩) ⟨(fun h => absurd h (by decide)), (fun h => absurd h (by decide)), (fun h => absurd h (by decide))⟩ ?_
  case y9_1 => (intro w hF; clear hF; go_simp; try with_reducible rfl)
  try simp only [List.getElem_toArray, List.getElem_cons_succ, List.getElem_cons_zero, Act.put, List.setIfInBounds_toArray, List.set_cons_zero, List.set_cons_succ]
  have hs1 := hb1.size
  have KB1 := Lib.hid (KB.out.drew.below hb1)
  have KM1 := Lib.hid (KM.out.drew.below hb1)
  have KG1 := Lib.hid (KG.out.drew.below hb1)
  refine wpAnyF_ready (rs := [10]) (by kernel_rfl) (by simp) (AllReadyF.cons rfl (fun K hK => ?_) AllReadyF.nil)
  refine wp_storeA 36 (.tmp 52) (.tmp 50) rfl bb 45 #[.int .u16 s'.a.pd, .int .u16 s'.a.ct, .int .u8 s'.a.ld, .bool s'.a.hi, .int .u16 s'.a.nz, .int .u16 s'.b.pd, .int .u16 s'.b.ct, .int .u8 s'.b.ld, .bool s'.b.hi, .int .u16 s'.b.nz, .int .u16 s'.c.pd, .int .u16 s'.c.ct, .int .u8 s'.c.ld, .bool s'.c.hi, .int .u16 s'.c.nz, .int .i64 s'.wt] rfl rfl 59 (boxC V x wv) (boxC V (x.wSd s') wv) KB1.out (by kernel_rfl) (by simp) (by simp [Value.oneCell']) rfl ?_
  intro w2 hp_w2 K_w2
  refine hK.out _ _ (Sat.off [0, 1, 4] (fun k w hk => by simp only [List.mem_cons, List.not_mem_nil, or_false, not_or] at hk; exact ⟨fun e => absurd e hk.1, fun e => absurd e hk.2.1, fun e => absurd e hk.2.2⟩) (by kernel_rfl) _ _) ?_
  clear hK K
  refine wpAnyF_done (by kernel_rfl) ?_ _
  have KG2 := Lib.hid (KG1.out.put hp_w2 ng)
  have KM2 := Lib.hid (KM1.out.put hp_w2 nm)
  have KP := Lib.hid (((But.refl bb w).drew.thenb hb1).put (g := bb) hp_w2)
  clear KG KM KG1 KM1 KB1 hb1 hp_w2 PA
  go_wp2_with fail
  have W2 := Lib.hid (ST.out.2.1.keep (fun k hk => KP.out.block k hk.lt (fun e => by subst e; exact KB.out.nw (by decide) hk)))
  have B2 : Below H w0 w2 := KP.out.belowH ST.out.1 L1 (by omega)
  have l2 : bb < w2.heap.size := K_w2.out.lt
  have sz2 : w.heap.size ≤ w2.heap.size := KP.out.size
  have f2 := K_w2.out.free
  have c75 : w2.cell? ⟨bb, 75, none⟩ = some wv := (K_w2.out.cell 75).trans (bx75 ..)
  obtain ⟨ao, cp, hwv⟩ := own_shape W2.out
  subst hwv
  obtain ⟨i0, hi0, hz0, hz1, hz2⟩ := info_parts infoWr
  have HI := Lib.hid (And.intro hi0 (And.intro hz0 (And.intro hz1 hz2)))
  clear hi0 hz0 hz1 hz2
  refine wp_region_held_drew (S := fun W => W.cell? ⟨bb, 72, none⟩ = some (.int .i64 x.m.ck) ∧ W.cell? ⟨gc, 0, none⟩ = some (.pointer (some ⟨bb, 0, none⟩)) ∧ W.cell? ⟨mc, 0, none⟩ = some (.pointer (some ⟨bb, 0, none⟩))) (by kernel_rfl) ⟨(K_w2.out.drew.cell 72).trans (bx72 ..), KG2.out.drew.cell 0, KM2.out.drew.cell 0⟩ (fun hS => ?_)
  refine wpAnyH_take (i := 0) (v := ?v0) rfl (by kernel_rfl) (by kernel_rfl) (by kernel_rfl) (fun _ _ _ h => h) (Or.inl ⟨by rfl, ?y0⟩) hS ?_
  case y0 => (intro X hSw; obtain ⟨hS1, hS2, hS3⟩ := hSw; go_simp; try with_reducible rfl)
  try simp only [List.getElem_toArray, List.getElem_cons_succ, List.getElem_cons_zero, Act.put, List.setIfInBounds_toArray, List.set_cons_zero, List.set_cons_succ]
  refine wpAnyH_take (i := 1) (v := ?v1) rfl (by kernel_rfl) (by kernel_rfl) (by kernel_rfl) (fun _ _ _ h => h) (Or.inl ⟨by rfl, ?y1⟩) hS ?_
  case y1 => (intro X hSw; obtain ⟨hS1, hS2, hS3⟩ := hSw; go_simp; try with_reducible rfl)
  try simp only [List.getElem_toArray, List.getElem_cons_succ, List.getElem_cons_zero, Act.put, List.setIfInBounds_toArray, List.set_cons_zero, List.set_cons_succ]
  refine wpAnyH_take (i := 2) (v := ?v2) rfl (by kernel_rfl) (by kernel_rfl) (by kernel_rfl) (fun _ _ _ h => h) (Or.inl ⟨by rfl, ?y2⟩) hS ?_
  case y2 => (intro X hSw; obtain ⟨hS1, hS2, hS3⟩ := hSw; go_simp; try with_reducible rfl)
  try simp only [List.getElem_toArray, List.getElem_cons_succ, List.getElem_cons_zero, Act.put, List.setIfInBounds_toArray, List.set_cons_zero, List.set_cons_succ]
  refine wpAnyH_take (i := 3) (v := ?v3) rfl (by kernel_rfl) (by kernel_rfl) (by kernel_rfl) (fun _ _ _ h => h) (Or.inl ⟨by rfl, ?y3⟩) hS ?_
  case y3 => (intro X hSw; obtain ⟨hS1, hS2, hS3⟩ := hSw; go_simp; try with_reducible rfl)
  try simp only [List.getElem_toArray, List.getElem_cons_succ, List.getElem_cons_zero, Act.put, List.setIfInBounds_toArray, List.set_cons_zero, List.set_cons_succ]
  refine wpAnyH_take (i := 5) (v := ?v5) rfl (by kernel_rfl) (by kernel_rfl) (by kernel_rfl) (fun _ _ _ h => h) (Or.inl ⟨by rfl, ?y5⟩) hS ?_
  case y5 => (intro X hSw; obtain ⟨hS1, hS2, hS3⟩ := hSw; go_simp; try with_reducible rfl)
  try simp only [List.getElem_toArray, List.getElem_cons_succ, List.getElem_cons_zero, Act.put, List.setIfInBounds_toArray, List.set_cons_zero, List.set_cons_succ]
  refine wpAnyH_take (i := 6) (v := ?v6) rfl (by kernel_rfl) (by kernel_rfl) (by kernel_rfl) (fun _ _ _ h => h) (Or.inl ⟨by rfl, ?y6⟩) hS ?_
  case y6 => (intro X hSw; obtain ⟨hS1, hS2, hS3⟩ := hSw; go_simp; try with_reducible rfl)
  try simp only [List.getElem_toArray, List.getElem_cons_succ, List.getElem_cons_zero, Act.put, List.setIfInBounds_toArray, List.set_cons_zero, List.set_cons_succ]
  refine wpAnyH_take (i := 7) (v := ?v7) rfl (by kernel_rfl) (by kernel_rfl) (by kernel_rfl) (fun _ _ _ h => h) (Or.inl ⟨by rfl, ?y7⟩) hS ?_
  case y7 => (intro X hSw; obtain ⟨hS1, hS2, hS3⟩ := hSw; go_simp; try with_reducible rfl)
  try simp only [List.getElem_toArray, List.getElem_cons_succ, List.getElem_cons_zero, Act.put, List.setIfInBounds_toArray, List.set_cons_zero, List.set_cons_succ]
  refine wpAnyH_take (i := 8) (v := ?v8) rfl (by kernel_rfl) (by kernel_rfl) (by kernel_rfl) (fun _ _ _ h => h) (Or.inl ⟨by rfl, ?y8⟩) hS ?_
  case y8 => (intro X hSw; obtain ⟨hS1, hS2, hS3⟩ := hSw; go_simp; try with_reducible rfl)
  try simp only [List.getElem_toArray, List.getElem_cons_succ, List.getElem_cons_zero, Act.put, List.setIfInBounds_toArray, List.set_cons_zero, List.set_cons_succ]
  refine wpAnyH_take (i := 9) (v := ?v9) rfl (by kernel_rfl) (by kernel_rfl) (by kernel_rfl) (fun _ _ _ h => h) (Or.inl ⟨by rfl, ?y9⟩) hS ?_
  case y9 => (intro X hSw; obtain ⟨hS1, hS2, hS3⟩ := hSw; go_simp; try with_reducible rfl)
  try simp only [List.getElem_toArray, List.getElem_cons_succ, List.getElem_cons_zero, Act.put, List.setIfInBounds_toArray, List.set_cons_zero, List.set_cons_succ]
  refine wpAnyH_take (i := 10) (v := ?v10) rfl (by kernel_rfl) (by kernel_rfl) (by kernel_rfl) (fun _ _ _ h => h) (Or.inl ⟨by rfl, ?y10⟩) hS ?_
  case y10 => (intro X hSw; obtain ⟨hS1, hS2, hS3⟩ := hSw; go_simp; try with_reducible rfl)
  try simp only [List.getElem_toArray, List.getElem_cons_succ, List.getElem_cons_zero, Act.put, List.setIfInBounds_toArray, List.set_cons_zero, List.set_cons_succ]
  refine wpAnyH_take (i := 11) (v := ?v11) rfl (by kernel_rfl) (by kernel_rfl) (by kernel_rfl) (fun _ _ _ h => h) (Or.inl ⟨by rfl, ?y11⟩) hS ?_
  case y11 => (intro X hSw; obtain ⟨hS1, hS2, hS3⟩ := hSw; go_simp; try with_reducible rfl)
  try simp only [List.getElem_toArray, List.getElem_cons_succ, List.getElem_cons_zero, Act.put, List.setIfInBounds_toArray, List.set_cons_zero, List.set_cons_succ]
  have SB : Hid (Blk w2.drew bb (boxC V (x.wSd s') (.slice ao x.ws.length cp)) 59) := Lib.hid K_w2.out.drew
  have SW : Hid (Wrs w2.drew H (.slice ao x.ws.length cp) x.ws) := Lib.hid (World.ownsRow.drew W2.out)
  have SG : Hid (Blk w2.drew gc #[.pointer (some ⟨bb, 0, none⟩)] 56) := Lib.hid KG2.out.drew
  have SM : Hid (Blk w2.drew mc #[.pointer (some ⟨bb, 0, none⟩)] 80) := Lib.hid KM2.out.drew
  have SK : Hid (Kp 0 (· = bb) w w2.drew) := Lib.hid KP.out.kp0.drew
  have SH : Hid (Below H w0 w2.drew) := Lib.hid B2.drew
  have c75' : w2.drew.cell? ⟨bb, 75, none⟩ = some (.slice ao x.ws.length cp) := c75
  have SZ : Hid (w2.drew.heap.size = w2.heap.size) := Lib.hid rfl
  clear K_w2 W2 KP B2 c75 f2 KG2 KM2
  obtain ⟨W, hW⟩ : ∃ W, W = w2.drew := ⟨_, rfl⟩
  have lW : bb < W.heap.size := by rw [hW, SZ.out]; exact l2
  have lHW : H ≤ W.heap.size := by omega
  rw [← hW] at SB SW SG SM SK SH c75' hS ⊢
  clear hW SZ
  refine wpAnyH_ready (rs := [4, 12]) (by kernel_rfl) (by simp) ?_
  refine AllReadyH.cons rfl (fun K hK => ?_) (AllReadyH.cons rfl (fun K hK => ?_) AllReadyH.nil)
  · go_simp
    refine hK.out _ _ hS (fun hS => ?_)
    clear hK K
    try simp only [List.getElem_toArray, List.getElem_cons_succ, List.getElem_cons_zero, Act.put, List.setIfInBounds_toArray, List.set_cons_zero, List.set_cons_succ]
    refine wpAnyH_ready (rs := [12]) (by kernel_rfl) (by simp) (AllReadyH.cons rfl (fun K hK => ?_) AllReadyH.nil)
    go_simp
    refine hK.out _ _ ⟨(SB.out.alloc _).cell 72 |>.trans (bx72 ..), (SG.out.alloc _).cell 0, (SM.out.alloc _).cell 0⟩ (fun hS => ?_)
    clear hK K
    try simp only [List.getElem_toArray, List.getElem_cons_succ, List.getElem_cons_zero, Act.put, List.setIfInBounds_toArray, List.set_cons_zero, List.set_cons_succ]
    refine wpAnyH_ready (rs := [13]) (by kernel_rfl) (by simp) (AllReadyH.cons rfl (fun K hK => ?_) AllReadyH.nil)
    rw [if_pos (by rfl)]
    refine wp_append_own _ (.tmp 57) (.tmp 65) 57 rfl H 90 i0 (.agg #[.int .i64 0, .int .i64 0, .int .u8 0]) 3 24 Try.underlying57 HI.out.1 HI.out.2.1 HI.out.2.2.1 HI.out.2.2.2 rfl (by decide) _ _ _ rfl (World.ownsRow.alloc SW.out _) ⟨W.heap.size, 0, none⟩ 1 1 [.int .i64 x.m.ck, .int .i64 p, .int .u8 b] rfl rfl (app_cells W x.m.ck p b) (app_one x.m.ck p b) (by unfold maxLen; omega) (by omega) (by simp; omega) ?_
    intro v' w5 hown hgrow _
    obtain ⟨a', q', ev'⟩ := own_shape hown
    subst ev'
    have hv' : (Value.slice ao x.ws.length cp).ownBlock ≠ some bb := fun e => SB.out.nw (by decide) (SW.out.lt e).2
    have B5 : Hid (Blk w5 bb (boxC V (x.wSd s') (.slice ao x.ws.length cp)) 59) := Lib.hid (by
      unfold Blk
      rw [hgrow.block bb (by simp; omega) (fun e => hv' e.symm)]
      exact SB.out.alloc _)
    have G5 : Hid (Blk w5 gc #[.pointer (some ⟨bb, 0, none⟩)] 56) := Lib.hid (by
      unfold Blk
      rw [hgrow.block gc (by have := SG.out.lt; simp; omega) (fun e => SG.out.nw (by decide) (SW.out.lt e.symm).2)]
      exact SG.out.alloc _)
    have M5 : Hid (Blk w5 mc #[.pointer (some ⟨bb, 0, none⟩)] 80) := Lib.hid (by
      unfold Blk
      rw [hgrow.block mc (by have := SM.out.lt; simp; omega) (fun e => SM.out.nw (by decide) (SW.out.lt e.symm).2)]
      exact SM.out.alloc _)
    have K5 : Hid (Kp 0 (· = bb) w w5) := Lib.hid ((SK.out.alloc _).grown hgrow (fun g hg => (SW.out.lt hg).2.alloc _))
    have H5 : Hid (Below H w0 w5) := Lib.hid (below_grown (Below.alloc SH.out lHW _) (by simp; omega) hgrow (World.ownsRow.alloc SW.out _) (Nat.le_refl _))
    have O5 := Lib.hid hown
    have c75v : w5.cell? ⟨bb, 75, none⟩ = some (.slice ao x.ws.length cp) := (B5.out.cell 75).trans (bx75 ..)
    have f5 := B5.out.free
    refine hK.out _ _ ⟨(B5.out.cell 72).trans (bx72 ..), G5.out.cell 0, M5.out.cell 0⟩ (fun hS => ?_)
    clear hK K hown hgrow
    try simp only [List.getElem_toArray, List.getElem_cons_succ, List.getElem_cons_zero, Act.put, List.setIfInBounds_toArray, List.set_cons_zero, List.set_cons_succ]
    refine wpAnyH_take (i := 14) (v := ?v14a) rfl (by kernel_rfl) (by kernel_rfl) (by kernel_rfl) (fun _ _ _ h => h) (Or.inl ⟨by rfl, ?y14a⟩) hS ?_
    case y14a => (intro X hSw; obtain ⟨hS1, hS2, hS3⟩ := hSw; go_simp; try with_reducible rfl)
    try simp only [List.getElem_toArray, List.getElem_cons_succ, List.getElem_cons_zero, Act.put, List.setIfInBounds_toArray, List.set_cons_zero, List.set_cons_succ]
    refine wpAnyH_take (i := 15) (v := ?v15a) rfl (by kernel_rfl) (by kernel_rfl) (by kernel_rfl) (fun _ _ _ h => h) (Or.inl ⟨by rfl, ?y15a⟩) hS ?_
    case y15a => (intro X hSw; obtain ⟨hS1, hS2, hS3⟩ := hSw; go_simp; try with_reducible rfl)
    try simp only [List.getElem_toArray, List.getElem_cons_succ, List.getElem_cons_zero, Act.put, List.setIfInBounds_toArray, List.set_cons_zero, List.set_cons_succ]
    refine wpAnyH_ready (rs := [16]) (by kernel_rfl) (by simp) (AllReadyH.cons rfl (fun K hK => ?_) AllReadyH.nil)
    go_simp
    have B6 := Lib.hid (Blk.set B5.out (bs75 V (x.wSd s') (.slice ao x.ws.length cp) (.slice a' (x.ws.length + 1) q')))
    refine hK.out _ _ ⟨(B6.out.cell 72).trans (bx72 ..), (Blk.setAt G5.out ng).cell 0, (Blk.setAt M5.out nm).cell 0⟩ (fun hS => ?_)
    clear hK K
    refine wpAnyH_done (by kernel_rfl) ?_ _
    have KF : Kp 0 (· = bb) w (w5.setCell ⟨bb, 75, none⟩ (.slice a' (x.ws.length + 1) q')) := K5.out.setCell (Or.inr rfl)
    have RF : RelX 59 w0 V bb H (w5.setCell ⟨bb, 75, none⟩ (.slice a' (x.ws.length + 1) q')) (snd2 x s' ⟨x.m.ck, p, b⟩) := by
      refine RelX.box2 L ⟨ST.out.2.2.1, ST.out.2.2.2.1⟩ (by decide) KF (Below.setCell (p := ⟨bb, 75, none⟩) H5.out L1 _) B6.out rfl ?_ (inSd ST.out.2.2.2.2 HP.out.1 HP.out.2)
      show World.ownsRow _ _ _ _ _ (x.ws ++ [_]).length (wrC (x.ws ++ [_]))
      rw [List.length_append, wrC_snoc]
      exact own_setAt O5.out (fun g hg e => B5.out.nw (by decide) (by have := (O5.out.lt g hg); exact wrs_isw O5.out (by rw [hg, e])))
    have hF := Lib.hid (And.intro RF (kpx_bb (V := V) KF))
    clear RF KF
    go_wp2
    all_goals exact bodyPost_end (results_none rfl _ _ _) rfl ⟨rfl, hF.out⟩
  · go_simp
    refine hK.out _ _ ⟨(SB.out.alloc _).cell 72 |>.trans (bx72 ..), (SG.out.alloc _).cell 0, (SM.out.alloc _).cell 0⟩ (fun hS => ?_)
    clear hK K
    try simp only [List.getElem_toArray, List.getElem_cons_succ, List.getElem_cons_zero, Act.put, List.setIfInBounds_toArray, List.set_cons_zero, List.set_cons_succ]
    have c75'' : (W.alloc (.cells #[.int .i64 x.m.ck, .int .i64 p, .int .u8 b] 90)).cell? ⟨bb, 75, none⟩ = some (.slice ao x.ws.length cp) := (SB.out.alloc _).cell 75 |>.trans (bx75 ..)
    refine wpAnyH_ready (rs := [4]) (by kernel_rfl) (by simp) (AllReadyH.cons rfl (fun K hK => ?_) AllReadyH.nil)
    go_simp
    refine hK.out _ _ hS (fun hS => ?_)
    clear hK K
    try simp only [List.getElem_toArray, List.getElem_cons_succ, List.getElem_cons_zero, Act.put, List.setIfInBounds_toArray, List.set_cons_zero, List.set_cons_succ]
    refine wpAnyH_ready (rs := [13]) (by kernel_rfl) (by simp) (AllReadyH.cons rfl (fun K hK => ?_) AllReadyH.nil)
    rw [if_pos (by rfl)]
    refine wp_append_own _ (.tmp 57) (.tmp 65) 57 rfl H 90 i0 (.agg #[.int .i64 0, .int .i64 0, .int .u8 0]) 3 24 Try.underlying57 HI.out.1 HI.out.2.1 HI.out.2.2.1 HI.out.2.2.2 rfl (by decide) _ _ _ rfl (World.ownsRow.alloc SW.out _) ⟨W.heap.size, 0, none⟩ 1 1 [.int .i64 x.m.ck, .int .i64 p, .int .u8 b] rfl rfl (app_cells W x.m.ck p b) (app_one x.m.ck p b) (by unfold maxLen; omega) (by omega) (by simp; omega) ?_
    intro v' w5 hown hgrow _
    obtain ⟨a', q', ev'⟩ := own_shape hown
    subst ev'
    have hv' : (Value.slice ao x.ws.length cp).ownBlock ≠ some bb := fun e => SB.out.nw (by decide) (SW.out.lt e).2
    have B5 : Hid (Blk w5 bb (boxC V (x.wSd s') (.slice ao x.ws.length cp)) 59) := Lib.hid (by
      unfold Blk
      rw [hgrow.block bb (by simp; omega) (fun e => hv' e.symm)]
      exact SB.out.alloc _)
    have G5 : Hid (Blk w5 gc #[.pointer (some ⟨bb, 0, none⟩)] 56) := Lib.hid (by
      unfold Blk
      rw [hgrow.block gc (by have := SG.out.lt; simp; omega) (fun e => SG.out.nw (by decide) (SW.out.lt e.symm).2)]
      exact SG.out.alloc _)
    have M5 : Hid (Blk w5 mc #[.pointer (some ⟨bb, 0, none⟩)] 80) := Lib.hid (by
      unfold Blk
      rw [hgrow.block mc (by have := SM.out.lt; simp; omega) (fun e => SM.out.nw (by decide) (SW.out.lt e.symm).2)]
      exact SM.out.alloc _)
    have K5 : Hid (Kp 0 (· = bb) w w5) := Lib.hid ((SK.out.alloc _).grown hgrow (fun g hg => (SW.out.lt hg).2.alloc _))
    have H5 : Hid (Below H w0 w5) := Lib.hid (below_grown (Below.alloc SH.out lHW _) (by simp; omega) hgrow (World.ownsRow.alloc SW.out _) (Nat.le_refl _))
    have O5 := Lib.hid hown
    have c75v : w5.cell? ⟨bb, 75, none⟩ = some (.slice ao x.ws.length cp) := (B5.out.cell 75).trans (bx75 ..)
    have f5 := B5.out.free
    refine hK.out _ _ ⟨(B5.out.cell 72).trans (bx72 ..), G5.out.cell 0, M5.out.cell 0⟩ (fun hS => ?_)
    clear hK K hown hgrow
    try simp only [List.getElem_toArray, List.getElem_cons_succ, List.getElem_cons_zero, Act.put, List.setIfInBounds_toArray, List.set_cons_zero, List.set_cons_succ]
    refine wpAnyH_take (i := 14) (v := ?v14b) rfl (by kernel_rfl) (by kernel_rfl) (by kernel_rfl) (fun _ _ _ h => h) (Or.inl ⟨by rfl, ?y14b⟩) hS ?_
    case y14b => (intro X hSw; obtain ⟨hS1, hS2, hS3⟩ := hSw; go_simp; try with_reducible rfl)
    try simp only [List.getElem_toArray, List.getElem_cons_succ, List.getElem_cons_zero, Act.put, List.setIfInBounds_toArray, List.set_cons_zero, List.set_cons_succ]
    refine wpAnyH_take (i := 15) (v := ?v15b) rfl (by kernel_rfl) (by kernel_rfl) (by kernel_rfl) (fun _ _ _ h => h) (Or.inl ⟨by rfl, ?y15b⟩) hS ?_
    case y15b => (intro X hSw; obtain ⟨hS1, hS2, hS3⟩ := hSw; go_simp; try with_reducible rfl)
    try simp only [List.getElem_toArray, List.getElem_cons_succ, List.getElem_cons_zero, Act.put, List.setIfInBounds_toArray, List.set_cons_zero, List.set_cons_succ]
    refine wpAnyH_ready (rs := [16]) (by kernel_rfl) (by simp) (AllReadyH.cons rfl (fun K hK => ?_) AllReadyH.nil)
    go_simp
    have B6 := Lib.hid (Blk.set B5.out (bs75 V (x.wSd s') (.slice ao x.ws.length cp) (.slice a' (x.ws.length + 1) q')))
    refine hK.out _ _ ⟨(B6.out.cell 72).trans (bx72 ..), (Blk.setAt G5.out ng).cell 0, (Blk.setAt M5.out nm).cell 0⟩ (fun hS => ?_)
    clear hK K
    refine wpAnyH_done (by kernel_rfl) ?_ _
    have KF : Kp 0 (· = bb) w (w5.setCell ⟨bb, 75, none⟩ (.slice a' (x.ws.length + 1) q')) := K5.out.setCell (Or.inr rfl)
    have RF : RelX 59 w0 V bb H (w5.setCell ⟨bb, 75, none⟩ (.slice a' (x.ws.length + 1) q')) (snd2 x s' ⟨x.m.ck, p, b⟩) := by
      refine RelX.box2 L ⟨ST.out.2.2.1, ST.out.2.2.2.1⟩ (by decide) KF (Below.setCell (p := ⟨bb, 75, none⟩) H5.out L1 _) B6.out rfl ?_ (inSd ST.out.2.2.2.2 HP.out.1 HP.out.2)
      show World.ownsRow _ _ _ _ _ (x.ws ++ [_]).length (wrC (x.ws ++ [_]))
      rw [List.length_append, wrC_snoc]
      exact own_setAt O5.out (fun g hg e => B5.out.nw (by decide) (by have := (O5.out.lt g hg); exact wrs_isw O5.out (by rw [hg, e])))
    have hF := Lib.hid (And.intro RF (kpx_bb (V := V) KF))
    clear RF KF
    go_wp2
    all_goals exact bodyPost_end (results_none rfl _ _ _) rfl ⟨rfl, hF.out⟩
theorem gaput_any {w0 : World} {V : Nat → Value} {bb gc mc B H : Nat} (L : LiesX V bb B H) (w : World) (x : Bx) (a b : Int) (ha : U16 a) (hb : U8 b) (hroom : x.ws.length < 1000000) (h : RelX 59 w0 V bb H w x) (hB : B ≤ w.heap.size) (cg : Blk w gc #[.pointer (some ⟨bb, 0, none⟩)] 56) (cm : Blk w mc #[.pointer (some ⟨bb, 0, none⟩)] 80) (ng : gc ≠ bb) (nm : mc ≠ bb) : Calls Try.prog 42 #[.int .u16 a, .int .u8 b, .pointer (some ⟨mc, 0, none⟩), .pointer (some ⟨gc, 0, none⟩)] w fun e w' => e = .returned (.tuple #[]) ∧ RelX 59 w0 V bb H w' (auxP x a b) ∧ Kp 0 (InX V bb) w w' := by
  by_cases c1 : 32768 ≤ a ∧ a < 49152
  · exact gp_own L w x a b ha hb hroom h hB cg cm ng nm c1.1 c1.2
  by_cases c2 : 49152 ≤ a ∧ a < 53248
  · cases hg : x.m.gr
    · exact gp_none L w x a b ha hb hroom h hB cg cm ng nm (Or.inr (Or.inl ⟨c2.1, c2.2, hg⟩))
    · exact gp_win L w x a b ha hb hroom h hB cg cm ng nm c2.1 c2.2 hg
  by_cases hp : isPort a = true
  · by_cases c3 : a % 32 < 24
    · exact gp_sound L w x a b ha hb hroom h hB cg cm ng nm hp c3
    by_cases c4 : a % 32 = 24
    · exact gp_mail L w x a b ha hb hroom h hB cg cm ng nm hp c4
    · exact gp_none L w x a b ha hb hroom h hB cg cm ng nm (Or.inr (Or.inr (Or.inl ⟨hp, by omega⟩)))
  · refine gp_none L w x a b ha hb hroom h hB cg cm ng nm ?_
    unfold isPort at hp
    simp at hp
    obtain ⟨a0, a1⟩ := ha
    omega
end Go.Proofs.Ytimccpmdgfneoaa

/- The document's machine: what the main processor writes. Conditions: the machine lies in a game. -/
namespace Go.Proofs.Ytimccpmdgfneoaa
open Go.RowKit Go.Mq
set_option linter.unusedVariables false
set_option linter.unusedSimpArgs false
set_option maxHeartbeats 4000000
set_option maxRecDepth 100000
theorem Far.nb {V : Nat → Value} {bb gc mc hc lc B : Nat} (F : Far V bb gc mc hc lc B) : gc ≠ bb ∧ mc ≠ bb ∧ hc ≠ bb ∧ lc ≠ bb :=
  ⟨fun e => F.g (Or.inl e), fun e => F.m (Or.inl e), fun e => F.h (Or.inl e), fun e => F.l (Or.inl e)⟩
theorem gm_rom {w0 : World} {V : Nat → Value} {bb gc mc hc lc B H : Nat} (L : LiesX V bb B H) (w : World) (x : Bx) (a b : Int) (ha : U16 a) (hb : U8 b) (h : RelX 59 w0 V bb H w x) (hB : B ≤ w.heap.size) (c : Clo bb gc mc hc lc w) (F : Far V bb gc mc hc lc B) (h0 : 0 ≤ a) (h1 : a < 32768) : Calls Try.prog 38 #[.int .u16 a, .int .u8 b, .pointer (some ⟨mc, 0, none⟩), .pointer (some ⟨hc, 0, none⟩), .pointer (some ⟨lc, 0, none⟩), .pointer (some ⟨gc, 0, none⟩)] w fun e w' => e = .returned (.tuple #[]) ∧ RelX 59 w0 V bb H w' (mainP x a b) ∧ Kp 0 (InX V bb) w w' := by
  have e1 : mainP x a b = x := by unfold mainP; rw [if_neg (by omega), if_neg (by omega), if_neg (by unfold isPort; simp; omega)]
  rw [e1]
  have RG := Lib.hid (region_rom a h0 h1 w)
  have hh := Lib.hid h
  clear h L c F e1
  go_enter Try.func38, Try.ntmps38
  go_wp2_with fail
  refine RG.out.mono ?_
  rintro e w' ⟨rfl, rfl⟩
  go_wp2
  all_goals exact bodyPost_end (results_none rfl _ _ _) rfl ⟨rfl, hh.out, Kp.refl _ _ _⟩
theorem gm_no {w0 : World} {V : Nat → Value} {bb gc mc hc lc B H : Nat} (L : LiesX V bb B H) (w : World) (x : Bx) (a b : Int) (ha : U16 a) (hb : U8 b) (h : RelX 59 w0 V bb H w x) (hB : B ≤ w.heap.size) (c : Clo bb gc mc hc lc w) (F : Far V bb gc mc hc lc B) (h0 : 57344 ≤ a) (h1 : a < 65536) : Calls Try.prog 38 #[.int .u16 a, .int .u8 b, .pointer (some ⟨mc, 0, none⟩), .pointer (some ⟨hc, 0, none⟩), .pointer (some ⟨lc, 0, none⟩), .pointer (some ⟨gc, 0, none⟩)] w fun e w' => e = .returned (.tuple #[]) ∧ RelX 59 w0 V bb H w' (mainP x a b) ∧ Kp 0 (InX V bb) w w' := by
  have e1 : mainP x a b = x := by unfold mainP; rw [if_neg (by omega), if_neg (by omega), if_neg (by unfold isPort; simp; omega)]
  rw [e1]
  have RG := Lib.hid (region_no a h0 h1 w)
  have hh := Lib.hid h
  clear h L c F e1
  go_enter Try.func38, Try.ntmps38
  go_wp2_with fail
  refine RG.out.mono ?_
  rintro e w' ⟨rfl, rfl⟩
  go_wp2
  all_goals exact bodyPost_end (results_none rfl _ _ _) rfl ⟨rfl, hh.out, Kp.refl _ _ _⟩
theorem gm_ram {w0 : World} {V : Nat → Value} {bb gc mc hc lc B H : Nat} (L : LiesX V bb B H) (w : World) (x : Bx) (a b : Int) (ha : U16 a) (hb : U8 b) (h : RelX 59 w0 V bb H w x) (hB : B ≤ w.heap.size) (c : Clo bb gc mc hc lc w) (F : Far V bb gc mc hc lc B) (h0 : 32768 ≤ a) (h1 : a < 49152) : Calls Try.prog 38 #[.int .u16 a, .int .u8 b, .pointer (some ⟨mc, 0, none⟩), .pointer (some ⟨hc, 0, none⟩), .pointer (some ⟨lc, 0, none⟩), .pointer (some ⟨gc, 0, none⟩)] w fun e w' => e = .returned (.tuple #[]) ∧ RelX 59 w0 V bb H w' (mainP x a b) ∧ Kp 0 (InX V bb) w w' := by
  have e1 : mainP x a b = { x with m := poke x.m 2 (a % 128).toNat b } := by unfold mainP; rw [if_pos ⟨h0, h1⟩]
  rw [e1]
  have RG := Lib.hid (region_ram a h0 h1 w)
  have hh := Lib.hid h
  obtain ⟨h1', ⟨wv, hbx, hws⟩, hm, hf, hi⟩ := h
  have lb := hbx.lt
  have g1 : w.cell? ⟨mc, 0, none⟩ = some (.pointer (some ⟨bb, 0, none⟩)) := c.m.cell 0
  have c32 : w.cell? ⟨bb, 32, none⟩ = some (V 2) := (hbx.cell 32).trans (bx32 ..)
  have e2 := hf.l2
  obtain ⟨k, hk⟩ : ∃ k : Nat, (a - 32768).tmod 128 = (k : Int) := ⟨((a - 32768).tmod 128).toNat, by have := Int.tmod_nonneg 128 (show 0 ≤ a - 32768 by omega); omega⟩
  have hk2 : (a - 32768) % 128 = (k : Int) := by rw [← hk, Int.tmod_eq_emod_of_nonneg (by omega)]
  have hk3 : a % 128 = (k : Int) := by omega
  obtain ⟨g, cap, hv, hg, hc', hz, hl⟩ := hm.at 2 (by omega) k (by omega)
  rw [hv, e2] at c32
  have k1 : (k : Int) < 128 := by omega
  have RP := Lib.hid (RelX.poke L hh.out 2 (by omega) k b hb g hg (by decide))
  have KP := Lib.hid (kpx_cell (bb := bb) (k := k) (by omega) hg w (.int .u8 b))
  rw [hk3]
  simp only [Int.toNat_natCast]
  obtain ⟨a0, a1⟩ := ha
  clear hv e2 hm hg hh hk2 hk3 e1 hbx hws hi h1' hf c F
  go_enter Try.func38, Try.ntmps38
  go_wp2_with fail
  refine RG.out.mono ?_
  rintro e w' ⟨rfl, rfl⟩
  go_wp2
  all_goals exact bodyPost_end (results_none rfl _ _ _) rfl ⟨rfl, RP.out, KP.out⟩
theorem gm_win {w0 : World} {V : Nat → Value} {bb gc mc hc lc B H : Nat} (L : LiesX V bb B H) (w : World) (x : Bx) (a b : Int) (ha : U16 a) (hb : U8 b) (h : RelX 59 w0 V bb H w x) (hB : B ≤ w.heap.size) (c : Clo bb gc mc hc lc w) (F : Far V bb gc mc hc lc B) (h0 : 49152 ≤ a) (h1 : a < 53248) : Calls Try.prog 38 #[.int .u16 a, .int .u8 b, .pointer (some ⟨mc, 0, none⟩), .pointer (some ⟨hc, 0, none⟩), .pointer (some ⟨lc, 0, none⟩), .pointer (some ⟨gc, 0, none⟩)] w fun e w' => e = .returned (.tuple #[]) ∧ RelX 59 w0 V bb H w' (mainP x a b) ∧ Kp 0 (InX V bb) w w' := by
  have e1 : mainP x a b = { x with m := poke x.m 4 (a % 256).toNat b } := by unfold mainP; rw [if_neg (by omega), if_pos ⟨h0, h1⟩]
  rw [e1]
  have RG := Lib.hid (region_win a h0 h1 w)
  have hh := Lib.hid h
  obtain ⟨h1', ⟨wv, hbx, hws⟩, hm, hf, hi⟩ := h
  have lb := hbx.lt
  have g1 : w.cell? ⟨mc, 0, none⟩ = some (.pointer (some ⟨bb, 0, none⟩)) := c.m.cell 0
  have c34 : w.cell? ⟨bb, 34, none⟩ = some (V 4) := (hbx.cell 34).trans (bx34 ..)
  have e4 := hf.l4
  obtain ⟨k, hk⟩ : ∃ k : Nat, a.tmod 256 = (k : Int) := ⟨(a.tmod 256).toNat, by have := Int.tmod_nonneg 256 ha.1; omega⟩
  have hk2 : a % 256 = (k : Int) := by rw [← hk, Int.tmod_eq_emod_of_nonneg ha.1]
  obtain ⟨g, cap, hv, hg, hc', hz, hl⟩ := hm.at 4 (by omega) k (by omega)
  rw [hv, e4] at c34
  have k1 : (k : Int) < 256 := by omega
  have RP := Lib.hid (RelX.poke L hh.out 4 (by omega) k b hb g hg (by decide))
  have KP := Lib.hid (kpx_cell (bb := bb) (k := k) (by omega) hg w (.int .u8 b))
  have hk3 := hk2
  rw [hk2]
  simp only [Int.toNat_natCast]
  obtain ⟨a0, a1⟩ := ha
  clear hv e4 hm hg hh hk2 e1 hbx hws hi h1' hf c F
  go_enter Try.func38, Try.ntmps38
  go_wp2_with fail
  refine RG.out.mono ?_
  rintro e w' ⟨rfl, rfl⟩
  go_wp2
  all_goals exact bodyPost_end (results_none rfl _ _ _) rfl ⟨rfl, RP.out, KP.out⟩
theorem gm_2 {w0 : World} {V : Nat → Value} {bb gc mc hc lc B H : Nat} (L : LiesX V bb B H) (w : World) (x : Bx) (a b : Int) (ha : U16 a) (hb : U8 b) (h : RelX 59 w0 V bb H w x) (hB : B ≤ w.heap.size) (c : Clo bb gc mc hc lc w) (F : Far V bb gc mc hc lc B) (hp : isPort a = true) (hk : a % 32 = 2) : Calls Try.prog 38 #[.int .u16 a, .int .u8 b, .pointer (some ⟨mc, 0, none⟩), .pointer (some ⟨hc, 0, none⟩), .pointer (some ⟨lc, 0, none⟩), .pointer (some ⟨gc, 0, none⟩)] w fun e w' => e = .returned (.tuple #[]) ∧ RelX 59 w0 V bb H w' (mainP x a b) ∧ Kp 0 (InX V bb) w w' := by
  have d : 53248 ≤ a ∧ a < 57344 := by unfold isPort at hp; simpa using hp
  obtain ⟨d1, d2⟩ := d
  have e1 : mainP x a b = x.wTm { x.m.tm with rl := hi16 x.m.tm.rl b } := by unfold mainP; rw [if_neg (by omega), if_neg (by omega), hp, if_pos rfl, hk]; unfold portP; simp only [reduceIte, Int.reduceEq]; try rfl
  rw [e1]
  have I := h.inn
  have HI := Lib.hid (inTm I (rl_ok I.tm (hi16_u (n := x.m.tm.rl) hb)))
  have U := (by first | exact I.tm.rl | exact I.fm | exact I.to : U16 (x.m.tm.rl))
  have HF := Lib.hid (high_any (x.m.tm.rl) b U hb)
  have RG := Lib.hid (region_ports a d1 d2 w); obtain ⟨h1, ⟨wv, hbx, hws⟩, hm, hf, hi⟩ := h; have L1 := L.lo; have L2 := L.hi; have lb := hbx.lt; have fb := hbx.free; have NB := Lib.hid F.nb; have KB := Lib.hid hbx; have CC := Lib.hid c; have ST := Lib.hid (And.intro h1 (And.intro hws (And.intro hm (And.intro hf hi))))
  have FF := Lib.hid (CC.out.h)
  have c0 : w.cell? ⟨bb, 41, none⟩ = some (.int .u16 x.m.tm.rl) := (KB.out.cell 41).trans (bx41 ..)
  clear e1 hbx hws hm hf hi h1 hp I U c F
  go_enter Try.func38, Try.ntmps38
  go_wp2_with fail
  refine RG.out.mono ?_
  rintro e w' ⟨rfl, rfl⟩
  go_wp2_with fail
  refine wp_region_F (fun k W => (k = 0 → W.cell? ⟨mc, 0, none⟩ = some (.pointer (some ⟨bb, 0, none⟩))) ∧ (k = 1 → W.cell? ⟨hc, 0, none⟩ = some (.func (.func 36) #[] #[])) ∧ (k = 2 → W.cell? ⟨mc, 0, none⟩ = some (.pointer (some ⟨bb, 0, none⟩))) ∧ (k = 6 → W.cell? ⟨bb, 41, none⟩ = some (.int .u16 x.m.tm.rl))) [0, 1, 2, 3, 4, 5, 6, 7, 9, 10, 11] (by kernel_rfl) ?_
  refine wpAnyF_take (i := 0) (v := ?v0_1) rfl (by kernel_rfl) (by kernel_rfl) (by kernel_rfl) (by kernel_rfl) (fun _ _ _ h => h) (Or.inl ⟨by rfl, ?y0_1⟩) ⟨(fun _ => (CC.out.m.cell 0)), (fun h => absurd h (by decide)), (fun h => absurd h (by decide)), (fun h => absurd h (by decide))⟩ ?_
  case y0_1 => (intro w hF; have hF2 := hF.1 rfl; clear hF; go_simp; try with_reducible rfl)
  try simp only [List.getElem_toArray, List.getElem_cons_succ, List.getElem_cons_zero, Act.put, List.setIfInBounds_toArray, List.set_cons_zero, List.set_cons_succ]
  refine wpAnyF_take (i := 1) (v := ?v1_1) rfl (by kernel_rfl) (by kernel_rfl) (by kernel_rfl) (by kernel_rfl) (fun _ _ _ h => h) (Or.inl ⟨by rfl, ?y1_1⟩) ⟨(fun h => absurd h (by decide)), (fun _ => (FF.out.cell 0)), (fun h => absurd h (by decide)), (fun h => absurd h (by decide))⟩ ?_
  case y1_1 => (intro w hF; have hF2 := hF.2.1 rfl; clear hF; go_simp; try with_reducible rfl)
  try simp only [List.getElem_toArray, List.getElem_cons_succ, List.getElem_cons_zero, Act.put, List.setIfInBounds_toArray, List.set_cons_zero, List.set_cons_succ]
  refine wpAnyF_take (i := 2) (v := ?v2_1) rfl (by kernel_rfl) (by kernel_rfl) (by kernel_rfl) (by kernel_rfl) (fun _ _ _ h => h) (Or.inl ⟨by rfl, ?y2_1⟩) ⟨(fun h => absurd h (by decide)), (fun h => absurd h (by decide)), (fun _ => (CC.out.m.cell 0)), (fun h => absurd h (by decide))⟩ ?_
  case y2_1 => (intro w hF; have hF2 := hF.2.2.1 rfl; clear hF; go_simp; try with_reducible rfl)
  try simp only [List.getElem_toArray, List.getElem_cons_succ, List.getElem_cons_zero, Act.put, List.setIfInBounds_toArray, List.set_cons_zero, List.set_cons_succ]
  refine wpAnyF_take (i := 3) (v := ?v3_1) rfl (by kernel_rfl) (by kernel_rfl) (by kernel_rfl) (by kernel_rfl) (fun _ _ _ h => h) (Or.inl ⟨by rfl, ?y3_1⟩) ⟨(fun h => absurd h (by decide)), (fun h => absurd h (by decide)), (fun h => absurd h (by decide)), (fun h => absurd h (by decide))⟩ ?_
  case y3_1 => (intro w hF; clear hF; go_simp; try with_reducible rfl)
  try simp only [List.getElem_toArray, List.getElem_cons_succ, List.getElem_cons_zero, Act.put, List.setIfInBounds_toArray, List.set_cons_zero, List.set_cons_succ]
  refine wpAnyF_take (i := 4) (v := ?v4_1) rfl (by kernel_rfl) (by kernel_rfl) (by kernel_rfl) (by kernel_rfl) (fun _ _ _ h => h) (Or.inl ⟨by rfl, ?y4_1⟩) ⟨(fun h => absurd h (by decide)), (fun h => absurd h (by decide)), (fun h => absurd h (by decide)), (fun h => absurd h (by decide))⟩ ?_
  case y4_1 => (intro w hF; clear hF; go_simp; try with_reducible rfl)
  try simp only [List.getElem_toArray, List.getElem_cons_succ, List.getElem_cons_zero, Act.put, List.setIfInBounds_toArray, List.set_cons_zero, List.set_cons_succ]
  refine wpAnyF_take (i := 5) (v := ?v5_1) rfl (by kernel_rfl) (by kernel_rfl) (by kernel_rfl) (by kernel_rfl) (fun _ _ _ h => h) (Or.inl ⟨by rfl, ?y5_1⟩) ⟨(fun h => absurd h (by decide)), (fun h => absurd h (by decide)), (fun h => absurd h (by decide)), (fun h => absurd h (by decide))⟩ ?_
  case y5_1 => (intro w hF; clear hF; go_simp; try with_reducible rfl)
  try simp only [List.getElem_toArray, List.getElem_cons_succ, List.getElem_cons_zero, Act.put, List.setIfInBounds_toArray, List.set_cons_zero, List.set_cons_succ]
  refine wpAnyF_take (i := 6) (v := ?v6_1) rfl (by kernel_rfl) (by kernel_rfl) (by kernel_rfl) (by kernel_rfl) (fun _ _ _ h => h) (Or.inl ⟨by rfl, ?y6_1⟩) ⟨(fun h => absurd h (by decide)), (fun h => absurd h (by decide)), (fun h => absurd h (by decide)), (fun _ => ((KB.out.cell 41).trans (bx41 ..)))⟩ ?_
  case y6_1 => (intro w hF; have hF2 := hF.2.2.2 rfl; clear hF; go_simp; try with_reducible rfl)
  try simp only [List.getElem_toArray, List.getElem_cons_succ, List.getElem_cons_zero, Act.put, List.setIfInBounds_toArray, List.set_cons_zero, List.set_cons_succ]
  refine wpAnyF_take (i := 7) (v := ?v7_1) rfl (by kernel_rfl) (by kernel_rfl) (by kernel_rfl) (by kernel_rfl) (fun _ _ _ h => h) (Or.inl ⟨by rfl, ?y7_1⟩) ⟨(fun h => absurd h (by decide)), (fun h => absurd h (by decide)), (fun h => absurd h (by decide)), (fun h => absurd h (by decide))⟩ ?_
  case y7_1 => (intro w hF; clear hF; go_simp; try with_reducible rfl)
  try simp only [List.getElem_toArray, List.getElem_cons_succ, List.getElem_cons_zero, Act.put, List.setIfInBounds_toArray, List.set_cons_zero, List.set_cons_succ]
  refine wpAnyF_ready (rs := [8]) (by kernel_rfl) (by simp) (AllReadyF.cons rfl (fun K hK => ?_) AllReadyF.nil)
  go_simp
  refine (HF.out _).mono ?_
  rintro e w1 ⟨rfl, rfl⟩
  try go_wp2_with fail
  refine hK.out _ _ (Sat.all (by kernel_rfl) (fun k => ⟨(fun _ => (CC.out.m.cell 0)), (fun _ => (FF.out.cell 0)), (fun _ => (CC.out.m.cell 0)), (fun _ => ((KB.out.cell 41).trans (bx41 ..)))⟩)) ?_
  clear hK K
  try simp only [List.getElem_toArray, List.getElem_cons_succ, List.getElem_cons_zero, Act.put, List.setIfInBounds_toArray, List.set_cons_zero, List.set_cons_succ]
  refine wpAnyF_take (i := 9) (v := ?v9_1) rfl (by kernel_rfl) (by kernel_rfl) (by kernel_rfl) (by kernel_rfl) (fun _ _ _ h => h) (Or.inl ⟨by rfl, ?y9_1⟩) ⟨(fun h => absurd h (by decide)), (fun h => absurd h (by decide)), (fun h => absurd h (by decide)), (fun h => absurd h (by decide))⟩ ?_
  case y9_1 => (intro w hF; clear hF; go_simp; try with_reducible rfl)
  try simp only [List.getElem_toArray, List.getElem_cons_succ, List.getElem_cons_zero, Act.put, List.setIfInBounds_toArray, List.set_cons_zero, List.set_cons_succ]
  refine wpAnyF_take (i := 10) (v := ?v10_1) rfl (by kernel_rfl) (by kernel_rfl) (by kernel_rfl) (by kernel_rfl) (fun _ _ _ h => h) (Or.inl ⟨by rfl, ?y10_1⟩) ⟨(fun h => absurd h (by decide)), (fun h => absurd h (by decide)), (fun h => absurd h (by decide)), (fun h => absurd h (by decide))⟩ ?_
  case y10_1 => (intro w hF; clear hF; go_simp; try with_reducible rfl)
  try simp only [List.getElem_toArray, List.getElem_cons_succ, List.getElem_cons_zero, Act.put, List.setIfInBounds_toArray, List.set_cons_zero, List.set_cons_succ]
  refine wpAnyF_take (i := 11) (v := ?v11_1) rfl (by kernel_rfl) (by kernel_rfl) (by kernel_rfl) (by kernel_rfl) (fun _ _ _ h => h) (Or.inl ⟨by rfl, ?y11_1⟩) ⟨(fun h => absurd h (by decide)), (fun h => absurd h (by decide)), (fun h => absurd h (by decide)), (fun h => absurd h (by decide))⟩ ?_
  case y11_1 => (intro w hF; clear hF; go_simp; try with_reducible rfl)
  try simp only [List.getElem_toArray, List.getElem_cons_succ, List.getElem_cons_zero, Act.put, List.setIfInBounds_toArray, List.set_cons_zero, List.set_cons_succ]
  refine wpAnyF_ready (rs := [12]) (by kernel_rfl) (by simp) (AllReadyF.cons rfl (fun K hK => ?_) AllReadyF.nil)
  go_simp
  refine hK.out _ _ (Sat.off [0, 1, 2, 6] (fun k w hk => by simp only [List.mem_cons, List.not_mem_nil, or_false, not_or] at hk; exact ⟨(fun e => absurd e hk.1), (fun e => absurd e hk.2.1), (fun e => absurd e hk.2.2.1), (fun e => absurd e hk.2.2.2)⟩) (by kernel_rfl) _ _) ?_
  clear hK K
  try simp only [List.getElem_toArray, List.getElem_cons_succ, List.getElem_cons_zero, Act.put, List.setIfInBounds_toArray, List.set_cons_zero, List.set_cons_succ]
  refine wpAnyF_done (by kernel_rfl) ?_ _
  go_wp2
  all_goals exact bodyPost_end (results_none rfl _ _ _) rfl ⟨rfl, RelX.box1 L ST.out KB.out (((But.refl bb w).drew).setCell rfl _) (by decide) (Blk.set KB.out.drew (bs41 V x wv _)) rfl rfl HI.out, (((But.refl bb w).drew).setCell rfl _).kpx⟩
theorem gm_3 {w0 : World} {V : Nat → Value} {bb gc mc hc lc B H : Nat} (L : LiesX V bb B H) (w : World) (x : Bx) (a b : Int) (ha : U16 a) (hb : U8 b) (h : RelX 59 w0 V bb H w x) (hB : B ≤ w.heap.size) (c : Clo bb gc mc hc lc w) (F : Far V bb gc mc hc lc B) (hp : isPort a = true) (hk : a % 32 = 3) : Calls Try.prog 38 #[.int .u16 a, .int .u8 b, .pointer (some ⟨mc, 0, none⟩), .pointer (some ⟨hc, 0, none⟩), .pointer (some ⟨lc, 0, none⟩), .pointer (some ⟨gc, 0, none⟩)] w fun e w' => e = .returned (.tuple #[]) ∧ RelX 59 w0 V bb H w' (mainP x a b) ∧ Kp 0 (InX V bb) w w' := by
  have d : 53248 ≤ a ∧ a < 57344 := by unfold isPort at hp; simpa using hp
  obtain ⟨d1, d2⟩ := d
  have e1 : mainP x a b = x.wTm { x.m.tm with rl := lo16 x.m.tm.rl b } := by unfold mainP; rw [if_neg (by omega), if_neg (by omega), hp, if_pos rfl, hk]; unfold portP; simp only [reduceIte, Int.reduceEq]; try rfl
  rw [e1]
  have I := h.inn
  have HI := Lib.hid (inTm I (rl_ok I.tm (lo16_u I.tm.rl hb)))
  have U := (by first | exact I.tm.rl | exact I.fm | exact I.to : U16 (x.m.tm.rl))
  have HF := Lib.hid (low_any (x.m.tm.rl) b U hb)
  have RG := Lib.hid (region_ports a d1 d2 w); obtain ⟨h1, ⟨wv, hbx, hws⟩, hm, hf, hi⟩ := h; have L1 := L.lo; have L2 := L.hi; have lb := hbx.lt; have fb := hbx.free; have NB := Lib.hid F.nb; have KB := Lib.hid hbx; have CC := Lib.hid c; have ST := Lib.hid (And.intro h1 (And.intro hws (And.intro hm (And.intro hf hi))))
  have FF := Lib.hid (CC.out.l)
  have c0 : w.cell? ⟨bb, 41, none⟩ = some (.int .u16 x.m.tm.rl) := (KB.out.cell 41).trans (bx41 ..)
  clear e1 hbx hws hm hf hi h1 hp I U c F
  go_enter Try.func38, Try.ntmps38
  go_wp2_with fail
  refine RG.out.mono ?_
  rintro e w' ⟨rfl, rfl⟩
  go_wp2_with fail
  refine wp_region_F (fun k W => (k = 0 → W.cell? ⟨mc, 0, none⟩ = some (.pointer (some ⟨bb, 0, none⟩))) ∧ (k = 1 → W.cell? ⟨lc, 0, none⟩ = some (.func (.func 37) #[] #[])) ∧ (k = 2 → W.cell? ⟨mc, 0, none⟩ = some (.pointer (some ⟨bb, 0, none⟩))) ∧ (k = 6 → W.cell? ⟨bb, 41, none⟩ = some (.int .u16 x.m.tm.rl))) [0, 1, 2, 3, 4, 5, 6, 7, 9, 10, 11] (by kernel_rfl) ?_
  refine wpAnyF_take (i := 0) (v := ?v0_2) rfl (by kernel_rfl) (by kernel_rfl) (by kernel_rfl) (by kernel_rfl) (fun _ _ _ h => h) (Or.inl ⟨by rfl, ?y0_2⟩) ⟨(fun _ => (CC.out.m.cell 0)), (fun h => absurd h (by decide)), (fun h => absurd h (by decide)), (fun h => absurd h (by decide))⟩ ?_
  case y0_2 => (intro w hF; have hF2 := hF.1 rfl; clear hF; go_simp; try with_reducible rfl)
  try simp only [List.getElem_toArray, List.getElem_cons_succ, List.getElem_cons_zero, Act.put, List.setIfInBounds_toArray, List.set_cons_zero, List.set_cons_succ]
  refine wpAnyF_take (i := 1) (v := ?v1_2) rfl (by kernel_rfl) (by kernel_rfl) (by kernel_rfl) (by kernel_rfl) (fun _ _ _ h => h) (Or.inl ⟨by rfl, ?y1_2⟩) ⟨(fun h => absurd h (by decide)), (fun _ => (FF.out.cell 0)), (fun h => absurd h (by decide)), (fun h => absurd h (by decide))⟩ ?_
  case y1_2 => (intro w hF; have hF2 := hF.2.1 rfl; clear hF; go_simp; try with_reducible rfl)
  try simp only [List.getElem_toArray, List.getElem_cons_succ, List.getElem_cons_zero, Act.put, List.setIfInBounds_toArray, List.set_cons_zero, List.set_cons_succ]
  refine wpAnyF_take (i := 2) (v := ?v2_2) rfl (by kernel_rfl) (by kernel_rfl) (by kernel_rfl) (by kernel_rfl) (fun _ _ _ h => h) (Or.inl ⟨by rfl, ?y2_2⟩) ⟨(fun h => absurd h (by decide)), (fun h => absurd h (by decide)), (fun _ => (CC.out.m.cell 0)), (fun h => absurd h (by decide))⟩ ?_
  case y2_2 => (intro w hF; have hF2 := hF.2.2.1 rfl; clear hF; go_simp; try with_reducible rfl)
  try simp only [List.getElem_toArray, List.getElem_cons_succ, List.getElem_cons_zero, Act.put, List.setIfInBounds_toArray, List.set_cons_zero, List.set_cons_succ]
  refine wpAnyF_take (i := 3) (v := ?v3_2) rfl (by kernel_rfl) (by kernel_rfl) (by kernel_rfl) (by kernel_rfl) (fun _ _ _ h => h) (Or.inl ⟨by rfl, ?y3_2⟩) ⟨(fun h => absurd h (by decide)), (fun h => absurd h (by decide)), (fun h => absurd h (by decide)), (fun h => absurd h (by decide))⟩ ?_
  case y3_2 => (intro w hF; clear hF; go_simp; try with_reducible rfl)
  try simp only [List.getElem_toArray, List.getElem_cons_succ, List.getElem_cons_zero, Act.put, List.setIfInBounds_toArray, List.set_cons_zero, List.set_cons_succ]
  refine wpAnyF_take (i := 4) (v := ?v4_2) rfl (by kernel_rfl) (by kernel_rfl) (by kernel_rfl) (by kernel_rfl) (fun _ _ _ h => h) (Or.inl ⟨by rfl, ?y4_2⟩) ⟨(fun h => absurd h (by decide)), (fun h => absurd h (by decide)), (fun h => absurd h (by decide)), (fun h => absurd h (by decide))⟩ ?_
  case y4_2 => (intro w hF; clear hF; go_simp; try with_reducible rfl)
  try simp only [List.getElem_toArray, List.getElem_cons_succ, List.getElem_cons_zero, Act.put, List.setIfInBounds_toArray, List.set_cons_zero, List.set_cons_succ]
  refine wpAnyF_take (i := 5) (v := ?v5_2) rfl (by kernel_rfl) (by kernel_rfl) (by kernel_rfl) (by kernel_rfl) (fun _ _ _ h => h) (Or.inl ⟨by rfl, ?y5_2⟩) ⟨(fun h => absurd h (by decide)), (fun h => absurd h (by decide)), (fun h => absurd h (by decide)), (fun h => absurd h (by decide))⟩ ?_
  case y5_2 => (intro w hF; clear hF; go_simp; try with_reducible rfl)
  try simp only [List.getElem_toArray, List.getElem_cons_succ, List.getElem_cons_zero, Act.put, List.setIfInBounds_toArray, List.set_cons_zero, List.set_cons_succ]
  refine wpAnyF_take (i := 6) (v := ?v6_2) rfl (by kernel_rfl) (by kernel_rfl) (by kernel_rfl) (by kernel_rfl) (fun _ _ _ h => h) (Or.inl ⟨by rfl, ?y6_2⟩) ⟨(fun h => absurd h (by decide)), (fun h => absurd h (by decide)), (fun h => absurd h (by decide)), (fun _ => ((KB.out.cell 41).trans (bx41 ..)))⟩ ?_
  case y6_2 => (intro w hF; have hF2 := hF.2.2.2 rfl; clear hF; go_simp; try with_reducible rfl)
  try simp only [List.getElem_toArray, List.getElem_cons_succ, List.getElem_cons_zero, Act.put, List.setIfInBounds_toArray, List.set_cons_zero, List.set_cons_succ]
  refine wpAnyF_take (i := 7) (v := ?v7_2) rfl (by kernel_rfl) (by kernel_rfl) (by kernel_rfl) (by kernel_rfl) (fun _ _ _ h => h) (Or.inl ⟨by rfl, ?y7_2⟩) ⟨(fun h => absurd h (by decide)), (fun h => absurd h (by decide)), (fun h => absurd h (by decide)), (fun h => absurd h (by decide))⟩ ?_
  case y7_2 => (intro w hF; clear hF; go_simp; try with_reducible rfl)
  try simp only [List.getElem_toArray, List.getElem_cons_succ, List.getElem_cons_zero, Act.put, List.setIfInBounds_toArray, List.set_cons_zero, List.set_cons_succ]
  refine wpAnyF_ready (rs := [8]) (by kernel_rfl) (by simp) (AllReadyF.cons rfl (fun K hK => ?_) AllReadyF.nil)
  go_simp
  refine (HF.out _).mono ?_
  rintro e w1 ⟨rfl, rfl⟩
  try go_wp2_with fail
  refine hK.out _ _ (Sat.all (by kernel_rfl) (fun k => ⟨(fun _ => (CC.out.m.cell 0)), (fun _ => (FF.out.cell 0)), (fun _ => (CC.out.m.cell 0)), (fun _ => ((KB.out.cell 41).trans (bx41 ..)))⟩)) ?_
  clear hK K
  try simp only [List.getElem_toArray, List.getElem_cons_succ, List.getElem_cons_zero, Act.put, List.setIfInBounds_toArray, List.set_cons_zero, List.set_cons_succ]
  refine wpAnyF_take (i := 9) (v := ?v9_2) rfl (by kernel_rfl) (by kernel_rfl) (by kernel_rfl) (by kernel_rfl) (fun _ _ _ h => h) (Or.inl ⟨by rfl, ?y9_2⟩) ⟨(fun h => absurd h (by decide)), (fun h => absurd h (by decide)), (fun h => absurd h (by decide)), (fun h => absurd h (by decide))⟩ ?_
  case y9_2 => (intro w hF; clear hF; go_simp; try with_reducible rfl)
  try simp only [List.getElem_toArray, List.getElem_cons_succ, List.getElem_cons_zero, Act.put, List.setIfInBounds_toArray, List.set_cons_zero, List.set_cons_succ]
  refine wpAnyF_take (i := 10) (v := ?v10_2) rfl (by kernel_rfl) (by kernel_rfl) (by kernel_rfl) (by kernel_rfl) (fun _ _ _ h => h) (Or.inl ⟨by rfl, ?y10_2⟩) ⟨(fun h => absurd h (by decide)), (fun h => absurd h (by decide)), (fun h => absurd h (by decide)), (fun h => absurd h (by decide))⟩ ?_
  case y10_2 => (intro w hF; clear hF; go_simp; try with_reducible rfl)
  try simp only [List.getElem_toArray, List.getElem_cons_succ, List.getElem_cons_zero, Act.put, List.setIfInBounds_toArray, List.set_cons_zero, List.set_cons_succ]
  refine wpAnyF_take (i := 11) (v := ?v11_2) rfl (by kernel_rfl) (by kernel_rfl) (by kernel_rfl) (by kernel_rfl) (fun _ _ _ h => h) (Or.inl ⟨by rfl, ?y11_2⟩) ⟨(fun h => absurd h (by decide)), (fun h => absurd h (by decide)), (fun h => absurd h (by decide)), (fun h => absurd h (by decide))⟩ ?_
  case y11_2 => (intro w hF; clear hF; go_simp; try with_reducible rfl)
  try simp only [List.getElem_toArray, List.getElem_cons_succ, List.getElem_cons_zero, Act.put, List.setIfInBounds_toArray, List.set_cons_zero, List.set_cons_succ]
  refine wpAnyF_ready (rs := [12]) (by kernel_rfl) (by simp) (AllReadyF.cons rfl (fun K hK => ?_) AllReadyF.nil)
  go_simp
  refine hK.out _ _ (Sat.off [0, 1, 2, 6] (fun k w hk => by simp only [List.mem_cons, List.not_mem_nil, or_false, not_or] at hk; exact ⟨(fun e => absurd e hk.1), (fun e => absurd e hk.2.1), (fun e => absurd e hk.2.2.1), (fun e => absurd e hk.2.2.2)⟩) (by kernel_rfl) _ _) ?_
  clear hK K
  try simp only [List.getElem_toArray, List.getElem_cons_succ, List.getElem_cons_zero, Act.put, List.setIfInBounds_toArray, List.set_cons_zero, List.set_cons_succ]
  refine wpAnyF_done (by kernel_rfl) ?_ _
  go_wp2
  all_goals exact bodyPost_end (results_none rfl _ _ _) rfl ⟨rfl, RelX.box1 L ST.out KB.out (((But.refl bb w).drew).setCell rfl _) (by decide) (Blk.set KB.out.drew (bs41 V x wv _)) rfl rfl HI.out, (((But.refl bb w).drew).setCell rfl _).kpx⟩
theorem gm_10 {w0 : World} {V : Nat → Value} {bb gc mc hc lc B H : Nat} (L : LiesX V bb B H) (w : World) (x : Bx) (a b : Int) (ha : U16 a) (hb : U8 b) (h : RelX 59 w0 V bb H w x) (hB : B ≤ w.heap.size) (c : Clo bb gc mc hc lc w) (F : Far V bb gc mc hc lc B) (hp : isPort a = true) (hk : a % 32 = 10) : Calls Try.prog 38 #[.int .u16 a, .int .u8 b, .pointer (some ⟨mc, 0, none⟩), .pointer (some ⟨hc, 0, none⟩), .pointer (some ⟨lc, 0, none⟩), .pointer (some ⟨gc, 0, none⟩)] w fun e w' => e = .returned (.tuple #[]) ∧ RelX 59 w0 V bb H w' (mainP x a b) ∧ Kp 0 (InX V bb) w w' := by
  have d : 53248 ≤ a ∧ a < 57344 := by unfold isPort at hp; simpa using hp
  obtain ⟨d1, d2⟩ := d
  have e1 : mainP x a b = ({ x with m := { x.m with fm := hi16 x.m.fm b } } : Bx) := by unfold mainP; rw [if_neg (by omega), if_neg (by omega), hp, if_pos rfl, hk]; unfold portP; simp only [reduceIte, Int.reduceEq]; try rfl
  rw [e1]
  have I := h.inn
  have HI := Lib.hid (inFm I (hi16_u (n := x.m.fm) hb))
  have U := (by first | exact I.fm | exact I.to : U16 (x.m.fm))
  have HF := Lib.hid (high_any (x.m.fm) b U hb)
  have RG := Lib.hid (region_ports a d1 d2 w); obtain ⟨h1, ⟨wv, hbx, hws⟩, hm, hf, hi⟩ := h; have L1 := L.lo; have L2 := L.hi; have lb := hbx.lt; have fb := hbx.free; have NB := Lib.hid F.nb; have KB := Lib.hid hbx; have CC := Lib.hid c; have ST := Lib.hid (And.intro h1 (And.intro hws (And.intro hm (And.intro hf hi))))
  have FF := Lib.hid (CC.out.h)
  have c0 : w.cell? ⟨bb, 65, none⟩ = some (.int .u16 x.m.fm) := (KB.out.cell 65).trans (bx65 ..)
  clear e1 hbx hws hm hf hi h1 hp I U c F
  go_enter Try.func38, Try.ntmps38
  go_wp2_with fail
  refine RG.out.mono ?_
  rintro e w' ⟨rfl, rfl⟩
  go_wp2_with fail
  refine wp_region_F (fun k W => (k = 0 → W.cell? ⟨mc, 0, none⟩ = some (.pointer (some ⟨bb, 0, none⟩))) ∧ (k = 1 → W.cell? ⟨hc, 0, none⟩ = some (.func (.func 36) #[] #[])) ∧ (k = 2 → W.cell? ⟨mc, 0, none⟩ = some (.pointer (some ⟨bb, 0, none⟩))) ∧ (k = 5 → W.cell? ⟨bb, 65, none⟩ = some (.int .u16 x.m.fm))) [0, 1, 2, 3, 4, 5, 6, 8, 9] (by kernel_rfl) ?_
  refine wpAnyF_take (i := 0) (v := ?v0_3) rfl (by kernel_rfl) (by kernel_rfl) (by kernel_rfl) (by kernel_rfl) (fun _ _ _ h => h) (Or.inl ⟨by rfl, ?y0_3⟩) ⟨(fun _ => (CC.out.m.cell 0)), (fun h => absurd h (by decide)), (fun h => absurd h (by decide)), (fun h => absurd h (by decide))⟩ ?_
  case y0_3 => (intro w hF; have hF2 := hF.1 rfl; clear hF; go_simp; try with_reducible rfl)
  try simp only [List.getElem_toArray, List.getElem_cons_succ, List.getElem_cons_zero, Act.put, List.setIfInBounds_toArray, List.set_cons_zero, List.set_cons_succ]
  refine wpAnyF_take (i := 1) (v := ?v1_3) rfl (by kernel_rfl) (by kernel_rfl) (by kernel_rfl) (by kernel_rfl) (fun _ _ _ h => h) (Or.inl ⟨by rfl, ?y1_3⟩) ⟨(fun h => absurd h (by decide)), (fun _ => (FF.out.cell 0)), (fun h => absurd h (by decide)), (fun h => absurd h (by decide))⟩ ?_
  case y1_3 => (intro w hF; have hF2 := hF.2.1 rfl; clear hF; go_simp; try with_reducible rfl)
  try simp only [List.getElem_toArray, List.getElem_cons_succ, List.getElem_cons_zero, Act.put, List.setIfInBounds_toArray, List.set_cons_zero, List.set_cons_succ]
  refine wpAnyF_take (i := 2) (v := ?v2_3) rfl (by kernel_rfl) (by kernel_rfl) (by kernel_rfl) (by kernel_rfl) (fun _ _ _ h => h) (Or.inl ⟨by rfl, ?y2_3⟩) ⟨(fun h => absurd h (by decide)), (fun h => absurd h (by decide)), (fun _ => (CC.out.m.cell 0)), (fun h => absurd h (by decide))⟩ ?_
  case y2_3 => (intro w hF; have hF2 := hF.2.2.1 rfl; clear hF; go_simp; try with_reducible rfl)
  try simp only [List.getElem_toArray, List.getElem_cons_succ, List.getElem_cons_zero, Act.put, List.setIfInBounds_toArray, List.set_cons_zero, List.set_cons_succ]
  refine wpAnyF_take (i := 3) (v := ?v3_3) rfl (by kernel_rfl) (by kernel_rfl) (by kernel_rfl) (by kernel_rfl) (fun _ _ _ h => h) (Or.inl ⟨by rfl, ?y3_3⟩) ⟨(fun h => absurd h (by decide)), (fun h => absurd h (by decide)), (fun h => absurd h (by decide)), (fun h => absurd h (by decide))⟩ ?_
  case y3_3 => (intro w hF; clear hF; go_simp; try with_reducible rfl)
  try simp only [List.getElem_toArray, List.getElem_cons_succ, List.getElem_cons_zero, Act.put, List.setIfInBounds_toArray, List.set_cons_zero, List.set_cons_succ]
  refine wpAnyF_take (i := 4) (v := ?v4_3) rfl (by kernel_rfl) (by kernel_rfl) (by kernel_rfl) (by kernel_rfl) (fun _ _ _ h => h) (Or.inl ⟨by rfl, ?y4_3⟩) ⟨(fun h => absurd h (by decide)), (fun h => absurd h (by decide)), (fun h => absurd h (by decide)), (fun h => absurd h (by decide))⟩ ?_
  case y4_3 => (intro w hF; clear hF; go_simp; try with_reducible rfl)
  try simp only [List.getElem_toArray, List.getElem_cons_succ, List.getElem_cons_zero, Act.put, List.setIfInBounds_toArray, List.set_cons_zero, List.set_cons_succ]
  refine wpAnyF_take (i := 5) (v := ?v5_3) rfl (by kernel_rfl) (by kernel_rfl) (by kernel_rfl) (by kernel_rfl) (fun _ _ _ h => h) (Or.inl ⟨by rfl, ?y5_3⟩) ⟨(fun h => absurd h (by decide)), (fun h => absurd h (by decide)), (fun h => absurd h (by decide)), (fun _ => ((KB.out.cell 65).trans (bx65 ..)))⟩ ?_
  case y5_3 => (intro w hF; have hF2 := hF.2.2.2 rfl; clear hF; go_simp; try with_reducible rfl)
  try simp only [List.getElem_toArray, List.getElem_cons_succ, List.getElem_cons_zero, Act.put, List.setIfInBounds_toArray, List.set_cons_zero, List.set_cons_succ]
  refine wpAnyF_take (i := 6) (v := ?v6_3) rfl (by kernel_rfl) (by kernel_rfl) (by kernel_rfl) (by kernel_rfl) (fun _ _ _ h => h) (Or.inl ⟨by rfl, ?y6_3⟩) ⟨(fun h => absurd h (by decide)), (fun h => absurd h (by decide)), (fun h => absurd h (by decide)), (fun h => absurd h (by decide))⟩ ?_
  case y6_3 => (intro w hF; clear hF; go_simp; try with_reducible rfl)
  try simp only [List.getElem_toArray, List.getElem_cons_succ, List.getElem_cons_zero, Act.put, List.setIfInBounds_toArray, List.set_cons_zero, List.set_cons_succ]
  refine wpAnyF_ready (rs := [7]) (by kernel_rfl) (by simp) (AllReadyF.cons rfl (fun K hK => ?_) AllReadyF.nil)
  go_simp
  refine (HF.out _).mono ?_
  rintro e w1 ⟨rfl, rfl⟩
  try go_wp2_with fail
  refine hK.out _ _ (Sat.all (by kernel_rfl) (fun k => ⟨(fun _ => (CC.out.m.cell 0)), (fun _ => (FF.out.cell 0)), (fun _ => (CC.out.m.cell 0)), (fun _ => ((KB.out.cell 65).trans (bx65 ..)))⟩)) ?_
  clear hK K
  try simp only [List.getElem_toArray, List.getElem_cons_succ, List.getElem_cons_zero, Act.put, List.setIfInBounds_toArray, List.set_cons_zero, List.set_cons_succ]
  refine wpAnyF_take (i := 8) (v := ?v8_3) rfl (by kernel_rfl) (by kernel_rfl) (by kernel_rfl) (by kernel_rfl) (fun _ _ _ h => h) (Or.inl ⟨by rfl, ?y8_3⟩) ⟨(fun h => absurd h (by decide)), (fun h => absurd h (by decide)), (fun h => absurd h (by decide)), (fun h => absurd h (by decide))⟩ ?_
  case y8_3 => (intro w hF; clear hF; go_simp; try with_reducible rfl)
  try simp only [List.getElem_toArray, List.getElem_cons_succ, List.getElem_cons_zero, Act.put, List.setIfInBounds_toArray, List.set_cons_zero, List.set_cons_succ]
  refine wpAnyF_take (i := 9) (v := ?v9_3) rfl (by kernel_rfl) (by kernel_rfl) (by kernel_rfl) (by kernel_rfl) (fun _ _ _ h => h) (Or.inl ⟨by rfl, ?y9_3⟩) ⟨(fun h => absurd h (by decide)), (fun h => absurd h (by decide)), (fun h => absurd h (by decide)), (fun h => absurd h (by decide))⟩ ?_
  case y9_3 => (intro w hF; clear hF; go_simp; try with_reducible rfl)
  try simp only [List.getElem_toArray, List.getElem_cons_succ, List.getElem_cons_zero, Act.put, List.setIfInBounds_toArray, List.set_cons_zero, List.set_cons_succ]
  refine wpAnyF_ready (rs := [10]) (by kernel_rfl) (by simp) (AllReadyF.cons rfl (fun K hK => ?_) AllReadyF.nil)
  go_simp
  refine hK.out _ _ (Sat.off [0, 1, 2, 5] (fun k w hk => by simp only [List.mem_cons, List.not_mem_nil, or_false, not_or] at hk; exact ⟨(fun e => absurd e hk.1), (fun e => absurd e hk.2.1), (fun e => absurd e hk.2.2.1), (fun e => absurd e hk.2.2.2)⟩) (by kernel_rfl) _ _) ?_
  clear hK K
  try simp only [List.getElem_toArray, List.getElem_cons_succ, List.getElem_cons_zero, Act.put, List.setIfInBounds_toArray, List.set_cons_zero, List.set_cons_succ]
  refine wpAnyF_done (by kernel_rfl) ?_ _
  go_wp2
  all_goals exact bodyPost_end (results_none rfl _ _ _) rfl ⟨rfl, RelX.box1 L ST.out KB.out (((But.refl bb w).drew).setCell rfl _) (by decide) (Blk.set KB.out.drew (bs65 V x wv _)) rfl rfl HI.out, (((But.refl bb w).drew).setCell rfl _).kpx⟩
theorem gm_11 {w0 : World} {V : Nat → Value} {bb gc mc hc lc B H : Nat} (L : LiesX V bb B H) (w : World) (x : Bx) (a b : Int) (ha : U16 a) (hb : U8 b) (h : RelX 59 w0 V bb H w x) (hB : B ≤ w.heap.size) (c : Clo bb gc mc hc lc w) (F : Far V bb gc mc hc lc B) (hp : isPort a = true) (hk : a % 32 = 11) : Calls Try.prog 38 #[.int .u16 a, .int .u8 b, .pointer (some ⟨mc, 0, none⟩), .pointer (some ⟨hc, 0, none⟩), .pointer (some ⟨lc, 0, none⟩), .pointer (some ⟨gc, 0, none⟩)] w fun e w' => e = .returned (.tuple #[]) ∧ RelX 59 w0 V bb H w' (mainP x a b) ∧ Kp 0 (InX V bb) w w' := by
  have d : 53248 ≤ a ∧ a < 57344 := by unfold isPort at hp; simpa using hp
  obtain ⟨d1, d2⟩ := d
  have e1 : mainP x a b = ({ x with m := { x.m with fm := lo16 x.m.fm b } } : Bx) := by unfold mainP; rw [if_neg (by omega), if_neg (by omega), hp, if_pos rfl, hk]; unfold portP; simp only [reduceIte, Int.reduceEq]; try rfl
  rw [e1]
  have I := h.inn
  have HI := Lib.hid (inFm I (lo16_u I.fm hb))
  have U := (by first | exact I.fm | exact I.to : U16 (x.m.fm))
  have HF := Lib.hid (low_any (x.m.fm) b U hb)
  have RG := Lib.hid (region_ports a d1 d2 w); obtain ⟨h1, ⟨wv, hbx, hws⟩, hm, hf, hi⟩ := h; have L1 := L.lo; have L2 := L.hi; have lb := hbx.lt; have fb := hbx.free; have NB := Lib.hid F.nb; have KB := Lib.hid hbx; have CC := Lib.hid c; have ST := Lib.hid (And.intro h1 (And.intro hws (And.intro hm (And.intro hf hi))))
  have FF := Lib.hid (CC.out.l)
  have c0 : w.cell? ⟨bb, 65, none⟩ = some (.int .u16 x.m.fm) := (KB.out.cell 65).trans (bx65 ..)
  clear e1 hbx hws hm hf hi h1 hp I U c F
  go_enter Try.func38, Try.ntmps38
  go_wp2_with fail
  refine RG.out.mono ?_
  rintro e w' ⟨rfl, rfl⟩
  go_wp2_with fail
  refine wp_region_F (fun k W => (k = 0 → W.cell? ⟨mc, 0, none⟩ = some (.pointer (some ⟨bb, 0, none⟩))) ∧ (k = 1 → W.cell? ⟨lc, 0, none⟩ = some (.func (.func 37) #[] #[])) ∧ (k = 2 → W.cell? ⟨mc, 0, none⟩ = some (.pointer (some ⟨bb, 0, none⟩))) ∧ (k = 5 → W.cell? ⟨bb, 65, none⟩ = some (.int .u16 x.m.fm))) [0, 1, 2, 3, 4, 5, 6, 8, 9] (by kernel_rfl) ?_
  refine wpAnyF_take (i := 0) (v := ?v0_4) rfl (by kernel_rfl) (by kernel_rfl) (by kernel_rfl) (by kernel_rfl) (fun _ _ _ h => h) (Or.inl ⟨by rfl, ?y0_4⟩) ⟨(fun _ => (CC.out.m.cell 0)), (fun h => absurd h (by decide)), (fun h => absurd h (by decide)), (fun h => absurd h (by decide))⟩ ?_
  case y0_4 => (intro w hF; have hF2 := hF.1 rfl; clear hF; go_simp; try with_reducible rfl)
  try simp only [List.getElem_toArray, List.getElem_cons_succ, List.getElem_cons_zero, Act.put, List.setIfInBounds_toArray, List.set_cons_zero, List.set_cons_succ]
  refine wpAnyF_take (i := 1) (v := ?v1_4) rfl (by kernel_rfl) (by kernel_rfl) (by kernel_rfl) (by kernel_rfl) (fun _ _ _ h => h) (Or.inl ⟨by rfl, ?y1_4⟩) ⟨(fun h => absurd h (by decide)), (fun _ => (FF.out.cell 0)), (fun h => absurd h (by decide)), (fun h => absurd h (by decide))⟩ ?_
  case y1_4 => (intro w hF; have hF2 := hF.2.1 rfl; clear hF; go_simp; try with_reducible rfl)
  try simp only [List.getElem_toArray, List.getElem_cons_succ, List.getElem_cons_zero, Act.put, List.setIfInBounds_toArray, List.set_cons_zero, List.set_cons_succ]
  refine wpAnyF_take (i := 2) (v := ?v2_4) rfl (by kernel_rfl) (by kernel_rfl) (by kernel_rfl) (by kernel_rfl) (fun _ _ _ h => h) (Or.inl ⟨by rfl, ?y2_4⟩) ⟨(fun h => absurd h (by decide)), (fun h => absurd h (by decide)), (fun _ => (CC.out.m.cell 0)), (fun h => absurd h (by decide))⟩ ?_
  case y2_4 => (intro w hF; have hF2 := hF.2.2.1 rfl; clear hF; go_simp; try with_reducible rfl)
  try simp only [List.getElem_toArray, List.getElem_cons_succ, List.getElem_cons_zero, Act.put, List.setIfInBounds_toArray, List.set_cons_zero, List.set_cons_succ]
  refine wpAnyF_take (i := 3) (v := ?v3_4) rfl (by kernel_rfl) (by kernel_rfl) (by kernel_rfl) (by kernel_rfl) (fun _ _ _ h => h) (Or.inl ⟨by rfl, ?y3_4⟩) ⟨(fun h => absurd h (by decide)), (fun h => absurd h (by decide)), (fun h => absurd h (by decide)), (fun h => absurd h (by decide))⟩ ?_
  case y3_4 => (intro w hF; clear hF; go_simp; try with_reducible rfl)
  try simp only [List.getElem_toArray, List.getElem_cons_succ, List.getElem_cons_zero, Act.put, List.setIfInBounds_toArray, List.set_cons_zero, List.set_cons_succ]
  refine wpAnyF_take (i := 4) (v := ?v4_4) rfl (by kernel_rfl) (by kernel_rfl) (by kernel_rfl) (by kernel_rfl) (fun _ _ _ h => h) (Or.inl ⟨by rfl, ?y4_4⟩) ⟨(fun h => absurd h (by decide)), (fun h => absurd h (by decide)), (fun h => absurd h (by decide)), (fun h => absurd h (by decide))⟩ ?_
  case y4_4 => (intro w hF; clear hF; go_simp; try with_reducible rfl)
  try simp only [List.getElem_toArray, List.getElem_cons_succ, List.getElem_cons_zero, Act.put, List.setIfInBounds_toArray, List.set_cons_zero, List.set_cons_succ]
  refine wpAnyF_take (i := 5) (v := ?v5_4) rfl (by kernel_rfl) (by kernel_rfl) (by kernel_rfl) (by kernel_rfl) (fun _ _ _ h => h) (Or.inl ⟨by rfl, ?y5_4⟩) ⟨(fun h => absurd h (by decide)), (fun h => absurd h (by decide)), (fun h => absurd h (by decide)), (fun _ => ((KB.out.cell 65).trans (bx65 ..)))⟩ ?_
  case y5_4 => (intro w hF; have hF2 := hF.2.2.2 rfl; clear hF; go_simp; try with_reducible rfl)
  try simp only [List.getElem_toArray, List.getElem_cons_succ, List.getElem_cons_zero, Act.put, List.setIfInBounds_toArray, List.set_cons_zero, List.set_cons_succ]
  refine wpAnyF_take (i := 6) (v := ?v6_4) rfl (by kernel_rfl) (by kernel_rfl) (by kernel_rfl) (by kernel_rfl) (fun _ _ _ h => h) (Or.inl ⟨by rfl, ?y6_4⟩) ⟨(fun h => absurd h (by decide)), (fun h => absurd h (by decide)), (fun h => absurd h (by decide)), (fun h => absurd h (by decide))⟩ ?_
  case y6_4 => (intro w hF; clear hF; go_simp; try with_reducible rfl)
  try simp only [List.getElem_toArray, List.getElem_cons_succ, List.getElem_cons_zero, Act.put, List.setIfInBounds_toArray, List.set_cons_zero, List.set_cons_succ]
  refine wpAnyF_ready (rs := [7]) (by kernel_rfl) (by simp) (AllReadyF.cons rfl (fun K hK => ?_) AllReadyF.nil)
  go_simp
  refine (HF.out _).mono ?_
  rintro e w1 ⟨rfl, rfl⟩
  try go_wp2_with fail
  refine hK.out _ _ (Sat.all (by kernel_rfl) (fun k => ⟨(fun _ => (CC.out.m.cell 0)), (fun _ => (FF.out.cell 0)), (fun _ => (CC.out.m.cell 0)), (fun _ => ((KB.out.cell 65).trans (bx65 ..)))⟩)) ?_
  clear hK K
  try simp only [List.getElem_toArray, List.getElem_cons_succ, List.getElem_cons_zero, Act.put, List.setIfInBounds_toArray, List.set_cons_zero, List.set_cons_succ]
  refine wpAnyF_take (i := 8) (v := ?v8_4) rfl (by kernel_rfl) (by kernel_rfl) (by kernel_rfl) (by kernel_rfl) (fun _ _ _ h => h) (Or.inl ⟨by rfl, ?y8_4⟩) ⟨(fun h => absurd h (by decide)), (fun h => absurd h (by decide)), (fun h => absurd h (by decide)), (fun h => absurd h (by decide))⟩ ?_
  case y8_4 => (intro w hF; clear hF; go_simp; try with_reducible rfl)
  try simp only [List.getElem_toArray, List.getElem_cons_succ, List.getElem_cons_zero, Act.put, List.setIfInBounds_toArray, List.set_cons_zero, List.set_cons_succ]
  refine wpAnyF_take (i := 9) (v := ?v9_4) rfl (by kernel_rfl) (by kernel_rfl) (by kernel_rfl) (by kernel_rfl) (fun _ _ _ h => h) (Or.inl ⟨by rfl, ?y9_4⟩) ⟨(fun h => absurd h (by decide)), (fun h => absurd h (by decide)), (fun h => absurd h (by decide)), (fun h => absurd h (by decide))⟩ ?_
  case y9_4 => (intro w hF; clear hF; go_simp; try with_reducible rfl)
  try simp only [List.getElem_toArray, List.getElem_cons_succ, List.getElem_cons_zero, Act.put, List.setIfInBounds_toArray, List.set_cons_zero, List.set_cons_succ]
  refine wpAnyF_ready (rs := [10]) (by kernel_rfl) (by simp) (AllReadyF.cons rfl (fun K hK => ?_) AllReadyF.nil)
  go_simp
  refine hK.out _ _ (Sat.off [0, 1, 2, 5] (fun k w hk => by simp only [List.mem_cons, List.not_mem_nil, or_false, not_or] at hk; exact ⟨(fun e => absurd e hk.1), (fun e => absurd e hk.2.1), (fun e => absurd e hk.2.2.1), (fun e => absurd e hk.2.2.2)⟩) (by kernel_rfl) _ _) ?_
  clear hK K
  try simp only [List.getElem_toArray, List.getElem_cons_succ, List.getElem_cons_zero, Act.put, List.setIfInBounds_toArray, List.set_cons_zero, List.set_cons_succ]
  refine wpAnyF_done (by kernel_rfl) ?_ _
  go_wp2
  all_goals exact bodyPost_end (results_none rfl _ _ _) rfl ⟨rfl, RelX.box1 L ST.out KB.out (((But.refl bb w).drew).setCell rfl _) (by decide) (Blk.set KB.out.drew (bs65 V x wv _)) rfl rfl HI.out, (((But.refl bb w).drew).setCell rfl _).kpx⟩
theorem gm_12 {w0 : World} {V : Nat → Value} {bb gc mc hc lc B H : Nat} (L : LiesX V bb B H) (w : World) (x : Bx) (a b : Int) (ha : U16 a) (hb : U8 b) (h : RelX 59 w0 V bb H w x) (hB : B ≤ w.heap.size) (c : Clo bb gc mc hc lc w) (F : Far V bb gc mc hc lc B) (hp : isPort a = true) (hk : a % 32 = 12) : Calls Try.prog 38 #[.int .u16 a, .int .u8 b, .pointer (some ⟨mc, 0, none⟩), .pointer (some ⟨hc, 0, none⟩), .pointer (some ⟨lc, 0, none⟩), .pointer (some ⟨gc, 0, none⟩)] w fun e w' => e = .returned (.tuple #[]) ∧ RelX 59 w0 V bb H w' (mainP x a b) ∧ Kp 0 (InX V bb) w w' := by
  have d : 53248 ≤ a ∧ a < 57344 := by unfold isPort at hp; simpa using hp
  obtain ⟨d1, d2⟩ := d
  have e1 : mainP x a b = ({ x with m := { x.m with to := hi16 x.m.to b } } : Bx) := by unfold mainP; rw [if_neg (by omega), if_neg (by omega), hp, if_pos rfl, hk]; unfold portP; simp only [reduceIte, Int.reduceEq]; try rfl
  rw [e1]
  have I := h.inn
  have HI := Lib.hid (inTo I (hi16_u (n := x.m.to) hb))
  have U := (by first | exact I.fm | exact I.to : U16 (x.m.to))
  have HF := Lib.hid (high_any (x.m.to) b U hb)
  have RG := Lib.hid (region_ports a d1 d2 w); obtain ⟨h1, ⟨wv, hbx, hws⟩, hm, hf, hi⟩ := h; have L1 := L.lo; have L2 := L.hi; have lb := hbx.lt; have fb := hbx.free; have NB := Lib.hid F.nb; have KB := Lib.hid hbx; have CC := Lib.hid c; have ST := Lib.hid (And.intro h1 (And.intro hws (And.intro hm (And.intro hf hi))))
  have FF := Lib.hid (CC.out.h)
  have c0 : w.cell? ⟨bb, 66, none⟩ = some (.int .u16 x.m.to) := (KB.out.cell 66).trans (bx66 ..)
  clear e1 hbx hws hm hf hi h1 hp I U c F
  go_enter Try.func38, Try.ntmps38
  go_wp2_with fail
  refine RG.out.mono ?_
  rintro e w' ⟨rfl, rfl⟩
  go_wp2_with fail
  refine wp_region_F (fun k W => (k = 0 → W.cell? ⟨mc, 0, none⟩ = some (.pointer (some ⟨bb, 0, none⟩))) ∧ (k = 1 → W.cell? ⟨hc, 0, none⟩ = some (.func (.func 36) #[] #[])) ∧ (k = 2 → W.cell? ⟨mc, 0, none⟩ = some (.pointer (some ⟨bb, 0, none⟩))) ∧ (k = 5 → W.cell? ⟨bb, 66, none⟩ = some (.int .u16 x.m.to))) [0, 1, 2, 3, 4, 5, 6, 8, 9] (by kernel_rfl) ?_
  refine wpAnyF_take (i := 0) (v := ?v0_5) rfl (by kernel_rfl) (by kernel_rfl) (by kernel_rfl) (by kernel_rfl) (fun _ _ _ h => h) (Or.inl ⟨by rfl, ?y0_5⟩) ⟨(fun _ => (CC.out.m.cell 0)), (fun h => absurd h (by decide)), (fun h => absurd h (by decide)), (fun h => absurd h (by decide))⟩ ?_
  case y0_5 => (intro w hF; have hF2 := hF.1 rfl; clear hF; go_simp; try with_reducible rfl)
  try simp only [List.getElem_toArray, List.getElem_cons_succ, List.getElem_cons_zero, Act.put, List.setIfInBounds_toArray, List.set_cons_zero, List.set_cons_succ]
  refine wpAnyF_take (i := 1) (v := ?v1_5) rfl (by kernel_rfl) (by kernel_rfl) (by kernel_rfl) (by kernel_rfl) (fun _ _ _ h => h) (Or.inl ⟨by rfl, ?y1_5⟩) ⟨(fun h => absurd h (by decide)), (fun _ => (FF.out.cell 0)), (fun h => absurd h (by decide)), (fun h => absurd h (by decide))⟩ ?_
  case y1_5 => (intro w hF; have hF2 := hF.2.1 rfl; clear hF; go_simp; try with_reducible rfl)
  try simp only [List.getElem_toArray, List.getElem_cons_succ, List.getElem_cons_zero, Act.put, List.setIfInBounds_toArray, List.set_cons_zero, List.set_cons_succ]
  refine wpAnyF_take (i := 2) (v := ?v2_5) rfl (by kernel_rfl) (by kernel_rfl) (by kernel_rfl) (by kernel_rfl) (fun _ _ _ h => h) (Or.inl ⟨by rfl, ?y2_5⟩) ⟨(fun h => absurd h (by decide)), (fun h => absurd h (by decide)), (fun _ => (CC.out.m.cell 0)), (fun h => absurd h (by decide))⟩ ?_
  case y2_5 => (intro w hF; have hF2 := hF.2.2.1 rfl; clear hF; go_simp; try with_reducible rfl)
  try simp only [List.getElem_toArray, List.getElem_cons_succ, List.getElem_cons_zero, Act.put, List.setIfInBounds_toArray, List.set_cons_zero, List.set_cons_succ]
  refine wpAnyF_take (i := 3) (v := ?v3_5) rfl (by kernel_rfl) (by kernel_rfl) (by kernel_rfl) (by kernel_rfl) (fun _ _ _ h => h) (Or.inl ⟨by rfl, ?y3_5⟩) ⟨(fun h => absurd h (by decide)), (fun h => absurd h (by decide)), (fun h => absurd h (by decide)), (fun h => absurd h (by decide))⟩ ?_
  case y3_5 => (intro w hF; clear hF; go_simp; try with_reducible rfl)
  try simp only [List.getElem_toArray, List.getElem_cons_succ, List.getElem_cons_zero, Act.put, List.setIfInBounds_toArray, List.set_cons_zero, List.set_cons_succ]
  refine wpAnyF_take (i := 4) (v := ?v4_5) rfl (by kernel_rfl) (by kernel_rfl) (by kernel_rfl) (by kernel_rfl) (fun _ _ _ h => h) (Or.inl ⟨by rfl, ?y4_5⟩) ⟨(fun h => absurd h (by decide)), (fun h => absurd h (by decide)), (fun h => absurd h (by decide)), (fun h => absurd h (by decide))⟩ ?_
  case y4_5 => (intro w hF; clear hF; go_simp; try with_reducible rfl)
  try simp only [List.getElem_toArray, List.getElem_cons_succ, List.getElem_cons_zero, Act.put, List.setIfInBounds_toArray, List.set_cons_zero, List.set_cons_succ]
  refine wpAnyF_take (i := 5) (v := ?v5_5) rfl (by kernel_rfl) (by kernel_rfl) (by kernel_rfl) (by kernel_rfl) (fun _ _ _ h => h) (Or.inl ⟨by rfl, ?y5_5⟩) ⟨(fun h => absurd h (by decide)), (fun h => absurd h (by decide)), (fun h => absurd h (by decide)), (fun _ => ((KB.out.cell 66).trans (bx66 ..)))⟩ ?_
  case y5_5 => (intro w hF; have hF2 := hF.2.2.2 rfl; clear hF; go_simp; try with_reducible rfl)
  try simp only [List.getElem_toArray, List.getElem_cons_succ, List.getElem_cons_zero, Act.put, List.setIfInBounds_toArray, List.set_cons_zero, List.set_cons_succ]
  refine wpAnyF_take (i := 6) (v := ?v6_5) rfl (by kernel_rfl) (by kernel_rfl) (by kernel_rfl) (by kernel_rfl) (fun _ _ _ h => h) (Or.inl ⟨by rfl, ?y6_5⟩) ⟨(fun h => absurd h (by decide)), (fun h => absurd h (by decide)), (fun h => absurd h (by decide)), (fun h => absurd h (by decide))⟩ ?_
  case y6_5 => (intro w hF; clear hF; go_simp; try with_reducible rfl)
  try simp only [List.getElem_toArray, List.getElem_cons_succ, List.getElem_cons_zero, Act.put, List.setIfInBounds_toArray, List.set_cons_zero, List.set_cons_succ]
  refine wpAnyF_ready (rs := [7]) (by kernel_rfl) (by simp) (AllReadyF.cons rfl (fun K hK => ?_) AllReadyF.nil)
  go_simp
  refine (HF.out _).mono ?_
  rintro e w1 ⟨rfl, rfl⟩
  try go_wp2_with fail
  refine hK.out _ _ (Sat.all (by kernel_rfl) (fun k => ⟨(fun _ => (CC.out.m.cell 0)), (fun _ => (FF.out.cell 0)), (fun _ => (CC.out.m.cell 0)), (fun _ => ((KB.out.cell 66).trans (bx66 ..)))⟩)) ?_
  clear hK K
  try simp only [List.getElem_toArray, List.getElem_cons_succ, List.getElem_cons_zero, Act.put, List.setIfInBounds_toArray, List.set_cons_zero, List.set_cons_succ]
  refine wpAnyF_take (i := 8) (v := ?v8_5) rfl (by kernel_rfl) (by kernel_rfl) (by kernel_rfl) (by kernel_rfl) (fun _ _ _ h => h) (Or.inl ⟨by rfl, ?y8_5⟩) ⟨(fun h => absurd h (by decide)), (fun h => absurd h (by decide)), (fun h => absurd h (by decide)), (fun h => absurd h (by decide))⟩ ?_
  case y8_5 => (intro w hF; clear hF; go_simp; try with_reducible rfl)
  try simp only [List.getElem_toArray, List.getElem_cons_succ, List.getElem_cons_zero, Act.put, List.setIfInBounds_toArray, List.set_cons_zero, List.set_cons_succ]
  refine wpAnyF_take (i := 9) (v := ?v9_5) rfl (by kernel_rfl) (by kernel_rfl) (by kernel_rfl) (by kernel_rfl) (fun _ _ _ h => h) (Or.inl ⟨by rfl, ?y9_5⟩) ⟨(fun h => absurd h (by decide)), (fun h => absurd h (by decide)), (fun h => absurd h (by decide)), (fun h => absurd h (by decide))⟩ ?_
  case y9_5 => (intro w hF; clear hF; go_simp; try with_reducible rfl)
  try simp only [List.getElem_toArray, List.getElem_cons_succ, List.getElem_cons_zero, Act.put, List.setIfInBounds_toArray, List.set_cons_zero, List.set_cons_succ]
  refine wpAnyF_ready (rs := [10]) (by kernel_rfl) (by simp) (AllReadyF.cons rfl (fun K hK => ?_) AllReadyF.nil)
  go_simp
  refine hK.out _ _ (Sat.off [0, 1, 2, 5] (fun k w hk => by simp only [List.mem_cons, List.not_mem_nil, or_false, not_or] at hk; exact ⟨(fun e => absurd e hk.1), (fun e => absurd e hk.2.1), (fun e => absurd e hk.2.2.1), (fun e => absurd e hk.2.2.2)⟩) (by kernel_rfl) _ _) ?_
  clear hK K
  try simp only [List.getElem_toArray, List.getElem_cons_succ, List.getElem_cons_zero, Act.put, List.setIfInBounds_toArray, List.set_cons_zero, List.set_cons_succ]
  refine wpAnyF_done (by kernel_rfl) ?_ _
  go_wp2
  all_goals exact bodyPost_end (results_none rfl _ _ _) rfl ⟨rfl, RelX.box1 L ST.out KB.out (((But.refl bb w).drew).setCell rfl _) (by decide) (Blk.set KB.out.drew (bs66 V x wv _)) rfl rfl HI.out, (((But.refl bb w).drew).setCell rfl _).kpx⟩
theorem gm_13 {w0 : World} {V : Nat → Value} {bb gc mc hc lc B H : Nat} (L : LiesX V bb B H) (w : World) (x : Bx) (a b : Int) (ha : U16 a) (hb : U8 b) (h : RelX 59 w0 V bb H w x) (hB : B ≤ w.heap.size) (c : Clo bb gc mc hc lc w) (F : Far V bb gc mc hc lc B) (hp : isPort a = true) (hk : a % 32 = 13) : Calls Try.prog 38 #[.int .u16 a, .int .u8 b, .pointer (some ⟨mc, 0, none⟩), .pointer (some ⟨hc, 0, none⟩), .pointer (some ⟨lc, 0, none⟩), .pointer (some ⟨gc, 0, none⟩)] w fun e w' => e = .returned (.tuple #[]) ∧ RelX 59 w0 V bb H w' (mainP x a b) ∧ Kp 0 (InX V bb) w w' := by
  have d : 53248 ≤ a ∧ a < 57344 := by unfold isPort at hp; simpa using hp
  obtain ⟨d1, d2⟩ := d
  have e1 : mainP x a b = ({ x with m := { x.m with to := lo16 x.m.to b } } : Bx) := by unfold mainP; rw [if_neg (by omega), if_neg (by omega), hp, if_pos rfl, hk]; unfold portP; simp only [reduceIte, Int.reduceEq]; try rfl
  rw [e1]
  have I := h.inn
  have HI := Lib.hid (inTo I (lo16_u I.to hb))
  have U := (by first | exact I.fm | exact I.to : U16 (x.m.to))
  have HF := Lib.hid (low_any (x.m.to) b U hb)
  have RG := Lib.hid (region_ports a d1 d2 w); obtain ⟨h1, ⟨wv, hbx, hws⟩, hm, hf, hi⟩ := h; have L1 := L.lo; have L2 := L.hi; have lb := hbx.lt; have fb := hbx.free; have NB := Lib.hid F.nb; have KB := Lib.hid hbx; have CC := Lib.hid c; have ST := Lib.hid (And.intro h1 (And.intro hws (And.intro hm (And.intro hf hi))))
  have FF := Lib.hid (CC.out.l)
  have c0 : w.cell? ⟨bb, 66, none⟩ = some (.int .u16 x.m.to) := (KB.out.cell 66).trans (bx66 ..)
  clear e1 hbx hws hm hf hi h1 hp I U c F
  go_enter Try.func38, Try.ntmps38
  go_wp2_with fail
  refine RG.out.mono ?_
  rintro e w' ⟨rfl, rfl⟩
  go_wp2_with fail
  refine wp_region_F (fun k W => (k = 0 → W.cell? ⟨mc, 0, none⟩ = some (.pointer (some ⟨bb, 0, none⟩))) ∧ (k = 1 → W.cell? ⟨lc, 0, none⟩ = some (.func (.func 37) #[] #[])) ∧ (k = 2 → W.cell? ⟨mc, 0, none⟩ = some (.pointer (some ⟨bb, 0, none⟩))) ∧ (k = 5 → W.cell? ⟨bb, 66, none⟩ = some (.int .u16 x.m.to))) [0, 1, 2, 3, 4, 5, 6, 8, 9] (by kernel_rfl) ?_
  refine wpAnyF_take (i := 0) (v := ?v0_6) rfl (by kernel_rfl) (by kernel_rfl) (by kernel_rfl) (by kernel_rfl) (fun _ _ _ h => h) (Or.inl ⟨by rfl, ?y0_6⟩) ⟨(fun _ => (CC.out.m.cell 0)), (fun h => absurd h (by decide)), (fun h => absurd h (by decide)), (fun h => absurd h (by decide))⟩ ?_
  case y0_6 => (intro w hF; have hF2 := hF.1 rfl; clear hF; go_simp; try with_reducible rfl)
  try simp only [List.getElem_toArray, List.getElem_cons_succ, List.getElem_cons_zero, Act.put, List.setIfInBounds_toArray, List.set_cons_zero, List.set_cons_succ]
  refine wpAnyF_take (i := 1) (v := ?v1_6) rfl (by kernel_rfl) (by kernel_rfl) (by kernel_rfl) (by kernel_rfl) (fun _ _ _ h => h) (Or.inl ⟨by rfl, ?y1_6⟩) ⟨(fun h => absurd h (by decide)), (fun _ => (FF.out.cell 0)), (fun h => absurd h (by decide)), (fun h => absurd h (by decide))⟩ ?_
  case y1_6 => (intro w hF; have hF2 := hF.2.1 rfl; clear hF; go_simp; try with_reducible rfl)
  try simp only [List.getElem_toArray, List.getElem_cons_succ, List.getElem_cons_zero, Act.put, List.setIfInBounds_toArray, List.set_cons_zero, List.set_cons_succ]
  refine wpAnyF_take (i := 2) (v := ?v2_6) rfl (by kernel_rfl) (by kernel_rfl) (by kernel_rfl) (by kernel_rfl) (fun _ _ _ h => h) (Or.inl ⟨by rfl, ?y2_6⟩) ⟨(fun h => absurd h (by decide)), (fun h => absurd h (by decide)), (fun _ => (CC.out.m.cell 0)), (fun h => absurd h (by decide))⟩ ?_
  case y2_6 => (intro w hF; have hF2 := hF.2.2.1 rfl; clear hF; go_simp; try with_reducible rfl)
  try simp only [List.getElem_toArray, List.getElem_cons_succ, List.getElem_cons_zero, Act.put, List.setIfInBounds_toArray, List.set_cons_zero, List.set_cons_succ]
  refine wpAnyF_take (i := 3) (v := ?v3_6) rfl (by kernel_rfl) (by kernel_rfl) (by kernel_rfl) (by kernel_rfl) (fun _ _ _ h => h) (Or.inl ⟨by rfl, ?y3_6⟩) ⟨(fun h => absurd h (by decide)), (fun h => absurd h (by decide)), (fun h => absurd h (by decide)), (fun h => absurd h (by decide))⟩ ?_
  case y3_6 => (intro w hF; clear hF; go_simp; try with_reducible rfl)
  try simp only [List.getElem_toArray, List.getElem_cons_succ, List.getElem_cons_zero, Act.put, List.setIfInBounds_toArray, List.set_cons_zero, List.set_cons_succ]
  refine wpAnyF_take (i := 4) (v := ?v4_6) rfl (by kernel_rfl) (by kernel_rfl) (by kernel_rfl) (by kernel_rfl) (fun _ _ _ h => h) (Or.inl ⟨by rfl, ?y4_6⟩) ⟨(fun h => absurd h (by decide)), (fun h => absurd h (by decide)), (fun h => absurd h (by decide)), (fun h => absurd h (by decide))⟩ ?_
  case y4_6 => (intro w hF; clear hF; go_simp; try with_reducible rfl)
  try simp only [List.getElem_toArray, List.getElem_cons_succ, List.getElem_cons_zero, Act.put, List.setIfInBounds_toArray, List.set_cons_zero, List.set_cons_succ]
  refine wpAnyF_take (i := 5) (v := ?v5_6) rfl (by kernel_rfl) (by kernel_rfl) (by kernel_rfl) (by kernel_rfl) (fun _ _ _ h => h) (Or.inl ⟨by rfl, ?y5_6⟩) ⟨(fun h => absurd h (by decide)), (fun h => absurd h (by decide)), (fun h => absurd h (by decide)), (fun _ => ((KB.out.cell 66).trans (bx66 ..)))⟩ ?_
  case y5_6 => (intro w hF; have hF2 := hF.2.2.2 rfl; clear hF; go_simp; try with_reducible rfl)
  try simp only [List.getElem_toArray, List.getElem_cons_succ, List.getElem_cons_zero, Act.put, List.setIfInBounds_toArray, List.set_cons_zero, List.set_cons_succ]
  refine wpAnyF_take (i := 6) (v := ?v6_6) rfl (by kernel_rfl) (by kernel_rfl) (by kernel_rfl) (by kernel_rfl) (fun _ _ _ h => h) (Or.inl ⟨by rfl, ?y6_6⟩) ⟨(fun h => absurd h (by decide)), (fun h => absurd h (by decide)), (fun h => absurd h (by decide)), (fun h => absurd h (by decide))⟩ ?_
  case y6_6 => (intro w hF; clear hF; go_simp; try with_reducible rfl)
  try simp only [List.getElem_toArray, List.getElem_cons_succ, List.getElem_cons_zero, Act.put, List.setIfInBounds_toArray, List.set_cons_zero, List.set_cons_succ]
  refine wpAnyF_ready (rs := [7]) (by kernel_rfl) (by simp) (AllReadyF.cons rfl (fun K hK => ?_) AllReadyF.nil)
  go_simp
  refine (HF.out _).mono ?_
  rintro e w1 ⟨rfl, rfl⟩
  try go_wp2_with fail
  refine hK.out _ _ (Sat.all (by kernel_rfl) (fun k => ⟨(fun _ => (CC.out.m.cell 0)), (fun _ => (FF.out.cell 0)), (fun _ => (CC.out.m.cell 0)), (fun _ => ((KB.out.cell 66).trans (bx66 ..)))⟩)) ?_
  clear hK K
  try simp only [List.getElem_toArray, List.getElem_cons_succ, List.getElem_cons_zero, Act.put, List.setIfInBounds_toArray, List.set_cons_zero, List.set_cons_succ]
  refine wpAnyF_take (i := 8) (v := ?v8_6) rfl (by kernel_rfl) (by kernel_rfl) (by kernel_rfl) (by kernel_rfl) (fun _ _ _ h => h) (Or.inl ⟨by rfl, ?y8_6⟩) ⟨(fun h => absurd h (by decide)), (fun h => absurd h (by decide)), (fun h => absurd h (by decide)), (fun h => absurd h (by decide))⟩ ?_
  case y8_6 => (intro w hF; clear hF; go_simp; try with_reducible rfl)
  try simp only [List.getElem_toArray, List.getElem_cons_succ, List.getElem_cons_zero, Act.put, List.setIfInBounds_toArray, List.set_cons_zero, List.set_cons_succ]
  refine wpAnyF_take (i := 9) (v := ?v9_6) rfl (by kernel_rfl) (by kernel_rfl) (by kernel_rfl) (by kernel_rfl) (fun _ _ _ h => h) (Or.inl ⟨by rfl, ?y9_6⟩) ⟨(fun h => absurd h (by decide)), (fun h => absurd h (by decide)), (fun h => absurd h (by decide)), (fun h => absurd h (by decide))⟩ ?_
  case y9_6 => (intro w hF; clear hF; go_simp; try with_reducible rfl)
  try simp only [List.getElem_toArray, List.getElem_cons_succ, List.getElem_cons_zero, Act.put, List.setIfInBounds_toArray, List.set_cons_zero, List.set_cons_succ]
  refine wpAnyF_ready (rs := [10]) (by kernel_rfl) (by simp) (AllReadyF.cons rfl (fun K hK => ?_) AllReadyF.nil)
  go_simp
  refine hK.out _ _ (Sat.off [0, 1, 2, 5] (fun k w hk => by simp only [List.mem_cons, List.not_mem_nil, or_false, not_or] at hk; exact ⟨(fun e => absurd e hk.1), (fun e => absurd e hk.2.1), (fun e => absurd e hk.2.2.1), (fun e => absurd e hk.2.2.2)⟩) (by kernel_rfl) _ _) ?_
  clear hK K
  try simp only [List.getElem_toArray, List.getElem_cons_succ, List.getElem_cons_zero, Act.put, List.setIfInBounds_toArray, List.set_cons_zero, List.set_cons_succ]
  refine wpAnyF_done (by kernel_rfl) ?_ _
  go_wp2
  all_goals exact bodyPost_end (results_none rfl _ _ _) rfl ⟨rfl, RelX.box1 L ST.out KB.out (((But.refl bb w).drew).setCell rfl _) (by decide) (Blk.set KB.out.drew (bs66 V x wv _)) rfl rfl HI.out, (((But.refl bb w).drew).setCell rfl _).kpx⟩
theorem gm_8 {w0 : World} {V : Nat → Value} {bb gc mc hc lc B H : Nat} (L : LiesX V bb B H) (w : World) (x : Bx) (a b : Int) (ha : U16 a) (hb : U8 b) (h : RelX 59 w0 V bb H w x) (hB : B ≤ w.heap.size) (c : Clo bb gc mc hc lc w) (F : Far V bb gc mc hc lc B) (hp : isPort a = true) (hk : a % 32 = 8) : Calls Try.prog 38 #[.int .u16 a, .int .u8 b, .pointer (some ⟨mc, 0, none⟩), .pointer (some ⟨hc, 0, none⟩), .pointer (some ⟨lc, 0, none⟩), .pointer (some ⟨gc, 0, none⟩)] w fun e w' => e = .returned (.tuple #[]) ∧ RelX 59 w0 V bb H w' (mainP x a b) ∧ Kp 0 (InX V bb) w w' := by
  have d : 53248 ≤ a ∧ a < 57344 := by unfold isPort at hp; simpa using hp
  obtain ⟨d1, d2⟩ := d
  have e1 : mainP x a b = { x with m := { x.m with bm := { x.m.bm with rg := false } } } := by unfold mainP; rw [if_neg (by omega), if_neg (by omega), hp, if_pos rfl, hk]; unfold portP; simp only [reduceIte, Int.reduceEq]
  rw [e1]
  have RG := Lib.hid (region_ports a d1 d2 w); obtain ⟨h1, ⟨wv, hbx, hws⟩, hm, hf, hi⟩ := h; have L1 := L.lo; have L2 := L.hi; have lb := hbx.lt; have fb := hbx.free; have NB := Lib.hid F.nb; have KB := Lib.hid hbx; have CC := Lib.hid c; have ST := Lib.hid (And.intro h1 (And.intro hws (And.intro hm (And.intro hf hi))))
  have g1 : w.cell? ⟨mc, 0, none⟩ = some (.pointer (some ⟨bb, 0, none⟩)) := CC.out.m.cell 0
  have c0 : w.cell? ⟨bb, 63, none⟩ = some (.bool x.m.bm.rg) := (KB.out.cell 63).trans (bx63 ..)
  clear e1 hbx hws hm hf hi h1 hp c F
  go_enter Try.func38, Try.ntmps38
  go_wp2_with fail
  refine RG.out.mono ?_
  rintro e w' ⟨rfl, rfl⟩
  go_wp2
  all_goals exact bodyPost_end (results_none rfl _ _ _) rfl ⟨rfl, RelX.box1 L ST.out KB.out ((But.refl bb w).setCell rfl _) (by decide) (Blk.set KB.out (bs63 V x wv false)) rfl rfl (inBr ST.out.2.2.2.2 false), ((But.refl bb w).setCell rfl _).kpx⟩
theorem gm_17 {w0 : World} {V : Nat → Value} {bb gc mc hc lc B H : Nat} (L : LiesX V bb B H) (w : World) (x : Bx) (a b : Int) (ha : U16 a) (hb : U8 b) (h : RelX 59 w0 V bb H w x) (hB : B ≤ w.heap.size) (c : Clo bb gc mc hc lc w) (F : Far V bb gc mc hc lc B) (hp : isPort a = true) (hk : a % 32 = 17) : Calls Try.prog 38 #[.int .u16 a, .int .u8 b, .pointer (some ⟨mc, 0, none⟩), .pointer (some ⟨hc, 0, none⟩), .pointer (some ⟨lc, 0, none⟩), .pointer (some ⟨gc, 0, none⟩)] w fun e w' => e = .returned (.tuple #[]) ∧ RelX 59 w0 V bb H w' (mainP x a b) ∧ Kp 0 (InX V bb) w w' := by
  have d : 53248 ≤ a ∧ a < 57344 := by unfold isPort at hp; simpa using hp
  obtain ⟨d1, d2⟩ := d
  have e1 : mainP x a b = { x with m := { x.m with m0 := b, rg := true } } := by unfold mainP; rw [if_neg (by omega), if_neg (by omega), hp, if_pos rfl, hk]; unfold portP; simp only [reduceIte, Int.reduceEq]
  rw [e1]
  have RG := Lib.hid (region_ports a d1 d2 w); obtain ⟨h1, ⟨wv, hbx, hws⟩, hm, hf, hi⟩ := h; have L1 := L.lo; have L2 := L.hi; have lb := hbx.lt; have fb := hbx.free; have NB := Lib.hid F.nb; have KB := Lib.hid hbx; have CC := Lib.hid c; have ST := Lib.hid (And.intro h1 (And.intro hws (And.intro hm (And.intro hf hi))))
  have g1 : w.cell? ⟨mc, 0, none⟩ = some (.pointer (some ⟨bb, 0, none⟩)) := CC.out.m.cell 0
  have c0 : w.cell? ⟨bb, 69, none⟩ = some (.int .u8 x.m.m0) := (KB.out.cell 69).trans (bx69 ..)
  have c1 : w.cell? ⟨bb, 71, none⟩ = some (.bool x.m.rg) := (KB.out.cell 71).trans (bx71 ..)
  have lm := CC.out.m.lt
  have nm := NB.out.2.1
  clear e1 hbx hws hm hf hi h1 hp c F
  go_enter Try.func38, Try.ntmps38
  go_wp2_with fail
  refine RG.out.mono ?_
  rintro e w' ⟨rfl, rfl⟩
  go_wp2
  all_goals exact bodyPost_end (results_none rfl _ _ _) rfl ⟨rfl, RelX.box1 L ST.out KB.out (((But.refl bb w).setCell rfl _).setCell rfl _) (by decide) (Blk.set (Blk.set KB.out (bs69 V x wv b)) (bs71 V _ wv true)) rfl rfl (inM0 ST.out.2.2.2.2 hb true), (((But.refl bb w).setCell rfl _).setCell rfl _).kpx⟩
theorem gm_none {w0 : World} {V : Nat → Value} {bb gc mc hc lc B H : Nat} (L : LiesX V bb B H) (w : World) (x : Bx) (a b : Int) (ha : U16 a) (hb : U8 b) (h : RelX 59 w0 V bb H w x) (hB : B ≤ w.heap.size) (c : Clo bb gc mc hc lc w) (F : Far V bb gc mc hc lc B) (hp : isPort a = true) (n0 : a % 32 ≠ 0) (n2 : a % 32 ≠ 2) (n3 : a % 32 ≠ 3) (n4 : a % 32 ≠ 4) (n8 : a % 32 ≠ 8) (n10 : a % 32 ≠ 10) (n11 : a % 32 ≠ 11) (n12 : a % 32 ≠ 12) (n13 : a % 32 ≠ 13) (n14 : a % 32 ≠ 14) (n16 : a % 32 ≠ 16) (n17 : a % 32 ≠ 17) : Calls Try.prog 38 #[.int .u16 a, .int .u8 b, .pointer (some ⟨mc, 0, none⟩), .pointer (some ⟨hc, 0, none⟩), .pointer (some ⟨lc, 0, none⟩), .pointer (some ⟨gc, 0, none⟩)] w fun e w' => e = .returned (.tuple #[]) ∧ RelX 59 w0 V bb H w' (mainP x a b) ∧ Kp 0 (InX V bb) w w' := by
  have d : 53248 ≤ a ∧ a < 57344 := by unfold isPort at hp; simpa using hp
  obtain ⟨d1, d2⟩ := d
  have e1 : mainP x a b = x := by unfold mainP; rw [if_neg (by omega), if_neg (by omega), hp, if_pos rfl]; unfold portP; rw [if_neg n0, if_neg n2, if_neg n3, if_neg n4, if_neg n8, if_neg n10, if_neg n11, if_neg n12, if_neg n13, if_neg n14, if_neg n16, if_neg n17]
  rw [e1]
  have hh := Lib.hid h
  have RG := Lib.hid (region_ports a d1 d2 w)
  obtain ⟨p, hpp⟩ : ∃ p, p = a % 32 := ⟨_, rfl⟩
  rw [← hpp] at n0 n2 n3 n4 n8 n10 n11 n12 n13 n14 n16 n17
  have m0 : (p == 0) = false := by simpa using n0
  have m2 : (p == 2) = false := by simpa using n2
  have m3 : (p == 3) = false := by simpa using n3
  have m4 : (p == 4) = false := by simpa using n4
  have m8 : (p == 8) = false := by simpa using n8
  have m10 : (p == 10) = false := by simpa using n10
  have m11 : (p == 11) = false := by simpa using n11
  have m12 : (p == 12) = false := by simpa using n12
  have m13 : (p == 13) = false := by simpa using n13
  have m14 : (p == 14) = false := by simpa using n14
  have m16 : (p == 16) = false := by simpa using n16
  have m17 : (p == 17) = false := by simpa using n17
  have hk : a % 32 = p := hpp.symm
  clear n0 n2 n3 n4 n8 n10 n11 n12 n13 n14 n16 n17 hpp e1 h hp L c F
  go_enter Try.func38, Try.ntmps38
  go_wp2_with fail
  refine RG.out.mono ?_
  rintro e w' ⟨rfl, rfl⟩
  go_wp2
  all_goals exact bodyPost_end (results_none rfl _ _ _) rfl ⟨rfl, hh.out, Kp.refl _ _ _⟩
end Go.Proofs.Ytimccpmdgfneoaa

/- The document's machine: the main processor writes to the pads' port, the timer's, the transfer's. Conditions: the machine lies in a game. -/
namespace Go
theorem Sat.mix {md : Region.Mode} {ops : Array Oper} {F : Nat → World → Prop} {ls : List Nat} {j : Nat} (fl : List Nat) {w w' : World} (hF : ∀ k, k ∉ fl → F k w') (h : (!(ls.contains j) && fl.all (fun k => !looseB md ops j k)) = true) : Sat md ops F ls j w w' := by
  simp only [Bool.and_eq_true, Bool.not_eq_true', List.contains_eq_mem, decide_eq_false_iff_not] at h
  refine ⟨fun hj => absurd hj h.1, fun _ k hk hl => ?_⟩
  by_cases hkf : k ∈ fl
  · have := List.all_eq_true.1 h.2 k hkf
    rw [hl] at this
    cases this
  · exact hF k hkf
end Go
namespace Go.Proofs.Ytimccpmdgfneoaa
open Go.RowKit Go.Mq
set_option linter.unusedVariables false
set_option linter.unusedSimpArgs false
set_option maxHeartbeats 4000000
set_option maxRecDepth 100000
theorem gm_0 {w0 : World} {V : Nat → Value} {bb gc mc hc lc B H : Nat} (L : LiesX V bb B H) (w : World) (x : Bx) (a b : Int) (ha : U16 a) (hb : U8 b) (h : RelX 59 w0 V bb H w x) (hB : B ≤ w.heap.size) (c : Clo bb gc mc hc lc w) (F : Far V bb gc mc hc lc B) (hp : isPort a = true) (hk : a % 32 = 0) : Calls Try.prog 38 #[.int .u16 a, .int .u8 b, .pointer (some ⟨mc, 0, none⟩), .pointer (some ⟨hc, 0, none⟩), .pointer (some ⟨lc, 0, none⟩), .pointer (some ⟨gc, 0, none⟩)] w fun e w' => e = .returned (.tuple #[]) ∧ RelX 59 w0 V bb H w' (mainP x a b) ∧ Kp 0 (InX V bb) w w' := by
  have d : 53248 ≤ a ∧ a < 57344 := by unfold isPort at hp; simpa using hp
  obtain ⟨d1, d2⟩ := d
  have e1 : mainP x a b = (x.wP0 (writeP x.m.p0 b)).wP1 (writeP x.m.p1 b) := by unfold mainP; rw [if_neg (by omega), if_neg (by omega), hp, if_pos rfl, hk]; unfold portP; rw [if_pos rfl]; rfl
  rw [e1]
  have W0 := Lib.hid (refwrite_any x.m.p0 b hb)
  have W1 := Lib.hid (refwrite_any x.m.p1 b hb)
  have O0 := Lib.hid (writeP_ok x.m.p0 b h.inn.p0)
  have O1 := Lib.hid (writeP_ok x.m.p1 b h.inn.p1)
  have RG := Lib.hid (region_ports a d1 d2 w); obtain ⟨h1, ⟨wv, hbx, hws⟩, hm, hf, hi⟩ := h; have L1 := L.lo; have L2 := L.hi; have lb := hbx.lt; have fb := hbx.free; have NB := Lib.hid F.nb; have KB := Lib.hid hbx; have CC := Lib.hid c; have ST := Lib.hid (And.intro h1 (And.intro hws (And.intro hm (And.intro hf hi))))
  clear e1 hbx hws hm hf hi h1 hp c F
  go_enter Try.func38, Try.ntmps38
  go_wp2_with fail
  refine RG.out.mono ?_
  rintro e w' ⟨rfl, rfl⟩
  go_wp2_with fail
  refine wp_region_F (fun k W => (k = 0 → W.cell? ⟨mc, 0, none⟩ = some (.pointer (some ⟨bb, 0, none⟩))) ∧ (k = 1 → W.cell? ⟨mc, 0, none⟩ = some (.pointer (some ⟨bb, 0, none⟩))) ∧ (k = 2 → W.cell? ⟨mc, 0, none⟩ = some (.pointer (some ⟨bb, 0, none⟩))) ∧ (k = 9 → W.cell? ⟨mc, 0, none⟩ = some (.pointer (some ⟨bb, 0, none⟩))) ∧ (k = 6 → Blk W bb (boxC V x wv) 59) ∧ (k = 13 → Blk W bb (boxC V x wv) 59)) [0, 1, 2, 3, 4, 5, 6, 7, 9, 10, 11, 12, 13, 14, 16, 17, 18, 20, 21, 22] (by kernel_rfl) ?_
  refine wpAnyF_take (i := 0) (v := ?v0_1) rfl (by kernel_rfl) (by kernel_rfl) (by kernel_rfl) (by kernel_rfl) (fun _ _ _ h => h) (Or.inl ⟨by rfl, ?y0_1⟩) ⟨(fun _ => (CC.out.m.cell 0)), (fun h => absurd h (by decide)), (fun h => absurd h (by decide)), (fun h => absurd h (by decide)), (fun h => absurd h (by decide)), (fun h => absurd h (by decide))⟩ ?_
  case y0_1 => (intro w hF; have hF2 := hF.1 rfl; clear hF; go_simp; try with_reducible rfl)
  try simp only [List.getElem_toArray, List.getElem_cons_succ, List.getElem_cons_zero, Act.put, List.setIfInBounds_toArray, List.set_cons_zero, List.set_cons_succ]
  refine wpAnyF_take (i := 1) (v := ?v1_1) rfl (by kernel_rfl) (by kernel_rfl) (by kernel_rfl) (by kernel_rfl) (fun _ _ _ h => h) (Or.inl ⟨by rfl, ?y1_1⟩) ⟨(fun h => absurd h (by decide)), (fun _ => (CC.out.m.cell 0)), (fun h => absurd h (by decide)), (fun h => absurd h (by decide)), (fun h => absurd h (by decide)), (fun h => absurd h (by decide))⟩ ?_
  case y1_1 => (intro w hF; have hF2 := hF.2.1 rfl; clear hF; go_simp; try with_reducible rfl)
  try simp only [List.getElem_toArray, List.getElem_cons_succ, List.getElem_cons_zero, Act.put, List.setIfInBounds_toArray, List.set_cons_zero, List.set_cons_succ]
  refine wpAnyF_take (i := 2) (v := ?v2_1) rfl (by kernel_rfl) (by kernel_rfl) (by kernel_rfl) (by kernel_rfl) (fun _ _ _ h => h) (Or.inl ⟨by rfl, ?y2_1⟩) ⟨(fun h => absurd h (by decide)), (fun h => absurd h (by decide)), (fun _ => (CC.out.m.cell 0)), (fun h => absurd h (by decide)), (fun h => absurd h (by decide)), (fun h => absurd h (by decide))⟩ ?_
  case y2_1 => (intro w hF; have hF2 := hF.2.2.1 rfl; clear hF; go_simp; try with_reducible rfl)
  try simp only [List.getElem_toArray, List.getElem_cons_succ, List.getElem_cons_zero, Act.put, List.setIfInBounds_toArray, List.set_cons_zero, List.set_cons_succ]
  refine wpAnyF_take (i := 3) (v := ?v3_1) rfl (by kernel_rfl) (by kernel_rfl) (by kernel_rfl) (by kernel_rfl) (fun _ _ _ h => h) (Or.inl ⟨by rfl, ?y3_1⟩) ⟨(fun h => absurd h (by decide)), (fun h => absurd h (by decide)), (fun h => absurd h (by decide)), (fun h => absurd h (by decide)), (fun h => absurd h (by decide)), (fun h => absurd h (by decide))⟩ ?_
  case y3_1 => (intro w hF; clear hF; go_simp; try with_reducible rfl)
  try simp only [List.getElem_toArray, List.getElem_cons_succ, List.getElem_cons_zero, Act.put, List.setIfInBounds_toArray, List.set_cons_zero, List.set_cons_succ]
  refine wpAnyF_take (i := 4) (v := ?v4_1) rfl (by kernel_rfl) (by kernel_rfl) (by kernel_rfl) (by kernel_rfl) (fun _ _ _ h => h) (Or.inl ⟨by rfl, ?y4_1⟩) ⟨(fun h => absurd h (by decide)), (fun h => absurd h (by decide)), (fun h => absurd h (by decide)), (fun h => absurd h (by decide)), (fun h => absurd h (by decide)), (fun h => absurd h (by decide))⟩ ?_
  case y4_1 => (intro w hF; clear hF; go_simp; try with_reducible rfl)
  try simp only [List.getElem_toArray, List.getElem_cons_succ, List.getElem_cons_zero, Act.put, List.setIfInBounds_toArray, List.set_cons_zero, List.set_cons_succ]
  refine wpAnyF_take (i := 5) (v := ?v5_1) rfl (by kernel_rfl) (by kernel_rfl) (by kernel_rfl) (by kernel_rfl) (fun _ _ _ h => h) (Or.inl ⟨by rfl, ?y5_1⟩) ⟨(fun h => absurd h (by decide)), (fun h => absurd h (by decide)), (fun h => absurd h (by decide)), (fun h => absurd h (by decide)), (fun h => absurd h (by decide)), (fun h => absurd h (by decide))⟩ ?_
  case y5_1 => (intro w hF; clear hF; go_simp; try with_reducible rfl)
  try simp only [List.getElem_toArray, List.getElem_cons_succ, List.getElem_cons_zero, Act.put, List.setIfInBounds_toArray, List.set_cons_zero, List.set_cons_succ]
  refine wpAnyF_take (i := 6) rfl (by kernel_rfl) (by kernel_rfl) (by kernel_rfl) (by kernel_rfl) (fun _ _ _ h => h) (yields_loadA (by rfl) 28 (.tmp 47) rfl (bb) 35 3 rfl 59 (boxC V x wv) (#[.int .u8 x.m.p0.dn, .bool x.m.p0.la, .int .u8 x.m.p0.sh]) (fun W hF => hF.2.2.2.2.1 rfl) _ Try.underlying28 rfl (by kernel_rfl) rfl rfl) ⟨(fun h => absurd h (by decide)), (fun h => absurd h (by decide)), (fun h => absurd h (by decide)), (fun h => absurd h (by decide)), (fun _ => KB.out.drew), (fun h => absurd h (by decide))⟩ ?_
  try simp only [List.getElem_toArray, List.getElem_cons_succ, List.getElem_cons_zero, Act.put, List.setIfInBounds_toArray, List.set_cons_zero, List.set_cons_succ]
  refine wpAnyF_take (i := 7) (v := ?v7_1) rfl (by kernel_rfl) (by kernel_rfl) (by kernel_rfl) (by kernel_rfl) (fun _ _ _ h => h) (Or.inl ⟨by rfl, ?y7_1⟩) ⟨(fun h => absurd h (by decide)), (fun h => absurd h (by decide)), (fun h => absurd h (by decide)), (fun h => absurd h (by decide)), (fun h => absurd h (by decide)), (fun h => absurd h (by decide))⟩ ?_
  case y7_1 => (intro w hF; clear hF; go_simp; try with_reducible rfl)
  try simp only [List.getElem_toArray, List.getElem_cons_succ, List.getElem_cons_zero, Act.put, List.setIfInBounds_toArray, List.set_cons_zero, List.set_cons_succ]
  refine wpAnyF_take (i := 9) (v := ?v9_1) rfl (by kernel_rfl) (by kernel_rfl) (by kernel_rfl) (by kernel_rfl) (fun _ _ _ h => h) (Or.inl ⟨by rfl, ?y9_1⟩) ⟨(fun h => absurd h (by decide)), (fun h => absurd h (by decide)), (fun h => absurd h (by decide)), (fun _ => (CC.out.m.cell 0)), (fun h => absurd h (by decide)), (fun h => absurd h (by decide))⟩ ?_
  case y9_1 => (intro w hF; have hF2 := hF.2.2.2.1 rfl; clear hF; go_simp; try with_reducible rfl)
  try simp only [List.getElem_toArray, List.getElem_cons_succ, List.getElem_cons_zero, Act.put, List.setIfInBounds_toArray, List.set_cons_zero, List.set_cons_succ]
  refine wpAnyF_take (i := 10) (v := ?v10_1) rfl (by kernel_rfl) (by kernel_rfl) (by kernel_rfl) (by kernel_rfl) (fun _ _ _ h => h) (Or.inl ⟨by rfl, ?y10_1⟩) ⟨(fun h => absurd h (by decide)), (fun h => absurd h (by decide)), (fun h => absurd h (by decide)), (fun h => absurd h (by decide)), (fun h => absurd h (by decide)), (fun h => absurd h (by decide))⟩ ?_
  case y10_1 => (intro w hF; clear hF; go_simp; try with_reducible rfl)
  try simp only [List.getElem_toArray, List.getElem_cons_succ, List.getElem_cons_zero, Act.put, List.setIfInBounds_toArray, List.set_cons_zero, List.set_cons_succ]
  refine wpAnyF_take (i := 11) (v := ?v11_1) rfl (by kernel_rfl) (by kernel_rfl) (by kernel_rfl) (by kernel_rfl) (fun _ _ _ h => h) (Or.inl ⟨by rfl, ?y11_1⟩) ⟨(fun h => absurd h (by decide)), (fun h => absurd h (by decide)), (fun h => absurd h (by decide)), (fun h => absurd h (by decide)), (fun h => absurd h (by decide)), (fun h => absurd h (by decide))⟩ ?_
  case y11_1 => (intro w hF; clear hF; go_simp; try with_reducible rfl)
  try simp only [List.getElem_toArray, List.getElem_cons_succ, List.getElem_cons_zero, Act.put, List.setIfInBounds_toArray, List.set_cons_zero, List.set_cons_succ]
  refine wpAnyF_take (i := 12) (v := ?v12_1) rfl (by kernel_rfl) (by kernel_rfl) (by kernel_rfl) (by kernel_rfl) (fun _ _ _ h => h) (Or.inl ⟨by rfl, ?y12_1⟩) ⟨(fun h => absurd h (by decide)), (fun h => absurd h (by decide)), (fun h => absurd h (by decide)), (fun h => absurd h (by decide)), (fun h => absurd h (by decide)), (fun h => absurd h (by decide))⟩ ?_
  case y12_1 => (intro w hF; clear hF; go_simp; try with_reducible rfl)
  try simp only [List.getElem_toArray, List.getElem_cons_succ, List.getElem_cons_zero, Act.put, List.setIfInBounds_toArray, List.set_cons_zero, List.set_cons_succ]
  refine wpAnyF_take (i := 13) rfl (by kernel_rfl) (by kernel_rfl) (by kernel_rfl) (by kernel_rfl) (fun _ _ _ h => h) (yields_loadA (by rfl) 28 (.tmp 54) rfl (bb) 38 3 rfl 59 (boxC V x wv) (#[.int .u8 x.m.p1.dn, .bool x.m.p1.la, .int .u8 x.m.p1.sh]) (fun W hF => hF.2.2.2.2.2 rfl) _ Try.underlying28 rfl (by kernel_rfl) rfl rfl) ⟨(fun h => absurd h (by decide)), (fun h => absurd h (by decide)), (fun h => absurd h (by decide)), (fun h => absurd h (by decide)), (fun h => absurd h (by decide)), (fun _ => KB.out.drew)⟩ ?_
  try simp only [List.getElem_toArray, List.getElem_cons_succ, List.getElem_cons_zero, Act.put, List.setIfInBounds_toArray, List.set_cons_zero, List.set_cons_succ]
  refine wpAnyF_take (i := 14) (v := ?v14_1) rfl (by kernel_rfl) (by kernel_rfl) (by kernel_rfl) (by kernel_rfl) (fun _ _ _ h => h) (Or.inl ⟨by rfl, ?y14_1⟩) ⟨(fun h => absurd h (by decide)), (fun h => absurd h (by decide)), (fun h => absurd h (by decide)), (fun h => absurd h (by decide)), (fun h => absurd h (by decide)), (fun h => absurd h (by decide))⟩ ?_
  case y14_1 => (intro w hF; clear hF; go_simp; try with_reducible rfl)
  try simp only [List.getElem_toArray, List.getElem_cons_succ, List.getElem_cons_zero, Act.put, List.setIfInBounds_toArray, List.set_cons_zero, List.set_cons_succ]
  refine wpAnyF_take (i := 16) (v := ?v16_1) rfl (by kernel_rfl) (by kernel_rfl) (by kernel_rfl) (by kernel_rfl) (fun _ _ _ h => h) (Or.inl ⟨by rfl, ?y16_1⟩) ⟨(fun h => absurd h (by decide)), (fun h => absurd h (by decide)), (fun h => absurd h (by decide)), (fun h => absurd h (by decide)), (fun h => absurd h (by decide)), (fun h => absurd h (by decide))⟩ ?_
  case y16_1 => (intro w hF; clear hF; go_simp; try with_reducible rfl)
  try simp only [List.getElem_toArray, List.getElem_cons_succ, List.getElem_cons_zero, Act.put, List.setIfInBounds_toArray, List.set_cons_zero, List.set_cons_succ]
  refine wpAnyF_take (i := 17) (v := ?v17_1) rfl (by kernel_rfl) (by kernel_rfl) (by kernel_rfl) (by kernel_rfl) (fun _ _ _ h => h) (Or.inl ⟨by rfl, ?y17_1⟩) ⟨(fun h => absurd h (by decide)), (fun h => absurd h (by decide)), (fun h => absurd h (by decide)), (fun h => absurd h (by decide)), (fun h => absurd h (by decide)), (fun h => absurd h (by decide))⟩ ?_
  case y17_1 => (intro w hF; clear hF; go_simp; try with_reducible rfl)
  try simp only [List.getElem_toArray, List.getElem_cons_succ, List.getElem_cons_zero, Act.put, List.setIfInBounds_toArray, List.set_cons_zero, List.set_cons_succ]
  refine wpAnyF_take (i := 20) (v := ?v20_1) rfl (by kernel_rfl) (by kernel_rfl) (by kernel_rfl) (by kernel_rfl) (fun _ _ _ h => h) (Or.inl ⟨by rfl, ?y20_1⟩) ⟨(fun h => absurd h (by decide)), (fun h => absurd h (by decide)), (fun h => absurd h (by decide)), (fun h => absurd h (by decide)), (fun h => absurd h (by decide)), (fun h => absurd h (by decide))⟩ ?_
  case y20_1 => (intro w hF; clear hF; go_simp; try with_reducible rfl)
  try simp only [List.getElem_toArray, List.getElem_cons_succ, List.getElem_cons_zero, Act.put, List.setIfInBounds_toArray, List.set_cons_zero, List.set_cons_succ]
  refine wpAnyF_take (i := 21) (v := ?v21_1) rfl (by kernel_rfl) (by kernel_rfl) (by kernel_rfl) (by kernel_rfl) (fun _ _ _ h => h) (Or.inl ⟨by rfl, ?y21_1⟩) ⟨(fun h => absurd h (by decide)), (fun h => absurd h (by decide)), (fun h => absurd h (by decide)), (fun h => absurd h (by decide)), (fun h => absurd h (by decide)), (fun h => absurd h (by decide))⟩ ?_
  case y21_1 => (intro w hF; clear hF; go_simp; try with_reducible rfl)
  try simp only [List.getElem_toArray, List.getElem_cons_succ, List.getElem_cons_zero, Act.put, List.setIfInBounds_toArray, List.set_cons_zero, List.set_cons_succ]
  refine wpAnyF_ready (rs := [8]) (by kernel_rfl) (by simp) (AllReadyF.cons rfl (fun K hK => ?_) AllReadyF.nil)
  go_simp
  refine (W0.out _).mono ?_
  rintro e w1 ⟨rfl, hb1⟩
  try go_wp2_with fail
  refine hK.out _ _ (Sat.all (by kernel_rfl) (fun k => ⟨(fun _ => ((CC.out.m.drew.below hb1).cell 0)), (fun _ => ((CC.out.m.drew.below hb1).cell 0)), (fun _ => ((CC.out.m.drew.below hb1).cell 0)), (fun _ => ((CC.out.m.drew.below hb1).cell 0)), (fun _ => (KB.out.drew.below hb1)), (fun _ => (KB.out.drew.below hb1))⟩)) ?_
  clear hK K
  try simp only [List.getElem_toArray, List.getElem_cons_succ, List.getElem_cons_zero, Act.put, List.setIfInBounds_toArray, List.set_cons_zero, List.set_cons_succ]
  have hs1 := hb1.size
  have M1 := Lib.hid (CC.out.m.drew.below hb1)
  have K1 := Lib.hid (KB.out.drew.below hb1)
  refine wpAnyF_ready (rs := [15]) (by kernel_rfl) (by simp) (AllReadyF.cons rfl (fun K hK => ?_) AllReadyF.nil)
  go_simp
  refine (W1.out _).mono ?_
  rintro e w2 ⟨rfl, hb2⟩
  try go_wp2_with fail
  refine hK.out _ _ (Sat.all (by kernel_rfl) (fun k => ⟨(fun _ => ((M1.out.below hb2).cell 0)), (fun _ => ((M1.out.below hb2).cell 0)), (fun _ => ((M1.out.below hb2).cell 0)), (fun _ => ((M1.out.below hb2).cell 0)), (fun _ => (K1.out.below hb2)), (fun _ => (K1.out.below hb2))⟩)) ?_
  clear hK K
  try simp only [List.getElem_toArray, List.getElem_cons_succ, List.getElem_cons_zero, Act.put, List.setIfInBounds_toArray, List.set_cons_zero, List.set_cons_succ]
  refine wpAnyF_take (i := 18) (v := ?v18_3) rfl (by kernel_rfl) (by kernel_rfl) (by kernel_rfl) (by kernel_rfl) (fun _ _ _ h => h) (Or.inl ⟨by rfl, ?y18_3⟩) ⟨(fun h => absurd h (by decide)), (fun h => absurd h (by decide)), (fun h => absurd h (by decide)), (fun h => absurd h (by decide)), (fun h => absurd h (by decide)), (fun h => absurd h (by decide))⟩ ?_
  case y18_3 => (intro w hF; clear hF; go_simp; try with_reducible rfl)
  try simp only [List.getElem_toArray, List.getElem_cons_succ, List.getElem_cons_zero, Act.put, List.setIfInBounds_toArray, List.set_cons_zero, List.set_cons_succ]
  have hs2 := hb2.size
  have M2 := Lib.hid (M1.out.below hb2)
  have K2 := Lib.hid (K1.out.below hb2)
  refine wpAnyF_ready (rs := [19]) (by kernel_rfl) (by simp) (AllReadyF.cons rfl (fun K hK => ?_) AllReadyF.nil)
  refine wp_storeA 28 (.tmp 60) (.tmp 50) rfl bb 35 #[.int .u8 (writeP x.m.p0 b).dn, .bool (writeP x.m.p0 b).la, .int .u8 (writeP x.m.p0 b).sh] rfl rfl 59 (boxC V x wv) (boxC V (x.wP0 (writeP x.m.p0 b)) wv) K2.out (by kernel_rfl) (by simp) (by simp [Value.oneCell']) rfl ?_
  intro w3 hp_w3 K_w3
  have M3 := Lib.hid (M2.out.put hp_w3 NB.out.2.1)
  refine hK.out _ _ (Sat.mix [0, 2, 6, 13] (fun k hk => by simp only [List.mem_cons, List.not_mem_nil, or_false, not_or] at hk; exact ⟨fun e => absurd e hk.1, fun _ => M3.out.cell 0, fun e => absurd e hk.2.1, fun _ => M3.out.cell 0, fun e => absurd e hk.2.2.1, fun e => absurd e hk.2.2.2⟩) (by kernel_rfl)) ?_
  clear hK K
  refine wpAnyF_take (i := 22) (v := ?v22_4) rfl (by kernel_rfl) (by kernel_rfl) (by kernel_rfl) (by kernel_rfl) (fun _ _ _ h => h) (Or.inl ⟨by rfl, ?y22_4⟩) ⟨(fun h => absurd h (by decide)), (fun h => absurd h (by decide)), (fun h => absurd h (by decide)), (fun h => absurd h (by decide)), (fun h => absurd h (by decide)), (fun h => absurd h (by decide))⟩ ?_
  case y22_4 => (intro w hF; clear hF; go_simp; try with_reducible rfl)
  try simp only [List.getElem_toArray, List.getElem_cons_succ, List.getElem_cons_zero, Act.put, List.setIfInBounds_toArray, List.set_cons_zero, List.set_cons_succ]
  refine wpAnyF_ready (rs := [23]) (by kernel_rfl) (by simp) (AllReadyF.cons rfl (fun K hK => ?_) AllReadyF.nil)
  refine wp_storeA 28 (.tmp 63) (.tmp 57) rfl bb 38 #[.int .u8 (writeP x.m.p1 b).dn, .bool (writeP x.m.p1 b).la, .int .u8 (writeP x.m.p1 b).sh] rfl rfl 59 (boxC V (x.wP0 (writeP x.m.p0 b)) wv) (boxC V ((x.wP0 (writeP x.m.p0 b)).wP1 (writeP x.m.p1 b)) wv) K_w3.out (by kernel_rfl) (by simp) (by simp [Value.oneCell']) rfl ?_
  intro w4 hp_w4 K_w4
  refine hK.out _ _ (Sat.off [0, 1, 2, 9, 6, 13] (fun k w hk => by simp only [List.mem_cons, List.not_mem_nil, or_false, not_or] at hk; exact ⟨fun e => absurd e hk.1, fun e => absurd e hk.2.1, fun e => absurd e hk.2.2.1, fun e => absurd e hk.2.2.2.1, fun e => absurd e hk.2.2.2.2.1, fun e => absurd e hk.2.2.2.2.2⟩) (by kernel_rfl) _ _) ?_
  clear hK K
  refine wpAnyF_done (by kernel_rfl) ?_ _
  have FB : But bb w w4 := ((((But.refl bb w).drew.thenb hb1).thenb hb2).put hp_w3).put hp_w4
  have RF := Lib.hid (RelX.box1 L ST.out KB.out FB (by decide) K_w4.out rfl rfl (inP1 (m := (x.wP0 (writeP x.m.p0 b)).m) (inP0 ST.out.2.2.2.2 O0.out) O1.out))
  have KF := Lib.hid (FB.kpx (V := V))
  clear FB hp_w3 hp_w4 K_w3 K_w4 M1 M2 M3 K1 K2 hb1 hb2
  go_wp2
  all_goals exact bodyPost_end (results_none rfl _ _ _) rfl ⟨rfl, RF.out, KF.out⟩
theorem gm_4aa {w0 : World} {V : Nat → Value} {bb gc mc hc lc B H : Nat} (L : LiesX V bb B H) (w : World) (x : Bx) (a b : Int) (ha : U16 a) (hb : U8 b) (h : RelX 59 w0 V bb H w x) (hB : B ≤ w.heap.size) (c : Clo bb gc mc hc lc w) (F : Far V bb gc mc hc lc B) (hp : isPort a = true) (hk : a % 32 = 4) (hq : b / 2 % 2 = 1 ∧ b % 2 = 1) : Calls Try.prog 38 #[.int .u16 a, .int .u8 b, .pointer (some ⟨mc, 0, none⟩), .pointer (some ⟨hc, 0, none⟩), .pointer (some ⟨lc, 0, none⟩), .pointer (some ⟨gc, 0, none⟩)] w fun e w' => e = .returned (.tuple #[]) ∧ RelX 59 w0 V bb H w' (mainP x a b) ∧ Kp 0 (InX V bb) w w' := by
  have d : 53248 ≤ a ∧ a < 57344 := by unfold isPort at hp; simpa using hp
  obtain ⟨d1, d2⟩ := d
  obtain ⟨q1, q2⟩ := hq
  have e1 : mainP x a b = x.wTm ({ x.m.tm with on := true, ct := x.m.tm.rl, rg := false }) := by
    unfold mainP
    rw [if_neg (by omega), if_neg (by omega), hp, if_pos rfl, hk]
    unfold portP
    simp only [reduceIte, Int.reduceEq]
    unfold setT setTm
    rw [q1, q2]
    rfl
  rw [e1]
  have OK : Tim.Ok ({ x.m.tm with on := true, ct := x.m.tm.rl, rg := false }) := ⟨h.inn.tm.rl, by first | exact h.inn.tm.ct | exact h.inn.tm.rl⟩
  have RG := Lib.hid (region_ports a d1 d2 w); obtain ⟨h1, ⟨wv, hbx, hws⟩, hm, hf, hi⟩ := h; have L1 := L.lo; have L2 := L.hi; have lb := hbx.lt; have fb := hbx.free; have NB := Lib.hid F.nb; have KB := Lib.hid hbx; have CC := Lib.hid c; have ST := Lib.hid (And.intro h1 (And.intro hws (And.intro hm (And.intro hf hi))))
  have g1 : w.cell? ⟨mc, 0, none⟩ = some (.pointer (some ⟨bb, 0, none⟩)) := CC.out.m.cell 0
  have c41 : w.cell? ⟨bb, 41, none⟩ = some (.int .u16 x.m.tm.rl) := (KB.out.cell 41).trans (bx41 ..)
  have c42 : w.cell? ⟨bb, 42, none⟩ = some (.int .u16 x.m.tm.ct) := (KB.out.cell 42).trans (bx42 ..)
  have c43 : w.cell? ⟨bb, 43, none⟩ = some (.bool x.m.tm.on) := (KB.out.cell 43).trans (bx43 ..)
  have c44 : w.cell? ⟨bb, 44, none⟩ = some (.bool x.m.tm.rg) := (KB.out.cell 44).trans (bx44 ..)
  have lm := CC.out.m.lt
  have nm := NB.out.2.1
  obtain ⟨b0, b1'⟩ := hb
  clear e1 hbx hws hm hf hi h1 hp c F
  go_enter Try.func38, Try.ntmps38
  go_wp2_with fail
  refine RG.out.mono ?_
  rintro e w' ⟨rfl, rfl⟩
  go_wp2_with fail
  go_region
  go_wp2
  all_goals exact bodyPost_end (results_none rfl _ _ _) rfl ⟨rfl, RelX.box1 L ST.out KB.out (((((But.refl bb w).setCell rfl _).drew).setCell rfl _).setCell rfl _) (by decide) (Blk.set (Blk.set (Blk.set KB.out (bs43 V x wv true)).drew (bs42 V _ wv x.m.tm.rl)) (bs44 V _ wv false)) rfl rfl (inTm ST.out.2.2.2.2 OK), (((((But.refl bb w).setCell rfl _).drew).setCell rfl _).setCell rfl _).kpx⟩
theorem gm_4ab {w0 : World} {V : Nat → Value} {bb gc mc hc lc B H : Nat} (L : LiesX V bb B H) (w : World) (x : Bx) (a b : Int) (ha : U16 a) (hb : U8 b) (h : RelX 59 w0 V bb H w x) (hB : B ≤ w.heap.size) (c : Clo bb gc mc hc lc w) (F : Far V bb gc mc hc lc B) (hp : isPort a = true) (hk : a % 32 = 4) (hq : b / 2 % 2 = 1 ∧ b % 2 = 0) : Calls Try.prog 38 #[.int .u16 a, .int .u8 b, .pointer (some ⟨mc, 0, none⟩), .pointer (some ⟨hc, 0, none⟩), .pointer (some ⟨lc, 0, none⟩), .pointer (some ⟨gc, 0, none⟩)] w fun e w' => e = .returned (.tuple #[]) ∧ RelX 59 w0 V bb H w' (mainP x a b) ∧ Kp 0 (InX V bb) w w' := by
  have d : 53248 ≤ a ∧ a < 57344 := by unfold isPort at hp; simpa using hp
  obtain ⟨d1, d2⟩ := d
  obtain ⟨q1, q2⟩ := hq
  have e1 : mainP x a b = x.wTm ({ x.m.tm with on := false, rg := false }) := by
    unfold mainP
    rw [if_neg (by omega), if_neg (by omega), hp, if_pos rfl, hk]
    unfold portP
    simp only [reduceIte, Int.reduceEq]
    unfold setT setTm
    rw [q1, q2]
    rfl
  rw [e1]
  have OK : Tim.Ok ({ x.m.tm with on := false, rg := false }) := ⟨h.inn.tm.rl, by first | exact h.inn.tm.ct | exact h.inn.tm.rl⟩
  have RG := Lib.hid (region_ports a d1 d2 w); obtain ⟨h1, ⟨wv, hbx, hws⟩, hm, hf, hi⟩ := h; have L1 := L.lo; have L2 := L.hi; have lb := hbx.lt; have fb := hbx.free; have NB := Lib.hid F.nb; have KB := Lib.hid hbx; have CC := Lib.hid c; have ST := Lib.hid (And.intro h1 (And.intro hws (And.intro hm (And.intro hf hi))))
  have g1 : w.cell? ⟨mc, 0, none⟩ = some (.pointer (some ⟨bb, 0, none⟩)) := CC.out.m.cell 0
  have c41 : w.cell? ⟨bb, 41, none⟩ = some (.int .u16 x.m.tm.rl) := (KB.out.cell 41).trans (bx41 ..)
  have c42 : w.cell? ⟨bb, 42, none⟩ = some (.int .u16 x.m.tm.ct) := (KB.out.cell 42).trans (bx42 ..)
  have c43 : w.cell? ⟨bb, 43, none⟩ = some (.bool x.m.tm.on) := (KB.out.cell 43).trans (bx43 ..)
  have c44 : w.cell? ⟨bb, 44, none⟩ = some (.bool x.m.tm.rg) := (KB.out.cell 44).trans (bx44 ..)
  have lm := CC.out.m.lt
  have nm := NB.out.2.1
  obtain ⟨b0, b1'⟩ := hb
  clear e1 hbx hws hm hf hi h1 hp c F
  go_enter Try.func38, Try.ntmps38
  go_wp2_with fail
  refine RG.out.mono ?_
  rintro e w' ⟨rfl, rfl⟩
  go_wp2_with fail
  all_goals exact bodyPost_end (results_none rfl _ _ _) rfl ⟨rfl, RelX.box1 L ST.out KB.out (((But.refl bb w).setCell rfl _).setCell rfl _) (by decide) (Blk.set (Blk.set KB.out (bs43 V x wv false)) (bs44 V _ wv false)) rfl rfl (inTm ST.out.2.2.2.2 OK), (((But.refl bb w).setCell rfl _).setCell rfl _).kpx⟩
theorem gm_4ba {w0 : World} {V : Nat → Value} {bb gc mc hc lc B H : Nat} (L : LiesX V bb B H) (w : World) (x : Bx) (a b : Int) (ha : U16 a) (hb : U8 b) (h : RelX 59 w0 V bb H w x) (hB : B ≤ w.heap.size) (c : Clo bb gc mc hc lc w) (F : Far V bb gc mc hc lc B) (hp : isPort a = true) (hk : a % 32 = 4) (hq : b / 2 % 2 = 0 ∧ b % 2 = 1) : Calls Try.prog 38 #[.int .u16 a, .int .u8 b, .pointer (some ⟨mc, 0, none⟩), .pointer (some ⟨hc, 0, none⟩), .pointer (some ⟨lc, 0, none⟩), .pointer (some ⟨gc, 0, none⟩)] w fun e w' => e = .returned (.tuple #[]) ∧ RelX 59 w0 V bb H w' (mainP x a b) ∧ Kp 0 (InX V bb) w w' := by
  have d : 53248 ≤ a ∧ a < 57344 := by unfold isPort at hp; simpa using hp
  obtain ⟨d1, d2⟩ := d
  obtain ⟨q1, q2⟩ := hq
  have e1 : mainP x a b = x.wTm ({ x.m.tm with on := true, ct := x.m.tm.rl }) := by
    unfold mainP
    rw [if_neg (by omega), if_neg (by omega), hp, if_pos rfl, hk]
    unfold portP
    simp only [reduceIte, Int.reduceEq]
    unfold setT setTm
    rw [q1, q2]
    rfl
  rw [e1]
  have OK : Tim.Ok ({ x.m.tm with on := true, ct := x.m.tm.rl }) := ⟨h.inn.tm.rl, by first | exact h.inn.tm.ct | exact h.inn.tm.rl⟩
  have RG := Lib.hid (region_ports a d1 d2 w); obtain ⟨h1, ⟨wv, hbx, hws⟩, hm, hf, hi⟩ := h; have L1 := L.lo; have L2 := L.hi; have lb := hbx.lt; have fb := hbx.free; have NB := Lib.hid F.nb; have KB := Lib.hid hbx; have CC := Lib.hid c; have ST := Lib.hid (And.intro h1 (And.intro hws (And.intro hm (And.intro hf hi))))
  have g1 : w.cell? ⟨mc, 0, none⟩ = some (.pointer (some ⟨bb, 0, none⟩)) := CC.out.m.cell 0
  have c41 : w.cell? ⟨bb, 41, none⟩ = some (.int .u16 x.m.tm.rl) := (KB.out.cell 41).trans (bx41 ..)
  have c42 : w.cell? ⟨bb, 42, none⟩ = some (.int .u16 x.m.tm.ct) := (KB.out.cell 42).trans (bx42 ..)
  have c43 : w.cell? ⟨bb, 43, none⟩ = some (.bool x.m.tm.on) := (KB.out.cell 43).trans (bx43 ..)
  have c44 : w.cell? ⟨bb, 44, none⟩ = some (.bool x.m.tm.rg) := (KB.out.cell 44).trans (bx44 ..)
  have lm := CC.out.m.lt
  have nm := NB.out.2.1
  obtain ⟨b0, b1'⟩ := hb
  clear e1 hbx hws hm hf hi h1 hp c F
  go_enter Try.func38, Try.ntmps38
  go_wp2_with fail
  refine RG.out.mono ?_
  rintro e w' ⟨rfl, rfl⟩
  go_wp2_with fail
  go_region
  go_wp2
  all_goals exact bodyPost_end (results_none rfl _ _ _) rfl ⟨rfl, RelX.box1 L ST.out KB.out ((((But.refl bb w).setCell rfl _).drew).setCell rfl _) (by decide) (Blk.set (Blk.set KB.out (bs43 V x wv true)).drew (bs42 V _ wv x.m.tm.rl)) rfl rfl (inTm ST.out.2.2.2.2 OK), ((((But.refl bb w).setCell rfl _).drew).setCell rfl _).kpx⟩
theorem gm_4bb {w0 : World} {V : Nat → Value} {bb gc mc hc lc B H : Nat} (L : LiesX V bb B H) (w : World) (x : Bx) (a b : Int) (ha : U16 a) (hb : U8 b) (h : RelX 59 w0 V bb H w x) (hB : B ≤ w.heap.size) (c : Clo bb gc mc hc lc w) (F : Far V bb gc mc hc lc B) (hp : isPort a = true) (hk : a % 32 = 4) (hq : b / 2 % 2 = 0 ∧ b % 2 = 0) : Calls Try.prog 38 #[.int .u16 a, .int .u8 b, .pointer (some ⟨mc, 0, none⟩), .pointer (some ⟨hc, 0, none⟩), .pointer (some ⟨lc, 0, none⟩), .pointer (some ⟨gc, 0, none⟩)] w fun e w' => e = .returned (.tuple #[]) ∧ RelX 59 w0 V bb H w' (mainP x a b) ∧ Kp 0 (InX V bb) w w' := by
  have d : 53248 ≤ a ∧ a < 57344 := by unfold isPort at hp; simpa using hp
  obtain ⟨d1, d2⟩ := d
  obtain ⟨q1, q2⟩ := hq
  have e1 : mainP x a b = x.wTm ({ x.m.tm with on := false }) := by
    unfold mainP
    rw [if_neg (by omega), if_neg (by omega), hp, if_pos rfl, hk]
    unfold portP
    simp only [reduceIte, Int.reduceEq]
    unfold setT setTm
    rw [q1, q2]
    rfl
  rw [e1]
  have OK : Tim.Ok ({ x.m.tm with on := false }) := ⟨h.inn.tm.rl, by first | exact h.inn.tm.ct | exact h.inn.tm.rl⟩
  have RG := Lib.hid (region_ports a d1 d2 w); obtain ⟨h1, ⟨wv, hbx, hws⟩, hm, hf, hi⟩ := h; have L1 := L.lo; have L2 := L.hi; have lb := hbx.lt; have fb := hbx.free; have NB := Lib.hid F.nb; have KB := Lib.hid hbx; have CC := Lib.hid c; have ST := Lib.hid (And.intro h1 (And.intro hws (And.intro hm (And.intro hf hi))))
  have g1 : w.cell? ⟨mc, 0, none⟩ = some (.pointer (some ⟨bb, 0, none⟩)) := CC.out.m.cell 0
  have c41 : w.cell? ⟨bb, 41, none⟩ = some (.int .u16 x.m.tm.rl) := (KB.out.cell 41).trans (bx41 ..)
  have c42 : w.cell? ⟨bb, 42, none⟩ = some (.int .u16 x.m.tm.ct) := (KB.out.cell 42).trans (bx42 ..)
  have c43 : w.cell? ⟨bb, 43, none⟩ = some (.bool x.m.tm.on) := (KB.out.cell 43).trans (bx43 ..)
  have c44 : w.cell? ⟨bb, 44, none⟩ = some (.bool x.m.tm.rg) := (KB.out.cell 44).trans (bx44 ..)
  have lm := CC.out.m.lt
  have nm := NB.out.2.1
  obtain ⟨b0, b1'⟩ := hb
  clear e1 hbx hws hm hf hi h1 hp c F
  go_enter Try.func38, Try.ntmps38
  go_wp2_with fail
  refine RG.out.mono ?_
  rintro e w' ⟨rfl, rfl⟩
  go_wp2_with fail
  all_goals exact bodyPost_end (results_none rfl _ _ _) rfl ⟨rfl, RelX.box1 L ST.out KB.out ((But.refl bb w).setCell rfl _) (by decide) (Blk.set KB.out (bs43 V x wv false)) rfl rfl (inTm ST.out.2.2.2.2 OK), ((But.refl bb w).setCell rfl _).kpx⟩
theorem gm_4 {w0 : World} {V : Nat → Value} {bb gc mc hc lc B H : Nat} (L : LiesX V bb B H) (w : World) (x : Bx) (a b : Int) (ha : U16 a) (hb : U8 b) (h : RelX 59 w0 V bb H w x) (hB : B ≤ w.heap.size) (c : Clo bb gc mc hc lc w) (F : Far V bb gc mc hc lc B) (hp : isPort a = true) (hk : a % 32 = 4) : Calls Try.prog 38 #[.int .u16 a, .int .u8 b, .pointer (some ⟨mc, 0, none⟩), .pointer (some ⟨hc, 0, none⟩), .pointer (some ⟨lc, 0, none⟩), .pointer (some ⟨gc, 0, none⟩)] w fun e w' => e = .returned (.tuple #[]) ∧ RelX 59 w0 V bb H w' (mainP x a b) ∧ Kp 0 (InX V bb) w w' := by
  rcases (by omega : b / 2 % 2 = 1 ∨ b / 2 % 2 = 0) with q1 | q1
  · rcases (by omega : b % 2 = 1 ∨ b % 2 = 0) with q2 | q2
    · exact gm_4aa L w x a b ha hb h hB c F hp hk ⟨q1, q2⟩
    · exact gm_4ab L w x a b ha hb h hB c F hp hk ⟨q1, q2⟩
  · rcases (by omega : b % 2 = 1 ∨ b % 2 = 0) with q2 | q2
    · exact gm_4ba L w x a b ha hb h hB c F hp hk ⟨q1, q2⟩
    · exact gm_4bb L w x a b ha hb h hB c F hp hk ⟨q1, q2⟩
end Go.Proofs.Ytimccpmdgfneoaa

/- The document's machine: a transfer; the other processor's bus is one. Conditions: the machine lies in a game. -/
namespace Go.Mq
open Go.RowKit
set_option linter.unusedVariables false
theorem LiesX.up {V : Nat → Value} {bb B B' H : Nat} (L : LiesX V bb B H) (h : B ≤ B') : LiesX V bb B' H :=
  ⟨L.lo, Nat.lt_of_lt_of_le L.hi h, fun i g hi hg => ⟨(L.own i g hi hg).1, Nat.lt_of_lt_of_le (L.own i g hi hg).2.1 h, (L.own i g hi hg).2.2⟩, L.ap⟩
theorem LiesX.far {V : Nat → Value} {bb B H : Nat} (L : LiesX V bb B H) {k : Nat} (h : B ≤ k) : ¬ InX V bb k := by
  rintro (e | ⟨i, hi, hg⟩)
  · have := L.hi; omega
  · have := (L.own i k hi hg).2.1; omega
theorem Kp.st {X : Nat → Prop} {ws w w' : World} {B : Nat} (h : Kp 0 X ws w) (k : St B w w') (hB : ws.heap.size ≤ B) : Kp 0 X ws w' :=
  ⟨k.below.os.trans h.os, k.below.tape.trans h.tape, k.below.output.trans h.output, Nat.le_trans h.size k.below.size, fun i _ hi hx hw => (k.below.block i (by omega)).trans (h.block i (Nat.zero_le _) hi hx hw)⟩
end Go.Mq
namespace Go.Proofs.Ytimccpmdgfneoaa
open Go.RowKit Go.Mq
set_option linter.unusedVariables false
set_option linter.unusedSimpArgs false
set_option maxHeartbeats 4000000
set_option maxRecDepth 100000
theorem gm_14 {w0 : World} {V : Nat → Value} {bb gc mc hc lc B H : Nat} (L : LiesX V bb B H) (w : World) (x : Bx) (a b : Int) (ha : U16 a) (hb : U8 b) (h : RelX 59 w0 V bb H w x) (hB : B ≤ w.heap.size) (c : Clo bb gc mc hc lc w) (F : Far V bb gc mc hc lc B) (hp : isPort a = true) (hk : a % 32 = 14) : Calls Try.prog 38 #[.int .u16 a, .int .u8 b, .pointer (some ⟨mc, 0, none⟩), .pointer (some ⟨hc, 0, none⟩), .pointer (some ⟨lc, 0, none⟩), .pointer (some ⟨gc, 0, none⟩)] w fun e w' => e = .returned (.tuple #[]) ∧ RelX 59 w0 V bb H w' (mainP x a b) ∧ Kp 0 (InX V bb) w w' := by
  have d : 53248 ≤ a ∧ a < 57344 := by unfold isPort at hp; simpa using hp
  obtain ⟨d1, d2⟩ := d
  obtain ⟨n, rfl⟩ := Int.eq_ofNat_of_zero_le hb.1
  have hn : n ≤ 255 := by unfold U8 at hb; omega
  have hn0 : (n : Int) ≤ 255 := by omega
  have e1 : mainP x a n = mvY x n := by unfold mainP; rw [if_neg (by omega), if_neg (by omega), hp, if_pos rfl, hk]; unfold portP; simp only [reduceIte, Int.reduceEq]; rfl
  rw [e1]
  have RG := Lib.hid (region_ports a d1 d2 w)
  have L2 := L.hi
  have LL := Lib.hid L
  have FF := Lib.hid F
  have CC := Lib.hid c
  have HH := Lib.hid h
  have lb : bb < w.heap.size := by omega
  clear h c F e1 hb
  go_enter Try.func38, Try.ntmps38
  go_wp2_with fail
  refine RG.out.mono ?_
  rintro e w' ⟨rfl, rfl⟩
  go_wp2_with fail
  go_loopw [8] (fun i wr => ∃ k : Nat, k ≤ n ∧ i = .int .i64 k ∧ Hid (RelX 59 w0 V bb H wr (mvX x k)) ∧ Hid (Kp 0 (InX V bb) w wr)) (fun i _ => n - (intOf i).toNat)
  case atStart => exact ⟨0, Nat.zero_le _, rfl, HH, Lib.hid (Kp.refl _ _ _)⟩
  case round =>
    obtain ⟨k, hk', rfl, hr, hkp⟩ := hrel
    have hs := hkp.out.size
    have C2 := Lib.hid (CC.out.kp FF.out hkp.out)
    have g1 : wr.cell? ⟨gc, 0, none⟩ = some (.pointer (some ⟨bb, 0, none⟩)) := C2.out.g.cell 0
    have g2 : wr.cell? ⟨mc, 0, none⟩ = some (.pointer (some ⟨bb, 0, none⟩)) := C2.out.m.cell 0
    by_cases hlt : k < n
    · have hlti : (k : Int) < n := by omega
      have hf := mvM_fm x.m k
      obtain ⟨h1, ⟨wv, hbx, hws⟩, hm, hft, hi⟩ := hr.out
      have lb1 := hbx.lt
      have fb := hbx.free
      have c65 : wr.cell? ⟨bb, 65, none⟩ = some (.int .u16 x.m.fm) := by rw [← hf.1]; exact (hbx.cell 65).trans (bx65 ..)
      have c66 : wr.cell? ⟨bb, 66, none⟩ = some (.int .u16 x.m.to) := by rw [← hf.2]; exact (hbx.cell 66).trans (bx66 ..)
      have c34 : wr.cell? ⟨bb, 34, none⟩ = some (V 4) := (hbx.cell 34).trans (bx34 ..)
      have ito : U16 x.m.to := by rw [← hf.2]; exact hi.to
      obtain ⟨to0, to1⟩ := ito
      obtain ⟨q, hq⟩ : ∃ q : Nat, (x.m.to + k).tmod 256 = (q : Int) := ⟨((x.m.to + k).tmod 256).toNat, by have := Int.tmod_nonneg 256 (show 0 ≤ x.m.to + k by omega); omega⟩
      have hq2 : (x.m.to + k) % 256 = (q : Int) := by rw [← hq, Int.tmod_eq_emod_of_nonneg (by omega)]
      have hl4 := hft.l4
      obtain ⟨g, cap, hv, hg, hc', hz, hl⟩ := hm.at 4 (by omega) q (by rw [hl4]; omega)
      rw [hv, hl4] at c34
      have q1 : (q : Int) < 256 := by omega
      have w1 : IntKind.u16.wrap (x.m.fm + k) = (x.m.fm + k) % 65536 := wrap16 _
      have w2 : IntKind.u16.wrap (k : Int) = k := by rw [wrap16]; omega
      have PL := Lib.hid (fun W (hW : Drew wr W) => bare_any W (mvX x k) ((x.m.fm + k) % 65536) (by unfold U16; omega) (hr.out.stable LL.out (st_drew hW)))
      obtain ⟨v, hvv⟩ : ∃ v, v = plainF (mvM x.m k) ((x.m.fm + k) % 65536) := ⟨_, rfl⟩
      have hv8 : U8 v := by rw [hvv]; exact plainF_u hi _
      have PL2 : Hid (∀ m, Calls Try.prog 33 #[.pointer (some ⟨bb, 0, none⟩), .int .u16 ((x.m.fm + k) % 65536)] (wr.drewN m) fun e w' => e = .returned (.int .u8 v) ∧ wr.drewN m = w') := Lib.hid (fun m => by rw [hvv]; exact PL.out _ ⟨m, rfl⟩)
      have E1 : Hid (∀ W, Drew wr W → RelX 59 w0 V bb H (W.setCell ⟨g, q, none⟩ (.int .u8 v)) (mvX x (k + 1))) := Lib.hid (fun W hW => by
        have := RelX.poke LL.out (hr.out.stable LL.out (st_drew hW)) 4 (by omega) q v hv8 g hg (by decide)
        rw [show mvX x (k + 1) = { (mvX x k) with m := { (mvX x k).m with mem := updM (mvX x k).m.mem 4 (((mvX x k).m.mem 4).set q v) } } from by
          unfold mvX
          rw [show mvM x.m (k + 1) = poke (mvM x.m k) 4 ((x.m.to + k) % 256).toNat (plainF (mvM x.m k) ((x.m.fm + k) % 65536)) from rfl, hq2, ← hvv]
          rfl]
        exact this)
      have E3 : Hid (∀ W, Drew wr W → Kp 0 (InX V bb) w (W.setCell ⟨g, q, none⟩ (.int .u8 v))) := Lib.hid (fun W hW => (hkp.out.trans (kpx_drew hW)).trans (kpx_cell (by omega) hg _ _))
      clear hbx hws hm hft hi h1 hf hv hl4 hg hvv PL hkp hr hq2
      go_wp2_with fail
      go_quiet ((go_at_call 33; exact quiet_sym (PL2.out _)))
      go_wp2_with fail
      go_region
      go_wp2
      go_roundw
      case rel => exact ⟨k + 1, by omega, by go_num, Lib.hid (E1.out _ ⟨_, rfl⟩), Lib.hid (E3.out _ ⟨_, rfl⟩)⟩
      case measure => simp [intOf]; omega
    · have hkn : k = n := by omega
      subst hkn
      obtain ⟨h1, ⟨wv, hbx, hws⟩, hm, hft, hi⟩ := hr.out
      have lb1 := hbx.lt
      have fb := hbx.free
      have c76 : wr.cell? ⟨bb, 76, none⟩ = some (.int .i64 x.dl) := (hbx.cell 76).trans (bx76 ..)
      have KB := Lib.hid hbx
      have ST := Lib.hid (And.intro h1 (And.intro hws (And.intro hm (And.intro hft hi))))
      clear hbx hws hm hft hi h1
      go_wp2
      all_goals exact bodyPost_end (results_none rfl _ _ _) rfl ⟨rfl, RelX.box1 LL.out ST.out KB.out ((But.refl bb wr).setCell rfl _) (by decide) (Blk.set KB.out (bs76 V (mvX x k) wv (wrap64 (x.dl + 2 * k)))) rfl rfl ST.out.2.2.2.2, hkp.out.trans ((But.refl bb wr).setCell rfl _).kpx⟩
/-- a machine in a game, with what its functions caught, since a world -/
structure RelA (ws w0 : World) (V : Nat → Value) (bb gc mc H : Nat) (w : World) (x : Bx) : Prop where
  rel : RelX 59 w0 V bb H w x
  g : Blk w gc #[.pointer (some ⟨bb, 0, none⟩)] 56
  m : Blk w mc #[.pointer (some ⟨bb, 0, none⟩)] 80
  kp : Kp 0 (InX V bb) ws w
theorem gaux_ok {ws w0 : World} {V : Nat → Value} {bb gc mc B H : Nat} (L : LiesX V bb B H) (hg : ¬ InX V bb gc) (hm : ¬ InX V bb mc) (gB : gc < B) (mB : mc < B) (hs : ws.heap.size ≤ B) :
    BusOk Try.prog 40 42 #[] #[.pointer (some ⟨mc, 0, none⟩)] #[] #[.pointer (some ⟨mc, 0, none⟩), .pointer (some ⟨gc, 0, none⟩)] busA (RelA ws w0 V bb gc mc H) B where
  stable := fun w w' m h k => ⟨h.rel.stable L k, by unfold Blk; rw [k.below.block gc gB]; exact h.g, by unfold Blk; rw [k.below.block mc mB]; exact h.m, h.kp.st k hs⟩
  byte := fun m a => by
    show U8 (auxG m.m a % 256)
    unfold U8
    omega
  roomg := fun m a => by
    show roomX m ≤ roomX (auxGS m a)
    unfold roomX
    rw [auxGS_ws]
    exact Nat.le_refl _
  roomp := fun m a n => roomX_aux m a n
  eg := fun args w => by kernel_rfl
  ep := fun args w => by kernel_rfl
  get := fun w m a ha h hB => (gaget_any L w m a ha h.rel hB h.m (fun e => hm (Or.inl e))).mono fun e w' ⟨he, hr, hk⟩ => ⟨he.trans (by show _ = Ending.returned (.int .u8 (auxG m.m a % 256)); rw [mod256 (auxG_u h.rel.inn a)]), ⟨hr, h.g.kp hk (Nat.zero_le _) hg, h.m.kp hk (Nat.zero_le _) hm, h.kp.trans hk⟩, hk.inx L⟩
  put := fun w m a n ha hn hr h hB => (gaput_any L w m a n ha hn (by have : 0 < 1000000 - m.ws.length := hr; omega) h.rel hB h.g h.m (fun e => hg (Or.inl e)) (fun e => hm (Or.inl e))).mono fun e w' ⟨he, hr, hk⟩ => ⟨he, ⟨hr, h.g.kp hk (Nat.zero_le _) hg, h.m.kp hk (Nat.zero_le _) hm, h.kp.trans hk⟩, hk.inx L⟩
theorem mkgaux_any (bb : Nat) (w : World) :
    Calls Try.prog 19 #[.pointer (some ⟨bb, 0, none⟩)] w fun e w' => e = .returned (.agg #[.func (.func 40) #[] #[.pointer (some ⟨w.heap.size + 2, 0, none⟩)], .func (.func 42) #[] #[.pointer (some ⟨w.heap.size + 2, 0, none⟩), .pointer (some ⟨w.heap.size, 0, none⟩)]]) ∧ Below w.heap.size w w' ∧ w'.heap.size = w.heap.size + 3 ∧ Blk w' w.heap.size #[.pointer (some ⟨bb, 0, none⟩)] 56 ∧ Blk w' (w.heap.size + 2) #[.pointer (some ⟨bb, 0, none⟩)] 80 := by
  go_enter Try.func19, Try.ntmps19
  go_wp2_with (first | ((with_reducible show wpList _ _ _ _ _ _); refine wpList_storeW rfl 63 (.tmp 2) (.tmp 13) rfl (w.heap.size + 1) #[.func (.func 40) #[] #[.pointer (some ⟨w.heap.size + 2, 0, none⟩)], .func (.func 42) #[] #[.pointer (some ⟨w.heap.size + 2, 0, none⟩), .pointer (some ⟨w.heap.size, 0, none⟩)]] rfl rfl 63 _ (show Blk _ (w.heap.size + 1) #[.nilFunc, .nilFunc] 63 from (by repeat' (first | (with_reducible first | exact Hid.out (by assumption) | exact Blk.new _ _ _ | (refine Blk.new_at _ _ _ _ ?_; simp; done) | refine Blk.alloc ?_ _ | refine Blk.drewN ?_ _ | refine Blk.drew ?_ | apply Blk.set | refine Blk.put ?_ (by assumption) (by first | (simp; done) | (simp; omega) | omega) | refine Blk.below ?_ (by assumption)) | (refine Blk.setAt ?_ (by first | (simp; done) | (simp; omega))) | rfl))) (by kernel_rfl) rfl (by first | (with_reducible assumption) | simp [Value.oneCell']) ?_; intro w2 hp_w2 K_w2))
  exact bodyPost_ret (results_cell_row Try.results19 _ _ (w.heap.size + 1) 63 _ (0, 0) _ rfl K_w2.out Try.underlying63 rfl (by kernel_rfl)) rfl ⟨rfl, by repeat' (first | (with_reducible first | exact Below.refl _ _ | assumption | refine below_alloc ?_ _ | refine Below.drew ?_ | refine below_drewN ?_ _ | refine below_then ?_ (by assumption) | refine below_put ?_ (by assumption) (by first | (simp; done) | (simp; omega) | omega) | refine Below.setCell ?_ ?_ _) | (simp; done) | (simp; omega) | omega), by rw [hp_w2.size]; simp, (by repeat' (first | (with_reducible first | exact Hid.out (by assumption) | exact Blk.new _ _ _ | (refine Blk.new_at _ _ _ _ ?_; simp; done) | refine Blk.alloc ?_ _ | refine Blk.drewN ?_ _ | refine Blk.drew ?_ | apply Blk.set | refine Blk.put ?_ (by assumption) (by first | (simp; done) | (simp; omega) | omega) | refine Blk.below ?_ (by assumption)) | (refine Blk.setAt ?_ (by first | (simp; done) | (simp; omega))) | rfl)), (by repeat' (first | (with_reducible first | exact Hid.out (by assumption) | exact Blk.new _ _ _ | (refine Blk.new_at _ _ _ _ ?_; simp; done) | refine Blk.alloc ?_ _ | refine Blk.drewN ?_ _ | refine Blk.drew ?_ | apply Blk.set | refine Blk.put ?_ (by assumption) (by first | (simp; done) | (simp; omega) | omega) | refine Blk.below ?_ (by assumption)) | (refine Blk.setAt ?_ (by first | (simp; done) | (simp; omega))) | rfl))⟩
end Go.Proofs.Ytimccpmdgfneoaa

/- The document's machine: the main processor lets the other one go; its bus is one. Conditions: the machine lies in a game. -/
namespace Go.Proofs.Ytimccpmdgfneoaa
open Go.RowKit Go.Mq
set_option linter.unusedVariables false
set_option linter.unusedSimpArgs false
set_option maxHeartbeats 4000000
set_option maxRecDepth 100000
theorem gm_16ona {w0 : World} {V : Nat → Value} {bb gc mc hc lc B H : Nat} (L : LiesX V bb B H) (w : World) (x : Bx) (a b : Int) (ha : U16 a) (hb : U8 b) (h : RelX 59 w0 V bb H w x) (hB : B ≤ w.heap.size) (c : Clo bb gc mc hc lc w) (F : Far V bb gc mc hc lc B) (hp : isPort a = true) (hk : a % 32 = 16) (hq : b / 2 % 2 = 1) (hwas : x.m.hd = true) : Calls Try.prog 38 #[.int .u16 a, .int .u8 b, .pointer (some ⟨mc, 0, none⟩), .pointer (some ⟨hc, 0, none⟩), .pointer (some ⟨lc, 0, none⟩), .pointer (some ⟨gc, 0, none⟩)] w fun e w' => e = .returned (.tuple #[]) ∧ RelX 59 w0 V bb H w' (mainP x a b) ∧ Kp 0 (InX V bb) w w' := by
  obtain ⟨g, hg⟩ : ∃ g, g = (b % 2 == 1) := ⟨_, rfl⟩
  have e1 : mainP x a b = x16 x g true := by
    have d : 53248 ≤ a ∧ a < 57344 := by unfold isPort at hp; simpa using hp
    unfold mainP
    rw [if_neg (by omega), if_neg (by omega), hp, if_pos rfl, hk]
    unfold portP
    simp only [reduceIte, Int.reduceEq]
    unfold freeM x16
    rw [hq, ← hg, hwas]
    rfl
  rw [e1]
  have d : 53248 ≤ a ∧ a < 57344 := (by unfold isPort at hp; simpa using hp); obtain ⟨d1, d2⟩ := d; have RG := Lib.hid (region_ports a d1 d2 w); obtain ⟨h1, ⟨wv, hbx, hws⟩, hm, hf, hi⟩ := h; have L1 := L.lo; have L2 := L.hi; have lb := hbx.lt; have fb := hbx.free; have NB := Lib.hid F.nb; have KB := Lib.hid hbx; have CC := Lib.hid c; have FF := Lib.hid F; have ST := Lib.hid (And.intro h1 (And.intro hws (And.intro hm (And.intro hf hi)))); obtain ⟨b0, b1⟩ := hb; have g2 : w.cell? ⟨mc, 0, none⟩ = some (.pointer (some ⟨bb, 0, none⟩)) := CC.out.m.cell 0; have c67 : w.cell? ⟨bb, 67, none⟩ = some (.bool x.m.gr) := (KB.out.cell 67).trans (bx67 ..)
  have c68 : w.cell? ⟨bb, 68, none⟩ = some (.bool true) := by rw [← hwas]; exact (KB.out.cell 68).trans (bx68 ..)
  have hg' := hg.symm
  clear e1 hbx hws hm hf hi h1 hp c F hg hwas
  go_enter Try.func38, Try.ntmps38
  go_wp2_with fail
  refine RG.out.mono ?_
  rintro e w' ⟨rfl, rfl⟩
  go_wp2_with fail
  go_region
  go_wp2
  all_goals exact bodyPost_end (results_none rfl _ _ _) rfl ⟨rfl, RelX.box1 L ST.out KB.out ((((But.refl bb w).drew).setCell rfl _).setCell rfl _) (by decide) (Blk.set (Blk.set KB.out.drew (bs67 V x wv g)) (bs68 V _ wv true)) rfl rfl (inGH ST.out.2.2.2.2 g true), ((((But.refl bb w).drew).setCell rfl _).setCell rfl _).kpx⟩
theorem gm_16onb {w0 : World} {V : Nat → Value} {bb gc mc hc lc B H : Nat} (L : LiesX V bb B H) (w : World) (x : Bx) (a b : Int) (ha : U16 a) (hb : U8 b) (h : RelX 59 w0 V bb H w x) (hB : B ≤ w.heap.size) (c : Clo bb gc mc hc lc w) (F : Far V bb gc mc hc lc B) (hp : isPort a = true) (hk : a % 32 = 16) (hq : b / 2 % 2 = 1) (hwas : x.m.hd = false) : Calls Try.prog 38 #[.int .u16 a, .int .u8 b, .pointer (some ⟨mc, 0, none⟩), .pointer (some ⟨hc, 0, none⟩), .pointer (some ⟨lc, 0, none⟩), .pointer (some ⟨gc, 0, none⟩)] w fun e w' => e = .returned (.tuple #[]) ∧ RelX 59 w0 V bb H w' (mainP x a b) ∧ Kp 0 (InX V bb) w w' := by
  obtain ⟨g, hg⟩ : ∃ g, g = (b % 2 == 1) := ⟨_, rfl⟩
  have e1 : mainP x a b = x16 x g true := by
    have d : 53248 ≤ a ∧ a < 57344 := by unfold isPort at hp; simpa using hp
    unfold mainP
    rw [if_neg (by omega), if_neg (by omega), hp, if_pos rfl, hk]
    unfold portP
    simp only [reduceIte, Int.reduceEq]
    unfold freeM x16
    rw [hq, ← hg, hwas]
    rfl
  rw [e1]
  have d : 53248 ≤ a ∧ a < 57344 := (by unfold isPort at hp; simpa using hp); obtain ⟨d1, d2⟩ := d; have RG := Lib.hid (region_ports a d1 d2 w); obtain ⟨h1, ⟨wv, hbx, hws⟩, hm, hf, hi⟩ := h; have L1 := L.lo; have L2 := L.hi; have lb := hbx.lt; have fb := hbx.free; have NB := Lib.hid F.nb; have KB := Lib.hid hbx; have CC := Lib.hid c; have FF := Lib.hid F; have ST := Lib.hid (And.intro h1 (And.intro hws (And.intro hm (And.intro hf hi)))); obtain ⟨b0, b1⟩ := hb; have g2 : w.cell? ⟨mc, 0, none⟩ = some (.pointer (some ⟨bb, 0, none⟩)) := CC.out.m.cell 0; have c67 : w.cell? ⟨bb, 67, none⟩ = some (.bool x.m.gr) := (KB.out.cell 67).trans (bx67 ..)
  have c68 : w.cell? ⟨bb, 68, none⟩ = some (.bool false) := by rw [← hwas]; exact (KB.out.cell 68).trans (bx68 ..)
  have hg' := hg.symm
  clear e1 hbx hws hm hf hi h1 hp c F hg hwas
  go_enter Try.func38, Try.ntmps38
  go_wp2_with fail
  refine RG.out.mono ?_
  rintro e w' ⟨rfl, rfl⟩
  go_wp2_with fail
  go_region
  go_wp2
  all_goals exact bodyPost_end (results_none rfl _ _ _) rfl ⟨rfl, RelX.box1 L ST.out KB.out ((((But.refl bb w).drew).setCell rfl _).setCell rfl _) (by decide) (Blk.set (Blk.set KB.out.drew (bs67 V x wv g)) (bs68 V _ wv true)) rfl rfl (inGH ST.out.2.2.2.2 g true), ((((But.refl bb w).drew).setCell rfl _).setCell rfl _).kpx⟩
theorem gm_16off {w0 : World} {V : Nat → Value} {bb gc mc hc lc B H : Nat} (L : LiesX V bb B H) (w : World) (x : Bx) (a b : Int) (ha : U16 a) (hb : U8 b) (h : RelX 59 w0 V bb H w x) (hB : B ≤ w.heap.size) (c : Clo bb gc mc hc lc w) (F : Far V bb gc mc hc lc B) (hp : isPort a = true) (hk : a % 32 = 16) (hq : b / 2 % 2 = 0) (hwas : x.m.hd = false) : Calls Try.prog 38 #[.int .u16 a, .int .u8 b, .pointer (some ⟨mc, 0, none⟩), .pointer (some ⟨hc, 0, none⟩), .pointer (some ⟨lc, 0, none⟩), .pointer (some ⟨gc, 0, none⟩)] w fun e w' => e = .returned (.tuple #[]) ∧ RelX 59 w0 V bb H w' (mainP x a b) ∧ Kp 0 (InX V bb) w w' := by
  obtain ⟨g, hg⟩ : ∃ g, g = (b % 2 == 1) := ⟨_, rfl⟩
  have e1 : mainP x a b = x16 x g false := by
    have d : 53248 ≤ a ∧ a < 57344 := by unfold isPort at hp; simpa using hp
    unfold mainP
    rw [if_neg (by omega), if_neg (by omega), hp, if_pos rfl, hk]
    unfold portP
    simp only [reduceIte, Int.reduceEq]
    unfold freeM x16
    rw [hq, ← hg, hwas]
    rfl
  rw [e1]
  have d : 53248 ≤ a ∧ a < 57344 := (by unfold isPort at hp; simpa using hp); obtain ⟨d1, d2⟩ := d; have RG := Lib.hid (region_ports a d1 d2 w); obtain ⟨h1, ⟨wv, hbx, hws⟩, hm, hf, hi⟩ := h; have L1 := L.lo; have L2 := L.hi; have lb := hbx.lt; have fb := hbx.free; have NB := Lib.hid F.nb; have KB := Lib.hid hbx; have CC := Lib.hid c; have FF := Lib.hid F; have ST := Lib.hid (And.intro h1 (And.intro hws (And.intro hm (And.intro hf hi)))); obtain ⟨b0, b1⟩ := hb; have g2 : w.cell? ⟨mc, 0, none⟩ = some (.pointer (some ⟨bb, 0, none⟩)) := CC.out.m.cell 0; have c67 : w.cell? ⟨bb, 67, none⟩ = some (.bool x.m.gr) := (KB.out.cell 67).trans (bx67 ..)
  have c68 : w.cell? ⟨bb, 68, none⟩ = some (.bool false) := by rw [← hwas]; exact (KB.out.cell 68).trans (bx68 ..)
  have hg' := hg.symm
  clear e1 hbx hws hm hf hi h1 hp c F hg hwas
  go_enter Try.func38, Try.ntmps38
  go_wp2_with fail
  refine RG.out.mono ?_
  rintro e w' ⟨rfl, rfl⟩
  go_wp2_with fail
  go_region
  go_wp2
  all_goals exact bodyPost_end (results_none rfl _ _ _) rfl ⟨rfl, RelX.box1 L ST.out KB.out ((((But.refl bb w).drew).setCell rfl _).setCell rfl _) (by decide) (Blk.set (Blk.set KB.out.drew (bs67 V x wv g)) (bs68 V _ wv false)) rfl rfl (inGH ST.out.2.2.2.2 g false), ((((But.refl bb w).drew).setCell rfl _).setCell rfl _).kpx⟩
theorem gm_16free {w0 : World} {V : Nat → Value} {bb gc mc hc lc B H : Nat} (L : LiesX V bb B H) (w : World) (x : Bx) (a b : Int) (ha : U16 a) (hb : U8 b) (h : RelX 59 w0 V bb H w x) (hB : B ≤ w.heap.size) (c : Clo bb gc mc hc lc w) (F : Far V bb gc mc hc lc B) (hp : isPort a = true) (hk : a % 32 = 16) (hq : b / 2 % 2 = 0) (hwas : x.m.hd = true) : Calls Try.prog 38 #[.int .u16 a, .int .u8 b, .pointer (some ⟨mc, 0, none⟩), .pointer (some ⟨hc, 0, none⟩), .pointer (some ⟨lc, 0, none⟩), .pointer (some ⟨gc, 0, none⟩)] w fun e w' => e = .returned (.tuple #[]) ∧ RelX 59 w0 V bb H w' (mainP x a b) ∧ Kp 0 (InX V bb) w w' := by
  obtain ⟨g, hg⟩ : ∃ g, g = (b % 2 == 1) := ⟨_, rfl⟩
  have e1 : mainP x a b = { x with m := { x.m with gr := g, hd := false, ac := startA (x16 x g false).m, ar := x.m.ck } } := by
    have d : 53248 ≤ a ∧ a < 57344 := by unfold isPort at hp; simpa using hp
    unfold mainP
    rw [if_neg (by omega), if_neg (by omega), hp, if_pos rfl, hk]
    unfold portP
    simp only [reduceIte, Int.reduceEq]
    unfold freeM x16
    rw [hq, ← hg, hwas]
    rfl
  rw [e1]
  obtain ⟨C, hC⟩ : ∃ C, C = startA (x16 x g false).m := ⟨_, rfl⟩
  rw [← hC]
  have HC := Lib.hid hC
  clear hC
  have ick : I64 x.m.ck := h.inn.ck
  have d : 53248 ≤ a ∧ a < 57344 := (by unfold isPort at hp; simpa using hp); obtain ⟨d1, d2⟩ := d; have RG := Lib.hid (region_ports a d1 d2 w); obtain ⟨h1, ⟨wv, hbx, hws⟩, hm, hf, hi⟩ := h; have L1 := L.lo; have L2 := L.hi; have lb := hbx.lt; have fb := hbx.free; have NB := Lib.hid F.nb; have KB := Lib.hid hbx; have CC := Lib.hid c; have FF := Lib.hid F; have ST := Lib.hid (And.intro h1 (And.intro hws (And.intro hm (And.intro hf hi)))); obtain ⟨b0, b1⟩ := hb; have g2 : w.cell? ⟨mc, 0, none⟩ = some (.pointer (some ⟨bb, 0, none⟩)) := CC.out.m.cell 0; have c67 : w.cell? ⟨bb, 67, none⟩ = some (.bool x.m.gr) := (KB.out.cell 67).trans (bx67 ..)
  have c68 : w.cell? ⟨bb, 68, none⟩ = some (.bool true) := by rw [← hwas]; exact (KB.out.cell 68).trans (bx68 ..)
  have hg' := hg.symm
  have HB := Lib.hid hB
  clear e1 hbx hws hm hf hi h1 hp c F hg hwas
  go_enter Try.func38, Try.ntmps38
  go_wp2_with fail
  refine RG.out.mono ?_
  rintro e w' ⟨rfl, rfl⟩
  go_wp2_with fail
  go_region
  go_wp2_with fail
  refine wp_mark (R := fun W => Hid (RelX 59 w0 V bb H W (x16 x g false)) ∧ Hid (Kp 0 (InX V bb) w W)) ⟨Lib.hid (RelX.box1 L ST.out KB.out ((((But.refl bb w).drew).setCell rfl _).setCell rfl _) (by decide) (Blk.set (Blk.set KB.out.drew (bs67 V x wv g)) (bs68 V _ wv false)) rfl rfl (inGH ST.out.2.2.2.2 g false)), Lib.hid ((((But.refl bb w).drew).setCell rfl _).setCell rfl _).kpx⟩ ?_
  intro W ⟨R1, K1⟩
  have C1 := Lib.hid (CC.out.kp FF.out K1.out)
  have sz1 := K1.out.size
  clear g2 c67 c68 ST KB RG
  refine wp_region_F (fun k W => (k = 0 → W.cell? ⟨mc, 0, none⟩ = some (.pointer (some ⟨bb, 0, none⟩))) ∧ (k = 1 → W.cell? ⟨gc, 0, none⟩ = some (.pointer (some ⟨bb, 0, none⟩)))) [0, 1, 4, 5] (by kernel_rfl) ?_
  refine wpAnyF_take (i := 0) (v := ?v0_1) rfl (by kernel_rfl) (by kernel_rfl) (by kernel_rfl) (by kernel_rfl) (fun _ _ _ h => h) (Or.inl ⟨by rfl, ?y0_1⟩) ⟨(fun _ => (C1.out.m.drew.cell 0)), (fun h => absurd h (by decide))⟩ ?_
  case y0_1 => (intro w hF; have hF2 := hF.1 rfl; clear hF; go_simp; try with_reducible rfl)
  try simp only [List.getElem_toArray, List.getElem_cons_succ, List.getElem_cons_zero, Act.put, List.setIfInBounds_toArray, List.set_cons_zero, List.set_cons_succ]
  refine wpAnyF_take (i := 1) (v := ?v1_1) rfl (by kernel_rfl) (by kernel_rfl) (by kernel_rfl) (by kernel_rfl) (fun _ _ _ h => h) (Or.inl ⟨by rfl, ?y1_1⟩) ⟨(fun h => absurd h (by decide)), (fun _ => (C1.out.g.drew.cell 0))⟩ ?_
  case y1_1 => (intro w hF; have hF2 := hF.2 rfl; clear hF; go_simp; try with_reducible rfl)
  try simp only [List.getElem_toArray, List.getElem_cons_succ, List.getElem_cons_zero, Act.put, List.setIfInBounds_toArray, List.set_cons_zero, List.set_cons_succ]
  refine wpAnyF_ready (rs := [2]) (by kernel_rfl) (by simp) (AllReadyF.cons rfl (fun K hK => ?_) AllReadyF.nil)
  go_simp
  refine (mkgaux_any bb _).mono ?_
  rintro e w2 ⟨rfl, hb2, hsz2, KG2, KM2⟩
  have z2 : w2.heap.size = W.heap.size + 3 := hsz2
  have eW : W.drew.heap.size = W.heap.size := rfl
  rw [eW] at KG2 KM2
  try go_wp2_with fail
  refine hK.out _ _ (Sat.all (by kernel_rfl) (fun k => ⟨(fun _ => (C1.out.m.drew.below hb2).cell 0), (fun _ => (C1.out.g.drew.below hb2).cell 0)⟩)) ?_
  clear hK K
  try simp only [List.getElem_toArray, List.getElem_cons_succ, List.getElem_cons_zero, Act.put, List.setIfInBounds_toArray, List.set_cons_zero, List.set_cons_succ]
  have LU := Lib.hid (L.up (B' := w2.heap.size) (by have := HB.out; omega))
  have AO := Lib.hid (gaux_ok (ws := w) (w0 := w0) LU.out (L.far (k := W.heap.size) (by have := HB.out; omega)) (L.far (k := W.heap.size + 2) (by have := HB.out; omega)) (by omega) (by omega) (by omega))
  have RA := Lib.hid (RelA.mk (ws := w) ((R1.out.stable L (show St B W W.drew from st_drew ((Drew.refl W).drewN 1))).stable L (St.of hb2 (by have := HB.out; show B ≤ W.heap.size; omega) (Nat.le_refl _)) : RelX 59 w0 V bb H w2 (x16 x g false)) KG2 KM2 ((K1.out.drew).below hb2 (by show w.heap.size ≤ W.heap.size; omega)))
  have BG := Lib.hid (begin_any AO.out (x16 x g false) w2 RA.out (Nat.le_refl _))
  rw [wV_A0, wS_A0] at BG
  have IC := Lib.hid (startA_in (x16 x g false).m)
  rw [show start0 (auxG (x16 x g false).m 0 % 256 * 256 + auxG (x16 x g false).m 1 % 256) = startA (x16 x g false).m from rfl] at BG
  rw [← HC.out] at BG IC
  refine wpAnyF_ready (rs := [3]) (by kernel_rfl) (by simp) (AllReadyF.cons rfl (fun K hK => ?_) AllReadyF.nil)
  go_simp
  refine BG.out.mono ?_
  rintro e w3 ⟨rfl, hr3, hk3⟩
  try go_wp2_with fail
  have K3 := Lib.hid hr3.kp
  have C3 := Lib.hid (CC.out.kp FF.out K3.out)
  refine hK.out _ _ (Sat.all (by kernel_rfl) (fun k => ⟨(fun _ => C3.out.m.cell 0), (fun _ => C3.out.g.cell 0)⟩)) ?_
  clear hK K BG AO LU RA
  try simp only [List.getElem_toArray, List.getElem_cons_succ, List.getElem_cons_zero, Act.put, List.setIfInBounds_toArray, List.set_cons_zero, List.set_cons_succ]
  refine wpAnyF_take (i := 4) (v := ?v4_2) rfl (by kernel_rfl) (by kernel_rfl) (by kernel_rfl) (by kernel_rfl) (fun _ _ _ h => h) (Or.inl ⟨by rfl, ?y4_2⟩) ⟨(fun h => absurd h (by decide)), (fun h => absurd h (by decide))⟩ ?_
  case y4_2 => (intro w hF; clear hF; go_simp; try with_reducible rfl)
  try simp only [List.getElem_toArray, List.getElem_cons_succ, List.getElem_cons_zero, Act.put, List.setIfInBounds_toArray, List.set_cons_zero, List.set_cons_succ]
  refine wpAnyF_take (i := 5) (v := ?v5_2) rfl (by kernel_rfl) (by kernel_rfl) (by kernel_rfl) (by kernel_rfl) (fun _ _ _ h => h) (Or.inl ⟨by rfl, ?y5_2⟩) ⟨(fun h => absurd h (by decide)), (fun h => absurd h (by decide))⟩ ?_
  case y5_2 => (intro w hF; clear hF; go_simp; try with_reducible rfl)
  try simp only [List.getElem_toArray, List.getElem_cons_succ, List.getElem_cons_zero, Act.put, List.setIfInBounds_toArray, List.set_cons_zero, List.set_cons_succ]
  obtain ⟨h1, ⟨wv2, hbx, hws⟩, hm, hf, hi⟩ := hr3.rel
  have KB3 := Lib.hid hbx
  have ST3 := Lib.hid (And.intro h1 (And.intro hws (And.intro hm (And.intro hf hi))))
  have one := cpuC_one C
  clear hbx hws hm hf hi h1 hr3 hk3
  refine wpAnyF_ready (rs := [6]) (by kernel_rfl) (by simp) (AllReadyF.cons rfl (fun K hK => ?_) AllReadyF.nil)
  refine wp_storeA 26 (.tmp 249) (.tmp 247) rfl bb 15 (cpuC C) rfl rfl 59 (boxC V (x16 x g false) wv2) (boxC V ((x16 x g false).wAc C) wv2) KB3.out (by kernel_rfl) (by simp) one rfl ?_
  intro w4 hp_w4 K_w4
  refine hK.out _ _ (Sat.off [0, 1] (fun k w hk => by simp only [List.mem_cons, List.not_mem_nil, or_false, not_or] at hk; exact ⟨fun e => absurd e hk.1, fun e => absurd e hk.2⟩) (by kernel_rfl) _ _) ?_
  clear hK K
  refine wpAnyF_done (by kernel_rfl) ?_ _
  have M4 := Lib.hid (C3.out.m.put hp_w4 NB.out.2.1)
  have g4 : w4.cell? ⟨mc, 0, none⟩ = some (.pointer (some ⟨bb, 0, none⟩)) := M4.out.cell 0
  have l4 := K_w4.out.lt
  have f4 := K_w4.out.free
  have c72 : w4.cell? ⟨bb, 72, none⟩ = some (.int .i64 x.m.ck) := (K_w4.out.cell 72).trans (bx72 ..)
  have c74 : w4.cell? ⟨bb, 74, none⟩ = some (.int .i64 x.m.ar) := (K_w4.out.cell 74).trans (bx74 ..)
  have FB : But bb w3 w4 := (But.refl bb w3).put hp_w4
  have FH := Lib.hid FB
  have KK := Lib.hid K_w4.out
  clear hp_w4 K_w4 FB
  go_wp2_with fail
  go_region
  go_wp2
  all_goals exact bodyPost_end (results_none rfl _ _ _) rfl ⟨rfl, RelX.box1 L ST3.out KB3.out ((FH.out.drew).setCell (p := ⟨bb, 74, none⟩) rfl (.int .i64 x.m.ck)) (by decide) (Blk.set KK.out.drew (bs74 V ((x16 x g false).wAc C) wv2 x.m.ck)) rfl rfl (inAc ST3.out.2.2.2.2 IC.out ick), K3.out.trans ((FH.out.drew).setCell (p := ⟨bb, 74, none⟩) rfl (.int .i64 x.m.ck)).kpx⟩
theorem gmput_any {w0 : World} {V : Nat → Value} {bb gc mc hc lc B H : Nat} (L : LiesX V bb B H) (w : World) (x : Bx) (a b : Int) (ha : U16 a) (hb : U8 b) (h : RelX 59 w0 V bb H w x) (hB : B ≤ w.heap.size) (c : Clo bb gc mc hc lc w) (F : Far V bb gc mc hc lc B) : Calls Try.prog 38 #[.int .u16 a, .int .u8 b, .pointer (some ⟨mc, 0, none⟩), .pointer (some ⟨hc, 0, none⟩), .pointer (some ⟨lc, 0, none⟩), .pointer (some ⟨gc, 0, none⟩)] w fun e w' => e = .returned (.tuple #[]) ∧ RelX 59 w0 V bb H w' (mainP x a b) ∧ Kp 0 (InX V bb) w w' := by
  by_cases hp : isPort a = true
  · by_cases n0 : a % 32 = 0
    · exact gm_0 L w x a b ha hb h hB c F hp n0
    by_cases n2 : a % 32 = 2
    · exact gm_2 L w x a b ha hb h hB c F hp n2
    by_cases n3 : a % 32 = 3
    · exact gm_3 L w x a b ha hb h hB c F hp n3
    by_cases n4 : a % 32 = 4
    · exact gm_4 L w x a b ha hb h hB c F hp n4
    by_cases n8 : a % 32 = 8
    · exact gm_8 L w x a b ha hb h hB c F hp n8
    by_cases n10 : a % 32 = 10
    · exact gm_10 L w x a b ha hb h hB c F hp n10
    by_cases n11 : a % 32 = 11
    · exact gm_11 L w x a b ha hb h hB c F hp n11
    by_cases n12 : a % 32 = 12
    · exact gm_12 L w x a b ha hb h hB c F hp n12
    by_cases n13 : a % 32 = 13
    · exact gm_13 L w x a b ha hb h hB c F hp n13
    by_cases n14 : a % 32 = 14
    · exact gm_14 L w x a b ha hb h hB c F hp n14
    by_cases n16 : a % 32 = 16
    · rcases (by omega : b / 2 % 2 = 1 ∨ b / 2 % 2 = 0) with q | q
      · cases hh : x.m.hd
        · exact gm_16onb L w x a b ha hb h hB c F hp n16 q hh
        · exact gm_16ona L w x a b ha hb h hB c F hp n16 q hh
      · cases hh : x.m.hd
        · exact gm_16off L w x a b ha hb h hB c F hp n16 q hh
        · exact gm_16free L w x a b ha hb h hB c F hp n16 q hh
    by_cases n17 : a % 32 = 17
    · exact gm_17 L w x a b ha hb h hB c F hp n17
    exact gm_none L w x a b ha hb h hB c F hp n0 n2 n3 n4 n8 n10 n11 n12 n13 n14 n16 n17
  · have hq : ¬ (53248 ≤ a ∧ a < 57344) := by unfold isPort at hp; simpa using hp
    obtain ⟨a0, a1⟩ := ha
    by_cases c1 : a < 32768
    · exact gm_rom L w x a b ⟨a0, a1⟩ hb h hB c F a0 c1
    by_cases c2 : a < 49152
    · exact gm_ram L w x a b ⟨a0, a1⟩ hb h hB c F (by omega) c2
    by_cases c3 : a < 53248
    · exact gm_win L w x a b ⟨a0, a1⟩ hb h hB c F (by omega) c3
    exact gm_no L w x a b ⟨a0, a1⟩ hb h hB c F (by omega) (by omega)
structure RelM (ws w0 : World) (V : Nat → Value) (bb gc mc hc lc H : Nat) (w : World) (x : Bx) : Prop where
  rel : RelX 59 w0 V bb H w x
  clo : Clo bb gc mc hc lc w
  kp : Kp 0 (InX V bb) ws w
theorem gmain_ok {ws w0 : World} {V : Nat → Value} {bb gc mc hc lc B H : Nat} (L : LiesX V bb B H) (F : Far V bb gc mc hc lc B) (hs : ws.heap.size ≤ B) :
    BusOk Try.prog 31 38 #[] #[.pointer (some ⟨gc, 0, none⟩), .pointer (some ⟨mc, 0, none⟩)] #[] #[.pointer (some ⟨mc, 0, none⟩), .pointer (some ⟨hc, 0, none⟩), .pointer (some ⟨lc, 0, none⟩), .pointer (some ⟨gc, 0, none⟩)] busM (RelM ws w0 V bb gc mc hc lc H) B where
  stable := fun w w' m h k => ⟨h.rel.stable L k, ⟨by unfold Blk; rw [k.below.block gc F.gB]; exact h.clo.g, by unfold Blk; rw [k.below.block mc F.mB]; exact h.clo.m, by unfold Blk; rw [k.below.block hc F.hB]; exact h.clo.h, by unfold Blk; rw [k.below.block lc F.lB]; exact h.clo.l⟩, h.kp.st k hs⟩
  byte := fun m a => by
    show U8 (mainG m.m a % 256)
    unfold U8
    omega
  roomg := fun m a => by
    show roomX m ≤ roomX (mainGS m a)
    unfold roomX
    rw [mainGS_ws]
    exact Nat.le_refl _
  roomp := fun m a n => by
    show roomX m ≤ roomX (mainP m a n) + 1
    unfold roomX
    rw [mainP_ws]
    omega
  eg := fun args w => by kernel_rfl
  ep := fun args w => by kernel_rfl
  get := fun w m a ha h hB => (gget_any L w m a ha h.rel hB h.clo.g h.clo.m F.nb.1 F.nb.2.1).mono fun e w' ⟨he, hr, hk⟩ => ⟨he.trans (by show _ = Ending.returned (.int .u8 (mainG m.m a % 256)); rw [mod256 (mainG_u h.rel.inn a)]), ⟨hr, h.clo.kp F hk, h.kp.trans hk⟩, hk.inx L⟩
  put := fun w m a n ha hn hr h hB => (gmput_any L w m a n ha hn h.rel hB h.clo F).mono fun e w' ⟨he, hr, hk⟩ => ⟨he, ⟨hr, h.clo.kp F hk, h.kp.trans hk⟩, hk.inx L⟩
theorem mkgmain_any (bb : Nat) (w : World) :
    Calls Try.prog 18 #[.pointer (some ⟨bb, 0, none⟩)] w fun e w' => e = .returned (.agg #[.func (.func 31) #[] #[.pointer (some ⟨w.heap.size, 0, none⟩), .pointer (some ⟨w.heap.size + 2, 0, none⟩)], .func (.func 38) #[] #[.pointer (some ⟨w.heap.size + 2, 0, none⟩), .pointer (some ⟨w.heap.size + 3, 0, none⟩), .pointer (some ⟨w.heap.size + 4, 0, none⟩), .pointer (some ⟨w.heap.size, 0, none⟩)]]) ∧ Below w.heap.size w w' ∧ w'.heap.size = w.heap.size + 5 ∧ Clo bb w.heap.size (w.heap.size + 2) (w.heap.size + 3) (w.heap.size + 4) w' := by
  go_enter Try.func18, Try.ntmps18
  go_wp2_with (first | ((with_reducible show wpList _ _ _ _ _ _); refine wpList_storeW rfl 63 (.tmp 2) (.tmp 15) rfl (w.heap.size + 1) #[.func (.func 31) #[] #[.pointer (some ⟨w.heap.size, 0, none⟩), .pointer (some ⟨w.heap.size + 2, 0, none⟩)], .func (.func 38) #[] #[.pointer (some ⟨w.heap.size + 2, 0, none⟩), .pointer (some ⟨w.heap.size + 3, 0, none⟩), .pointer (some ⟨w.heap.size + 4, 0, none⟩), .pointer (some ⟨w.heap.size, 0, none⟩)]] rfl rfl 63 _ (show Blk _ (w.heap.size + 1) #[.nilFunc, .nilFunc] 63 from (by repeat' (first | (with_reducible first | exact Hid.out (by assumption) | exact Blk.new _ _ _ | (refine Blk.new_at _ _ _ _ ?_; simp; done) | refine Blk.alloc ?_ _ | refine Blk.drewN ?_ _ | refine Blk.drew ?_ | apply Blk.set | refine Blk.put ?_ (by assumption) (by first | (simp; done) | (simp; omega) | omega) | refine Blk.below ?_ (by assumption)) | (refine Blk.setAt ?_ (by first | (simp; done) | (simp; omega))) | rfl))) (by kernel_rfl) rfl (by first | (with_reducible assumption) | simp [Value.oneCell']) ?_; intro w2 hp_w2 K_w2))
  exact bodyPost_ret (results_cell_row Try.results18 _ _ (w.heap.size + 1) 63 _ (0, 0) _ rfl K_w2.out Try.underlying63 rfl (by kernel_rfl)) rfl ⟨rfl, by repeat' (first | (with_reducible first | exact Below.refl _ _ | assumption | refine below_alloc ?_ _ | refine Below.drew ?_ | refine below_drewN ?_ _ | refine below_then ?_ (by assumption) | refine below_put ?_ (by assumption) (by first | (simp; done) | (simp; omega) | omega) | refine Below.setCell ?_ ?_ _) | (simp; done) | (simp; omega) | omega), by rw [hp_w2.size]; simp, ⟨(by repeat' (first | (with_reducible first | exact Hid.out (by assumption) | exact Blk.new _ _ _ | (refine Blk.new_at _ _ _ _ ?_; simp; done) | refine Blk.alloc ?_ _ | refine Blk.drewN ?_ _ | refine Blk.drew ?_ | apply Blk.set | refine Blk.put ?_ (by assumption) (by first | (simp; done) | (simp; omega) | omega) | refine Blk.below ?_ (by assumption)) | (refine Blk.setAt ?_ (by first | (simp; done) | (simp; omega))) | rfl)), (by repeat' (first | (with_reducible first | exact Hid.out (by assumption) | exact Blk.new _ _ _ | (refine Blk.new_at _ _ _ _ ?_; simp; done) | refine Blk.alloc ?_ _ | refine Blk.drewN ?_ _ | refine Blk.drew ?_ | apply Blk.set | refine Blk.put ?_ (by assumption) (by first | (simp; done) | (simp; omega) | omega) | refine Blk.below ?_ (by assumption)) | (refine Blk.setAt ?_ (by first | (simp; done) | (simp; omega))) | rfl)), (by repeat' (first | (with_reducible first | exact Hid.out (by assumption) | exact Blk.new _ _ _ | (refine Blk.new_at _ _ _ _ ?_; simp; done) | refine Blk.alloc ?_ _ | refine Blk.drewN ?_ _ | refine Blk.drew ?_ | apply Blk.set | refine Blk.put ?_ (by assumption) (by first | (simp; done) | (simp; omega) | omega) | refine Blk.below ?_ (by assumption)) | (refine Blk.setAt ?_ (by first | (simp; done) | (simp; omega))) | rfl)), (by repeat' (first | (with_reducible first | exact Hid.out (by assumption) | exact Blk.new _ _ _ | (refine Blk.new_at _ _ _ _ ?_; simp; done) | refine Blk.alloc ?_ _ | refine Blk.drewN ?_ _ | refine Blk.drew ?_ | apply Blk.set | refine Blk.put ?_ (by assumption) (by first | (simp; done) | (simp; omega) | omega) | refine Blk.below ?_ (by assumption)) | (refine Blk.setAt ?_ (by first | (simp; done) | (simp; omega))) | rfl))⟩⟩
end Go.Proofs.Ytimccpmdgfneoaa
