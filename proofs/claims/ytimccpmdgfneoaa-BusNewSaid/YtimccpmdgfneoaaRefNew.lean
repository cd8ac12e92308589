/- The document's new machine. Conditions: both programs are slices of bytes, not too long. -/
import Derived.Test.YtimccpmdgfneoaaGxM
import Derived.Test.YtimccpmdgfneoaaBusM
namespace Go.Mq
open Go.RowKit
theorem cut_3n {G : Prop} {F : Nat → Nat → Nat → Nat → World → Prop} (R : Nat → Nat → Nat → Nat → World → Prop) (h : (∀ g2 g3 g4 b W, R g2 g3 g4 b W → F g2 g3 g4 b W) → G) (H : ∀ g2 g3 g4 b W, R g2 g3 g4 b W → F g2 g3 g4 b W) : G := h H
end Go.Mq
namespace Go.Proofs.Ytimccpmdgfneoaa
open Go.RowKit Go.Mq
set_option linter.unusedVariables false
set_option linter.unusedSimpArgs false
set_option maxHeartbeats 2000000
set_option maxRecDepth 100000
def romB (xs : List Int) (a : Int) : Int := if a < xs.length then xs.getD a.toNat 0 else 255
theorem bare_rom (bb : Nat) (v : Value) (xs : List Int) (a : Int) (ha : 0 ≤ a) (ha2 : a < 32768) (hl : xs.length ≤ 1024) (w : World) (lb : bb < w.heap.size) (c30 : w.cell? ⟨bb, 30, none⟩ = some v) (h : SliceAt w .u8 v xs) :
    Calls Try.prog 33 #[.pointer (some ⟨bb, 0, none⟩), .int .u16 a] w fun e w' => e = .returned (.int .u8 (romB xs a)) ∧ w = w' := by
  have RO := Lib.hid (romAt_any v xs a ⟨ha, by omega⟩ hl w h)
  have RG := Lib.hid (region_rom a ha ha2 w)
  rw [show (if a < xs.length then xs.getD a.toNat 0 else 255) = romB xs a from rfl] at RO
  clear h
  go_enter Try.func33, Try.ntmps33
  go_wp2_with fail
  refine RG.out.mono ?_
  rintro e w' ⟨rfl, rfl⟩
  go_wp2_with fail
  refine RO.out.mono ?_
  rintro e w' ⟨rfl, rfl⟩
  go_wp2
  go_ret
  exact ⟨rfl, rfl⟩
theorem get_rom (bb gc mc : Nat) (v : Value) (xs : List Int) (a : Int) (ha : 0 ≤ a) (ha2 : a < 32768) (hl : xs.length ≤ 1024) (w : World) (lb : bb < w.heap.size) (c30 : w.cell? ⟨bb, 30, none⟩ = some v) (h : SliceAt w .u8 v xs) (g1 : w.cell? ⟨gc, 0, none⟩ = some (.pointer (some ⟨bb, 0, none⟩))) :
    Calls Try.prog 31 #[.int .u16 a, .pointer (some ⟨gc, 0, none⟩), .pointer (some ⟨mc, 0, none⟩)] w fun e w' => e = .returned (.int .u8 (romB xs a)) ∧ w = w' := by
  have PL := Lib.hid (bare_rom bb v xs a ha ha2 hl w lb c30 h)
  have RG := Lib.hid (region_rom a ha ha2 w)
  clear h c30
  go_enter Try.func31, Try.ntmps31
  go_wp2_with fail
  refine RG.out.mono ?_
  rintro e w' ⟨rfl, rfl⟩
  go_wp2_with fail
  refine PL.out.mono ?_
  rintro e w1 ⟨rfl, rfl⟩
  go_wp2
  go_ret
  exact ⟨rfl, rfl⟩
theorem romB_u {xs : List Int} (h : Bytes8 xs) (a : Int) : U8 (romB xs a) := by
  unfold romB
  split
  · exact getD_byte h _
  · unfold U8; omega
theorem word_new (bb gc mc : Nat) (fp v : Value) (xs : List Int) (hx : Bytes8 xs) (hl : xs.length ≤ 1024) (w : World) (lb : bb < w.heap.size) (lg : gc < w.heap.size) (c30 : w.cell? ⟨bb, 30, none⟩ = some v) (h : SliceAt w .u8 v xs) (g1 : w.cell? ⟨gc, 0, none⟩ = some (.pointer (some ⟨bb, 0, none⟩))) :
    Calls Try.prog 47 #[.agg #[.func (.func 31) #[] #[.pointer (some ⟨gc, 0, none⟩), .pointer (some ⟨mc, 0, none⟩)], fp], .int .u16 0] w fun e w' => e = .returned (.int .u16 (romB xs 0 * 256 + romB xs 1)) ∧ Below w.heap.size w w' := by
  have G := Lib.hid (fun (W : World) (k : Below w.heap.size w W) (a : Int) (ha : 0 ≤ a) (ha2 : a < 32768) => get_rom bb gc mc v xs a ha ha2 hl W (Nat.lt_of_lt_of_le lb k.size) ((k.cell (p := ⟨bb, 30, none⟩) lb).trans c30) (h.below k) ((k.cell (p := ⟨gc, 0, none⟩) lg).trans g1))
  obtain ⟨x0, x1⟩ := romB_u hx 0
  obtain ⟨y0, y1⟩ := romB_u hx 1
  obtain ⟨p, hp⟩ : ∃ p, p = romB xs 0 := ⟨_, rfl⟩
  obtain ⟨q, hq⟩ : ∃ q, q = romB xs 1 := ⟨_, rfl⟩
  have G0 := Lib.hid (fun (W : World) (k : Below w.heap.size w W) => G.out W k 0 (by omega) (by omega))
  have G1 := Lib.hid (fun (W : World) (k : Below w.heap.size w W) => G.out W k 1 (by omega) (by omega))
  rw [← hp] at G0 x0 x1 ⊢
  rw [← hq] at G1 y0 y1 ⊢
  clear hp hq G h c30 g1
  go_enter Try.func47, Try.ntmps47
  go_wp2_with fail
  refine (G0.out _ (by repeat' (first | (with_reducible first | exact Below.refl _ _ | assumption | refine below_alloc ?_ _ | refine Below.drew ?_ | refine below_drewN ?_ _ | refine below_then ?_ (by assumption) | refine below_put ?_ (by assumption) (by first | (simp; done) | (simp; omega) | omega) | refine Below.setCell ?_ ?_ _) | (simp; done) | (simp; omega) | omega))).mono ?_
  rintro e w1 ⟨rfl, rfl⟩
  go_wp2_with fail
  refine (G1.out _ (by repeat' (first | (with_reducible first | exact Below.refl _ _ | assumption | refine below_alloc ?_ _ | refine Below.drew ?_ | refine below_drewN ?_ _ | refine below_then ?_ (by assumption) | refine below_put ?_ (by assumption) (by first | (simp; done) | (simp; omega) | omega) | refine Below.setCell ?_ ?_ _) | (simp; done) | (simp; omega) | omega))).mono ?_
  rintro e w1 ⟨rfl, rfl⟩
  go_wp2
  go_ret
  refine ⟨ret1 (vi ?_), by repeat' (first | (with_reducible first | exact Below.refl _ _ | assumption | refine below_alloc ?_ _ | refine Below.drew ?_ | refine below_drewN ?_ _ | refine below_then ?_ (by assumption) | refine below_put ?_ (by assumption) (by first | (simp; done) | (simp; omega) | omega) | refine Below.setCell ?_ ?_ _) | (simp; done) | (simp; omega) | omega)⟩
  first | rfl | omega | (simp only [wrap16]; omega)
theorem begin_new (bb gc mc : Nat) (fp v : Value) (xs : List Int) (hx : Bytes8 xs) (hl : xs.length ≤ 1024) (w : World) (lb : bb < w.heap.size) (lg : gc < w.heap.size) (c30 : w.cell? ⟨bb, 30, none⟩ = some v) (h : SliceAt w .u8 v xs) (g1 : w.cell? ⟨gc, 0, none⟩ = some (.pointer (some ⟨bb, 0, none⟩))) :
    Calls Try.prog 27 #[.agg #[.func (.func 31) #[] #[.pointer (some ⟨gc, 0, none⟩), .pointer (some ⟨mc, 0, none⟩)], fp]] w fun e w' => e = .returned (.agg (cpuC (start0 (romB xs 0 * 256 + romB xs 1)))) ∧ Below w.heap.size w w' := by
  have W := Lib.hid (fun (W : World) (k : Below w.heap.size w W) => word_new bb gc mc fp v xs hx hl W (Nat.lt_of_lt_of_le lb k.size) (Nat.lt_of_lt_of_le lg k.size) ((k.cell (p := ⟨bb, 30, none⟩) lb).trans c30) (h.below k) ((k.cell (p := ⟨gc, 0, none⟩) lg).trans g1))
  generalize romB xs 0 * 256 + romB xs 1 = z at *
  clear h c30 g1 hx
  go_enter Try.func27, Try.ntmps27
  go_wp2_with (first | ((with_reducible show wpList _ _ _ _ _ _); refine wpList_loadW rfl 63 (.tmp 1) rfl (w.heap.size) rfl 63 #[.func (.func 31) #[] #[.pointer (some ⟨gc, 0, none⟩), .pointer (some ⟨mc, 0, none⟩)], fp] (show Blk _ (w.heap.size) #[.func (.func 31) #[] #[.pointer (some ⟨gc, 0, none⟩), .pointer (some ⟨mc, 0, none⟩)], fp] 63 from (by repeat' (first | (with_reducible first | exact Hid.out (by assumption) | exact Blk.new _ _ _ | (refine Blk.new_at _ _ _ _ ?_; simp; done) | refine Blk.alloc ?_ _ | refine Blk.drewN ?_ _ | refine Blk.drew ?_ | apply Blk.set | refine Blk.put ?_ (by assumption) (by first | (simp; done) | (simp; omega) | omega) | refine Blk.below ?_ (by assumption)) | (refine Blk.setAt ?_ (by first | (simp; done) | (simp; omega))) | rfl))) _ Try.underlying63 rfl (by kernel_rfl) ?_))
  refine (W.out _ (by repeat' (first | (with_reducible first | exact Below.refl _ _ | assumption | refine below_alloc ?_ _ | refine Below.drew ?_ | refine below_drewN ?_ _ | refine below_then ?_ (by assumption) | refine below_put ?_ (by assumption) (by first | (simp; done) | (simp; omega) | omega) | refine Below.setCell ?_ ?_ _) | (simp; done) | (simp; omega) | omega))).mono ?_
  rintro e w1 ⟨rfl, hb1⟩
  have s1 : w.heap.size + 2 ≤ w1.heap.size := by have := hb1.size; simpa using this
  go_wp2_with (first | ((with_reducible show wpList _ _ _ _ _ _); refine wpList_storeW rfl 26 (.tmp 2) (.tmp 5) rfl (w.heap.size + 1) (cpuC (start0 z)) rfl rfl 26 _ (show Blk w1 (w.heap.size + 1) #[.int .u16 0, .int .u16 0, .int .u16 0, .int .u16 0, .int .u16 0, .int .u16 0, .int .u16 0, .int .u16 0, .int .u16 0, .bool false, .bool false, .bool false, .bool false, .bool false, .bool false] 26 from (by repeat' (first | (with_reducible first | exact Hid.out (by assumption) | exact Blk.new _ _ _ | (refine Blk.new_at _ _ _ _ ?_; simp; done) | refine Blk.alloc ?_ _ | refine Blk.drewN ?_ _ | refine Blk.drew ?_ | apply Blk.set | refine Blk.put ?_ (by assumption) (by first | (simp; done) | (simp; omega) | omega) | refine Blk.below ?_ (by assumption)) | (refine Blk.setAt ?_ (by first | (simp; done) | (simp; omega))) | rfl))) (by kernel_rfl) rfl (cpuC_one _) ?_; intro w2 hp_w2 K_w2))
  exact bodyPost_ret (results_cell_row Try.results27 _ _ (w.heap.size + 1) 26 _ (0, 0) _ rfl K_w2.out Try.underlying26 rfl (by kernel_rfl)) rfl ⟨rfl, by repeat' (first | (with_reducible first | exact Below.refl _ _ | assumption | refine below_alloc ?_ _ | refine Below.drew ?_ | refine below_drewN ?_ _ | refine below_then ?_ (by assumption) | refine below_put ?_ (by assumption) (by first | (simp; done) | (simp; omega) | omega) | refine Below.setCell ?_ ?_ _) | (simp; done) | (simp; omega) | omega)⟩
theorem newMach_mc (xs ys : List Int) (hx : Bytes8 xs) : start0 (romB xs 0 * 256 + romB xs 1) = (newMach xs ys).mc := by
  have e : ∀ a, 0 ≤ a → a < 2 → mainG (newM xs ys) a % 256 = romB xs a := fun a h0 h1 => by
    have u := romB_u hx a
    have q : mainG (newM xs ys) a = romB xs a := by
      unfold mainG plainF romB
      rw [notPort (by omega), if_neg Bool.false_ne_true]
      by_cases c : a < (xs.length : Int)
      · rw [if_pos (show a < ((newM xs ys).mem 0).length ∧ a < 32768 from ⟨c, by omega⟩), if_pos c]; rfl
      · rw [if_neg (show ¬ (a < ((newM xs ys).mem 0).length ∧ a < 32768) from fun k => c k.1), if_neg (by omega), if_neg (by omega), if_neg c]
    rw [q, mod256 u]
  show start0 _ = start0 _
  rw [e 0 (by omega) (by omega), e 1 (by omega) (by omega)]
end Go.Proofs.Ytimccpmdgfneoaa
