/- Lines that are none; an array of 16 bytes is itself. Conditions: none of its own. -/
import Derived.Test.YtcgigpglpbhakaaRows
import Derived.Test.YtcgigpglpbhakaaPicWhole
import Derived.Test.YtcgigpglpbhakaaPicOnAll
import Derived.Test.YtcgigpglpbhakaaPicRefLine
import Derived.ChangeKeysEq
set_option linter.unusedVariables false
set_option linter.unusedSimpArgs false
namespace Go.Proofs.Ytcgigpglpbhakaa
open Go.RowKit Go.Mq
set_option maxHeartbeats 1000000
set_option maxRecDepth 100000
theorem arr_self (X : Array Value) (xs : List Int) (hX : X = (xs.map (Value.int .u8)).toArray) (hl : xs.length = 16) (w : World) : (Op.equalIn 10000 24 (.agg X) (.agg X)).run Try.prog w = .ok true w := by
  obtain ⟨i, hi⟩ : ∃ i, (Try.prog).info? 5 = some i := Option.isSome_iff_exists.1 (by kernel_rfl)
  rw [run_equalIn_array w 9999 _ _ Try.underlying24 hi]
  have hc : (Try.prog).cellsOf 5 = 1 := by kernel_rfl
  rw [hc]
  subst hX
  match xs, hl with
  | [a0, a1, a2, a3, a4, a5, a6, a7, a8, a9, b0, b1, b2, b3, b4, b5], _ =>
    simp [Op.eqItems, List.range, List.range.loop, go_sem]
def z16 : Array Value := #[.int .u8 0, .int .u8 0, .int .u8 0, .int .u8 0, .int .u8 0, .int .u8 0, .int .u8 0, .int .u8 0, .int .u8 0, .int .u8 0, .int .u8 0, .int .u8 0, .int .u8 0, .int .u8 0, .int .u8 0, .int .u8 0]
theorem lineB_len (v : Value) (xs : List Int) (y : Int) (w : World) (h : SliceAt w .u8 v xs) (hq : ¬ ((xs.length : Int) = 256)) :
    Calls Try.prog 12 #[v, .int .i64 y] w fun e w' => e = .returned (.tuple #[.agg #[.int .u8 0, .int .u8 0, .int .u8 0, .int .u8 0, .int .u8 0, .int .u8 0, .int .u8 0, .int .u8 0, .int .u8 0, .int .u8 0, .int .u8 0, .int .u8 0, .int .u8 0, .int .u8 0, .int .u8 0, .int .u8 0], .int .i64 4]) ∧ Below w.heap.size w w' := by
  obtain ⟨a, cap, rfl, h1, h2, hwf, h3⟩ := h
  clear h1 h2 hwf h3
  skip
  go_enter Try.func12, Try.ntmps12
  go_wp2_with (first
    | (refine wpList_loadW rfl 24 (.tmp 4) rfl (w.heap.size) rfl 24 _ (Blk.new _ _ _) _ Try.underlying24 rfl (by kernel_rfl) ?_)
    | (refine wpList_storeW rfl 24 (.tmp 4) (.tmp 16) rfl (w.heap.size) #[.int .u8 0, .int .u8 0, .int .u8 0, .int .u8 0, .int .u8 0, .int .u8 0, .int .u8 0, .int .u8 0, .int .u8 0, .int .u8 0, .int .u8 0, .int .u8 0, .int .u8 0, .int .u8 0, .int .u8 0, .int .u8 0] rfl rfl 24 _ (Blk.new _ _ _) (by kernel_rfl) rfl (by simp [Value.oneCell']) ?_; intro w7 hp7 K7)
    | fail)
  exact bodyPost_ret (results_ct Try.results12 _ _ (w.heap.size) 24 _ _ rfl K7.out Try.underlying24 rfl (by kernel_rfl)) rfl ⟨rfl, below_put (below_alloc (Below.refl _ _) _) hp7 (Nat.le_refl _)⟩
theorem lineB_lo (v : Value) (xs : List Int) (y : Int) (w : World) (h : SliceAt w .u8 v xs) (hq : xs.length = 256 ∧ y < 0) :
    Calls Try.prog 12 #[v, .int .i64 y] w fun e w' => e = .returned (.tuple #[.agg #[.int .u8 0, .int .u8 0, .int .u8 0, .int .u8 0, .int .u8 0, .int .u8 0, .int .u8 0, .int .u8 0, .int .u8 0, .int .u8 0, .int .u8 0, .int .u8 0, .int .u8 0, .int .u8 0, .int .u8 0, .int .u8 0], .int .i64 3]) ∧ Below w.heap.size w w' := by
  obtain ⟨a, cap, rfl, h1, h2, hwf, h3⟩ := h
  clear h1 h2 hwf h3
  (rw [hq.1]; replace hq := hq.2)
  go_enter Try.func12, Try.ntmps12
  go_wp2_with (first
    | (refine wpList_loadW rfl 24 (.tmp 4) rfl (w.heap.size) rfl 24 _ (Blk.new _ _ _) _ Try.underlying24 rfl (by kernel_rfl) ?_)
    | (refine wpList_storeW rfl 24 (.tmp 4) (.tmp 23) rfl (w.heap.size) #[.int .u8 0, .int .u8 0, .int .u8 0, .int .u8 0, .int .u8 0, .int .u8 0, .int .u8 0, .int .u8 0, .int .u8 0, .int .u8 0, .int .u8 0, .int .u8 0, .int .u8 0, .int .u8 0, .int .u8 0, .int .u8 0] rfl rfl 24 _ (Blk.new _ _ _) (by kernel_rfl) rfl (by simp [Value.oneCell']) ?_; intro w7 hp7 K7)
    | fail)
  exact bodyPost_ret (results_ct Try.results12 _ _ (w.heap.size) 24 _ _ rfl K7.out Try.underlying24 rfl (by kernel_rfl)) rfl ⟨rfl, below_put (below_alloc (Below.refl _ _) _) hp7 (Nat.le_refl _)⟩
theorem lineB_hi (v : Value) (xs : List Int) (y : Int) (w : World) (h : SliceAt w .u8 v xs) (hq : xs.length = 256 ∧ ¬ y < 0 ∧ 8 ≤ y) :
    Calls Try.prog 12 #[v, .int .i64 y] w fun e w' => e = .returned (.tuple #[.agg #[.int .u8 0, .int .u8 0, .int .u8 0, .int .u8 0, .int .u8 0, .int .u8 0, .int .u8 0, .int .u8 0, .int .u8 0, .int .u8 0, .int .u8 0, .int .u8 0, .int .u8 0, .int .u8 0, .int .u8 0, .int .u8 0], .int .i64 3]) ∧ Below w.heap.size w w' := by
  obtain ⟨a, cap, rfl, h1, h2, hwf, h3⟩ := h
  clear h1 h2 hwf h3
  (rw [hq.1]; replace hq := hq.2)
  go_enter Try.func12, Try.ntmps12
  go_wp2_with (first
    | (refine wpList_loadW rfl 24 (.tmp 4) rfl (w.heap.size) rfl 24 _ (Blk.new _ _ _) _ Try.underlying24 rfl (by kernel_rfl) ?_)
    | (refine wpList_storeW rfl 24 (.tmp 4) (.tmp 23) rfl (w.heap.size) #[.int .u8 0, .int .u8 0, .int .u8 0, .int .u8 0, .int .u8 0, .int .u8 0, .int .u8 0, .int .u8 0, .int .u8 0, .int .u8 0, .int .u8 0, .int .u8 0, .int .u8 0, .int .u8 0, .int .u8 0, .int .u8 0] rfl rfl 24 _ (Blk.new _ _ _) (by kernel_rfl) rfl (by simp [Value.oneCell']) ?_; intro w7 hp7 K7)
    | fail)
  exact bodyPost_ret (results_ct Try.results12 _ _ (w.heap.size) 24 _ _ rfl K7.out Try.underlying24 rfl (by kernel_rfl)) rfl ⟨rfl, below_put (below_alloc (Below.refl _ _) _) hp7 (Nat.le_refl _)⟩
theorem wholeB (v : Value) (xs : List Int) (w : World) (h : SliceAt w .u8 v xs) (hq : ¬ ((xs.length : Int) = 256)) :
    Calls Try.prog 33 #[v] w fun e w' => e = .returned (.tuple #[.slice none 0 0, .int .i64 4]) ∧ Below w.heap.size w w' := by
  have LB := Lib.hid (lineB_len v xs 0 w h hq)
  clear h hq
  go_enter Try.func33, Try.ntmps33
  go_wp2
  refine wp_loop_rounds 2 ?_
  rw [rounds_succ]
  go_wp2_with fail
  refine LB.out.mono ?_
  rintro e w1 ⟨rfl, hb1⟩
  go_wp2_with (first
    | (refine wpList_storeW rfl 24 (.tmp 6) (.tmp 15) rfl (w1.heap.size) #[.int .u8 0, .int .u8 0, .int .u8 0, .int .u8 0, .int .u8 0, .int .u8 0, .int .u8 0, .int .u8 0, .int .u8 0, .int .u8 0, .int .u8 0, .int .u8 0, .int .u8 0, .int .u8 0, .int .u8 0, .int .u8 0] rfl rfl 24 _ (Blk.new _ _ _) (by kernel_rfl) rfl (by simp [Value.oneCell']) ?_; intro w7 hp7 K7)
    | fail)
  exact bodyPost_ret (v := .tuple #[.slice none 0 0, .int .i64 4]) (by simp [results, Try.results33, go_sem]) rfl ⟨rfl, below_put (below_alloc hb1 _) hp7 hb1.size⟩
end Go.Proofs.Ytcgigpglpbhakaa
