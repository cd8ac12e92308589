/- A byte put to a port of a sound, by the program. Conditions: the fields are words, bytes, truths. -/
import Derived.Test.YtimccpmdgfneoaaTone3
import Derived.StillTailTactics
namespace Go.Mq
open Go.RowKit
theorem five {w w3 : World} {c0 c1 c2 c3 c4 : Array Value} {t0 t1 t2 t3 t4 : TypeId} (hp : Put (w.heap.size + 1 + 1 + 1 + 1) (((((w.alloc (.cells c0 t0)).alloc (.cells c1 t1)).alloc (.cells c2 t2)).alloc (.cells c3 t3)).alloc (.cells c4 t4)) w3) :
    Blk w3 w.heap.size c0 t0 ∧ Blk w3 (w.heap.size + 1) c1 t1 ∧ Blk w3 (w.heap.size + 1 + 1) c2 t2 ∧ Blk w3 (w.heap.size + 1 + 1 + 1) c3 t3 :=
  ⟨((((((Blk.new w c0 t0).alloc _).alloc _).alloc _).alloc _).put hp (by omega)), (((((Blk.new_at _ c1 t1 _ (by simp)).alloc _).alloc _).alloc _).put hp (by omega)), ((((Blk.new_at _ c2 t2 _ (by simp)).alloc _).alloc _).put hp (by omega)), (((Blk.new_at _ c3 t3 _ (by simp)).alloc _).put hp (by omega))⟩
end Go.Mq
namespace Go.Proofs.Ytimccpmdgfneoaa
open Go.RowKit Go.Mq
set_option linter.unusedVariables false
set_option linter.unusedSimpArgs false
set_option maxHeartbeats 1000000
set_option maxRecDepth 100000

theorem and255 (n : Int) (h : U16 n) : bits .and .u16 n 255 = n % 256 := by
  have := bits_mask .u16 16 (by decide) (fun n h h' => by rw [wrap16]; omega) 8 (by omega) n h.1 (by unfold U16 at h; omega)
  simpa using this
theorem nat_high (n : Nat) (h : n < 65536) : n &&& 65280 = n / 256 * 256 := by
  have e : n &&& 65280 = ((n >>> 8) &&& 255) <<< 8 := by
    apply Nat.eq_of_testBit_eq
    intro i
    rw [show (65280 : Nat) = 255 <<< 8 from rfl, Nat.testBit_and, Nat.testBit_shiftLeft, Nat.testBit_shiftLeft, Nat.testBit_and, Nat.testBit_shiftRight]
    by_cases hi : 8 ≤ i
    · simp [hi]
    · simp [hi]
  rw [e, Nat.shiftRight_eq_div_pow, Nat.shiftLeft_eq, show (255 : Nat) = 2 ^ 8 - 1 from rfl, Nat.and_two_pow_sub_one_eq_mod]
  omega
theorem andHigh (n : Int) (h : U16 n) : bits .and .u16 n 65280 = n / 256 * 256 := by
  unfold U16 at h
  rw [u16_and _ _ (by omega) (by omega) (by omega) (by omega), show ((65280 : Int).toNat) = 65280 from rfl, nat_high _ (by omega)]
  omega
theorem orBytes (a b : Int) (ha : 0 ≤ a) (ha' : a ≤ 255) (hb : 0 ≤ b) (hb' : b ≤ 255) : bits .or .u16 (a * 256) b = a * 256 + b := by
  rw [show a * 256 = (((a * 256).toNat : Nat) : Int) from by omega, show b = ((b.toNat : Nat) : Int) from by omega, u16_or_nat _ _ (by omega) (by omega), nat_join 8 _ _ (by omega) (by omega)]
  omega
theorem orBytes' (a b : Int) (ha : 0 ≤ a) (ha' : a ≤ 255) (hb : 0 ≤ b) (hb' : b ≤ 255) : bits .or .u16 b (a * 256) = b + a * 256 := by
  rw [show a * 256 = (((a * 256).toNat : Nat) : Int) from by omega, show b = ((b.toNat : Nat) : Int) from by omega, u16_or_nat _ _ (by omega) (by omega), Nat.or_comm, nat_join 8 _ _ (by omega) (by omega)]
  omega

theorem put1_any (pv pb : Addr) (g o : Nat) (x b : Int) (hx : U16 x) (hb : U8 b) (w : World) (cv : w.cell? pv = some (.pointer (some ⟨g, o, none⟩))) (cb : w.cell? pb = some (.int .u8 b))
    (cx : w.cell? ⟨g, o, none⟩ = some (.int .u16 x)) (fx : w.frozen? ⟨g, o, none⟩ = false) :
    Calls Try.prog 59 #[.pointer (some pv), .pointer (some pb)] w fun e w' => e = .returned (.tuple #[]) ∧ w' = w.drew.setCell ⟨g, o, none⟩ (.int .u16 (x % 256 + b * 256)) := by
  have a1 := and255 x hx
  have a2 := andHigh x hx
  unfold U8 at hb
  unfold U16 at hx
  have a3 := orBytes (x / 256) b (by omega) (by omega) hb.1 hb.2
  have a4 := orBytes' b (x % 256) hb.1 hb.2 (by omega) (by omega)
  have w1 : IntKind.u16.wrap (b * 256) = b * 256 := by rw [wrap16]; omega
  have w2 : IntKind.u16.wrap b = b := by rw [wrap16]; omega
  obtain ⟨hb0, hb1⟩ := hb
  obtain ⟨hx0, hx1⟩ := hx
  go_enter Try.func59, Try.ntmps59
  go_wp2_with fail
  refine wp_region_still_tail 12 (by kernel_rfl) (by kernel_rfl) ?_
  simp only [List.take_succ_cons, List.take_zero, List.drop_succ_cons, List.drop_zero]
  change wpStill _ _ w.drew _ _ _
  repeat still_step
  refine wpStill_nil ?_
  change wpList _ _ _ _ _ w.drew
  go_wp2
  refine bodyPost_end (results_none rfl _ _ _) rfl ⟨rfl, ?_⟩
  first | rfl | simp [a1, a2, a3, a4, w1, w2]
theorem put4_any (pv pb : Addr) (g o : Nat) (x b : Int) (hx : U16 x) (hb : U8 b) (w : World) (cv : w.cell? pv = some (.pointer (some ⟨g, o, none⟩))) (cb : w.cell? pb = some (.int .u8 b))
    (cx : w.cell? ⟨g, o + 4, none⟩ = some (.int .u16 x)) (fx : w.frozen? ⟨g, o + 4, none⟩ = false) :
    Calls Try.prog 62 #[.pointer (some pv), .pointer (some pb)] w fun e w' => e = .returned (.tuple #[]) ∧ w' = w.drew.setCell ⟨g, o + 4, none⟩ (.int .u16 (x % 256 + b * 256)) := by
  have a1 := and255 x hx
  have a2 := andHigh x hx
  unfold U8 at hb
  unfold U16 at hx
  have a3 := orBytes (x / 256) b (by omega) (by omega) hb.1 hb.2
  have a4 := orBytes' b (x % 256) hb.1 hb.2 (by omega) (by omega)
  have w1 : IntKind.u16.wrap (b * 256) = b * 256 := by rw [wrap16]; omega
  have w2 : IntKind.u16.wrap b = b := by rw [wrap16]; omega
  obtain ⟨hb0, hb1⟩ := hb
  obtain ⟨hx0, hx1⟩ := hx
  go_enter Try.func62, Try.ntmps62
  go_wp2_with fail
  refine wp_region_still_tail 12 (by kernel_rfl) (by kernel_rfl) ?_
  simp only [List.take_succ_cons, List.take_zero, List.drop_succ_cons, List.drop_zero]
  change wpStill _ _ w.drew _ _ _
  repeat still_step
  refine wpStill_nil ?_
  change wpList _ _ _ _ _ w.drew
  go_wp2
  refine bodyPost_end (results_none rfl _ _ _) rfl ⟨rfl, ?_⟩
  first | rfl | simp [a1, a2, a3, a4, w1, w2]
theorem put2_any (pv pb : Addr) (g o : Nat) (x b : Int) (hx : U16 x) (hb : U8 b) (w : World) (cv : w.cell? pv = some (.pointer (some ⟨g, o, none⟩))) (cb : w.cell? pb = some (.int .u8 b))
    (cx : w.cell? ⟨g, o, none⟩ = some (.int .u16 x)) (fx : w.frozen? ⟨g, o, none⟩ = false) :
    Calls Try.prog 60 #[.pointer (some pv), .pointer (some pb)] w fun e w' => e = .returned (.tuple #[]) ∧ w' = w.drew.setCell ⟨g, o, none⟩ (.int .u16 (x / 256 * 256 + b)) := by
  have a1 := and255 x hx
  have a2 := andHigh x hx
  unfold U8 at hb
  unfold U16 at hx
  have a3 := orBytes (x / 256) b (by omega) (by omega) hb.1 hb.2
  have a4 := orBytes' b (x % 256) hb.1 hb.2 (by omega) (by omega)
  have w1 : IntKind.u16.wrap (b * 256) = b * 256 := by rw [wrap16]; omega
  have w2 : IntKind.u16.wrap b = b := by rw [wrap16]; omega
  obtain ⟨hb0, hb1⟩ := hb
  obtain ⟨hx0, hx1⟩ := hx
  go_enter Try.func60, Try.ntmps60
  go_wp2_with fail
  refine wp_region_still_tail 11 (by kernel_rfl) (by kernel_rfl) ?_
  simp only [List.take_succ_cons, List.take_zero, List.drop_succ_cons, List.drop_zero]
  change wpStill _ _ w.drew _ _ _
  repeat still_step
  refine wpStill_nil ?_
  change wpList _ _ _ _ _ w.drew
  go_wp2
  refine bodyPost_end (results_none rfl _ _ _) rfl ⟨rfl, ?_⟩
  first | rfl | simp [a1, a2, a3, a4, w1, w2]
theorem put5_any (pv pb : Addr) (g o : Nat) (x b : Int) (hx : U16 x) (hb : U8 b) (w : World) (cv : w.cell? pv = some (.pointer (some ⟨g, o, none⟩))) (cb : w.cell? pb = some (.int .u8 b))
    (cx : w.cell? ⟨g, o + 4, none⟩ = some (.int .u16 x)) (fx : w.frozen? ⟨g, o + 4, none⟩ = false) :
    Calls Try.prog 63 #[.pointer (some pv), .pointer (some pb)] w fun e w' => e = .returned (.tuple #[]) ∧ w' = w.drew.setCell ⟨g, o + 4, none⟩ (.int .u16 (x / 256 * 256 + b)) := by
  have a1 := and255 x hx
  have a2 := andHigh x hx
  unfold U8 at hb
  unfold U16 at hx
  have a3 := orBytes (x / 256) b (by omega) (by omega) hb.1 hb.2
  have a4 := orBytes' b (x % 256) hb.1 hb.2 (by omega) (by omega)
  have w1 : IntKind.u16.wrap (b * 256) = b * 256 := by rw [wrap16]; omega
  have w2 : IntKind.u16.wrap b = b := by rw [wrap16]; omega
  obtain ⟨hb0, hb1⟩ := hb
  obtain ⟨hx0, hx1⟩ := hx
  go_enter Try.func63, Try.ntmps63
  go_wp2_with fail
  refine wp_region_still_tail 11 (by kernel_rfl) (by kernel_rfl) ?_
  simp only [List.take_succ_cons, List.take_zero, List.drop_succ_cons, List.drop_zero]
  change wpStill _ _ w.drew _ _ _
  repeat still_step
  refine wpStill_nil ?_
  change wpList _ _ _ _ _ w.drew
  go_wp2
  refine bodyPost_end (results_none rfl _ _ _) rfl ⟨rfl, ?_⟩
  first | rfl | simp [a1, a2, a3, a4, w1, w2]

theorem put3_any (pv pb : Addr) (g o : Nat) (x b : Int) (hb : U8 b) (w : World) (cv : w.cell? pv = some (.pointer (some ⟨g, o, none⟩))) (cb : w.cell? pb = some (.int .u8 b))
    (cx : w.cell? ⟨g, o + 2, none⟩ = some (.int .u8 x)) (fx : w.frozen? ⟨g, o + 2, none⟩ = false) :
    Calls Try.prog 61 #[.pointer (some pb), .pointer (some pv)] w fun e w' => e = .returned (.tuple #[]) ∧ w' = w.setCell ⟨g, o + 2, none⟩ (.int .u8 (b % 16)) := by
  have a1 := and15 b hb
  go_enter Try.func61, Try.ntmps61
  go_wp2
  refine bodyPost_end (results_none rfl _ _ _) rfl ⟨rfl, ?_⟩
  first | rfl | simp [a1]
end Go.Proofs.Ytimccpmdgfneoaa
