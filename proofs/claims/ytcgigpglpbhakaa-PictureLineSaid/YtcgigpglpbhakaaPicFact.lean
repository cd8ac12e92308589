/- The closed fact on pictures is true; slices.Contains at bytes finds what is there. Conditions: none of its own. -/
import Derived.Test.YtcgigpglpbhakaaRows
import Derived.Test.YtcgigpglpbhakaaPicBuf
namespace Go.Proofs.Ytcgigpglpbhakaa
open Go.RowKit Go.Mq
set_option linter.unusedVariables false
set_option linter.unusedSimpArgs false
set_option maxHeartbeats 400000
set_option maxRecDepth 100000
theorem index_found (v : Value) (xs : List Int) (z : Int) (w : World) (h : SliceAt w .u8 v xs) (hz : ∃ j, j < xs.length ∧ xs.getD j 0 = z) :
    Calls Try.prog 40 #[v, .int .u8 z] w fun e w' => ∃ r : Int, e = .returned (.int .i64 r) ∧ 0 ≤ r ∧ Below w.heap.size w w' := by
  obtain ⟨a, cap, rfl, h1, h2, hwf, h3⟩ := h
  generalize hn : xs.length = n at *
  unfold maxLen at h2
  have hn' : (n : Int) ≤ 9223372036854775807 := by omega
  have HZ := Lib.hid hz
  have H3 := Lib.hid h3
  clear hz hwf h3 hn h1 h2
  go_enter Try.func40, Try.ntmps40
  go_wp2
  go_loopw [8] (fun i wr => ∃ k : Nat, k ≤ n ∧ i = .int .i64 k ∧ Hid (∃ j, k ≤ j ∧ j < n ∧ xs.getD j 0 = z) ∧ Below w.heap.size w wr) (fun i _ => (n - intOf i).toNat)
  case atStart => exact ⟨0, by omega, rfl, Lib.hid (by obtain ⟨j, q1, q2⟩ := HZ.out; exact ⟨j, by omega, q1, q2⟩), Below.refl _ _⟩
  case round =>
    obtain ⟨k, hk, rfl, HJ, hbr⟩ := hrel
    have hkn : k < n := by obtain ⟨j, q0, q1, q2⟩ := HJ.out; omega
    obtain ⟨b, off, rfl, hb, hc⟩ := H3.out (by omega)
    have c := (hbr.cell (p := ⟨b, off + k, none⟩) hb).trans (hc k hkn)
    have HN := Lib.hid (fun (q : ¬ xs.getD k 0 = z) => (by
      obtain ⟨j, q0, q1, q2⟩ := HJ.out
      refine ⟨j, ?_, q1, q2⟩
      by_cases e : j = k
      · subst e; exact absurd q2 q
      · omega : ∃ j, k + 1 ≤ j ∧ j < n ∧ xs.getD j 0 = z))
    generalize xs.getD k 0 = u at *
    clear hc
    have hki : (k : Int) < n := by omega
    by_cases hu : u = z
    · subst hu
      go_wp2
      go_ret
      exact ⟨_, rfl, by omega, hbr⟩
    · have hu' : (z == u) = false := by simpa using fun e => hu e.symm
      go_wp2
      go_roundw
      case rel => exact ⟨k + 1, by omega, by go_num, Lib.hid (HN.out hu), hbr⟩
      case measure => simp [intOf]; omega
theorem contains_found (v : Value) (xs : List Int) (z : Int) (w : World) (h : SliceAt w .u8 v xs) (hz : ∃ j, j < xs.length ∧ xs.getD j 0 = z) :
    Calls Try.prog 13 #[v, .int .u8 z] w fun e w' => e = .returned (.bool true) ∧ Below w.heap.size w w' := by
  have hi := Lib.hid (index_found v xs z w h hz)
  clear h hz
  go_enter Try.func13, Try.ntmps13
  go_wp2_with fail
  refine hi.out.mono ?_
  rintro e w1 ⟨r, rfl, hr, hb1⟩
  go_wp2
  go_ret
  exact ⟨by simp [hr], hb1⟩
def drwL : List Int := ((((((List.replicate 256 0).set 16 27).set 160 10).set 161 11).set 162 12).set 163 13)
theorem infoB : (Try.prog.info? 5).map (fun i => (i.zero, i.size, i.bytes)) = some (some (.int .u8 0), 1, 1) := by kernel_rfl
theorem blk_slice {w : World} {g : Nat} {cs : Array Value} {t : TypeId} {k : IntKind} (xs : List Int) (h : Blk w g cs t) (hcs : cs = (xs.map (Value.int k)).toArray) (hwf : ∀ x ∈ xs, (Lit.int k x).wf = true) (hm : xs.length ≤ maxLen) (n : Nat) (hn : n = xs.length) :
    SliceAt w k (.slice (some ⟨g, 0, none⟩) n n) xs := by
  subst hn
  refine ⟨some ⟨g, 0, none⟩, xs.length, rfl, Nat.le_refl _, hm, hwf, fun _ => ⟨g, 0, rfl, h.lt, fun i hi => ?_⟩⟩
  rw [h.cell, hcs]
  simp [hi]
theorem drawn_line : lnC (setK 128 200 drwL 8) 0 16 = #[.int .u8 10, .int .u8 11, .int .u8 12, .int .u8 13, .int .u8 10, .int .u8 11, .int .u8 12, .int .u8 13, .int .u8 10, .int .u8 11, .int .u8 12, .int .u8 13, .int .u8 10, .int .u8 11, .int .u8 12, .int .u8 13] := by kernel_rfl
theorem drwL_in : ∀ x ∈ drwL, U8 x := by
  unfold U8
  intro x hx
  unfold drwL at hx
  rcases List.mem_or_eq_of_mem_set hx with hx | hx
  case inr => (rw [hx]; omega)
  rcases List.mem_or_eq_of_mem_set hx with hx | hx
  case inr => (rw [hx]; omega)
  rcases List.mem_or_eq_of_mem_set hx with hx | hx
  case inr => (rw [hx]; omega)
  rcases List.mem_or_eq_of_mem_set hx with hx | hx
  case inr => (rw [hx]; omega)
  rcases List.mem_or_eq_of_mem_set hx with hx | hx
  case inr => (rw [hx]; omega)
  rw [List.eq_of_mem_replicate hx]
  omega
theorem make256 : ∃ Z : Array Value, (∀ i, i < 256 → Z[i]? = some (.int .u8 0)) ∧ (∀ w, (Instr.makeSlice 22 (.int .i64 256) (.int .i64 256)).run Try.prog w = .ok (.slice (some ⟨w.heap.size, 0, none⟩) 256 256) (w.alloc (.cells Z 5))) ∧ ∀ (w : World) (g : Nat), Blk w g (((((Z.setIfInBounds 16 (.int .u8 27)).setIfInBounds 160 (.int .u8 10)).setIfInBounds 161 (.int .u8 11)).setIfInBounds 162 (.int .u8 12)).setIfInBounds 163 (.int .u8 13)) 5 → Buf 5 w g 256 drwL := by
  obtain ⟨i0, hi, hz0, hz1, hz2⟩ := info_parts infoB
  refine ⟨madeCells (Value.int .u8 0).cells (256 * 1), fun i hi => by simp [madeCells, Value.cells, hi, Nat.mod_one], fun w => ?_, fun w g h => ?_⟩
  · have := run_make (P := Try.prog) w 22 5 i0 (.int .u8 0) Try.underlying22 hi hz0 .i64 .i64 256 256 (by omega) (by omega) (by rw [hz2]; omega) (by omega)
    rw [hz1] at this
    exact this
  · exact ⟨by omega, by unfold maxLen; omega, by kernel_rfl, drwL_in, _, h, by kernel_rfl, by kernel_rfl⟩
theorem drawn_any (w : World) : Calls Try.prog 11 #[] w fun e w' => e = .returned (.bool true) ∧ Below w.heap.size w w' := by
  obtain ⟨Z, zc, mk, hZ⟩ := make256
  have z0 := zc 16 (by omega)
  have z1 := zc 160 (by omega)
  have z2 := zc 161 (by omega)
  have z3 := zc 162 (by omega)
  have z4 := zc 163 (by omega)
  clear zc
  have HZ := Lib.hid hZ
  clear hZ
  have LL : Hid (∀ w v, Vid w v (setK 128 200 drwL 8) → Calls Try.prog 12 #[v, .int .i64 0] w fun e w' => e = .returned (.tuple #[.agg #[.int .u8 10, .int .u8 11, .int .u8 12, .int .u8 13, .int .u8 10, .int .u8 11, .int .u8 12, .int .u8 13, .int .u8 10, .int .u8 11, .int .u8 12, .int .u8 13, .int .u8 10, .int .u8 11, .int .u8 12, .int .u8 13], .int .i64 0]) ∧ Below w.heap.size w w') :=
    Lib.hid (fun w v h => by have := line_any _ v 0 w h (by omega) (by omega); rw [drawn_line] at this; exact this)
  go_enter Try.func11, Try.ntmps11
  go_wp2_with fail
  refine wp_mark (R := fun W => Below w.heap.size w W ∧ Hid (Buf 5 W w.heap.size 256 drwL)) ⟨by repeat' (first | (with_reducible first | exact Below.refl _ _ | assumption | refine below_alloc ?_ _ | refine Below.drew ?_ | refine below_drewN ?_ _ | refine below_then ?_ (by assumption) | refine below_put ?_ (by assumption) (by first | (simp; done) | (simp; omega) | omega) | refine Below.setCell ?_ ?_ _) | (simp; done) | (simp; omega) | omega), Lib.hid (HZ.out _ _ (Blk.new _ _ _))⟩ ?_
  intro w1 ⟨hb1, KB1⟩
  clear z0 z1 z2 z3 z4 HZ mk
  go_loopw [16] (fun i wr => ∃ k : Nat, k ≤ 8 ∧ i = .int .i64 k ∧ Below w.heap.size w wr ∧ Hid (Buf 5 wr w.heap.size 256 (setK 128 200 drwL k))) (fun i _ => (8 - intOf i).toNat)
  case atStart => exact ⟨0, by omega, rfl, hb1, KB1⟩
  case round =>
    clear hb1 KB1
    obtain ⟨k, hk, rfl, hbr, KB⟩ := hrel
    by_cases hk8 : k < 8
    · have hki : (k : Int) < 8 := by omega
      obtain ⟨K, hK⟩ : ∃ K : Nat, 128 + 4 * k = K := ⟨_, rfl⟩
      have hK8 : (K : Int) < 256 := by omega
      have W1 : wrap64 (4 * (k : Int)) = 4 * k := by unfold wrap64; omega
      have W2 : wrap64 (128 + 4 * (k : Int)) = K := by unfold wrap64; omega
      have c := KB.out.cell K (by omega)
      have f := KB.out.free K
      have S := Lib.hid (KB.out.set K (by omega) 200 (by unfold U8; omega))
      have E : (setK 128 200 drwL k).set K 200 = setK 128 200 drwL (k + 1) := by rw [← hK]; rfl
      rw [E] at S
      clear E
      generalize bt (setK 128 200 drwL k) K = u at *
      go_wp2
      go_roundw
      case rel => exact ⟨k + 1, by omega, by go_num, by repeat' (first | (with_reducible first | exact Below.refl _ _ | assumption | refine below_alloc ?_ _ | refine Below.drew ?_ | refine below_drewN ?_ _ | refine below_then ?_ (by assumption) | refine below_put ?_ (by assumption) (by first | (simp; done) | (simp; omega) | omega) | refine Below.setCell ?_ ?_ _) | (simp; done) | (simp; omega) | omega), S⟩
      case measure => simp [intOf]; omega
    · have hk' : k = 8 := by omega
      subst hk'
      go_wp2_with fail
      refine (LL.out _ _ KB.out.vid).mono ?_
      rintro e w2 ⟨rfl, hb2⟩
      go_wp2_with (refine wpList_storeW rfl 24 (.tmp 3) (.tmp 28) rfl (w2.heap.size) #[.int .u8 10, .int .u8 11, .int .u8 12, .int .u8 13, .int .u8 10, .int .u8 11, .int .u8 12, .int .u8 13, .int .u8 10, .int .u8 11, .int .u8 12, .int .u8 13, .int .u8 10, .int .u8 11, .int .u8 12, .int .u8 13] rfl rfl 24 _ (show Blk _ (w2.heap.size) #[.int .u8 0, .int .u8 0, .int .u8 0, .int .u8 0, .int .u8 0, .int .u8 0, .int .u8 0, .int .u8 0, .int .u8 0, .int .u8 0, .int .u8 0, .int .u8 0, .int .u8 0, .int .u8 0, .int .u8 0, .int .u8 0] 24 from (by repeat' (first | (with_reducible first | exact Hid.out (by assumption) | exact Blk.new _ _ _ | (refine Blk.new_at _ _ _ _ ?_; simp; done) | refine Blk.alloc ?_ _ | refine Blk.drewN ?_ _ | refine Blk.drew ?_ | apply Blk.set | refine Blk.put ?_ (by assumption) (by first | (simp; done) | (simp; omega) | omega) | refine Blk.below ?_ (by assumption)) | (refine Blk.setAt ?_ (by first | (simp; done) | (simp; omega))) | rfl))) (by kernel_rfl) rfl (by simp [Value.oneCell']) ?_; intro w3 hp_w3 K_w3)
      have K3 : Hid (Blk (w3.alloc (.cells #[.int .u8 10, .int .u8 11, .int .u8 12, .int .u8 13, .int .u8 10, .int .u8 11, .int .u8 12, .int .u8 13, .int .u8 10, .int .u8 11, .int .u8 12, .int .u8 13, .int .u8 10, .int .u8 11, .int .u8 12, .int .u8 13] 5)) w2.heap.size #[.int .u8 10, .int .u8 11, .int .u8 12, .int .u8 13, .int .u8 10, .int .u8 11, .int .u8 12, .int .u8 13, .int .u8 10, .int .u8 11, .int .u8 12, .int .u8 13, .int .u8 10, .int .u8 11, .int .u8 12, .int .u8 13] 24) := Lib.hid (K_w3.out.alloc _)
      refine (bytesEqual_any _ _ [10, 11, 12, 13, 10, 11, 12, 13, 10, 11, 12, 13, 10, 11, 12, 13] [10, 11, 12, 13, 10, 11, 12, 13, 10, 11, 12, 13, 10, 11, 12, 13] _ (blk_slice _ K3.out rfl (by decide) (by unfold maxLen; decide) _ rfl) (lit_slice _ _ _ _ _ rfl (by decide) (by unfold maxLen; decide) _ rfl _ rfl)).mono ?_
      rintro e w4 ⟨rfl, rfl⟩
      have hb3 : Below w.heap.size w w3 := below_put (below_alloc (below_then hbr hb2) _) hp_w3 (by have := hbr.size; have := hb2.size; omega)
      clear K3 K_w3
      go_wp2
      go_ret
      exact ⟨rfl, by repeat' (first | (with_reducible first | exact Below.refl _ _ | assumption | refine below_alloc ?_ _ | refine Below.drew ?_ | refine below_drewN ?_ _ | refine below_then ?_ (by assumption) | refine below_put ?_ (by assumption) (by first | (simp; done) | (simp; omega) | omega) | refine Below.setCell ?_ ?_ _) | (simp; done) | (simp; omega) | omega)⟩
end Go.Proofs.Ytcgigpglpbhakaa
