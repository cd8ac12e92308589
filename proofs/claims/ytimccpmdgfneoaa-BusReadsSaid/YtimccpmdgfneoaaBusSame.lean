/- Two machines of the same data are the same. Conditions: their memories are slices of bytes. -/
import Derived.Test.YtimccpmdgfneoaaBusCopy
import Derived.Test.YtimccpmdgfneoaaLibEq
import Derived.Test.YtimccpmdgfneoaaCpuEq
import Derived.Test.YtimccpmdgfneoaaToneEq
namespace Go.Mq
open Go.RowKit
theorem wpList_loadGA {P : Program} {ops : Array Oper} {rest : List Oper} {o : Oper} {a : Act} {w : World} {Q : Exit → Act → World → Prop} (hgd : Region.wanted o (yielded ops a.tmps) = true) (ty : TypeId) (x : Operand) (ho : o.op = .load ty x)
    (g off n : Nat) (hx : a.eval x = .pointer (some ⟨g, off, none⟩)) (t : TypeId) (cs sub : Array Value) (hg : Blk w g cs t) (d : TypeDesc)
    (hu : P.underlying ty = some d) (hd : (match d with | .struct _ | .array _ _ => true | _ => false) = true) (hi : (P.info? ty).map (·.size) = some n) (hsub : (cs.toList.drop off).take n = sub.toList) (hn : sub.toList.length = n)
    (h : wpList P ops Q rest (a.put o.dst (.agg sub)) w) : wpList P ops Q (o :: rest) a w := by
  refine wpList_step fun K hK => ?_
  rw [if_pos hgd]
  unfold Oper.wp execOp
  simp only [ho, hx, Instr.loadAt, Instr.sureAddr, Sem.run_bind, Sem.run_pure, Result.andThen_ok, run_loadVar_at w g off n t ty cs sub d hg hu hd hi hsub hn]
  exact hK _ _ h
end Go.Mq
namespace Go.Proofs.Ytimccpmdgfneoaa
open Go.RowKit Go.Mq
set_option linter.unusedVariables false
set_option linter.unusedSimpArgs false
set_option maxHeartbeats 4000000
set_option maxRecDepth 100000
theorem pads_self (p q : Pd) (w : World) : (Op.equalIn 10000 29 (.agg #[.int .u8 p.dn, .bool p.la, .int .u8 p.sh, .int .u8 q.dn, .bool q.la, .int .u8 q.sh]) (.agg #[.int .u8 p.dn, .bool p.la, .int .u8 p.sh, .int .u8 q.dn, .bool q.la, .int .u8 q.sh])).run Try.prog w = .ok true w := by
  obtain ⟨i, hi⟩ : ∃ i, (Try.prog).info? 28 = some i := Option.isSome_iff_exists.1 (by kernel_rfl)
  rw [run_equalIn_array w 9999 _ _ Try.underlying29 hi]
  have hc : (Try.prog).cellsOf 28 = 3 := by kernel_rfl
  rw [hc]
  simp [Op.eqItems, List.range, List.range.loop, go_sem]
theorem mail_self (a b : Int) (w : World) : (Op.equalIn 10000 39 (.agg #[.int .u8 a, .int .u8 b]) (.agg #[.int .u8 a, .int .u8 b])).run Try.prog w = .ok true w := by
  obtain ⟨i, hi⟩ : ∃ i, (Try.prog).info? 5 = some i := Option.isSome_iff_exists.1 (by kernel_rfl)
  rw [run_equalIn_array w 9999 _ _ Try.underlying39 hi]
  have hc : (Try.prog).cellsOf 5 = 1 := by kernel_rfl
  rw [hc]
  simp [Op.eqItems, List.range, List.range.loop, go_sem]
theorem same_any (U1 U2 : Nat → Value) (m : Mach) (w : World) (h1 : MV w U1 m) (h2 : MV w U2 m) :
    Calls Try.prog 13 #[.agg (machC U1 m), .agg (machC U2 m)] w fun e w' => e = .returned (.bool true) ∧ Below w.heap.size w w' := by
  have H1 := Lib.hid h1
  have H2 := Lib.hid h2
  have E0 := Lib.hid (fun W (k : Below w.heap.size w W) => bytesEqual_any (U1 0) (U2 0) (m.mem 0) (m.mem 0) W ((H1.out 0 (by omega)).below k) ((H2.out 0 (by omega)).below k))
  rw [show decide (m.mem 0 = m.mem 0) = true by simp] at E0
  obtain ⟨a0, q0, v0, -⟩ := h1 0 (by omega)
  obtain ⟨b0, r0, u0, -⟩ := h2 0 (by omega)
  have m30 := mx30 U1 m
  have p30 := mx30 U2 m
  rw [v0] at m30 E0
  rw [u0] at p30 E0
  obtain ⟨n0, e0⟩ : ∃ n, n = (m.mem 0).length := ⟨_, rfl⟩
  rw [← e0] at m30 p30 E0
  clear v0 u0 e0
  have E1 := Lib.hid (fun W (k : Below w.heap.size w W) => bytesEqual_any (U1 1) (U2 1) (m.mem 1) (m.mem 1) W ((H1.out 1 (by omega)).below k) ((H2.out 1 (by omega)).below k))
  rw [show decide (m.mem 1 = m.mem 1) = true by simp] at E1
  obtain ⟨a1, q1, v1, -⟩ := h1 1 (by omega)
  obtain ⟨b1, r1, u1, -⟩ := h2 1 (by omega)
  have m31 := mx31 U1 m
  have p31 := mx31 U2 m
  rw [v1] at m31 E1
  rw [u1] at p31 E1
  obtain ⟨n1, e1⟩ : ∃ n, n = (m.mem 1).length := ⟨_, rfl⟩
  rw [← e1] at m31 p31 E1
  clear v1 u1 e1
  have E2 := Lib.hid (fun W (k : Below w.heap.size w W) => bytesEqual_any (U1 2) (U2 2) (m.mem 2) (m.mem 2) W ((H1.out 2 (by omega)).below k) ((H2.out 2 (by omega)).below k))
  rw [show decide (m.mem 2 = m.mem 2) = true by simp] at E2
  obtain ⟨a2, q2, v2, -⟩ := h1 2 (by omega)
  obtain ⟨b2, r2, u2, -⟩ := h2 2 (by omega)
  have m32 := mx32 U1 m
  have p32 := mx32 U2 m
  rw [v2] at m32 E2
  rw [u2] at p32 E2
  obtain ⟨n2, e2⟩ : ∃ n, n = (m.mem 2).length := ⟨_, rfl⟩
  rw [← e2] at m32 p32 E2
  clear v2 u2 e2
  have E3 := Lib.hid (fun W (k : Below w.heap.size w W) => bytesEqual_any (U1 3) (U2 3) (m.mem 3) (m.mem 3) W ((H1.out 3 (by omega)).below k) ((H2.out 3 (by omega)).below k))
  rw [show decide (m.mem 3 = m.mem 3) = true by simp] at E3
  obtain ⟨a3, q3, v3, -⟩ := h1 3 (by omega)
  obtain ⟨b3, r3, u3, -⟩ := h2 3 (by omega)
  have m33 := mx33 U1 m
  have p33 := mx33 U2 m
  rw [v3] at m33 E3
  rw [u3] at p33 E3
  obtain ⟨n3, e3⟩ : ∃ n, n = (m.mem 3).length := ⟨_, rfl⟩
  rw [← e3] at m33 p33 E3
  clear v3 u3 e3
  have E4 := Lib.hid (fun W (k : Below w.heap.size w W) => bytesEqual_any (U1 4) (U2 4) (m.mem 4) (m.mem 4) W ((H1.out 4 (by omega)).below k) ((H2.out 4 (by omega)).below k))
  rw [show decide (m.mem 4 = m.mem 4) = true by simp] at E4
  obtain ⟨a4, q4, v4, -⟩ := h1 4 (by omega)
  obtain ⟨b4, r4, u4, -⟩ := h2 4 (by omega)
  have m34 := mx34 U1 m
  have p34 := mx34 U2 m
  rw [v4] at m34 E4
  rw [u4] at p34 E4
  obtain ⟨n4, e4⟩ : ∃ n, n = (m.mem 4).length := ⟨_, rfl⟩
  rw [← e4] at m34 p34 E4
  clear v4 u4 e4
  clear h1 h2
  go_enter Try.func13, Try.ntmps13
  go_wp2_with fail
  refine wp_mark (R := fun W => Below w.heap.size w W ∧ Hid (Blk W w.heap.size (machC U1 m) 41) ∧ Hid (Blk W (w.heap.size + 1) (machC U2 m) 41) ∧ Hid (Blk W (w.heap.size + 1 + 1) #[.slice a0 n0 q0, .slice b0 n0 r0, .slice a1 n1 q1, .slice b1 n1 r1, .slice a2 n2 q2, .slice b2 n2 r2, .slice a3 n3 q3, .slice b3 n3 r3, .slice a4 n4 q4, .slice b4 n4 r4] 77)) ⟨by repeat' (first | (with_reducible first | exact Below.refl _ _ | assumption | refine below_alloc ?_ _ | refine Below.drew ?_ | refine below_drewN ?_ _ | refine below_then ?_ (by assumption) | refine below_put ?_ (by assumption) (by first | (simp; done) | (simp; omega) | omega) | refine Below.setCell ?_ ?_ _) | (simp; done) | (simp; omega) | omega), Lib.hid (by repeat' (first | (with_reducible first | exact Hid.out (by assumption) | exact Blk.new _ _ _ | (refine Blk.new_at _ _ _ _ ?_; simp; done) | refine Blk.alloc ?_ _ | refine Blk.drewN ?_ _ | refine Blk.drew ?_ | apply Blk.set | refine Blk.put ?_ (by assumption) (by first | (simp; done) | (simp; omega) | omega) | refine Blk.below ?_ (by assumption)) | (refine Blk.setAt ?_ (by first | (simp; done) | (simp; omega))) | rfl)), Lib.hid (by repeat' (first | (with_reducible first | exact Hid.out (by assumption) | exact Blk.new _ _ _ | (refine Blk.new_at _ _ _ _ ?_; simp; done) | refine Blk.alloc ?_ _ | refine Blk.drewN ?_ _ | refine Blk.drew ?_ | apply Blk.set | refine Blk.put ?_ (by assumption) (by first | (simp; done) | (simp; omega) | omega) | refine Blk.below ?_ (by assumption)) | (refine Blk.setAt ?_ (by first | (simp; done) | (simp; omega))) | rfl)), Lib.hid (by repeat' (first | (with_reducible first | exact Hid.out (by assumption) | exact Blk.new _ _ _ | (refine Blk.new_at _ _ _ _ ?_; simp; done) | refine Blk.alloc ?_ _ | refine Blk.drewN ?_ _ | refine Blk.drew ?_ | apply Blk.set | refine Blk.put ?_ (by assumption) (by first | (simp; done) | (simp; omega) | omega) | refine Blk.below ?_ (by assumption)) | (refine Blk.setAt ?_ (by first | (simp; done) | (simp; omega))) | rfl))⟩ ?_
  intro w1 ⟨B1, KA1, KB1, KS1⟩
  clear m30 m31 m32 m33 m34 p30 p31 p32 p33 p34
  simp only [List.append_eq, List.cons_append, List.nil_append] at *
  go_loopw [34] (fun i wr => ∃ k : Nat, k ≤ 5 ∧ i = .int .i64 k ∧ Below w.heap.size w wr ∧ Hid (Blk wr w.heap.size (machC U1 m) 41) ∧ Hid (Blk wr (w.heap.size + 1) (machC U2 m) 41) ∧ Hid (Blk wr (w.heap.size + 1 + 1) #[.slice a0 n0 q0, .slice b0 n0 r0, .slice a1 n1 q1, .slice b1 n1 r1, .slice a2 n2 q2, .slice b2 n2 r2, .slice a3 n3 q3, .slice b3 n3 r3, .slice a4 n4 q4, .slice b4 n4 r4] 77)) (fun i _ => 5 - (intOf i).toNat)
  case atStart => exact ⟨0, Nat.zero_le _, rfl, B1, KA1, KB1, KS1⟩
  case round =>
    obtain ⟨k, hk, rfl, B2, KA, KB, KS⟩ := hrel
    clear KA1 KB1 KS1 B1
    have lS := KS.out.lt
    have fS := KS.out.free
    rcases (by omega : k = 0 ∨ k = 1 ∨ k = 2 ∨ k = 3 ∨ k = 4 ∨ k = 5) with rfl | rfl | rfl | rfl | rfl | rfl
    · have x0 : wr.cell? ⟨w.heap.size + 1 + 1, 0, none⟩ = some (.slice a0 n0 q0) := KS.out.cell 0
      have x1 : wr.cell? ⟨w.heap.size + 1 + 1, 1, none⟩ = some (.slice b0 n0 r0) := KS.out.cell 1
      go_wp2_with fail
      refine (E0.out _ (by repeat' (first | (with_reducible first | exact Below.refl _ _ | assumption | refine below_alloc ?_ _ | refine Below.drew ?_ | refine below_drewN ?_ _ | refine below_then ?_ (by assumption) | refine below_put ?_ (by assumption) (by first | (simp; done) | (simp; omega) | omega) | refine Below.setCell ?_ ?_ _) | (simp; done) | (simp; omega) | omega))).mono ?_
      rintro e w' ⟨rfl, rfl⟩
      go_wp2
      go_roundw
      case rel => exact ⟨1, by omega, by go_num, by repeat' (first | (with_reducible first | exact Below.refl _ _ | assumption | refine below_alloc ?_ _ | refine Below.drew ?_ | refine below_drewN ?_ _ | refine below_then ?_ (by assumption) | refine below_put ?_ (by assumption) (by first | (simp; done) | (simp; omega) | omega) | refine Below.setCell ?_ ?_ _) | (simp; done) | (simp; omega) | omega), Lib.hid (by repeat' (first | (with_reducible first | exact Hid.out (by assumption) | exact Blk.new _ _ _ | (refine Blk.new_at _ _ _ _ ?_; simp; done) | refine Blk.alloc ?_ _ | refine Blk.drewN ?_ _ | refine Blk.drew ?_ | apply Blk.set | refine Blk.put ?_ (by assumption) (by first | (simp; done) | (simp; omega) | omega) | refine Blk.below ?_ (by assumption)) | (refine Blk.setAt ?_ (by first | (simp; done) | (simp; omega))) | rfl)), Lib.hid (by repeat' (first | (with_reducible first | exact Hid.out (by assumption) | exact Blk.new _ _ _ | (refine Blk.new_at _ _ _ _ ?_; simp; done) | refine Blk.alloc ?_ _ | refine Blk.drewN ?_ _ | refine Blk.drew ?_ | apply Blk.set | refine Blk.put ?_ (by assumption) (by first | (simp; done) | (simp; omega) | omega) | refine Blk.below ?_ (by assumption)) | (refine Blk.setAt ?_ (by first | (simp; done) | (simp; omega))) | rfl)), Lib.hid (by repeat' (first | (with_reducible first | exact Hid.out (by assumption) | exact Blk.new _ _ _ | (refine Blk.new_at _ _ _ _ ?_; simp; done) | refine Blk.alloc ?_ _ | refine Blk.drewN ?_ _ | refine Blk.drew ?_ | apply Blk.set | refine Blk.put ?_ (by assumption) (by first | (simp; done) | (simp; omega) | omega) | refine Blk.below ?_ (by assumption)) | (refine Blk.setAt ?_ (by first | (simp; done) | (simp; omega))) | rfl))⟩
      case measure => simp [intOf]
    · have x0 : wr.cell? ⟨w.heap.size + 1 + 1, 2, none⟩ = some (.slice a1 n1 q1) := KS.out.cell 2
      have x1 : wr.cell? ⟨w.heap.size + 1 + 1, 3, none⟩ = some (.slice b1 n1 r1) := KS.out.cell 3
      go_wp2_with fail
      refine (E1.out _ (by repeat' (first | (with_reducible first | exact Below.refl _ _ | assumption | refine below_alloc ?_ _ | refine Below.drew ?_ | refine below_drewN ?_ _ | refine below_then ?_ (by assumption) | refine below_put ?_ (by assumption) (by first | (simp; done) | (simp; omega) | omega) | refine Below.setCell ?_ ?_ _) | (simp; done) | (simp; omega) | omega))).mono ?_
      rintro e w' ⟨rfl, rfl⟩
      go_wp2
      go_roundw
      case rel => exact ⟨2, by omega, by go_num, by repeat' (first | (with_reducible first | exact Below.refl _ _ | assumption | refine below_alloc ?_ _ | refine Below.drew ?_ | refine below_drewN ?_ _ | refine below_then ?_ (by assumption) | refine below_put ?_ (by assumption) (by first | (simp; done) | (simp; omega) | omega) | refine Below.setCell ?_ ?_ _) | (simp; done) | (simp; omega) | omega), Lib.hid (by repeat' (first | (with_reducible first | exact Hid.out (by assumption) | exact Blk.new _ _ _ | (refine Blk.new_at _ _ _ _ ?_; simp; done) | refine Blk.alloc ?_ _ | refine Blk.drewN ?_ _ | refine Blk.drew ?_ | apply Blk.set | refine Blk.put ?_ (by assumption) (by first | (simp; done) | (simp; omega) | omega) | refine Blk.below ?_ (by assumption)) | (refine Blk.setAt ?_ (by first | (simp; done) | (simp; omega))) | rfl)), Lib.hid (by repeat' (first | (with_reducible first | exact Hid.out (by assumption) | exact Blk.new _ _ _ | (refine Blk.new_at _ _ _ _ ?_; simp; done) | refine Blk.alloc ?_ _ | refine Blk.drewN ?_ _ | refine Blk.drew ?_ | apply Blk.set | refine Blk.put ?_ (by assumption) (by first | (simp; done) | (simp; omega) | omega) | refine Blk.below ?_ (by assumption)) | (refine Blk.setAt ?_ (by first | (simp; done) | (simp; omega))) | rfl)), Lib.hid (by repeat' (first | (with_reducible first | exact Hid.out (by assumption) | exact Blk.new _ _ _ | (refine Blk.new_at _ _ _ _ ?_; simp; done) | refine Blk.alloc ?_ _ | refine Blk.drewN ?_ _ | refine Blk.drew ?_ | apply Blk.set | refine Blk.put ?_ (by assumption) (by first | (simp; done) | (simp; omega) | omega) | refine Blk.below ?_ (by assumption)) | (refine Blk.setAt ?_ (by first | (simp; done) | (simp; omega))) | rfl))⟩
      case measure => simp [intOf]
    · have x0 : wr.cell? ⟨w.heap.size + 1 + 1, 4, none⟩ = some (.slice a2 n2 q2) := KS.out.cell 4
      have x1 : wr.cell? ⟨w.heap.size + 1 + 1, 5, none⟩ = some (.slice b2 n2 r2) := KS.out.cell 5
      go_wp2_with fail
      refine (E2.out _ (by repeat' (first | (with_reducible first | exact Below.refl _ _ | assumption | refine below_alloc ?_ _ | refine Below.drew ?_ | refine below_drewN ?_ _ | refine below_then ?_ (by assumption) | refine below_put ?_ (by assumption) (by first | (simp; done) | (simp; omega) | omega) | refine Below.setCell ?_ ?_ _) | (simp; done) | (simp; omega) | omega))).mono ?_
      rintro e w' ⟨rfl, rfl⟩
      go_wp2
      go_roundw
      case rel => exact ⟨3, by omega, by go_num, by repeat' (first | (with_reducible first | exact Below.refl _ _ | assumption | refine below_alloc ?_ _ | refine Below.drew ?_ | refine below_drewN ?_ _ | refine below_then ?_ (by assumption) | refine below_put ?_ (by assumption) (by first | (simp; done) | (simp; omega) | omega) | refine Below.setCell ?_ ?_ _) | (simp; done) | (simp; omega) | omega), Lib.hid (by repeat' (first | (with_reducible first | exact Hid.out (by assumption) | exact Blk.new _ _ _ | (refine Blk.new_at _ _ _ _ ?_; simp; done) | refine Blk.alloc ?_ _ | refine Blk.drewN ?_ _ | refine Blk.drew ?_ | apply Blk.set | refine Blk.put ?_ (by assumption) (by first | (simp; done) | (simp; omega) | omega) | refine Blk.below ?_ (by assumption)) | (refine Blk.setAt ?_ (by first | (simp; done) | (simp; omega))) | rfl)), Lib.hid (by repeat' (first | (with_reducible first | exact Hid.out (by assumption) | exact Blk.new _ _ _ | (refine Blk.new_at _ _ _ _ ?_; simp; done) | refine Blk.alloc ?_ _ | refine Blk.drewN ?_ _ | refine Blk.drew ?_ | apply Blk.set | refine Blk.put ?_ (by assumption) (by first | (simp; done) | (simp; omega) | omega) | refine Blk.below ?_ (by assumption)) | (refine Blk.setAt ?_ (by first | (simp; done) | (simp; omega))) | rfl)), Lib.hid (by repeat' (first | (with_reducible first | exact Hid.out (by assumption) | exact Blk.new _ _ _ | (refine Blk.new_at _ _ _ _ ?_; simp; done) | refine Blk.alloc ?_ _ | refine Blk.drewN ?_ _ | refine Blk.drew ?_ | apply Blk.set | refine Blk.put ?_ (by assumption) (by first | (simp; done) | (simp; omega) | omega) | refine Blk.below ?_ (by assumption)) | (refine Blk.setAt ?_ (by first | (simp; done) | (simp; omega))) | rfl))⟩
      case measure => simp [intOf]
    · have x0 : wr.cell? ⟨w.heap.size + 1 + 1, 6, none⟩ = some (.slice a3 n3 q3) := KS.out.cell 6
      have x1 : wr.cell? ⟨w.heap.size + 1 + 1, 7, none⟩ = some (.slice b3 n3 r3) := KS.out.cell 7
      go_wp2_with fail
      refine (E3.out _ (by repeat' (first | (with_reducible first | exact Below.refl _ _ | assumption | refine below_alloc ?_ _ | refine Below.drew ?_ | refine below_drewN ?_ _ | refine below_then ?_ (by assumption) | refine below_put ?_ (by assumption) (by first | (simp; done) | (simp; omega) | omega) | refine Below.setCell ?_ ?_ _) | (simp; done) | (simp; omega) | omega))).mono ?_
      rintro e w' ⟨rfl, rfl⟩
      go_wp2
      go_roundw
      case rel => exact ⟨4, by omega, by go_num, by repeat' (first | (with_reducible first | exact Below.refl _ _ | assumption | refine below_alloc ?_ _ | refine Below.drew ?_ | refine below_drewN ?_ _ | refine below_then ?_ (by assumption) | refine below_put ?_ (by assumption) (by first | (simp; done) | (simp; omega) | omega) | refine Below.setCell ?_ ?_ _) | (simp; done) | (simp; omega) | omega), Lib.hid (by repeat' (first | (with_reducible first | exact Hid.out (by assumption) | exact Blk.new _ _ _ | (refine Blk.new_at _ _ _ _ ?_; simp; done) | refine Blk.alloc ?_ _ | refine Blk.drewN ?_ _ | refine Blk.drew ?_ | apply Blk.set | refine Blk.put ?_ (by assumption) (by first | (simp; done) | (simp; omega) | omega) | refine Blk.below ?_ (by assumption)) | (refine Blk.setAt ?_ (by first | (simp; done) | (simp; omega))) | rfl)), Lib.hid (by repeat' (first | (with_reducible first | exact Hid.out (by assumption) | exact Blk.new _ _ _ | (refine Blk.new_at _ _ _ _ ?_; simp; done) | refine Blk.alloc ?_ _ | refine Blk.drewN ?_ _ | refine Blk.drew ?_ | apply Blk.set | refine Blk.put ?_ (by assumption) (by first | (simp; done) | (simp; omega) | omega) | refine Blk.below ?_ (by assumption)) | (refine Blk.setAt ?_ (by first | (simp; done) | (simp; omega))) | rfl)), Lib.hid (by repeat' (first | (with_reducible first | exact Hid.out (by assumption) | exact Blk.new _ _ _ | (refine Blk.new_at _ _ _ _ ?_; simp; done) | refine Blk.alloc ?_ _ | refine Blk.drewN ?_ _ | refine Blk.drew ?_ | apply Blk.set | refine Blk.put ?_ (by assumption) (by first | (simp; done) | (simp; omega) | omega) | refine Blk.below ?_ (by assumption)) | (refine Blk.setAt ?_ (by first | (simp; done) | (simp; omega))) | rfl))⟩
      case measure => simp [intOf]
    · have x0 : wr.cell? ⟨w.heap.size + 1 + 1, 8, none⟩ = some (.slice a4 n4 q4) := KS.out.cell 8
      have x1 : wr.cell? ⟨w.heap.size + 1 + 1, 9, none⟩ = some (.slice b4 n4 r4) := KS.out.cell 9
      go_wp2_with fail
      refine (E4.out _ (by repeat' (first | (with_reducible first | exact Below.refl _ _ | assumption | refine below_alloc ?_ _ | refine Below.drew ?_ | refine below_drewN ?_ _ | refine below_then ?_ (by assumption) | refine below_put ?_ (by assumption) (by first | (simp; done) | (simp; omega) | omega) | refine Below.setCell ?_ ?_ _) | (simp; done) | (simp; omega) | omega))).mono ?_
      rintro e w' ⟨rfl, rfl⟩
      go_wp2
      go_roundw
      case rel => exact ⟨5, by omega, by go_num, by repeat' (first | (with_reducible first | exact Below.refl _ _ | assumption | refine below_alloc ?_ _ | refine Below.drew ?_ | refine below_drewN ?_ _ | refine below_then ?_ (by assumption) | refine below_put ?_ (by assumption) (by first | (simp; done) | (simp; omega) | omega) | refine Below.setCell ?_ ?_ _) | (simp; done) | (simp; omega) | omega), Lib.hid (by repeat' (first | (with_reducible first | exact Hid.out (by assumption) | exact Blk.new _ _ _ | (refine Blk.new_at _ _ _ _ ?_; simp; done) | refine Blk.alloc ?_ _ | refine Blk.drewN ?_ _ | refine Blk.drew ?_ | apply Blk.set | refine Blk.put ?_ (by assumption) (by first | (simp; done) | (simp; omega) | omega) | refine Blk.below ?_ (by assumption)) | (refine Blk.setAt ?_ (by first | (simp; done) | (simp; omega))) | rfl)), Lib.hid (by repeat' (first | (with_reducible first | exact Hid.out (by assumption) | exact Blk.new _ _ _ | (refine Blk.new_at _ _ _ _ ?_; simp; done) | refine Blk.alloc ?_ _ | refine Blk.drewN ?_ _ | refine Blk.drew ?_ | apply Blk.set | refine Blk.put ?_ (by assumption) (by first | (simp; done) | (simp; omega) | omega) | refine Blk.below ?_ (by assumption)) | (refine Blk.setAt ?_ (by first | (simp; done) | (simp; omega))) | rfl)), Lib.hid (by repeat' (first | (with_reducible first | exact Hid.out (by assumption) | exact Blk.new _ _ _ | (refine Blk.new_at _ _ _ _ ?_; simp; done) | refine Blk.alloc ?_ _ | refine Blk.drewN ?_ _ | refine Blk.drew ?_ | apply Blk.set | refine Blk.put ?_ (by assumption) (by first | (simp; done) | (simp; omega) | omega) | refine Blk.below ?_ (by assumption)) | (refine Blk.setAt ?_ (by first | (simp; done) | (simp; omega))) | rfl))⟩
      case measure => simp [intOf]
    · clear lS fS E0 E1 E2 E3 E4 H1 H2 KS
      have CS1 := cpu_self m.mc
      have CS2 := cpu_self m.ac
      have PS := pads_self m.p0 m.p1
      have VS := eqv_self m.sd
      have MS := mail_self m.m0 m.m1
      have lA := KA.out.lt
      have lB := KB.out.lt
      have ca65 := (KA.out.cell 65).trans (mx65 U1 m)
      have cb65 := (KB.out.cell 65).trans (mx65 U2 m)
      have ca66 := (KA.out.cell 66).trans (mx66 U1 m)
      have cb66 := (KB.out.cell 66).trans (mx66 U2 m)
      have ca67 := (KA.out.cell 67).trans (mx67 U1 m)
      have cb67 := (KB.out.cell 67).trans (mx67 U2 m)
      have ca68 := (KA.out.cell 68).trans (mx68 U1 m)
      have cb68 := (KB.out.cell 68).trans (mx68 U2 m)
      have ca71 := (KA.out.cell 71).trans (mx71 U1 m)
      have cb71 := (KB.out.cell 71).trans (mx71 U2 m)
      have ca72 := (KA.out.cell 72).trans (mx72 U1 m)
      have cb72 := (KB.out.cell 72).trans (mx72 U2 m)
      have ca73 := (KA.out.cell 73).trans (mx73 U1 m)
      have cb73 := (KB.out.cell 73).trans (mx73 U2 m)
      have ca74 := (KA.out.cell 74).trans (mx74 U1 m)
      have cb74 := (KB.out.cell 74).trans (mx74 U2 m)
      go_wp2_with (first | ((with_reducible show wpList _ _ _ _ _ _); refine wpList_loadA rfl 26 (.tmp 45) rfl (w.heap.size) (0) 15 rfl 41 (machC U1 m) (cpuC m.mc) (show Blk _ (w.heap.size) (machC U1 m) 41 from (by repeat' (first | (with_reducible first | exact Hid.out (by assumption) | exact Blk.new _ _ _ | (refine Blk.new_at _ _ _ _ ?_; simp; done) | refine Blk.alloc ?_ _ | refine Blk.drewN ?_ _ | refine Blk.drew ?_ | apply Blk.set | refine Blk.put ?_ (by assumption) (by first | (simp; done) | (simp; omega) | omega) | refine Blk.below ?_ (by assumption)) | (refine Blk.setAt ?_ (by first | (simp; done) | (simp; omega))) | rfl))) _ Try.underlying26 rfl (by kernel_rfl) rfl rfl ?_) | ((with_reducible show wpList _ _ _ _ _ _); refine wpList_loadA rfl 26 (.tmp 47) rfl (w.heap.size + 1) (0) 15 rfl 41 (machC U2 m) (cpuC m.mc) (show Blk _ (w.heap.size + 1) (machC U2 m) 41 from (by repeat' (first | (with_reducible first | exact Hid.out (by assumption) | exact Blk.new _ _ _ | (refine Blk.new_at _ _ _ _ ?_; simp; done) | refine Blk.alloc ?_ _ | refine Blk.drewN ?_ _ | refine Blk.drew ?_ | apply Blk.set | refine Blk.put ?_ (by assumption) (by first | (simp; done) | (simp; omega) | omega) | refine Blk.below ?_ (by assumption)) | (refine Blk.setAt ?_ (by first | (simp; done) | (simp; omega))) | rfl))) _ Try.underlying26 rfl (by kernel_rfl) rfl rfl ?_) | ((with_reducible show wpList _ _ _ _ _ _); refine wpList_loadGA (by rfl) 26 (.tmp 51) rfl (w.heap.size) (15) 15 rfl 41 (machC U1 m) (cpuC m.ac) (show Blk _ (w.heap.size) (machC U1 m) 41 from (by repeat' (first | (with_reducible first | exact Hid.out (by assumption) | exact Blk.new _ _ _ | (refine Blk.new_at _ _ _ _ ?_; simp; done) | refine Blk.alloc ?_ _ | refine Blk.drewN ?_ _ | refine Blk.drew ?_ | apply Blk.set | refine Blk.put ?_ (by assumption) (by first | (simp; done) | (simp; omega) | omega) | refine Blk.below ?_ (by assumption)) | (refine Blk.setAt ?_ (by first | (simp; done) | (simp; omega))) | rfl))) _ Try.underlying26 rfl (by kernel_rfl) rfl rfl ?_) | ((with_reducible show wpList _ _ _ _ _ _); refine wpList_loadGA (by rfl) 26 (.tmp 53) rfl (w.heap.size + 1) (15) 15 rfl 41 (machC U2 m) (cpuC m.ac) (show Blk _ (w.heap.size + 1) (machC U2 m) 41 from (by repeat' (first | (with_reducible first | exact Hid.out (by assumption) | exact Blk.new _ _ _ | (refine Blk.new_at _ _ _ _ ?_; simp; done) | refine Blk.alloc ?_ _ | refine Blk.drewN ?_ _ | refine Blk.drew ?_ | apply Blk.set | refine Blk.put ?_ (by assumption) (by first | (simp; done) | (simp; omega) | omega) | refine Blk.below ?_ (by assumption)) | (refine Blk.setAt ?_ (by first | (simp; done) | (simp; omega))) | rfl))) _ Try.underlying26 rfl (by kernel_rfl) rfl rfl ?_) | ((with_reducible show wpList _ _ _ _ _ _); refine wpList_loadGA (by rfl) 29 (.tmp 58) rfl (w.heap.size) (35) 6 rfl 41 (machC U1 m) #[.int .u8 m.p0.dn, .bool m.p0.la, .int .u8 m.p0.sh, .int .u8 m.p1.dn, .bool m.p1.la, .int .u8 m.p1.sh] (show Blk _ (w.heap.size) (machC U1 m) 41 from (by repeat' (first | (with_reducible first | exact Hid.out (by assumption) | exact Blk.new _ _ _ | (refine Blk.new_at _ _ _ _ ?_; simp; done) | refine Blk.alloc ?_ _ | refine Blk.drewN ?_ _ | refine Blk.drew ?_ | apply Blk.set | refine Blk.put ?_ (by assumption) (by first | (simp; done) | (simp; omega) | omega) | refine Blk.below ?_ (by assumption)) | (refine Blk.setAt ?_ (by first | (simp; done) | (simp; omega))) | rfl))) _ Try.underlying29 rfl (by kernel_rfl) rfl rfl ?_) | ((with_reducible show wpList _ _ _ _ _ _); refine wpList_loadGA (by rfl) 29 (.tmp 60) rfl (w.heap.size + 1) (35) 6 rfl 41 (machC U2 m) #[.int .u8 m.p0.dn, .bool m.p0.la, .int .u8 m.p0.sh, .int .u8 m.p1.dn, .bool m.p1.la, .int .u8 m.p1.sh] (show Blk _ (w.heap.size + 1) (machC U2 m) 41 from (by repeat' (first | (with_reducible first | exact Hid.out (by assumption) | exact Blk.new _ _ _ | (refine Blk.new_at _ _ _ _ ?_; simp; done) | refine Blk.alloc ?_ _ | refine Blk.drewN ?_ _ | refine Blk.drew ?_ | apply Blk.set | refine Blk.put ?_ (by assumption) (by first | (simp; done) | (simp; omega) | omega) | refine Blk.below ?_ (by assumption)) | (refine Blk.setAt ?_ (by first | (simp; done) | (simp; omega))) | rfl))) _ Try.underlying29 rfl (by kernel_rfl) rfl rfl ?_) | ((with_reducible show wpList _ _ _ _ _ _); refine wpList_loadGA (by rfl) 31 (.tmp 65) rfl (w.heap.size) (41) 4 rfl 41 (machC U1 m) #[.int .u16 m.tm.rl, .int .u16 m.tm.ct, .bool m.tm.on, .bool m.tm.rg] (show Blk _ (w.heap.size) (machC U1 m) 41 from (by repeat' (first | (with_reducible first | exact Hid.out (by assumption) | exact Blk.new _ _ _ | (refine Blk.new_at _ _ _ _ ?_; simp; done) | refine Blk.alloc ?_ _ | refine Blk.drewN ?_ _ | refine Blk.drew ?_ | apply Blk.set | refine Blk.put ?_ (by assumption) (by first | (simp; done) | (simp; omega) | omega) | refine Blk.below ?_ (by assumption)) | (refine Blk.setAt ?_ (by first | (simp; done) | (simp; omega))) | rfl))) _ Try.underlying31 rfl (by kernel_rfl) rfl rfl ?_) | ((with_reducible show wpList _ _ _ _ _ _); refine wpList_loadGA (by rfl) 31 (.tmp 67) rfl (w.heap.size + 1) (41) 4 rfl 41 (machC U2 m) #[.int .u16 m.tm.rl, .int .u16 m.tm.ct, .bool m.tm.on, .bool m.tm.rg] (show Blk _ (w.heap.size + 1) (machC U2 m) 41 from (by repeat' (first | (with_reducible first | exact Hid.out (by assumption) | exact Blk.new _ _ _ | (refine Blk.new_at _ _ _ _ ?_; simp; done) | refine Blk.alloc ?_ _ | refine Blk.drewN ?_ _ | refine Blk.drew ?_ | apply Blk.set | refine Blk.put ?_ (by assumption) (by first | (simp; done) | (simp; omega) | omega) | refine Blk.below ?_ (by assumption)) | (refine Blk.setAt ?_ (by first | (simp; done) | (simp; omega))) | rfl))) _ Try.underlying31 rfl (by kernel_rfl) rfl rfl ?_) | ((with_reducible show wpList _ _ _ _ _ _); refine wpList_loadGA (by rfl) 36 (.tmp 72) rfl (w.heap.size) (45) 16 rfl 41 (machC U1 m) #[.int .u16 m.sd.a.pd, .int .u16 m.sd.a.ct, .int .u8 m.sd.a.ld, .bool m.sd.a.hi, .int .u16 m.sd.a.nz, .int .u16 m.sd.b.pd, .int .u16 m.sd.b.ct, .int .u8 m.sd.b.ld, .bool m.sd.b.hi, .int .u16 m.sd.b.nz, .int .u16 m.sd.c.pd, .int .u16 m.sd.c.ct, .int .u8 m.sd.c.ld, .bool m.sd.c.hi, .int .u16 m.sd.c.nz, .int .i64 m.sd.wt] (show Blk _ (w.heap.size) (machC U1 m) 41 from (by repeat' (first | (with_reducible first | exact Hid.out (by assumption) | exact Blk.new _ _ _ | (refine Blk.new_at _ _ _ _ ?_; simp; done) | refine Blk.alloc ?_ _ | refine Blk.drewN ?_ _ | refine Blk.drew ?_ | apply Blk.set | refine Blk.put ?_ (by assumption) (by first | (simp; done) | (simp; omega) | omega) | refine Blk.below ?_ (by assumption)) | (refine Blk.setAt ?_ (by first | (simp; done) | (simp; omega))) | rfl))) _ Try.underlying36 rfl (by kernel_rfl) rfl rfl ?_) | ((with_reducible show wpList _ _ _ _ _ _); refine wpList_loadGA (by rfl) 36 (.tmp 74) rfl (w.heap.size + 1) (45) 16 rfl 41 (machC U2 m) #[.int .u16 m.sd.a.pd, .int .u16 m.sd.a.ct, .int .u8 m.sd.a.ld, .bool m.sd.a.hi, .int .u16 m.sd.a.nz, .int .u16 m.sd.b.pd, .int .u16 m.sd.b.ct, .int .u8 m.sd.b.ld, .bool m.sd.b.hi, .int .u16 m.sd.b.nz, .int .u16 m.sd.c.pd, .int .u16 m.sd.c.ct, .int .u8 m.sd.c.ld, .bool m.sd.c.hi, .int .u16 m.sd.c.nz, .int .i64 m.sd.wt] (show Blk _ (w.heap.size + 1) (machC U2 m) 41 from (by repeat' (first | (with_reducible first | exact Hid.out (by assumption) | exact Blk.new _ _ _ | (refine Blk.new_at _ _ _ _ ?_; simp; done) | refine Blk.alloc ?_ _ | refine Blk.drewN ?_ _ | refine Blk.drew ?_ | apply Blk.set | refine Blk.put ?_ (by assumption) (by first | (simp; done) | (simp; omega) | omega) | refine Blk.below ?_ (by assumption)) | (refine Blk.setAt ?_ (by first | (simp; done) | (simp; omega))) | rfl))) _ Try.underlying36 rfl (by kernel_rfl) rfl rfl ?_) | ((with_reducible show wpList _ _ _ _ _ _); refine wpList_loadGA (by rfl) 38 (.tmp 79) rfl (w.heap.size) (61) 4 rfl 41 (machC U1 m) #[.int .i64 m.bm.ln, .int .i64 m.bm.pt, .bool m.bm.rg, .int .i64 m.bm.fr] (show Blk _ (w.heap.size) (machC U1 m) 41 from (by repeat' (first | (with_reducible first | exact Hid.out (by assumption) | exact Blk.new _ _ _ | (refine Blk.new_at _ _ _ _ ?_; simp; done) | refine Blk.alloc ?_ _ | refine Blk.drewN ?_ _ | refine Blk.drew ?_ | apply Blk.set | refine Blk.put ?_ (by assumption) (by first | (simp; done) | (simp; omega) | omega) | refine Blk.below ?_ (by assumption)) | (refine Blk.setAt ?_ (by first | (simp; done) | (simp; omega))) | rfl))) _ Try.underlying38 rfl (by kernel_rfl) rfl rfl ?_) | ((with_reducible show wpList _ _ _ _ _ _); refine wpList_loadGA (by rfl) 38 (.tmp 81) rfl (w.heap.size + 1) (61) 4 rfl 41 (machC U2 m) #[.int .i64 m.bm.ln, .int .i64 m.bm.pt, .bool m.bm.rg, .int .i64 m.bm.fr] (show Blk _ (w.heap.size + 1) (machC U2 m) 41 from (by repeat' (first | (with_reducible first | exact Hid.out (by assumption) | exact Blk.new _ _ _ | (refine Blk.new_at _ _ _ _ ?_; simp; done) | refine Blk.alloc ?_ _ | refine Blk.drewN ?_ _ | refine Blk.drew ?_ | apply Blk.set | refine Blk.put ?_ (by assumption) (by first | (simp; done) | (simp; omega) | omega) | refine Blk.below ?_ (by assumption)) | (refine Blk.setAt ?_ (by first | (simp; done) | (simp; omega))) | rfl))) _ Try.underlying38 rfl (by kernel_rfl) rfl rfl ?_) | ((with_reducible show wpList _ _ _ _ _ _); refine wpList_loadGA (by rfl) 39 (.tmp 114) rfl (w.heap.size) (69) 2 rfl 41 (machC U1 m) #[.int .u8 m.m0, .int .u8 m.m1] (show Blk _ (w.heap.size) (machC U1 m) 41 from (by repeat' (first | (with_reducible first | exact Hid.out (by assumption) | exact Blk.new _ _ _ | (refine Blk.new_at _ _ _ _ ?_; simp; done) | refine Blk.alloc ?_ _ | refine Blk.drewN ?_ _ | refine Blk.drew ?_ | apply Blk.set | refine Blk.put ?_ (by assumption) (by first | (simp; done) | (simp; omega) | omega) | refine Blk.below ?_ (by assumption)) | (refine Blk.setAt ?_ (by first | (simp; done) | (simp; omega))) | rfl))) _ Try.underlying39 rfl (by kernel_rfl) rfl rfl ?_) | ((with_reducible show wpList _ _ _ _ _ _); refine wpList_loadGA (by rfl) 39 (.tmp 116) rfl (w.heap.size + 1) (69) 2 rfl 41 (machC U2 m) #[.int .u8 m.m0, .int .u8 m.m1] (show Blk _ (w.heap.size + 1) (machC U2 m) 41 from (by repeat' (first | (with_reducible first | exact Hid.out (by assumption) | exact Blk.new _ _ _ | (refine Blk.new_at _ _ _ _ ?_; simp; done) | refine Blk.alloc ?_ _ | refine Blk.drewN ?_ _ | refine Blk.drew ?_ | apply Blk.set | refine Blk.put ?_ (by assumption) (by first | (simp; done) | (simp; omega) | omega) | refine Blk.below ?_ (by assumption)) | (refine Blk.setAt ?_ (by first | (simp; done) | (simp; omega))) | rfl))) _ Try.underlying39 rfl (by kernel_rfl) rfl rfl ?_))
      go_ret
      exact ⟨rfl, by repeat' (first | (with_reducible first | exact Below.refl _ _ | assumption | refine below_alloc ?_ _ | refine Below.drew ?_ | refine below_drewN ?_ _ | refine below_then ?_ (by assumption) | refine below_put ?_ (by assumption) (by first | (simp; done) | (simp; omega) | omega) | refine Below.setCell ?_ ?_ _) | (simp; done) | (simp; omega) | omega)⟩
end Go.Proofs.Ytimccpmdgfneoaa
