/- The law OrderRead answers true for every input. Conditions: the library's variables hold what they were laid with. -/
import Derived.Test.YtlhjoclclbhjgaaDoorOrderFact
import Derived.Test.YtlhjoclclbhjgaaDoorOrdOf
import Derived.Test.YtlhjoclclbhjgaaDoorOrdPl
namespace Go.Proofs.YtlhjoclclbhjgaaDoor.orderRead
open Go.RowKit Go.Mq
set_option linter.unusedVariables false
set_option linter.unusedSimpArgs false
set_option maxHeartbeats 2000000
set_option maxRecDepth 100000
theorem of_any_order (a b : Int) (ha : U16 a) (hb : U16 b) (w : World) (hL : Lk9 w) : Calls Tryd.prog 30 #[.int .u16 a, .int .u16 b] w fun e w' =>
    e = .returned (.tuple #[.agg #[.int .i64 (readO a b).op, .int .i64 (readO a b).d, .int .i64 (readO a b).s, .int .i64 (readO a b).n, .int .i64 (readO a b).w], .int .i64 (readL a)]) ∧ Below w.heap.size w w' := by
  obtain ⟨K, hK⟩ : ∃ K : Nat, a / 2048 = K := ⟨(a / 2048).toNat, by unfold U16 at ha; omega⟩
  have hk : K < 32 := by unfold U16 at ha; omega
  by_cases h30 : K = 30
  · subst h30
    have := of_30 a b ha hK w
    refine this.mono ?_
    rintro e w' ⟨rfl, hw⟩
    refine ⟨?_, hw⟩
    simp only [readO, readL, hK]
    rfl
  · obtain ⟨e0, e1, e2, e3, e4, e5⟩ := fold_read a b K hK hk h30
    have := of_some_k a b ha hb K hK hk h30 w hL
    rw [e1, e2, e3, e4, e5, ← e0] at this
    exact this
theorem walk (a b : Int) (w : World) (ha : U16 a) (hb : U16 b) (hL : Lk9 w) : Calls Tryd.prog 7 #[.int .u16 a, .int .u16 b] w fun e w' => e = .returned (.bool true) ∧ Below w.heap.size w w' := by
  have R := Lib.hid (read_any a b ha hb)
  have O := Lib.hid (of_any_order a b ha hb)
  have F := Lib.hid orders_any
  have HL := Lib.hid hL
  clear hL
  obtain ⟨X, hX⟩ : ∃ X, X = readO a b := ⟨_, rfl⟩
  obtain ⟨m, hm⟩ : ∃ m, m = readL a := ⟨_, rfl⟩
  rw [← hX, ← hm] at R O
  clear hX hm
  obtain ⟨x1, x2, x3, x4, x5⟩ := X
  simp only at R O
  go_enter Tryd.func7, Tryd.ntmps7
  go_wp2_with fail
  refine (R.out _).mono ?_
  rintro e w1 ⟨rfl, hb1⟩
  go_wp2_with fail
  refine cmark (F := fun X => Calls _ _ _ X _) (R := fun W => Below w.heap.size w W ∧ Hid (Blk W (w1.heap.size) (#[.int .i64 x1, .int .i64 x2, .int .i64 x3, .int .i64 x4, .int .i64 x5]) 66)) ⟨by repeat' (first | (with_reducible first | exact Below.refl _ _ | assumption | refine below_alloc ?_ _ | refine Below.drew ?_ | refine Go.Mq.below_drewN ?_ _ | refine below_then ?_ (by assumption) | refine below_put ?_ (by assumption) (by first | (simp; done) | (simp; omega) | omega) | refine Below.setCell ?_ ?_ _) | (simp; done) | (simp; omega) | omega), Lib.hid (by repeat' (first | (with_reducible first | exact Hid.out (by assumption) | exact Blk.new _ _ _ | (refine Blk.new_at _ _ _ _ ?_; simp; done) | refine Blk.alloc ?_ _ | refine Blk.drewN ?_ _ | refine Blk.drew ?_ | apply Blk.set | refine Blk.put ?_ (by assumption) (by first | (simp; done) | (simp; omega) | omega) | refine Blk.below ?_ (by assumption)) | (refine Blk.setAt ?_ (by first | (simp; done) | (simp; omega))) | rfl))⟩ ?_
  rintro w2 ⟨hbw2, Kw2_0⟩
  obtain ⟨lw2_0, cw2_0, fw2_0⟩ := Kw2_0.out.use
  refine (O.out _ (HL.out.below hbw2)).mono ?_
  rintro e w3 ⟨rfl, hb3⟩
  have KW3 := Lib.hid (Kw2_0.out.below hb3)
  have hbw3 : Below w.heap.size w w3 := below_then hbw2 hb3
  have hl1 : w1.heap.size < w3.heap.size := KW3.out.lt
  clear hb3 hbw2
  go_wp2_with fail
  refine cmark (F := fun X => Calls _ _ _ X _) (R := fun W => Below w.heap.size w W ∧ Hid (Blk W (w1.heap.size) (#[.int .i64 x1, .int .i64 x2, .int .i64 x3, .int .i64 x4, .int .i64 x5]) 66) ∧ Hid (Blk W (w3.heap.size) (#[.int .i64 x1, .int .i64 x2, .int .i64 x3, .int .i64 x4, .int .i64 x5]) 66)) ⟨by repeat' (first | (with_reducible first | exact Below.refl _ _ | assumption | refine below_alloc ?_ _ | refine Below.drew ?_ | refine Go.Mq.below_drewN ?_ _ | refine below_then ?_ (by assumption) | refine below_put ?_ (by assumption) (by first | (simp; done) | (simp; omega) | omega) | refine Below.setCell ?_ ?_ _) | (simp; done) | (simp; omega) | omega), Lib.hid (by repeat' (first | (with_reducible first | exact Hid.out (by assumption) | exact Blk.new _ _ _ | (refine Blk.new_at _ _ _ _ ?_; simp; done) | refine Blk.alloc ?_ _ | refine Blk.drewN ?_ _ | refine Blk.drew ?_ | apply Blk.set | refine Blk.put ?_ (by assumption) (by first | (simp; done) | (simp; omega) | omega) | refine Blk.below ?_ (by assumption)) | (refine Blk.setAt ?_ (by first | (simp; done) | (simp; omega))) | rfl)), Lib.hid (by repeat' (first | (with_reducible first | exact Hid.out (by assumption) | exact Blk.new _ _ _ | (refine Blk.new_at _ _ _ _ ?_; simp; done) | refine Blk.alloc ?_ _ | refine Blk.drewN ?_ _ | refine Blk.drew ?_ | apply Blk.set | refine Blk.put ?_ (by assumption) (by first | (simp; done) | (simp; omega) | omega) | refine Blk.below ?_ (by assumption)) | (refine Blk.setAt ?_ (by first | (simp; done) | (simp; omega))) | rfl))⟩ ?_
  rintro w4 ⟨hbw4, Kw4_0, Kw4_1⟩
  clear Kw2_0 cw2_0 fw2_0
  obtain ⟨lw4_0, cw4_0, fw4_0⟩ := Kw4_0.out.use
  obtain ⟨lw4_1, cw4_1, fw4_1⟩ := Kw4_1.out.use
  refine (F.out _).mono ?_
  rintro e w5 ⟨rfl, hb5⟩
  have K1 := Lib.hid (Kw4_0.out.below hb5)
  have K2 := Lib.hid (Kw4_1.out.below hb5)
  have hbw5 : Below w.heap.size w w5 := below_then hbw4 hb5
  have k1 := K1.out.cell
  have k2 := K2.out.cell
  clear hb5 hbw4
  go_wp2
  go_ret
  exact ⟨rfl, by repeat' (first | (with_reducible first | exact Below.refl _ _ | assumption | refine below_alloc ?_ _ | refine Below.drew ?_ | refine Go.Mq.below_drewN ?_ _ | refine below_then ?_ (by assumption) | refine below_put ?_ (by assumption) (by first | (simp; done) | (simp; omega) | omega) | refine Below.setCell ?_ ?_ _) | (simp; done) | (simp; omega) | omega)⟩
end Go.Proofs.YtlhjoclclbhjgaaDoor.orderRead
