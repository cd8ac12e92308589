/- The table of orders: what order.shapes gives back. Conditions: none of its own. -/
import Derived.Test.YtmpdoiilakjmbaaDoorRows
import Derived.Test.YtmpdoiilakjmbaaDoorBase
import Derived.Test.YtmpdoiilakjmbaaDoorBase2
namespace Go.Proofs.YtmpdoiilakjmbaaDoor
open Go.RowKit Go.Mq
set_option linter.unusedVariables false
set_option linter.unusedSimpArgs false
set_option maxHeartbeats 1000000
set_option maxRecDepth 100000

theorem bldTo {P : Program} {ops : Array Oper} {rest : List Oper} {o : Oper} {a : Act} {w : World} {Q : Exit → Act → World → Prop} (hg : o.guard = none) (t : TypeId) (parts : Array (Nat × Operand)) (ho : o.op = .build t parts)
    (d : Option Tmp) (hd : o.dst = d) (cells : Array Value) (hf : P.built t (parts.map fun (i, x) => (i, a.eval x)).toList = some cells)
    (h : wpList P ops Q rest (a.put d (.agg cells)) w) : wpList P ops Q (o :: rest) a w := by
  subst hd
  refine wpList_build hg t parts ho (by rw [hf]; rfl) ?_
  rw [hf]
  exact h
def shdL : List Bool := [false, true, true, true, true, true, true, true, true, true, true, true, true, true, true, true, false, false, false, false, false, false, false, true, false, false, false, false, true, false, false, false]
def shsL : List Bool := [false, true, false, true, true, true, true, true, true, true, true, true, false, false, true, false, false, false, false, false, false, false, true, false, false, false, false, false, true, false, false, false]
def shnL : List Bool := [false, false, false, true, true, true, true, false, false, false, false, false, true, true, false, true, false, false, false, false, false, false, false, false, false, false, false, false, false, false, false, false]
def shwL : List Bool := [false, false, true, false, false, false, false, false, false, false, false, false, false, false, false, false, true, true, true, true, true, false, false, false, false, false, false, false, false, true, false, false]
def shcL : List Int := [1, 1, 2, 3, 3, 2, 2, 1, 1, 1, 1, 1, 1, 1, 1, 1, 2, 2, 2, 2, 4, 4, 3, 3, 1, 1, 5, 1, 6, 2, 0, 5]
def shmL : List (List UInt8) := [[110, 111, 112], [109, 111, 118], [108, 100, 105], [108, 100], [115, 116], [108, 100, 98], [115, 116, 98], [97, 100, 100], [115, 117, 98], [97, 110, 100], [111, 114], [120, 111, 114], [115, 104, 108], [115, 104, 114], [99, 109, 112], [97, 100, 100, 105], [106, 109, 112], [106, 122], [106, 110], [106, 99], [99, 97, 108, 108], [114, 101, 116], [112, 117, 115, 104], [112, 111, 112], [101, 105], [100, 105], [114, 116, 105], [104, 108, 116], [109, 117, 108], [106, 110, 122], [], [116, 114, 97, 112]]
def shCell (k : Nat) : List Value := [.bool (shdL.getD k false), .bool (shsL.getD k false), .bool (shnL.getD k false), .bool (shwL.getD k false), .int .i64 (shcL.getD k 0), .string ⟨(shmL.getD k []).toArray⟩]
def shC : Array Value := ((List.range 32).flatMap shCell).toArray
theorem shC_size : shC.size = 192 := by kernel_rfl
theorem shC_row (k : Nat) (h : k < 32) : (shC.toList.drop (k * 6)).take 6 = shCell k :=
  match k, h with
  | 0, _ => by kernel_rfl
  | 1, _ => by kernel_rfl
  | 2, _ => by kernel_rfl
  | 3, _ => by kernel_rfl
  | 4, _ => by kernel_rfl
  | 5, _ => by kernel_rfl
  | 6, _ => by kernel_rfl
  | 7, _ => by kernel_rfl
  | 8, _ => by kernel_rfl
  | 9, _ => by kernel_rfl
  | 10, _ => by kernel_rfl
  | 11, _ => by kernel_rfl
  | 12, _ => by kernel_rfl
  | 13, _ => by kernel_rfl
  | 14, _ => by kernel_rfl
  | 15, _ => by kernel_rfl
  | 16, _ => by kernel_rfl
  | 17, _ => by kernel_rfl
  | 18, _ => by kernel_rfl
  | 19, _ => by kernel_rfl
  | 20, _ => by kernel_rfl
  | 21, _ => by kernel_rfl
  | 22, _ => by kernel_rfl
  | 23, _ => by kernel_rfl
  | 24, _ => by kernel_rfl
  | 25, _ => by kernel_rfl
  | 26, _ => by kernel_rfl
  | 27, _ => by kernel_rfl
  | 28, _ => by kernel_rfl
  | 29, _ => by kernel_rfl
  | 30, _ => by kernel_rfl
  | 31, _ => by kernel_rfl
  | k + 32, h => absurd h (by omega)
def shZ : Array Value := ((List.range 32).flatMap fun _ => [Value.bool false, .bool false, .bool false, .bool false, .int .i64 0, .string ⟨#[]⟩]).toArray
theorem shapes_any (w : World) : Calls Tryd.prog 36 #[] w fun e w' => e = .returned (.agg shC) ∧ Below w.heap.size w w' := by
  obtain ⟨Z, eZ⟩ : ∃ Z, Z = shZ := ⟨_, rfl⟩
  obtain ⟨C, eC⟩ : ∃ C, C = shC := ⟨_, rfl⟩
  have hz : ∀ w, (zeroValue 82).run Tryd.prog w = .ok (.agg Z) w := fun w => by rw [eZ]; kernel_rfl
  have sZ : Z.size = 192 := by rw [eZ]; kernel_rfl
  have sC : C.size = 192 := by rw [eC]; kernel_rfl
  rw [← eC]
  have hZ := Lib.hid eZ
  have hC := Lib.hid eC
  clear eZ eC
  go_enter Tryd.func36, Tryd.ntmps36
  go_wp2_with (first | (refine bldTo rfl 81 _ rfl (some 1) rfl (shCell 0).toArray (by kernel_rfl) ?_) | (refine bldTo rfl 81 _ rfl (some 2) rfl (shCell 1).toArray (by kernel_rfl) ?_) | (refine bldTo rfl 81 _ rfl (some 3) rfl (shCell 2).toArray (by kernel_rfl) ?_) | (refine bldTo rfl 81 _ rfl (some 4) rfl (shCell 3).toArray (by kernel_rfl) ?_) | (refine bldTo rfl 81 _ rfl (some 5) rfl (shCell 4).toArray (by kernel_rfl) ?_) | (refine bldTo rfl 81 _ rfl (some 6) rfl (shCell 5).toArray (by kernel_rfl) ?_) | (refine bldTo rfl 81 _ rfl (some 7) rfl (shCell 6).toArray (by kernel_rfl) ?_) | (refine bldTo rfl 81 _ rfl (some 8) rfl (shCell 7).toArray (by kernel_rfl) ?_) | (refine bldTo rfl 81 _ rfl (some 9) rfl (shCell 8).toArray (by kernel_rfl) ?_) | (refine bldTo rfl 81 _ rfl (some 10) rfl (shCell 9).toArray (by kernel_rfl) ?_) | (refine bldTo rfl 81 _ rfl (some 11) rfl (shCell 10).toArray (by kernel_rfl) ?_) | (refine bldTo rfl 81 _ rfl (some 12) rfl (shCell 11).toArray (by kernel_rfl) ?_) | (refine bldTo rfl 81 _ rfl (some 13) rfl (shCell 12).toArray (by kernel_rfl) ?_) | (refine bldTo rfl 81 _ rfl (some 14) rfl (shCell 13).toArray (by kernel_rfl) ?_) | (refine bldTo rfl 81 _ rfl (some 15) rfl (shCell 14).toArray (by kernel_rfl) ?_) | (refine bldTo rfl 81 _ rfl (some 16) rfl (shCell 15).toArray (by kernel_rfl) ?_) | (refine bldTo rfl 81 _ rfl (some 17) rfl (shCell 16).toArray (by kernel_rfl) ?_) | (refine bldTo rfl 81 _ rfl (some 18) rfl (shCell 17).toArray (by kernel_rfl) ?_) | (refine bldTo rfl 81 _ rfl (some 19) rfl (shCell 18).toArray (by kernel_rfl) ?_) | (refine bldTo rfl 81 _ rfl (some 20) rfl (shCell 19).toArray (by kernel_rfl) ?_) | (refine bldTo rfl 81 _ rfl (some 21) rfl (shCell 20).toArray (by kernel_rfl) ?_) | (refine bldTo rfl 81 _ rfl (some 22) rfl (shCell 21).toArray (by kernel_rfl) ?_) | (refine bldTo rfl 81 _ rfl (some 23) rfl (shCell 22).toArray (by kernel_rfl) ?_) | (refine bldTo rfl 81 _ rfl (some 24) rfl (shCell 23).toArray (by kernel_rfl) ?_) | (refine bldTo rfl 81 _ rfl (some 25) rfl (shCell 24).toArray (by kernel_rfl) ?_) | (refine bldTo rfl 81 _ rfl (some 26) rfl (shCell 25).toArray (by kernel_rfl) ?_) | (refine bldTo rfl 81 _ rfl (some 27) rfl (shCell 26).toArray (by kernel_rfl) ?_) | (refine bldTo rfl 81 _ rfl (some 28) rfl (shCell 27).toArray (by kernel_rfl) ?_) | (refine bldTo rfl 81 _ rfl (some 29) rfl (shCell 28).toArray (by kernel_rfl) ?_) | (refine bldTo rfl 81 _ rfl (some 30) rfl (shCell 29).toArray (by kernel_rfl) ?_) | (refine bldTo rfl 81 _ rfl (some 31) rfl (shCell 31).toArray (by kernel_rfl) ?_) | (refine bldTo rfl 82 _ rfl (some 32) rfl C (by rw [hC.out]; kernel_rfl) ?_) | (simp only [Act.put, List.setIfInBounds_toArray, List.set_cons_zero, List.set_cons_succ]; refine wpList_storeW rfl 82 (.tmp 0) (.tmp 32) rfl (w.heap.size) C rfl rfl 82 _ (show Blk _ (w.heap.size) Z 82 from (by repeat' (first | (with_reducible first | exact Hid.out (by assumption) | exact Blk.new _ _ _ | (refine Blk.new_at _ _ _ _ ?_; simp; done) | refine Blk.alloc ?_ _ | refine Blk.drewN ?_ _ | refine Blk.drew ?_ | apply Blk.set | refine Blk.put ?_ (by assumption) (by first | (simp; done) | (simp; omega) | omega) | refine Blk.below ?_ (by assumption)) | (refine Blk.setAt ?_ (by first | (simp; done) | (simp; omega))) | rfl))) (by rw [sC]; kernel_rfl) (by rw [sC, sZ]) (by rw [hC.out]; kernel_rfl) ?_; intro w2 hp_w2 K_w2))
  have K7 := (by with_reducible assumption : Hid (Blk _ (w.heap.size) C 82))
  exact bodyPost_ret (results_cell_row Tryd.results36 _ _ (w.heap.size) 82 _ (0, 0) _ rfl (Hid.out K7) Tryd.underlying82 rfl (by rw [sC]; kernel_rfl)) rfl ⟨rfl, by repeat' (first | (with_reducible first | exact Below.refl _ _ | assumption | refine below_alloc ?_ _ | refine Below.drew ?_ | refine Go.Mq.below_drewN ?_ _ | refine below_then ?_ (by assumption) | refine below_put ?_ (by assumption) (by first | (simp; done) | (simp; omega) | omega) | refine Below.setCell ?_ ?_ _) | (simp; done) | (simp; omega) | omega)⟩
end Go.Proofs.YtmpdoiilakjmbaaDoor
