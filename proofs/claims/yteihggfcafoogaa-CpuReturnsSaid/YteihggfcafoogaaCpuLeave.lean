/- A processor leaves for a vector; its signs out of a word; what orders take. Conditions: the bus is one, the fields are words. -/
import Derived.Test.YteihggfcafoogaaCpuCp
namespace Go.Mq
open Go.RowKit
theorem wp_loadA {P : Program} {o : Oper} {a : Act} {w : World} {K : Act → World → Prop} {Q : Exit → Act → World → Prop} (ty : TypeId) (x : Operand) (ho : o.op = .load ty x)
    (g off n : Nat) (hx : a.eval x = .pointer (some ⟨g, off, none⟩)) (t : TypeId) (cs sub : Array Value) (hg : Blk w g cs t) (d : TypeDesc)
    (hu : P.underlying ty = some d) (hd : (match d with | .struct _ | .array _ _ => true | _ => false) = true) (hi : (P.info? ty).map (·.size) = some n) (hsub : (cs.toList.drop off).take n = sub.toList) (hn : sub.toList.length = n)
    (h : K (a.put o.dst (.agg sub)) w) : o.wp P a w K Q := by
  unfold Oper.wp execOp
  simp only [ho, hx, Instr.loadAt, Instr.sureAddr, Sem.run_bind, Sem.run_pure, Result.andThen_ok, run_loadVar_at w g off n t ty cs sub d hg hu hd hi hsub hn]
  exact h
theorem below_drewl {B : Nat} {a b : World} (h : Below B a.drew b) : Below B a b := ⟨h.os, h.tape, h.output, h.size, h.block⟩
def lv1 (c : Cp) : Cp := c.reg 7 (sp c)
def lv2 (c : Cp) : Cp := (lv1 c).reg 7 (sp (lv1 c))
def lvM {σ : Type} (b : Bus σ) (m : σ) (c : Cp) : σ := pW b (pW b m (sp c) c.pc) (sp (lv1 c)) (sgn (lv1 c))
def lvC {σ : Type} (b : Bus σ) (m : σ) (c : Cp) (to : Int) : Cp := { lv2 c with may := false, wt := false, pc := wV b (lvM b m c) to }
def lvS {σ : Type} (b : Bus σ) (m : σ) (c : Cp) (to : Int) : σ := wS b (lvM b m c) to
end Go.Mq
namespace Go.Proofs.Yteihggfcafoogaa
open Go.RowKit Go.Mq
set_option linter.unusedVariables false
set_option linter.unusedSimpArgs false
set_option maxHeartbeats 400000
set_option maxRecDepth 100000

theorem signed_any (c : Cp) (n : Int) (hn : U16 n) (w : World) : Calls Try.prog 40 #[.agg (cpuC c), .int .u16 n] w fun e w' => e = .returned (.agg (cpuC (signedF c n))) ∧ Below w.heap.size w w' := by
  unfold cpuC signedF
  simp only
  have q1 : (bits .and .u16 n 1 != 0) = bitOf n 1 := rfl
  have q2 : (bits .and .u16 n 2 != 0) = bitOf n 2 := rfl
  have q3 : (bits .and .u16 n 4 != 0) = bitOf n 4 := rfl
  have q4 : (bits .and .u16 n 8 != 0) = bitOf n 8 := rfl
  have q5 : (bits .and .u16 n 16 != 0) = bitOf n 16 := rfl
  generalize bitOf n 1 = x1 at *
  generalize bitOf n 2 = x2 at *
  generalize bitOf n 4 = x3 at *
  generalize bitOf n 8 = x4 at *
  generalize bitOf n 16 = x5 at *
  obtain ⟨n0, n1⟩ := hn
  go_enter Try.func40, Try.ntmps40
  go_wp2_with (first | ((with_reducible show wpList _ _ _ _ _ _); refine wpList_loadW rfl 28 (.tmp 2) rfl (w.heap.size) rfl 28 #[.int .u16 (c.r 0), .int .u16 (c.r 1), .int .u16 (c.r 2), .int .u16 (c.r 3), .int .u16 (c.r 4), .int .u16 (c.r 5), .int .u16 (c.r 6), .int .u16 (c.r 7), .int .u16 c.pc, .bool x1, .bool x2, .bool x3, .bool x4, .bool x5, .bool c.wt] (show Blk _ (w.heap.size) #[.int .u16 (c.r 0), .int .u16 (c.r 1), .int .u16 (c.r 2), .int .u16 (c.r 3), .int .u16 (c.r 4), .int .u16 (c.r 5), .int .u16 (c.r 6), .int .u16 (c.r 7), .int .u16 c.pc, .bool x1, .bool x2, .bool x3, .bool x4, .bool x5, .bool c.wt] 28 from (by repeat' (first | (with_reducible first | exact Hid.out (by assumption) | exact Blk.new _ _ _ | (refine Blk.new_at _ _ _ _ ?_; simp; done) | refine Blk.alloc ?_ _ | refine Blk.drewN ?_ _ | refine Blk.drew ?_ | apply Blk.set | refine Blk.put ?_ (by assumption) (by first | (simp; done) | (simp; omega) | omega) | refine Blk.below ?_ (by assumption)) | (refine Blk.setAt ?_ (by first | (simp; done) | (simp; omega))) | rfl))) _ Try.underlying28 rfl (by kernel_rfl) ?_) | ((with_reducible show wpList _ _ _ _ _ _); refine wpList_storeW rfl 28 (.tmp 4) (.tmp 25) rfl (w.heap.size + 1) #[.int .u16 (c.r 0), .int .u16 (c.r 1), .int .u16 (c.r 2), .int .u16 (c.r 3), .int .u16 (c.r 4), .int .u16 (c.r 5), .int .u16 (c.r 6), .int .u16 (c.r 7), .int .u16 c.pc, .bool x1, .bool x2, .bool x3, .bool x4, .bool x5, .bool c.wt] rfl rfl 28 _ (show Blk _ (w.heap.size + 1) #[.int .u16 0, .int .u16 0, .int .u16 0, .int .u16 0, .int .u16 0, .int .u16 0, .int .u16 0, .int .u16 0, .int .u16 0, .bool false, .bool false, .bool false, .bool false, .bool false, .bool false] 28 from (by repeat' (first | (with_reducible first | exact Hid.out (by assumption) | exact Blk.new _ _ _ | (refine Blk.new_at _ _ _ _ ?_; simp; done) | refine Blk.alloc ?_ _ | refine Blk.drewN ?_ _ | refine Blk.drew ?_ | apply Blk.set | refine Blk.put ?_ (by assumption) (by first | (simp; done) | (simp; omega) | omega) | refine Blk.below ?_ (by assumption)) | (refine Blk.setAt ?_ (by first | (simp; done) | (simp; omega))) | rfl))) (by kernel_rfl) rfl (by first | (with_reducible assumption) | simp [Value.oneCell']) ?_; intro w2 hp_w2 K_w2))
  exact bodyPost_ret (results_cell_row Try.results40 _ _ (w.heap.size + 1) 28 _ (0, 0) _ rfl K_w2.out Try.underlying28 rfl (by kernel_rfl)) rfl ⟨rfl, by repeat' (first | (with_reducible first | exact Below.refl _ _ | assumption | refine below_alloc ?_ _ | refine Below.drew ?_ | refine below_drewN ?_ _ | refine below_then ?_ (by assumption) | refine below_put ?_ (by assumption) (by first | (simp; done) | (simp; omega) | omega) | refine Below.setCell ?_ ?_ _) | (simp; done) | (simp; omega) | omega)⟩

theorem leave_any {fg fp : FuncId} {cg cp : Value} {σ : Type} {b : Bus σ} {Rel : World → σ → Prop} {B : Nat} (hb : BusOk Try.prog fg fp cg cp b Rel B) (m : σ) (c : Cp) (hi : c.In) (to : Int) (ht : U16 to) (cb : Nat) (hB : B ≤ cb) (w : World) (hr : Rel w m) (hc : Blk w cb (cpuC c) 28) :
    Calls Try.prog 23 #[.pointer (some ⟨cb, 0, none⟩), .agg #[.func (.func fg) #[] #[cg], .func (.func fp) #[] #[cp]], .int .u16 to] w fun e w' => e = .returned (.tuple #[]) ∧ Blk w' cb (cpuC (lvC b m c to)) 28 ∧ Rel w' (lvS b m c to) ∧ Kp B (· = cb) w w' := by
  have P1 := Lib.hid (fun n hn w' => push_any hb m c hi n hn cb hB w')
  have hi1 : (lv1 c).In := Cp.reg_in hi 7 (sp_u c)
  have P2 := Lib.hid (fun n hn w' => push_any hb (pW b m (sp c) c.pc) (lv1 c) hi1 n hn cb hB w')
  have W := Lib.hid (fun w' => word_any hb (lvM b m c) to ht w')
  have HR := Lib.hid (fun w' (h : Below B w w') => hb.stable w w' m hr h)
  have l0 := hc.lt
  have f0 := hc.free
  have KC := Lib.hid hc
  have g8 : (cpuC c)[8]? = some (.int .u16 c.pc) := rfl
  clear hr hc
  go_enter Try.func23, Try.ntmps23
  go_wp2_with (first | ((with_reducible show wpList _ _ _ _ _ _); refine wpList_loadW rfl 28 (.tmp 2) rfl (w.heap.size) rfl 28 #[.int .u16 (c.r 0), .int .u16 (c.r 1), .int .u16 (c.r 2), .int .u16 (c.r 3), .int .u16 (c.r 4), .int .u16 (c.r 5), .int .u16 (c.r 6), .int .u16 (c.r 7), .int .u16 c.pc, .bool x1, .bool x2, .bool x3, .bool x4, .bool x5, .bool c.wt] (show Blk _ (w.heap.size) #[.int .u16 (c.r 0), .int .u16 (c.r 1), .int .u16 (c.r 2), .int .u16 (c.r 3), .int .u16 (c.r 4), .int .u16 (c.r 5), .int .u16 (c.r 6), .int .u16 (c.r 7), .int .u16 c.pc, .bool x1, .bool x2, .bool x3, .bool x4, .bool x5, .bool c.wt] 28 from (by repeat' (first | (with_reducible first | exact Hid.out (by assumption) | exact Blk.new _ _ _ | (refine Blk.new_at _ _ _ _ ?_; simp; done) | refine Blk.alloc ?_ _ | refine Blk.drewN ?_ _ | refine Blk.drew ?_ | apply Blk.set | refine Blk.put ?_ (by assumption) (by first | (simp; done) | (simp; omega) | omega) | refine Blk.below ?_ (by assumption)) | (refine Blk.setAt ?_ (by first | (simp; done) | (simp; omega))) | rfl))) _ Try.underlying28 rfl (by kernel_rfl) ?_) | ((with_reducible show wpList _ _ _ _ _ _); refine wpList_storeW rfl 28 (.tmp 4) (.tmp 25) rfl (w.heap.size + 1) #[.int .u16 (c.r 0), .int .u16 (c.r 1), .int .u16 (c.r 2), .int .u16 (c.r 3), .int .u16 (c.r 4), .int .u16 (c.r 5), .int .u16 (c.r 6), .int .u16 (c.r 7), .int .u16 c.pc, .bool x1, .bool x2, .bool x3, .bool x4, .bool x5, .bool c.wt] rfl rfl 28 _ (show Blk _ (w.heap.size + 1) #[.int .u16 0, .int .u16 0, .int .u16 0, .int .u16 0, .int .u16 0, .int .u16 0, .int .u16 0, .int .u16 0, .int .u16 0, .bool false, .bool false, .bool false, .bool false, .bool false, .bool false] 28 from (by repeat' (first | (with_reducible first | exact Hid.out (by assumption) | exact Blk.new _ _ _ | (refine Blk.new_at _ _ _ _ ?_; simp; done) | refine Blk.alloc ?_ _ | refine Blk.drewN ?_ _ | refine Blk.drew ?_ | apply Blk.set | refine Blk.put ?_ (by assumption) (by first | (simp; done) | (simp; omega) | omega) | refine Blk.below ?_ (by assumption)) | (refine Blk.setAt ?_ (by first | (simp; done) | (simp; omega))) | rfl))) (by kernel_rfl) rfl (by first | (with_reducible assumption) | simp [Value.oneCell']) ?_; intro w2 hp_w2 K_w2))
  refine wp_mark (R := fun W => Kp B (· = cb) w W ∧ Rel W m ∧ Hid (Blk W cb (cpuC c) 28) ∧ Hid (Blk W w.heap.size #[.func (.func fg) #[] #[cg], .func (.func fp) #[] #[cp]] 52)) ⟨(by repeat' (first | (with_reducible first | exact Kp.refl _ _ _ | assumption | refine Kp.alloc ?_ _ | refine Kp.drew ?_ | refine Kp.drewN ?_ _ | refine Kp.setCell ?_ ?_) | (right; rfl) | (left; simp; done) | (left; omega) | (left; simp; omega))), HR.out _ (by repeat' (first | (with_reducible first | exact Below.refl _ _ | assumption | refine Below.alloc ?_ ?_ _ | refine Below.drew ?_ | refine below_drewN ?_ _ | refine Below.setCell ?_ ?_ _) | (simp; done) | omega | (simp; omega))), Lib.hid (by repeat' (first | (with_reducible first | exact Hid.out (by assumption) | exact Blk.new _ _ _ | (refine Blk.new_at _ _ _ _ ?_; simp; done) | refine Blk.alloc ?_ _ | refine Blk.drewN ?_ _ | refine Blk.drew ?_ | apply Blk.set | refine Blk.put ?_ (by assumption) (by first | (simp; done) | (simp; omega) | omega) | refine Blk.below ?_ (by assumption)) | (refine Blk.setAt ?_ (by first | (simp; done) | (simp; omega))) | rfl)), Lib.hid (by repeat' (first | (with_reducible first | exact Hid.out (by assumption) | exact Blk.new _ _ _ | (refine Blk.new_at _ _ _ _ ?_; simp; done) | refine Blk.alloc ?_ _ | refine Blk.drewN ?_ _ | refine Blk.drew ?_ | apply Blk.set | refine Blk.put ?_ (by assumption) (by first | (simp; done) | (simp; omega) | omega) | refine Blk.below ?_ (by assumption)) | (refine Blk.setAt ?_ (by first | (simp; done) | (simp; omega))) | rfl))⟩ ?_
  intro w1 ⟨hk1, hr1, hc1, hB1⟩
  have hs1 := hk1.size
  have c8 : w1.cell? ⟨cb, 8, none⟩ = some (.int .u16 c.pc) := hc1.out.cell 8
  refine wp_region_held_drew (S := fun W => Blk W (w.heap.size) (#[.func (.func fg) #[] #[cg], .func (.func fp) #[] #[cp]]) 52) (by kernel_rfl) (Blk.drew (show Blk _ (w.heap.size) (#[.func (.func fg) #[] #[cg], .func (.func fp) #[] #[cp]]) 52 from (by repeat' (first | (with_reducible first | exact Hid.out (by assumption) | exact Blk.new _ _ _ | (refine Blk.new_at _ _ _ _ ?_; simp; done) | refine Blk.alloc ?_ _ | refine Blk.drewN ?_ _ | refine Blk.drew ?_ | apply Blk.set | refine Blk.put ?_ (by assumption) (by first | (simp; done) | (simp; omega) | omega) | refine Blk.below ?_ (by assumption)) | (refine Blk.setAt ?_ (by first | (simp; done) | (simp; omega))) | rfl)))) (fun hS => ?_)
  refine wpAnyH_take (i := 0) (v := ?v0_1) rfl (by kernel_rfl) (by kernel_rfl) (by kernel_rfl) (fun _ _ _ h => h) (Or.inl ⟨by rfl, ?y0_1⟩) hS ?_
  case y0_1 => (intro w hSw; go_simp; try with_reducible rfl)
  try simp only [List.getElem_toArray, List.getElem_cons_succ, List.getElem_cons_zero, Act.put, List.setIfInBounds_toArray, List.set_cons_zero, List.set_cons_succ]
  refine wpAnyH_take (i := 1) rfl (by kernel_rfl) (by kernel_rfl) (by kernel_rfl) (fun _ _ _ h => h) (yields_loadA (by rfl) 52 (.tmp 4) rfl (w.heap.size) 0 2 rfl 52 #[.func (.func fg) #[] #[cg], .func (.func fp) #[] #[cp]] #[.func (.func fg) #[] #[cg], .func (.func fp) #[] #[cp]] (fun W hSw => hSw) _ Try.underlying52 rfl (by kernel_rfl) rfl rfl) hS ?_
  try simp only [List.getElem_toArray, List.getElem_cons_succ, List.getElem_cons_zero, Act.put, List.setIfInBounds_toArray, List.set_cons_zero, List.set_cons_succ]
  refine wpAnyH_take (i := 2) (v := ?v2_1) rfl (by kernel_rfl) (by kernel_rfl) (by kernel_rfl) (fun _ _ _ h => h) (Or.inl ⟨by rfl, ?y2_1⟩) hS ?_
  case y2_1 => (intro w hSw; go_simp; try with_reducible rfl)
  try simp only [List.getElem_toArray, List.getElem_cons_succ, List.getElem_cons_zero, Act.put, List.setIfInBounds_toArray, List.set_cons_zero, List.set_cons_succ]
  refine wpAnyH_take (i := 3) (v := ?v3_1) rfl (by kernel_rfl) (by kernel_rfl) (by kernel_rfl) (fun _ _ _ h => h) (Or.inl ⟨by rfl, ?y3_1⟩) hS ?_
  case y3_1 => (intro w hSw; go_simp; try with_reducible rfl)
  try simp only [List.getElem_toArray, List.getElem_cons_succ, List.getElem_cons_zero, Act.put, List.setIfInBounds_toArray, List.set_cons_zero, List.set_cons_succ]
  refine wpAnyH_take (i := 4) (v := ?v4_1) rfl (by kernel_rfl) (by kernel_rfl) (by kernel_rfl) (fun _ _ _ h => h) (Or.inl ⟨by rfl, ?y4_1⟩) hS ?_
  case y4_1 => (intro w hSw; go_simp; try with_reducible rfl)
  try simp only [List.getElem_toArray, List.getElem_cons_succ, List.getElem_cons_zero, Act.put, List.setIfInBounds_toArray, List.set_cons_zero, List.set_cons_succ]
  refine wpAnyH_ready (rs := [5]) (by kernel_rfl) (by simp) (AllReadyH.cons rfl (fun K hK => ?_) AllReadyH.nil)
  go_simp
  refine hK.out _ _ (hS) (fun hS => ?_)
  clear hK K
  try simp only [List.getElem_toArray, List.getElem_cons_succ, List.getElem_cons_zero, Act.put, List.setIfInBounds_toArray, List.set_cons_zero, List.set_cons_succ]
  refine wpAnyH_ready (rs := [6]) (by kernel_rfl) (by simp) (AllReadyH.cons rfl (fun K hK => ?_) AllReadyH.nil)
  go_simp
  refine (P1.out c.pc hi.2 _ (hb.stable _ _ _ hr1 (by repeat' (first | (with_reducible first | exact Below.refl _ _ | assumption | refine Below.alloc ?_ ?_ _ | refine Below.drew ?_ | refine below_drewN ?_ _ | refine Below.setCell ?_ ?_ _) | (simp; done) | omega | (simp; omega)))) hc1.out.drew).mono ?_
  rintro e w2 ⟨rfl, hc2, hr2, hk2⟩
  try go_wp2_with fail
  refine hK.out _ _ (hS.kp hk2 (by omega) (by show ¬ (_ = _); omega)) (fun hS => ?_)
  clear hK K
  try simp only [List.getElem_toArray, List.getElem_cons_succ, List.getElem_cons_zero, Act.put, List.setIfInBounds_toArray, List.set_cons_zero, List.set_cons_succ]
  refine wpAnyH_done (by kernel_rfl) ?_ _
  have hB2 := Lib.hid hS
  have hk2' := hk1.drew.then hk2 (fun _ _ h => h)
  have hs2 := hk2'.size
  clear hS c8
  go_wp2_with (first | ((with_reducible show wpList _ _ _ _ _ _); refine wpList_loadW rfl 28 (.tmp 2) rfl (w.heap.size) rfl 28 #[.int .u16 (c.r 0), .int .u16 (c.r 1), .int .u16 (c.r 2), .int .u16 (c.r 3), .int .u16 (c.r 4), .int .u16 (c.r 5), .int .u16 (c.r 6), .int .u16 (c.r 7), .int .u16 c.pc, .bool x1, .bool x2, .bool x3, .bool x4, .bool x5, .bool c.wt] (show Blk _ (w.heap.size) #[.int .u16 (c.r 0), .int .u16 (c.r 1), .int .u16 (c.r 2), .int .u16 (c.r 3), .int .u16 (c.r 4), .int .u16 (c.r 5), .int .u16 (c.r 6), .int .u16 (c.r 7), .int .u16 c.pc, .bool x1, .bool x2, .bool x3, .bool x4, .bool x5, .bool c.wt] 28 from (by repeat' (first | (with_reducible first | exact Hid.out (by assumption) | exact Blk.new _ _ _ | (refine Blk.new_at _ _ _ _ ?_; simp; done) | refine Blk.alloc ?_ _ | refine Blk.drewN ?_ _ | refine Blk.drew ?_ | apply Blk.set | refine Blk.put ?_ (by assumption) (by first | (simp; done) | (simp; omega) | omega) | refine Blk.below ?_ (by assumption)) | (refine Blk.setAt ?_ (by first | (simp; done) | (simp; omega))) | rfl))) _ Try.underlying28 rfl (by kernel_rfl) ?_) | ((with_reducible show wpList _ _ _ _ _ _); refine wpList_storeW rfl 28 (.tmp 4) (.tmp 25) rfl (w.heap.size + 1) #[.int .u16 (c.r 0), .int .u16 (c.r 1), .int .u16 (c.r 2), .int .u16 (c.r 3), .int .u16 (c.r 4), .int .u16 (c.r 5), .int .u16 (c.r 6), .int .u16 (c.r 7), .int .u16 c.pc, .bool x1, .bool x2, .bool x3, .bool x4, .bool x5, .bool c.wt] rfl rfl 28 _ (show Blk _ (w.heap.size + 1) #[.int .u16 0, .int .u16 0, .int .u16 0, .int .u16 0, .int .u16 0, .int .u16 0, .int .u16 0, .int .u16 0, .int .u16 0, .bool false, .bool false, .bool false, .bool false, .bool false, .bool false] 28 from (by repeat' (first | (with_reducible first | exact Hid.out (by assumption) | exact Blk.new _ _ _ | (refine Blk.new_at _ _ _ _ ?_; simp; done) | refine Blk.alloc ?_ _ | refine Blk.drewN ?_ _ | refine Blk.drew ?_ | apply Blk.set | refine Blk.put ?_ (by assumption) (by first | (simp; done) | (simp; omega) | omega) | refine Blk.below ?_ (by assumption)) | (refine Blk.setAt ?_ (by first | (simp; done) | (simp; omega))) | rfl))) (by kernel_rfl) rfl (by first | (with_reducible assumption) | simp [Value.oneCell']) ?_; intro w2 hp_w2 K_w2))
  refine wp_region_held_drew (S := fun W => Blk W (w.heap.size) (#[.func (.func fg) #[] #[cg], .func (.func fp) #[] #[cp]]) 52) (by kernel_rfl) (Blk.drew (show Blk _ (w.heap.size) (#[.func (.func fg) #[] #[cg], .func (.func fp) #[] #[cp]]) 52 from (by repeat' (first | (with_reducible first | exact Hid.out (by assumption) | exact Blk.new _ _ _ | (refine Blk.new_at _ _ _ _ ?_; simp; done) | refine Blk.alloc ?_ _ | refine Blk.drewN ?_ _ | refine Blk.drew ?_ | apply Blk.set | refine Blk.put ?_ (by assumption) (by first | (simp; done) | (simp; omega) | omega) | refine Blk.below ?_ (by assumption)) | (refine Blk.setAt ?_ (by first | (simp; done) | (simp; omega))) | rfl)))) (fun hS => ?_)
  refine wpAnyH_take (i := 0) (v := ?v0_2) rfl (by kernel_rfl) (by kernel_rfl) (by kernel_rfl) (fun _ _ _ h => h) (Or.inl ⟨by rfl, ?y0_2⟩) hS ?_
  case y0_2 => (intro w hSw; go_simp; try with_reducible rfl)
  try simp only [List.getElem_toArray, List.getElem_cons_succ, List.getElem_cons_zero, Act.put, List.setIfInBounds_toArray, List.set_cons_zero, List.set_cons_succ]
  refine wpAnyH_take (i := 1) rfl (by kernel_rfl) (by kernel_rfl) (by kernel_rfl) (fun _ _ _ h => h) (yields_loadA (by rfl) 52 (.tmp 4) rfl (w.heap.size) 0 2 rfl 52 #[.func (.func fg) #[] #[cg], .func (.func fp) #[] #[cp]] #[.func (.func fg) #[] #[cg], .func (.func fp) #[] #[cp]] (fun W hSw => hSw) _ Try.underlying52 rfl (by kernel_rfl) rfl rfl) hS ?_
  try simp only [List.getElem_toArray, List.getElem_cons_succ, List.getElem_cons_zero, Act.put, List.setIfInBounds_toArray, List.set_cons_zero, List.set_cons_succ]
  refine wpAnyH_take (i := 2) (v := ?v2_2) rfl (by kernel_rfl) (by kernel_rfl) (by kernel_rfl) (fun _ _ _ h => h) (Or.inl ⟨by rfl, ?y2_2⟩) hS ?_
  case y2_2 => (intro w hSw; go_simp; try with_reducible rfl)
  try simp only [List.getElem_toArray, List.getElem_cons_succ, List.getElem_cons_zero, Act.put, List.setIfInBounds_toArray, List.set_cons_zero, List.set_cons_succ]
  refine wpAnyH_take (i := 3) (v := ?v3_2) rfl (by kernel_rfl) (by kernel_rfl) (by kernel_rfl) (fun _ _ _ h => h) (Or.inl ⟨by rfl, ?y3_2⟩) hS ?_
  case y3_2 => (intro w hSw; go_simp; try with_reducible rfl)
  try simp only [List.getElem_toArray, List.getElem_cons_succ, List.getElem_cons_zero, Act.put, List.setIfInBounds_toArray, List.set_cons_zero, List.set_cons_succ]
  refine wpAnyH_ready (rs := [4]) (by kernel_rfl) (by simp) (AllReadyH.cons rfl (fun K hK => ?_) AllReadyH.nil)
  rw [if_pos (by rfl)]
  refine wp_loadA 28 (.tmp 16) rfl (cb) 0 15 rfl 28 (cpuC (lv1 c)) (cpuC (lv1 c)) (hc2.drew) _ Try.underlying28 rfl (by kernel_rfl) rfl rfl ?_
  refine hK.out _ _ hS (fun hS => ?_)
  clear hK K
  try simp only [List.getElem_toArray, List.getElem_cons_succ, List.getElem_cons_zero, Act.put, List.setIfInBounds_toArray, List.set_cons_zero, List.set_cons_succ]
  refine wpAnyH_ready (rs := [5]) (by kernel_rfl) (by simp) (AllReadyH.cons rfl (fun K hK => ?_) AllReadyH.nil)
  go_simp
  refine (sign_any (lv1 c) _).mono ?_
  rintro e w3 ⟨rfl, hb3⟩
  try go_wp2_with fail
  refine hK.out _ _ (hS.below hb3) (fun hS => ?_)
  clear hK K
  try simp only [List.getElem_toArray, List.getElem_cons_succ, List.getElem_cons_zero, Act.put, List.setIfInBounds_toArray, List.set_cons_zero, List.set_cons_succ]
  refine wpAnyH_ready (rs := [6]) (by kernel_rfl) (by simp) (AllReadyH.cons rfl (fun K hK => ?_) AllReadyH.nil)
  go_simp
  refine (P2.out (sgn (lv1 c)) (sgn_u _) _ (hb.stable _ _ _ hr2 (below_drewl (hb3.mono (by first | omega | (simp; omega))))) (hc2.drew.below hb3)).mono ?_
  rintro e w4 ⟨rfl, hc4, hr4, hk4⟩
  try go_wp2_with fail
  refine hK.out _ _ (hS.kp hk4 (by omega) (by show ¬ (_ = _); omega)) (fun hS => ?_)
  clear hK K
  try simp only [List.getElem_toArray, List.getElem_cons_succ, List.getElem_cons_zero, Act.put, List.setIfInBounds_toArray, List.set_cons_zero, List.set_cons_succ]
  refine wpAnyH_done (by kernel_rfl) ?_ _
  have hk4' := (hk2'.drew.below hb3 (by first | omega | (simp; omega))).then hk4 (fun _ _ h => h)
  have KB4 := Lib.hid hS
  have KC4 := Lib.hid hc4
  have hs4 := hk4'.size
  have l4 := hc4.lt
  have f4 := hc4.free
  have c8 : w4.cell? ⟨cb, 8, none⟩ = some (.int .u16 c.pc) := hc4.cell 8
  have c13 : w4.cell? ⟨cb, 13, none⟩ = some (.bool c.may) := hc4.cell 13
  have c14 : w4.cell? ⟨cb, 14, none⟩ = some (.bool c.wt) := hc4.cell 14
  clear hS hB2
  obtain ⟨lB, cB, fB⟩ := KB4.out.use
  go_wp2_with (first | ((with_reducible show wpList _ _ _ _ _ _); refine wpList_loadW rfl 52 (.tmp 4) rfl (w.heap.size) rfl 52 #[.func (.func fg) #[] #[cg], .func (.func fp) #[] #[cp]] (show Blk _ (w.heap.size) #[.func (.func fg) #[] #[cg], .func (.func fp) #[] #[cp]] 52 from (by repeat' (first | (with_reducible first | exact Hid.out (by assumption) | exact Blk.new _ _ _ | (refine Blk.new_at _ _ _ _ ?_; simp; done) | refine Blk.alloc ?_ _ | refine Blk.drewN ?_ _ | refine Blk.drew ?_ | apply Blk.set | refine Blk.put ?_ (by assumption) (by first | (simp; done) | (simp; omega) | omega) | refine Blk.below ?_ (by assumption)) | (refine Blk.setAt ?_ (by first | (simp; done) | (simp; omega))) | rfl))) _ Try.underlying52 rfl (by kernel_rfl) ?_))
  refine (W.out _ (hb.stable _ _ _ hr4 (by repeat' (first | (with_reducible first | exact Below.refl _ _ | assumption | refine Below.alloc ?_ ?_ _ | refine Below.drew ?_ | refine below_drewN ?_ _ | refine Below.setCell ?_ ?_ _) | (simp; done) | omega | (simp; omega)))) (by first | omega | (simp; omega))).mono ?_
  rintro e w5 ⟨rfl, hr5, hk5⟩
  have hc5 : Blk w5 cb (cpuC { lv2 c with may := false, wt := false }) 28 := Blk.kp (show Blk _ cb (cpuC { lv2 c with may := false, wt := false }) 28 from (by repeat' (first | (with_reducible first | exact Hid.out (by assumption) | exact Blk.new _ _ _ | (refine Blk.new_at _ _ _ _ ?_; simp; done) | refine Blk.alloc ?_ _ | refine Blk.drewN ?_ _ | refine Blk.drew ?_ | apply Blk.set | refine Blk.put ?_ (by assumption) (by first | (simp; done) | (simp; omega) | omega) | refine Blk.below ?_ (by assumption)) | (refine Blk.setAt ?_ (by first | (simp; done) | (simp; omega))) | rfl))) hk5 (by omega) id
  have hk5' : Kp B (· = cb) w w5 := Kp.then (by repeat' (first | (with_reducible first | exact Kp.refl _ _ _ | assumption | refine Kp.alloc ?_ _ | refine Kp.drew ?_ | refine Kp.drewN ?_ _ | refine Kp.setCell ?_ ?_) | (right; rfl) | (left; simp; done) | (left; omega) | (left; simp; omega))) hk5 (fun _ _ h => h.elim)
  have KC5 := Lib.hid hc5
  have hs5 := hk5'.size
  have l5 := hc5.lt
  have f5 := hc5.free
  have c85 : w5.cell? ⟨cb, 8, none⟩ = some (.int .u16 c.pc) := hc5.cell 8
  clear c8 c13 c14 f4 cB fB
  go_wp2_with (first | ((with_reducible show wpList _ _ _ _ _ _); refine wpList_loadW rfl 52 (.tmp 4) rfl (w.heap.size) rfl 52 #[.func (.func fg) #[] #[cg], .func (.func fp) #[] #[cp]] (show Blk _ (w.heap.size) #[.func (.func fg) #[] #[cg], .func (.func fp) #[] #[cp]] 52 from (by repeat' (first | (with_reducible first | exact Hid.out (by assumption) | exact Blk.new _ _ _ | (refine Blk.new_at _ _ _ _ ?_; simp; done) | refine Blk.alloc ?_ _ | refine Blk.drewN ?_ _ | refine Blk.drew ?_ | apply Blk.set | refine Blk.put ?_ (by assumption) (by first | (simp; done) | (simp; omega) | omega) | refine Blk.below ?_ (by assumption)) | (refine Blk.setAt ?_ (by first | (simp; done) | (simp; omega))) | rfl))) _ Try.underlying52 rfl (by kernel_rfl) ?_) | go_in)
  exact bodyPost_end (results_none rfl _ _ _) rfl ⟨rfl, (by repeat' (first | (with_reducible first | exact Hid.out (by assumption) | exact Blk.new _ _ _ | (refine Blk.new_at _ _ _ _ ?_; simp; done) | refine Blk.alloc ?_ _ | refine Blk.drewN ?_ _ | refine Blk.drew ?_ | apply Blk.set | refine Blk.put ?_ (by assumption) (by first | (simp; done) | (simp; omega) | omega) | refine Blk.below ?_ (by assumption)) | (refine Blk.setAt ?_ (by first | (simp; done) | (simp; omega))) | rfl)), hb.stable _ _ _ hr5 (by repeat' (first | (with_reducible first | exact Below.refl _ _ | assumption | refine Below.alloc ?_ ?_ _ | refine Below.drew ?_ | refine below_drewN ?_ _ | refine Below.setCell ?_ ?_ _) | (simp; done) | omega | (simp; omega))), (by repeat' (first | (with_reducible first | exact Kp.refl _ _ _ | assumption | refine Kp.alloc ?_ _ | refine Kp.drew ?_ | refine Kp.drewN ?_ _ | refine Kp.setCell ?_ ?_) | (right; rfl) | (left; simp; done) | (left; omega) | (left; simp; omega)))⟩
end Go.Proofs.Yteihggfcafoogaa
