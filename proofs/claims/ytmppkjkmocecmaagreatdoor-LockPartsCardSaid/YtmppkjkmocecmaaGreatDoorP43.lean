/- What was shown, twice the same: slices.Equal at lines and at writes. Conditions: both lie in memory; at most a million lines and writes. -/
import Derived.Test.YtmppkjkmocecmaaGreatDoorSq
import Derived.Test.YtmppkjkmocecmaaGreatDoorP42
import Derived.Test.YtmppkjkmocecmaaGreatDoorP26
import Derived.ChangeKeysEq
import Derived.Laws.StructEq
import Derived.Test.YtmppkjkmocecmaaGreatDoorRows
import Derived.Test.YtmppkjkmocecmaaGreatDoorBase
import Derived.Laws.BytesArg
import Derived.Lib.Bytes
import Derived.Test.YtmppkjkmocecmaaGreatDoorSh
import Derived.LoopTactic
import Derived.Deep.CutRange
set_option linter.unusedVariables false
set_option linter.unusedSimpArgs false
set_option maxHeartbeats 1000000
set_option maxRecDepth 100000
namespace Go.Mq
open Go.RowKit
theorem lnsC_at : ∀ (ls : List Ln), (∀ x ∈ ls, x.Ok) → ∀ k, k < ls.length → ∀ j u, (lineC (ls.getD k Ln0)).toList[j]? = some u → (ls.flatMap fun x => (lineC x).toList)[k * 18 + j]? = some u
 | [], _, k, h, _, _, _ => absurd h (Nat.not_lt_zero _)
 | x :: t, ok, 0, _, j, u, hj => by
  show ((lineC x).toList ++ t.flatMap fun x => (lineC x).toList)[0 * 18 + j]? = _
  have hl : j < (lineC x).toList.length := by
   rcases Nat.lt_or_ge j (lineC x).toList.length with h | h
   ·exact h
   ·have hj : (lineC x).toList[j]? = some u := hj
    rw [List.getElem?_eq_none h] at hj; cases hj
  rw [List.getElem?_append_left kO, Nat.zero_mul, Nat.zero_add]
  exact hj
 | x :: t, ok, k + 1, h, j, u, hj => by
  have hx := (line_facts (ok x kS)).1
  have ih := lnsC_at t (fun y hy => ok y (by simp [hy])) k (by simpa using h) j u hj
  show ((lineC x).toList ++ t.flatMap fun x => (lineC x).toList)[(k + 1) * 18 + j]? = _
  rw [List.getElem?_append_right (by rw [Array.length_toList, hx]; omega), Array.length_toList, hx, show (k + 1) * 18 + j - 18 = k * 18 + j by omega]
  exact ih
def Wr0 : Wr := ⟨0, 0, 0⟩
def wrA (x : Wr) : Array Value := #[.int .i64 x.ck, .int .i64 x.at', .int .u8 x.v]
theorem wrC_at : ∀ (ls : List Wr) (k : Nat), k < ls.length → ∀ j u, (wrA (ls.getD k Wr0)).toList[j]? = some u → (wrC ls)[k * 3 + j]? = some u
 | [], k, h, _, _, _ => absurd h (Nat.not_lt_zero _)
 | x :: t, 0, _, j, u, hj => by
  show ((wrA x).toList ++ wrC t)[0 * 3 + j]? = _
  have hl : j < (wrA x).toList.length := by
   rcases Nat.lt_or_ge j (wrA x).toList.length with h | h
   ·exact h
   ·have hj : (wrA x).toList[j]? = some u := hj
    rw [List.getElem?_eq_none h] at hj; cases hj
  rw [List.getElem?_append_left kO, Nat.zero_mul, Nat.zero_add]
  exact hj
 | x :: t, k + 1, h, j, u, hj => by
  have ih := wrC_at t k (by simpa using h) j u hj
  show ((wrA x).toList ++ wrC t)[(k + 1) * 3 + j]? = _
  rw [List.getElem?_append_right (by show 3 ≤ _; omega), show (k + 1) * 3 + j - (wrA x).toList.length = k * 3 + j by show (k + 1) * 3 + j - 3 = _; omega]
  exact ih
theorem wrC_one : ∀ (l : List Wr), ∀ u ∈ wrC l, u.oneCell' = true
 | [], u, h => by cases h
 | x :: t, u, h => by
  rcases List.mem_append.1 h with h | h
  ·simp only [List.mem_cons, List.not_mem_nil, or_false] at h
   rcases h with rfl | rfl | rfl <;> rfl
  ·exact wrC_one t u h
theorem lnsC_one (l : List Ln) : ∀ u ∈ l.flatMap (fun x => (lineC x).toList), u.oneCell' = true := fun u h => by
 obtain ⟨x, _, hx⟩ := List.mem_flatMap.1 h
 simp only [lineC, List.toList_toArray, List.mem_cons, List.mem_map] at hx
 rcases hx with rfl | rfl | ⟨q, _, rfl⟩ <;> rfl
end Go.Mq
namespace Go.Proofs.YtmppkjkmocecmaaGreatDoor
open Go.RowKit Go.Mq
theorem Lns.row {w : World} {B : Nat} {v : Value} {l : List Ln} (h : Lns w B v l) : RowAt w 18 v l.length (lnsC l) := own_rowAt h (lnsC_one l)
theorem Sms.row {w : World} {B : Nat} {v : Value} {l : List Int} (h : Sms w B v l) : RowAt w 1 v l.length (l.map (Value.int .u8)) := own_rowAt h (fun u hu => by obtain ⟨x, _, rfl⟩ := List.mem_map.1 hu; rfl)
theorem Wrs.row {w : World} {B : Nat} {v : Value} {l : List Wr} (h : Wrs w B v l) : RowAt w 3 v l.length (wrC l) := own_rowAt h (wrC_one l)
theorem pix_self (xs : List Int) (hl : xs.length = 16) (w : World) : (Op.equalIn 9999 57 (.agg (xs.map (Value.int .u8)).toArray) (.agg (xs.map (Value.int .u8)).toArray)).run Tryz.prog w = .ok true w := by
 obtain ⟨i, hi⟩ : ∃ i, (Tryz.prog).info? 5 = some i := Option.isSome_iff_exists.1 kR
 rw [run_equalIn_array w 9998 _ _ Tryz.underlying57 hi]
 have hc : (Tryz.prog).cellsOf 5 = 1 := by kernel_rfl
 rw [hc]
 match xs, hl with
 | [a0, a1, a2, a3, a4, a5, a6, a7, a8, a9, b0, b1, b2, b3, b4, b5], _ =>
  simp [Op.eqItems, List.range, List.range.loop, go_sem]
theorem line_self (x : Ln) (hx : x.Ok) (w : World) : (Op.equalIn 10000 59 (.agg (lineC x)) (.agg (lineC x))).run Tryz.prog w = .ok true w := by
 have H := pix_self x.px hx.2.2.1 w
 have hf : (Tryz.prog).underlying 59 = some (.struct ((Tryz.prog).fieldsOf 59)) := by kernel_rfl
 rw [run_equalIn_struct w 9999 _ _ _ hf kR]
 obtain ⟨p0, p1, p2, p3, p4, p5, p6, p7, p8, p9, pa, pb, pc, pd, pe, pf, e⟩ := row_16 hx.2.2.1
 unfold lineC
 rw [e] at H ⊢
 simp [Program.fieldsOf, Tryz.underlying59, Op.eqFields, go_sem] at H ⊢
 simp [H, go_sem]
theorem wr_self (x : Wr) (w : World) : (Op.equalIn 10000 68 (.agg (wrA x)) (.agg (wrA x))).run Tryz.prog w = .ok true w := by
 have hf : (Tryz.prog).underlying 68 = some (.struct ((Tryz.prog).fieldsOf 68)) := by kernel_rfl
 rw [run_equalIn_struct w 9999 _ _ _ hf kR]
 unfold wrA
 simp [Program.fieldsOf, Tryz.underlying68, Op.eqFields, go_sem]
theorem px_at (px : List Int) {j : Nat} (h : j < px.length) : (px[j]?).map (Value.int .u8) = some (Value.int .u8 (px.getD j 0)) := by
 rw [List.getD_eq_getElem?_getD, List.getElem?_eq_getElem h]
 rfl
theorem Lns.lines {w : World} {B : Nat} {v : Value} {l : List Ln} (h : Lns w B v l) (hok : ∀ x ∈ l, x.Ok) : LinesAt w v l := by
 obtain ⟨a, cap, rfl, h1, h2, h3, h4, h5⟩ := h.row
 refine ⟨a, cap, rfl, h1, h2, hok, fun h0 => ?_⟩
 obtain ⟨b, rfl, hl, hc⟩ := h5 h0
 refine ⟨b, 0, rfl, hl, fun i hi => ?_⟩
 have hx : (l.getD i Ln0).Ok := lines_ok hok hi
 have hat := fun j u hj => hc (i * 18 + j) u (lnsC_at l hok i hi j u hj)
 obtain ⟨f1, f2, f3, f4, f5, f6, f7⟩ := line_facts hx
 refine ⟨?_, ?_, fun j hj => ?_⟩
 ·have := hat 0 (.int .i64 (l.getD i Ln0).fr) (by rw [← Array.getElem?_toList] at f3; exact f3)
  rw [Nat.zero_add]
  exact this
 ·have := hat 1 (.int .i64 (l.getD i Ln0).ln) (by rw [← Array.getElem?_toList] at f4; exact f4)
  rw [Nat.zero_add]
  exact this
 ·have hp : j < (l.getD i Ln0).px.length := by rw [hx.2.2.1]; exact hj
  have := hat (2 + j) (.int .u8 ((l.getD i Ln0).px.getD j 0)) (by
   unfold lineC
   rw [List.toList_toArray, Nat.add_comm 2 j, List.getElem?_cons_succ, List.getElem?_cons_succ, List.getElem?_map]
   exact px_at _ hp)
  rw [Nat.zero_add]
  exact this
theorem conv_any {w : World} {v : Value} {xs : List Int} (h : SliceAt w .u8 v xs) : (convert 26 9 v).run Tryz.prog w = .ok (.string (strOfNums xs)) w := by
 obtain ⟨a, cap, rfl, h1, h2, hwf, h3⟩ := h
 by_cases h0 : 0 < xs.length
 ·obtain ⟨b, off, rfl, hlt, hc⟩ := h3 h0
  exact run_convert_bytes_arg w _ _ Tryz.underlying26 Tryz.underlying5 b off xs.length cap xs rfl hc _ Tryz.underlying9
 ·have hn : xs = [] := List.length_eq_zero_iff.1 kO
  subst hn
  cases a with
  | none => exact run_convert_bytes_nil w _ _ Tryz.underlying26 Tryz.underlying5 0 cap _ Tryz.underlying9
  | some ad =>
   rw [run_convert_bytes_string w _ _ _ _ _ _ Tryz.underlying26 Tryz.underlying5 Tryz.underlying9]
   have hl : (loadCells ad 0).run Tryz.prog w = .ok #[] w := rfl
   simp [Conv.bytesToString, hl, strOfNums]
   rfl
theorem byte_in {x : Int} (h : (Lit.int .u8 x).wf = true) : 0 ≤ x ∧ x ≤ 255 := by
 have := bounds_u8 h
 omega
theorem str_inj {xs ys : List Int} (hx : ∀ x ∈ xs, (Lit.int .u8 x).wf = true) (hy : ∀ x ∈ ys, (Lit.int .u8 x).wf = true) (h : (strOfNums xs).toList = (strOfNums ys).toList) : xs = ys := by
 have h' := h
 rw [Lib.strOfNums_toList, Lib.strOfNums_toList] at h'
 unfold Lib.bytesOf at h'
 clear h
 induction xs generalizing ys with
 | nil => cases ys with
  | nil => rfl
  | cons y ys => simp at h'
 | cons x xs ih =>
  cases ys with
  | nil => simp at h'
  | cons y ys =>
   simp only [List.map_cons, List.cons.injEq] at h'
   have b1 := byte_in (hx x kS)
   have b2 := byte_in (hy y kS)
   have e : x = y := by
    have := congrArg UInt8.toNat h'.1
    simp at this
    omega
   rw [e, ih (fun z hz => hx z (by simp [hz])) (fun z hz => hy z (by simp [hz])) h'.2]
theorem str_eq {xs ys : List Int} (hx : ∀ x ∈ xs, (Lit.int .u8 x).wf = true) (hy : ∀ x ∈ ys, (Lit.int .u8 x).wf = true) : ((strOfNums xs).toList == (strOfNums ys).toList) = decide (xs = ys) := by
 by_cases h : xs = ys
 ·subst h; simp
 ·rw [decide_eq_false h, beq_eq_false_iff_ne]
  exact fun e => h (str_inj hx hy e)
theorem bytesEqual_any (v u : Value) (xs ys : List Int) (w : World) (h1 : SliceAt w .u8 v xs) (h2 : SliceAt w .u8 u ys) :
  Calls Tryz.prog 11 #[v, u] w fun e w' => e = .returned (.bool (decide (xs = ys))) ∧ w = w' := by
 have c1 := conv_any h1
 have c2 := conv_any h2
 have hw : ∀ {v : Value} {xs : List Int}, SliceAt w .u8 v xs → ∀ x ∈ xs, (Lit.int .u8 x).wf = true := fun h => by obtain ⟨_, _, _, _, _, hwf, _⟩ := h; exact hwf
 have he := str_eq (hw h1) (hw h2)
 obtain ⟨a, cap, rfl, h1', -⟩ := h1
 obtain ⟨a', cap', rfl, h2', -⟩ := h2
 generalize strOfNums xs = S1 at *
 generalize strOfNums ys = S2 at *
 rw [← he]
 clear he hw
 go_enter Tryz.func11, Tryz.ntmps11
 go_wp2
 go_ret
 exact ⟨rfl, rfl⟩
end Go.Proofs.YtmppkjkmocecmaaGreatDoor
namespace Go.Mq
open Go.RowKit
theorem RowAt.at' {w : World} {sz n : Nat} {a : Option Addr} {cap : Nat} {cs : List Value} (h : RowAt w sz (.slice a n cap) n cs) (h0 : 0 < n) : ∃ b off, a = some ⟨b, off, none⟩ ∧ b < w.heap.size ∧ ∀ j u, cs[j]? = some u → w.cell? ⟨b, off + j, none⟩ = some u := by
 obtain ⟨a', cap', e, -, -, -, -, h⟩ := h
 injection e with e1 e2 e3
 subst e1
 obtain ⟨b, e, hl, hc⟩ := h h0
 exact ⟨b, 0, e, hl, fun j u hj => by rw [Nat.zero_add]; exact hc j u hj⟩
theorem yields_loadC {P : Program} {ops : Array Oper} {S : World → Prop} {oi : Oper} {a : Act} (hw : Region.wanted oi (yielded ops a.tmps) = true) (ty : TypeId) (x : Operand) (ho : oi.op = .load ty x)
  (ad : Addr) (hx : a.eval x = .pointer (some ad)) (cs : Array Value) (hS : ∀ w, S w → ∀ j u, cs.toList[j]? = some u → w.cell? (ad.add j) = some u) (d : TypeDesc)
  (hu : P.underlying ty = some d) (hd : (match d with | .struct _ | .array _ _ => true | _ => false) = true) (hi : (P.info? ty).map (·.size) = some cs.size) :
  YieldsIf P ops S oi (.agg cs) a := by
 refine Or.inl ⟨hw, fun w hSw => ?_⟩
 unfold execOp
 simp only [ho, hx, Instr.loadAt, Instr.sureAddr, Sem.run_bind, Sem.run_pure, Result.andThen_ok, run_loadVar_c w ad ty cs d (hS w hSw) hu hd hi]
/-- two elements that are the same, in memory -/
def EqS (w W : World) (b1 o1 b2 o2 k : Nat) (Y : Array Value) : Prop := (∀ j u, Y.toList[j]? = some u → W.cell? (Addr.add ⟨b1, o1 + k, none⟩ j) = some u) ∧ (∀ j u, Y.toList[j]? = some u → W.cell? (Addr.add ⟨b2, o2 + k, none⟩ j) = some u) ∧ Below w.heap.size w W
theorem RowAt.one {w : World} {sz n : Nat} {v : Value} {cs : List Value} (h : RowAt w sz v n cs) : v.oneCell' = true := by
 obtain ⟨a, cap, rfl, -⟩ := h
 rfl
end Go.Mq
namespace Go.Proofs.YtmppkjkmocecmaaGreatDoor
open Go.RowKit Go.Mq
theorem lnEq_same (v u : Value) (xs : List Ln) (w : World) (h : RowAt w 18 v xs.length (lnsC xs)) (g : RowAt w 18 u xs.length (lnsC xs)) (hok : ∀ x ∈ xs, x.Ok) (hl : xs.length ≤ 1000000) :
  Calls Tryz.prog 42 #[v, u] w fun e w' => e = .returned (.bool true) ∧ Below w.heap.size w w' := by
 have HO := Lib.hid hok
 have H0 := Lib.hid h
 have G0 := Lib.hid g
 obtain ⟨a, ca, rfl, h1, h2, -⟩ := h
 obtain ⟨b, cb, rfl, g1, g2, -⟩ := g
 have H3 := Lib.hid (fun h => H0.out.at' h)
 have G3 := Lib.hid (fun h => G0.out.at' h)
 clear hok H0 G0
 go_enter Tryz.func42, Tryz.ntmps42
 go_wp2
 go_loopw [13] (fun i wr => ∃ k : Nat, k ≤ xs.length ∧ i = .int .i64 k ∧ Below w.heap.size w wr) (fun i _ => (xs.length - intOf i).toNat)
 case atStart => exact ⟨0, by omega, rfl, Below.refl _ _⟩
 case round =>
  obtain ⟨k, hk, rfl, hbr⟩ := hrel
  by_cases hkn : k < xs.length
  ·obtain ⟨b1, o1, rfl, l1, c1⟩ := H3.out kO
   obtain ⟨b2, o2, rfl, l2, c2⟩ := G3.out kO
   have hki : (k : Int) < xs.length := by omega
   have hx1 : ∀ j u, (lineC (xs.getD k Ln0)).toList[j]? = some u → wr.cell? (Addr.add ⟨b1, o1 + k * 18, none⟩ j) = some u := fun j u hj => by
    rw [Addr.add_lit, Nat.add_assoc]
    exact (hbr.cell (p := ⟨b1, _, none⟩) l1).trans (c1 _ u (lnsC_at xs HO.out k hkn j u hj))
   have hx2 : ∀ j u, (lineC (xs.getD k Ln0)).toList[j]? = some u → wr.cell? (Addr.add ⟨b2, o2 + k * 18, none⟩ j) = some u := fun j u hj => by
    rw [Addr.add_lit, Nat.add_assoc]
    exact (hbr.cell (p := ⟨b2, _, none⟩) l2).trans (c2 _ u (lnsC_at xs HO.out k hkn j u hj))
   have EX := fun w => line_self (xs.getD k Ln0) (lines_ok HO.out hkn) w
   have CZ : Hid ((lineC (xs.getD k Ln0)).size = 18) := Lib.hid (line_facts (lines_ok HO.out hkn)).1
   obtain ⟨Y, hY⟩ : ∃ Y, Y = lineC (xs.getD k Ln0) := ⟨_, rfl⟩
   rw [← hY] at hx1 hx2 EX CZ
   have HX1 := Lib.hid hx1
   have HX2 := Lib.hid hx2
   clear hY hx1 hx2 c1 c2
   have HW : Hid (EqS wr wr b1 o1 b2 o2 (k * 18) Y) := Lib.hid ⟨HX1.out, HX2.out, Below.refl _ _⟩
   go_upto_region 6 with (fail)
   refine wp_region_held_drew (S := fun W => EqS wr W b1 o1 b2 o2 (k * 18) Y) kR ⟨HW.out.1, HW.out.2.1, HW.out.2.2.drew⟩ (fun hS => ?_)
   refine tH 0 hS ?_
   try simp only [yA,yB,yC,Act.put,yD,yE,yF]
   refine tH 1 hS ?_
   try simp only [yA,yB,yC,Act.put,yD,yE,yF]
   refine tH 2 hS ?_
   try simp only [yA,yB,yC,Act.put,yD,yE,yF]
   refine wpAnyH_take (i := 3) rfl kR kR kR (fun _ _ _ h => h) (yields_loadC (by rfl) 59 (.tmp 18) rfl ⟨b1, o1 + k * 18, none⟩ rfl Y (fun W hSw => hSw.1) _ Tryz.underlying59 rfl (by rw [CZ.out]; kernel_rfl)) hS ?_
   try simp only [yA,yB,yC,Act.put,yD,yE,yF]
   refine tH 4 hS ?_
   try simp only [yA,yB,yC,Act.put,yD,yE,yF]
   refine tH 5 hS ?_
   try simp only [yA,yB,yC,Act.put,yD,yE,yF]
   refine tH 6 hS ?_
   try simp only [yA,yB,yC,Act.put,yD,yE,yF]
   refine wpAnyH_take (i := 7) rfl kR kR kR (fun _ _ _ h => h) (yields_loadC (by rfl) 59 (.tmp 22) rfl ⟨b2, o2 + k * 18, none⟩ rfl Y (fun W hSw => hSw.2.1) _ Tryz.underlying59 rfl (by rw [CZ.out]; kernel_rfl)) hS ?_
   try simp only [yA,yB,yC,Act.put,yD,yE,yF]
   refine tH 8 hS ?_
   try simp only [yA,yB,yC,Act.put,yD,yE,yF]
   refine wpAnyH_done kR ?_ _
   have hbr2 := below_then hbr hS.2.2
   clear hS
   go_wp2
   go_roundw
   case rel => exact ⟨k + 1, by omega, by go_num, hbr2⟩
   case measure => simp [intOf]; omega
  ·have hkn' : k = xs.length := by omega
   subst hkn'
   go_wp2
   go_ret
   exact ⟨rfl, kL⟩
theorem wrEq_same (v u : Value) (xs : List Wr) (w : World) (h : RowAt w 3 v xs.length (wrC xs)) (g : RowAt w 3 u xs.length (wrC xs)) (hok : True) (hl : xs.length ≤ 1000000) :
  Calls Tryz.prog 43 #[v, u] w fun e w' => e = .returned (.bool true) ∧ Below w.heap.size w w' := by
 have HO := Lib.hid hok
 have H0 := Lib.hid h
 have G0 := Lib.hid g
 obtain ⟨a, ca, rfl, h1, h2, -⟩ := h
 obtain ⟨b, cb, rfl, g1, g2, -⟩ := g
 have H3 := Lib.hid (fun h => H0.out.at' h)
 have G3 := Lib.hid (fun h => G0.out.at' h)
 clear hok H0 G0
 go_enter Tryz.func43, Tryz.ntmps43
 go_wp2
 go_loopw [13] (fun i wr => ∃ k : Nat, k ≤ xs.length ∧ i = .int .i64 k ∧ Below w.heap.size w wr) (fun i _ => (xs.length - intOf i).toNat)
 case atStart => exact ⟨0, by omega, rfl, Below.refl _ _⟩
 case round =>
  obtain ⟨k, hk, rfl, hbr⟩ := hrel
  by_cases hkn : k < xs.length
  ·obtain ⟨b1, o1, rfl, l1, c1⟩ := H3.out kO
   obtain ⟨b2, o2, rfl, l2, c2⟩ := G3.out kO
   have hki : (k : Int) < xs.length := by omega
   have hx1 : ∀ j u, (wrA (xs.getD k Wr0)).toList[j]? = some u → wr.cell? (Addr.add ⟨b1, o1 + k * 3, none⟩ j) = some u := fun j u hj => by
    rw [Addr.add_lit, Nat.add_assoc]
    exact (hbr.cell (p := ⟨b1, _, none⟩) l1).trans (c1 _ u (wrC_at xs k hkn j u hj))
   have hx2 : ∀ j u, (wrA (xs.getD k Wr0)).toList[j]? = some u → wr.cell? (Addr.add ⟨b2, o2 + k * 3, none⟩ j) = some u := fun j u hj => by
    rw [Addr.add_lit, Nat.add_assoc]
    exact (hbr.cell (p := ⟨b2, _, none⟩) l2).trans (c2 _ u (wrC_at xs k hkn j u hj))
   have EX := fun w => wr_self (xs.getD k Wr0) w
   have CZ : Hid ((wrA (xs.getD k Wr0)).size = 3) := Lib.hid rfl
   obtain ⟨Y, hY⟩ : ∃ Y, Y = wrA (xs.getD k Wr0) := ⟨_, rfl⟩
   rw [← hY] at hx1 hx2 EX CZ
   have HX1 := Lib.hid hx1
   have HX2 := Lib.hid hx2
   clear hY hx1 hx2 c1 c2
   have HW : Hid (EqS wr wr b1 o1 b2 o2 (k * 3) Y) := Lib.hid ⟨HX1.out, HX2.out, Below.refl _ _⟩
   go_upto_region 6 with (fail)
   refine wp_region_held_drew (S := fun W => EqS wr W b1 o1 b2 o2 (k * 3) Y) kR ⟨HW.out.1, HW.out.2.1, HW.out.2.2.drew⟩ (fun hS => ?_)
   refine tH 0 hS ?_
   try simp only [yA,yB,yC,Act.put,yD,yE,yF]
   refine tH 1 hS ?_
   try simp only [yA,yB,yC,Act.put,yD,yE,yF]
   refine tH 2 hS ?_
   try simp only [yA,yB,yC,Act.put,yD,yE,yF]
   refine wpAnyH_take (i := 3) rfl kR kR kR (fun _ _ _ h => h) (yields_loadC (by rfl) 68 (.tmp 18) rfl ⟨b1, o1 + k * 3, none⟩ rfl Y (fun W hSw => hSw.1) _ Tryz.underlying68 rfl (by rw [CZ.out]; kernel_rfl)) hS ?_
   try simp only [yA,yB,yC,Act.put,yD,yE,yF]
   refine tH 4 hS ?_
   try simp only [yA,yB,yC,Act.put,yD,yE,yF]
   refine tH 5 hS ?_
   try simp only [yA,yB,yC,Act.put,yD,yE,yF]
   refine tH 6 hS ?_
   try simp only [yA,yB,yC,Act.put,yD,yE,yF]
   refine wpAnyH_take (i := 7) rfl kR kR kR (fun _ _ _ h => h) (yields_loadC (by rfl) 68 (.tmp 22) rfl ⟨b2, o2 + k * 3, none⟩ rfl Y (fun W hSw => hSw.2.1) _ Tryz.underlying68 rfl (by rw [CZ.out]; kernel_rfl)) hS ?_
   try simp only [yA,yB,yC,Act.put,yD,yE,yF]
   refine tH 8 hS ?_
   try simp only [yA,yB,yC,Act.put,yD,yE,yF]
   refine wpAnyH_done kR ?_ _
   have hbr2 := below_then hbr hS.2.2
   clear hS
   go_wp2
   go_roundw
   case rel => exact ⟨k + 1, by omega, by go_num, hbr2⟩
   case measure => simp [intOf]; omega
  ·have hkn' : k = xs.length := by omega
   subst hkn'
   go_wp2
   go_ret
   exact ⟨rfl, kL⟩
/-- what was shown lies in memory -/
structure ShAt (w : World) (lv sv wv : Value) (ls : List Ln) (ss : List Int) (ws : List Wr) : Prop where
 l : RowAt w 18 lv ls.length (lnsC ls)
 s : SliceAt w .u8 sv ss
 w : RowAt w 3 wv ws.length (wrC ws)
theorem ShAt.below {w w' : World} {lv sv wv : Value} {ls : List Ln} {ss : List Int} {ws : List Wr} (h : ShAt w lv sv wv ls ss ws) (hb : Below w.heap.size w w') : ShAt w' lv sv wv ls ss ws := ⟨h.l.below hb, h.s.below hb, h.w.below hb⟩
theorem sameShown_any (l1 s1 w1 l2 s2 w2 : Value) (ls : List Ln) (ss : List Int) (ws : List Wr) (w : World) (h : ShAt w l1 s1 w1 ls ss ws) (g : ShAt w l2 s2 w2 ls ss ws) (ok : ∀ x ∈ ls, x.Ok) (hl : ls.length ≤ 1000000) (hw : ws.length ≤ 1000000) :
  Calls Tryz.prog 19 #[.agg #[l1, s1, w1], .agg #[l2, s2, w2]] w fun e w' => e = .returned (.bool true) ∧ Below w.heap.size w w' := by
 have EL := Lib.hid (fun W (k : Below w.heap.size w W) => lnEq_same l1 l2 ls W (h.l.below k) (g.l.below k) ok hl)
 have ES := Lib.hid (fun W (k : Below w.heap.size w W) => bytesEqual_any s1 s2 ss ss W (h.s.below k) (g.s.below k))
 rw [decide_eq_true rfl] at ES
 have EW := Lib.hid (fun W (k : Below w.heap.size w W) => wrEq_same w1 w2 ws W (h.w.below k) (g.w.below k) trivial hw)
 obtain ⟨a1, c1, rfl, -⟩ := id h.l
 obtain ⟨a2, c2, rfl, -⟩ := id g.l
 obtain ⟨b1, d1, rfl, -⟩ := id h.s
 obtain ⟨b2, d2, rfl, -⟩ := id g.s
 obtain ⟨e1, f1, rfl, -⟩ := id h.w
 obtain ⟨e2, f2, rfl, -⟩ := id g.w
 clear h g ok hl hw
 generalize ls.length = nl at *
 generalize ss.length = ns at *
 generalize ws.length = nw at *
 go_enter Tryz.func19, Tryz.ntmps19
 go_wp2_with fail
 refine (EL.out _ kL).mono ?_
 rintro e W1 ⟨rfl, hb1⟩
 have K1 := Lib.hid (show Blk W1 w.heap.size #[.slice a1 nl c1, .slice b1 ns d1, .slice e1 nw f1] 45 from kB)
 have K2 := Lib.hid (show Blk W1 (w.heap.size + 1) #[.slice a2 nl c2, .slice b2 ns d2, .slice e2 nw f2] 45 from kB)
 have B1 : Below w.heap.size w W1 := kL
 have x1 : W1.cell? ⟨w.heap.size, 1, none⟩ = some (.slice b1 ns d1) := K1.out.cell 1
 have y1 : W1.cell? ⟨w.heap.size + 1, 1, none⟩ = some (.slice b2 ns d2) := K2.out.cell 1
 have x2 : W1.cell? ⟨w.heap.size, 2, none⟩ = some (.slice e1 nw f1) := K1.out.cell 2
 have y2 : W1.cell? ⟨w.heap.size + 1, 2, none⟩ = some (.slice e2 nw f2) := K2.out.cell 2
 have z1 := K1.out.lt
 have z2 := K2.out.lt
 clear hb1 EL
 go_wp2_with fail
 refine (ES.out _ B1).mono ?_
 rintro e W2 ⟨rfl, rfl⟩
 go_wp2_with fail
 refine (EW.out _ B1).mono ?_
 rintro e W3 ⟨rfl, hb3⟩
 go_wp2
 go_ret
 exact ⟨rfl, below_then B1 hb3⟩
end Go.Proofs.YtmppkjkmocecmaaGreatDoor
