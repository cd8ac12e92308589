/- The library's cutting and splitting, as the assembler calls them. Conditions: the library's variables hold what they were laid with; texts of at most 4000 bytes. -/
import Derived.Test.YtmppkjkmocecmaaGreatDoorSq
import Derived.Test.YtmppkjkmocecmaaGreatDoorP36
import Derived.Test.YtmppkjkmocecmaaGreatDoorSh
set_option linter.unusedVariables false
set_option linter.unusedSimpArgs false
set_option maxHeartbeats 2000000
set_option maxRecDepth 100000
namespace Go.Proofs.YtmppkjkmocecmaaGreatDoor
open Go.RowKit Go.Mq
theorem suf_eq (l : List UInt8) : Lib.hasSuffix l [58] = decide (l.getLast? = some 58) := by
 rcases List.eq_nil_or_concat l with rfl | ⟨r, c, rfl⟩
 ·rfl
 ·rw [Bool.eq_iff_iff]
  simp [Lib.hasSuffix, List.isSuffixOf]
  exact eq_comm
theorem cutsuf_y (l : List UInt8) (hl : l.length ≤ 4000) (h : l.getLast? = some 58) (w : World) : Calls Tryz.prog 80 #[.string ⟨l.toArray⟩, .string ⟨#[58]⟩] w fun e w' => e = .returned (.tuple #[.string ⟨l.dropLast.toArray⟩, .bool true]) ∧ w' = w := by
 have := Tryz.strings_CutSuffix ⟨l.toArray⟩ ⟨#[58]⟩ w (by rw [Lib.size_eq]; simp; omega)
 rw [show (⟨l.toArray⟩ : ByteArray).data.toList = l by simp, show (⟨#[58]⟩ : ByteArray).data.toList = [58] from rfl, suf_eq, decide_eq_true h] at this
 rw [show Lib.trimSuffix l [58] = l.dropLast by unfold Lib.trimSuffix; rw [suf_eq, decide_eq_true h, if_pos rfl, List.dropLast_eq_take]; rfl] at this
 exact this
theorem cutsuf_n (l : List UInt8) (hl : l.length ≤ 4000) (h : ¬ l.getLast? = some 58) (w : World) : Calls Tryz.prog 80 #[.string ⟨l.toArray⟩, .string ⟨#[58]⟩] w fun e w' => e = .returned (.tuple #[.string ⟨l.toArray⟩, .bool false]) ∧ w' = w := by
 have := Tryz.strings_CutSuffix ⟨l.toArray⟩ ⟨#[58]⟩ w (by rw [Lib.size_eq]; simp; omega)
 rw [show (⟨l.toArray⟩ : ByteArray).data.toList = l by simp, show (⟨#[58]⟩ : ByteArray).data.toList = [58] from rfl, suf_eq, decide_eq_false h] at this
 rw [show Lib.trimSuffix l [58] = l by unfold Lib.trimSuffix; rw [suf_eq, decide_eq_false h, if_neg kS]] at this
 exact this
theorem cut32 (l : List UInt8) (hl : l.length ≤ 4000) (w : World) (hL : Lk w) : Calls Tryz.prog 83 #[.string ⟨l.toArray⟩, .string ⟨#[32]⟩] w fun e w' => e = .returned (.tuple #[.string ⟨(Lib.cut l [32]).1.toArray⟩, .string ⟨(Lib.cut l [32]).2.1.toArray⟩, .bool (Lib.cut l [32]).2.2]) ∧ Below w.heap.size w w' := by
 have := cut_any ⟨l.toArray⟩ (by rw [Lib.size_eq]; simp; omega) 32 w hL
 rw [show (⟨l.toArray⟩ : ByteArray).data.toList = l by simp] at this
 exact this
theorem splitK_len (sep : List UInt8) (hs : 1 ≤ sep.length) : ∀ (n : Nat) (s : List UInt8), ∀ a ∈ Lib.splitK sep 0 n s, a.length ≤ s.length
 | 0, s, a, h => by simp [Lib.splitK] at h; subst h; exact Nat.le_refl _
 | n + 1, s, a, h => by
  unfold Lib.splitK at h
  split at h
  ·simp at h; subst h; exact Nat.le_refl _
  ·simp only [List.mem_cons] at h
   rcases h with rfl | h
   ·simp only [List.length_take]; omega
   ·have := splitK_len sep hs n _ a h
    simp only [List.length_drop] at this
    omega
theorem args_len (r : List UInt8) : ∀ a ∈ argsF r, a.length ≤ r.length := fun a h => by
 unfold argsF at h
 split at h
 ·cases h
 ·exact splitK_len _ kD _ _ a h
theorem cut_len (l : List UInt8) : (Lib.cut l [32]).1.length ≤ l.length ∧ (Lib.cut l [32]).2.1.length ≤ l.length := by
 by_cases h : (32 : UInt8) ∈ l
 ·rcases index1_cases l 32 with ⟨_, h2⟩ | ⟨a, b, rfl, h2, _⟩
  ·exact absurd h h2
  ·rw [cut_hit 32 a b h2]
   simp
   omega
 ·rw [cut_miss 32 l h]
  simp
theorem splitB_two (s : List UInt8) : (Lib.splitB ⟨#[44, 32]⟩ 0 (Lib.countB ⟨s.toArray⟩ ⟨#[44, 32]⟩) ⟨s.toArray⟩).map Value.string = (Lib.splitK [44, 32] 0 (Lib.count s [44, 32]) s).map strV := by
 have h := Lib.splitB_data ⟨#[44, 32]⟩ 0 (Lib.countB ⟨s.toArray⟩ ⟨#[44, 32]⟩) ⟨s.toArray⟩
 rw [show (⟨s.toArray⟩ : ByteArray).data.toList = s by simp] at h
 have h2 : Lib.splitK (⟨#[44, 32]⟩ : ByteArray).data.toList 0 (Lib.countB ⟨s.toArray⟩ ⟨#[44, 32]⟩) s = Lib.splitK [44, 32] 0 (Lib.count s [44, 32]) s := by
  show Lib.splitK [44, 32] 0 (Lib.count (⟨s.toArray⟩ : ByteArray).data.toList [44, 32]) s = _
  simp
 rw [h2] at h
 rw [← h, List.map_map]
 refine List.map_congr_left fun x _ => ?_
 show Value.string x = Value.string ⟨x.data.toList.toArray⟩
 rw [Array.toArray_toList]
theorem split2 (r : List UInt8) (hr : r.length ≤ 4000) (h0 : r ≠ []) (w : World) (hL : Lk w) : Calls Tryz.prog 58 #[.string ⟨r.toArray⟩, .string ⟨#[44, 32]⟩] w fun e w' =>
  e = .returned (.slice (some ⟨w.heap.size, 0, none⟩) (argsF r).length (argsF r).length) ∧ w' = w.alloc (.cells ((argsF r).map strV).toArray 9) := by
 obtain ⟨m, hm⟩ := hL.mx
 refine (Tryz.strings_Split ⟨r.toArray⟩ ⟨#[44, 32]⟩ m w (by rw [Lib.size_eq]; simp; omega) hm kD).mono ?_
 rintro e w' ⟨rfl, rfl⟩
 have hl := congrArg List.length (splitB_two r)
 rw [List.length_map, List.length_map, Lib.splitB_all ⟨#[44, 32]⟩ kD 0 _ ⟨r.toArray⟩ rfl] at hl
 have e : argsF r = Lib.splitK [44, 32] 0 (Lib.count r [44, 32]) r := by unfold argsF; rw [if_neg h0]
 rw [e, ← hl, splitB_two]
 exact ⟨rfl, rfl⟩
def LineEnd (g gm base : Nat) (b : Bd) (i : Int) (l : List UInt8) (w : World) (e : Ending) (w' : World) : Prop :=
 e = .returned (.int .i64 (lineF b i l).1) ∧ ((lineF b i l).1 = 0 → BdAt w' g gm base (lineF b i l).2) ∧ Below gm w w'
theorem res_line (p : Nat) (k : Int) (tmps : Array Value) (W : World) (h6 : tmps.getD 6 undef = .pointer (some ⟨p, 0, none⟩)) (hB : Blk W p #[.int .i64 k] 46) : (results Tryz.f59 tmps).run Tryz.prog W = .ok (.int .i64 k) W := by
 have hc := hB.cell 0
 have h6' : tmps[6]?.getD undef = .pointer (some ⟨p, 0, none⟩) := by simpa using h6
 simp [results, Tryz.results59, go_sem, h6', hc]
theorem door_pan (R : Ending → World → Prop) (p : Nat) (k : Int) (tmps : Array Value) (W : World) (h6 : tmps.getD 6 undef = .pointer (some ⟨p, 0, none⟩)) (hB : Blk W p #[.int .i64 0] 46)
  (H : ∀ w', Blk w' p #[.int .i64 k] 46 → Below p W w' → (∀ i, i ≠ p → i < W.heap.size → w'.heap[i]? = W.heap[i]?) → R (.returned (.int .i64 k)) w') :
  bodyPostD Tryz.prog Tryz.f59 R (Exit.panic [{ v := .iface 164 (.agg #[.int .i64 k]), recovered := false }]) { tmps := tmps, defers := [{ target := Target.fn (Fn.func 79) #[Value.pointer (some ⟨p, 0, none⟩)], args := #[] }] } W := by
 refine leaves_cons (f := 79) (args := #[.pointer (some ⟨p, 0, none⟩)]) kS (by simp [go_sem]) ?_
 refine (catch_pan p k [] W hB).mono ?_
 rintro e u' w'' ⟨rfl, rfl, h1, h2, h3⟩
 exact ⟨.int .i64 k, res_line p k tmps w'' h6 h1, H w'' h1 h2 h3⟩
theorem door_ret (R : Ending → World → Prop) (p : Nat) (k : Int) (tmps : Array Value) (W : World) (h6 : tmps.getD 6 undef = .pointer (some ⟨p, 0, none⟩)) (hB : Blk W p #[.int .i64 k] 46) (H : R (.returned (.int .i64 k)) W) :
  bodyPostD Tryz.prog Tryz.f59 R Exit.ret { tmps := tmps, defers := [{ target := Target.fn (Fn.func 79) #[Value.pointer (some ⟨p, 0, none⟩)], args := #[] }] } W := by
 refine leaves_cons (f := 79) (args := #[.pointer (some ⟨p, 0, none⟩)]) kS (by simp [go_sem]) ?_
 refine (catch_idle p W).mono ?_
 rintro e u' w'' ⟨rfl, rfl, rfl⟩
 exact ⟨.int .i64 k, res_line p k tmps _ h6 hB, H⟩
/-- a piece that never panics -/
def noPan (Q : Exit → Act → World → Prop) : Exit → Act → World → Prop
 | .panic _, _, _ => False
 | e, a, w => Q e a w
theorem wp_noPan {P : Program} {c : Code} {Q : Exit → Act → World → Prop} {a : Act} {w : World} (h : c.wp P (noPan Q) a w) : c.wp P Q a w := fun b k cs => by
 obtain ⟨e, a', w', q, r⟩ := h b k cs
 refine ⟨e, a', w', ?_, r⟩
 cases e <;> first | exact q | exact False.elim q
theorem noPan_norm {Q : Exit → Act → World → Prop} {a : Act} {w : World} (h : Q .normal a w) : noPan Q .normal a w := h
theorem line_err {g gm base : Nat} {b : Bd} {i : Int} {l : List UInt8} {w w' : World} {k : Int} (hk : (lineF b i l).1 = k) (h0 : k ≠ 0) (hb : Below gm w w') : LineEnd g gm base b i l w (.returned (.int .i64 k)) w' :=
 ⟨by rw [hk], fun h => absurd (hk.symm.trans h) h0, hb⟩
theorem alloc_door {w w' : World} {o : Obj} {gm : Nat} (h : Below w.heap.size (w.alloc o) w') (hg : gm ≤ w.heap.size) : Below gm w w' :=
 ((Below.alloc (Below.refl _ _) (Nat.le_refl _) o).trans h).mono hg
theorem lab_F (b : Bd) (i : Int) (l : List UInt8) (h58 : l.getLast? = some 58) : lineF b i l = if isNm l.dropLast = false then (1, b) else if (findN b.nms l.dropLast).isSome then (6, b) else (0, { b with nms := b.nms ++ [(l.dropLast, b.sz)] }) := by
 unfold lineF
 rw [if_pos h58]
theorem lab_bad (g gm base : Nat) (hg : gm < g) (hb : g < base) (b : Bd) (i : Int) (l : List UInt8) (hl : l.length ≤ 4000) (h58 : l.getLast? = some 58) (hn : isNm l.dropLast = false) (w : World) (hB : BdAt w g gm base b) (hbw : base ≤ w.heap.size) :
  Calls Tryz.prog 59 #[.pointer (some ⟨g, 0, none⟩), .int .i64 i, .string ⟨l.toArray⟩] w (LineEnd g gm base b i l w) := by
 have S := Lib.hid (cutsuf_y l hl h58)
 have N := Lib.hid (name_any l.dropLast)
 have F := Lib.hid fail_any
 have E : Hid ((lineF b i l).1 = 1) := Lib.hid (by rw [lab_F b i l h58, if_pos hn])
 rw [hn] at N
 have hmf : ∀ (fn : Fn) (first cap : Array Value) (w : World), (Instr.makeFunc fn first cap).run Tryz.prog w = .ok (.func fn first cap) w := fun _ _ _ _ => rfl
 clear h58 hn
 go_enter_defers Tryz.func59, Tryz.ntmps59
 go_wp2_with fail
 refine (S.out _).mono ?_
 rintro e w1 ⟨rfl, rfl⟩
 go_wp2_with fail
 refine (N.out _).mono ?_
 rintro e w1 ⟨rfl, rfl⟩
 go_wp2_with fail
 refine (F.out _ _).mono ?_
 rintro e w1 ⟨rfl, rfl⟩
 exact door_pan _ w.heap.size 1 _ _ rfl (Blk.new _ _ _) (fun w' h1 h2 h3 => line_err E.out kD (alloc_door h2 kO))
theorem lab_twice (g gm base : Nat) (hg : gm < g) (hb : g < base) (b : Bd) (i : Int) (l : List UInt8) (hl : l.length ≤ 4000) (h58 : l.getLast? = some 58) (hn : isNm l.dropLast = true) (hf : (findN b.nms l.dropLast).isSome = true) (w : World) (hB : BdAt w g gm base b) (hbw : base ≤ w.heap.size) :
  Calls Tryz.prog 59 #[.pointer (some ⟨g, 0, none⟩), .int .i64 i, .string ⟨l.toArray⟩] w (LineEnd g gm base b i l w) := by
 have S := Lib.hid (cutsuf_y l hl h58)
 have N := Lib.hid (name_any l.dropLast)
 have F := Lib.hid fail_any
 have E : Hid ((lineF b i l).1 = 6) := Lib.hid (by rw [lab_F b i l h58, if_neg (by simp [hn]), if_pos hf])
 rw [hn] at N
 obtain ⟨⟨v, h1, h2⟩, h3, h4, h5⟩ := hB
 have MP := Lib.hid (fun X (hX : Below w.heap.size w X) => run_look X gm b.nms l.dropLast (by obtain ⟨es, c, h, he⟩ := h3; exact ⟨es, c, by rw [hX.block gm (Array.getElem?_eq_some_iff.1 h).1]; exact h, he⟩))
 rw [hf] at MP
 have hlk := MP.out (w.alloc (.cells #[.int .i64 0] 46)) (below_alloc (Below.refl _ _) _)
 obtain ⟨d, hd⟩ : ∃ d, d = (findN b.nms l.dropLast).getD 0 := ⟨_, rfl⟩
 rw [← hd] at hlk
 clear hd MP
 obtain ⟨cl, cc, cf⟩ := (h1.alloc (.cells #[.int .i64 0] 46)).use
 have hmf : ∀ (fn : Fn) (first cap : Array Value) (w : World), (Instr.makeFunc fn first cap).run Tryz.prog w = .ok (.func fn first cap) w := fun _ _ _ _ => rfl
 clear h58 hn hf h1 h2 h3 h5
 go_enter_defers Tryz.func59, Tryz.ntmps59
 go_wp2_with fail
 refine (S.out _).mono ?_
 rintro e w1 ⟨rfl, rfl⟩
 go_wp2_with fail
 refine (N.out _).mono ?_
 rintro e w1 ⟨rfl, rfl⟩
 go_wp2_with fail
 refine (F.out _ _).mono ?_
 rintro e w1 ⟨rfl, rfl⟩
 exact door_pan _ w.heap.size 6 _ _ rfl (Blk.new _ _ _) (fun w' h1 h2 h3 => line_err E.out kD (alloc_door h2 kO))
theorem lab_ok (g gm base : Nat) (hg : gm < g) (hb : g < base) (b : Bd) (i : Int) (l : List UInt8) (hl : l.length ≤ 4000) (h58 : l.getLast? = some 58) (hn : isNm l.dropLast = true) (hf : findN b.nms l.dropLast = none) (w : World) (hB : BdAt w g gm base b) (hbw : base ≤ w.heap.size) :
  Calls Tryz.prog 59 #[.pointer (some ⟨g, 0, none⟩), .int .i64 i, .string ⟨l.toArray⟩] w (LineEnd g gm base b i l w) := by
 have S := Lib.hid (cutsuf_y l hl h58)
 have N := Lib.hid (name_any l.dropLast)
 have E : Hid (lineF b i l = (0, { b with nms := b.nms ++ [(l.dropLast, b.sz)] })) := Lib.hid (by rw [lab_F b i l h58, if_neg (by simp [hn]), if_neg (by simp [hf])])
 rw [hn] at N
 obtain ⟨⟨v, h1, h2⟩, h3, h4, h5⟩ := hB
 have M0 : MapAt (w.alloc (.cells #[.int .i64 0] 46)) gm b.nms := by
  obtain ⟨es, c, h, he⟩ := h3
  exact ⟨es, c, by rw [(MapKept.heap_alloc _ _).2 gm (Array.getElem?_eq_some_iff.1 h).1]; exact h, he⟩
 have hlk := run_look _ gm b.nms l.dropLast M0
 rw [hf] at hlk
 simp only [Option.getD_none, Option.isSome_none] at hlk
 obtain ⟨X', hput, hpp, hpm⟩ := run_putN (w.alloc (.cells #[.int .i64 0] 46)).drew gm b.nms l.dropLast b.sz M0 hf
 have B1 := Lib.hid (h1.alloc (.cells #[.int .i64 0] 46))
 have B2 := Lib.hid h2
 have B45 := Lib.hid (And.intro h4 h5)
 obtain ⟨cl, cc, cf⟩ := (h1.alloc (.cells #[.int .i64 0] 46)).use
 have hmf : ∀ (fn : Fn) (first cap : Array Value) (w : World), (Instr.makeFunc fn first cap).run Tryz.prog w = .ok (.func fn first cap) w := fun _ _ _ _ => rfl
 have PP := Lib.hid hpp
 have PM := Lib.hid hpm
 clear h58 hn hf h1 h2 h3 h4 h5 hpp hpm
 go_enter_defers Tryz.func59, Tryz.ntmps59
 go_wp2_with fail
 refine (S.out _).mono ?_
 rintro e w1 ⟨rfl, rfl⟩
 go_wp2_with fail
 refine (N.out _).mono ?_
 rintro e w1 ⟨rfl, rfl⟩
 go_wp2_with fail
 refine wp_noPan ?_
 refine wp_region_F (fun k W => (k = 3 → W.cell? ⟨g, 1, none⟩ = some (.map (some gm))) ∧ (k = 8 → W.cell? ⟨g, 2, none⟩ = some (.int .i64 b.sz))) [0, 1, 2, 3, 4, 5, 6, 7, 8] kR ?_
 refine tF 0 ⟨nD, nD⟩ ?_
 refine tF 1 ⟨nD, nD⟩ ?_
 refine tF 2 ⟨nD, nD⟩ ?_
 refine tG 3 rfl (by intro w hF; have hF2 := hF.1 rfl; clear hF; go_simp; try with_reducible rfl) ⟨(fun _ => (B1.out.drew.cell 1)), nD⟩ ?_
 try simp only [yA,yB,yC,Act.put,yD,yE,yF]
 refine tF 4 ⟨nD, nD⟩ ?_
 refine tF 5 ⟨nD, nD⟩ ?_
 refine tF 6 ⟨nD, nD⟩ ?_
 refine tF 7 ⟨nD, nD⟩ ?_
 try simp only [yA,yB,yC,Act.put,yD,yE,yF]
 refine tG 8 rfl (by intro w hF; have hF2 := hF.2 rfl; clear hF; go_simp; try with_reducible rfl) ⟨nD, (fun _ => (B1.out.drew.cell 2))⟩ ?_
 refine rF 9 fun K hK => ?_
 go_simp
 refine hK.out _ _ (Sat.off [3, 8] (fun k w hk => by simp only [List.mem_cons, List.not_mem_nil, or_false, not_or] at hk; exact ⟨(fun e => absurd e hk.1), (fun e => absurd e hk.2)⟩) kR _ _) ?_
 clear hK K
 try simp only [yA,yB,yC,Act.put,yD,yE,yF]
 refine wpAnyF_done kR ?_ _
 refine noPan_norm ?_
 have PB : Hid (Blk X' w.heap.size #[.int .i64 0] 46) := Lib.hid ((Blk.new w _ _).drew.put PP.out kO)
 obtain ⟨pl, pc, pf⟩ := PB.out.use
 clear hput hlk
 go_wp2
 refine door_ret _ w.heap.size 0 _ _ rfl (Blk.set PB.out rfl) ⟨by rw [E.out], fun _ => ?_, ?_⟩
 ·rw [E.out]
  refine ⟨⟨v, ?_, ?_⟩, ?_, B45.out.1, B45.out.2⟩
  ·exact (B1.out.drew.put PP.out kO).setAt (by show g ≠ w.heap.size; omega)
  ·refine own_setAt ?_ (fun r hr => by have := (B2.out.lt r hr).2; show r ≠ w.heap.size; omega)
   exact own_put (base := base) (World.ownsRow.drew (B2.out.alloc _)) PP.out kO
  ·obtain ⟨es, c, h, he⟩ := PM.out
   exact ⟨es, c, by rw [Below.heap_setCell _ _ _ _ (show gm ≠ w.heap.size by omega)]; exact h, he⟩
 ·refine Below.setCell ?_ (by show gm ≤ w.heap.size; omega) _
  exact (((Below.refl gm w).alloc kO _).drew).trans PP.out.below
theorem lab_any (g gm base : Nat) (hg : gm < g) (hb : g < base) (b : Bd) (i : Int) (l : List UInt8) (hl : l.length ≤ 4000) (h58 : l.getLast? = some 58) (w : World) (hB : BdAt w g gm base b) (hbw : base ≤ w.heap.size) :
  Calls Tryz.prog 59 #[.pointer (some ⟨g, 0, none⟩), .int .i64 i, .string ⟨l.toArray⟩] w (LineEnd g gm base b i l w) := by
 cases hn : isNm l.dropLast with
 | false => exact lab_bad g gm base hg hb b i l hl h58 hn w hB hbw
 | true =>
  cases hf : findN b.nms l.dropLast with
  | none => exact lab_ok g gm base hg hb b i l hl h58 hn hf w hB hbw
  | some d => exact lab_twice g gm base hg hb b i l hl h58 hn (by rw [hf]; rfl) w hB hbw
end Go.Proofs.YtmppkjkmocecmaaGreatDoor
