/- The assembler lists a program. Conditions: the program lies in memory; the library's variables hold what they were laid with. -/
import Derived.Test.YtmpdoiilakjmbaaDoorAsmTxt
import Derived.Test.YtmpdoiilakjmbaaDoorOrderAll
import Derived.Lib.ItoaLen
import Derived.Deep.DeepCutAuto
namespace Go.Proofs.YtmpdoiilakjmbaaDoor
open Go.RowKit Go.Mq
set_option linter.unusedVariables false
set_option linter.unusedSimpArgs false
set_option maxHeartbeats 2000000
set_option maxRecDepth 100000
def pairW (xs : List Int) (k : Nat) : Int := if k + 1 < xs.length then xs.getD k 0 * 256 + xs.getD (k + 1) 0 else 0
def wrdT (a : Int) : List UInt8 := [46, 119, 111, 114, 100, 32] ++ Lib.itoa a ++ [10]
def asOrder (xs : List Int) (k : Nat) : Bool := wordO (readO (pairW xs k) (pairW xs (k + 2))) == pairW xs k && decide ((k : Int) + 2 * readL (pairW xs k) ≤ xs.length)
def lst : Nat → List Int → Nat → List UInt8
  | 0, _, _ => []
  | f + 1, xs, k => if k < xs.length then
      if asOrder xs k then textO (readO (pairW xs k) (pairW xs (k + 2))) ++ [10] ++ lst f xs (k + 2 * (readL (pairW xs k)).toNat) else wrdT (pairW xs k) ++ lst f xs (k + 2)
    else []
def listF (xs : List Int) : List UInt8 := lst xs.length xs 0
theorem pairW_u {xs : List Int} (h : ∀ x ∈ xs, U8 x) (k : Nat) : U16 (pairW xs k) := by
  unfold pairW
  split
  · next hk =>
    have h1 := h (xs.getD k 0) (by rw [List.getD_eq_getElem?_getD, List.getElem?_eq_getElem (by omega)]; exact List.getElem_mem _)
    have h2 := h (xs.getD (k + 1) 0) (by rw [List.getD_eq_getElem?_getD, List.getElem?_eq_getElem (by omega)]; exact List.getElem_mem _)
    unfold U8 at h1 h2
    unfold U16
    omega
  · unfold U16; omega
theorem words_pos (o : Od) : 0 < (wordsO o).length := by unfold wordsO; split <;> simp
theorem words_hd (o : Od) : ((wordsO o).map (Value.int .u16))[0]? = some (.int .u16 (wordO o)) := by unfold wordsO; split <;> rfl
theorem slice_u8 {w : World} {v : Value} {xs : List Int} (h : SliceAt w .u8 v xs) : ∀ x ∈ xs, U8 x := by
  obtain ⟨_, _, _, _, _, h, _⟩ := h
  intro x hx
  have := bounds_u8 (h x hx)
  unfold U8
  omega
theorem word_at (p : Nat) (v : Value) (xs : List Int) (k : Nat) (hk : k ≤ 4000) (w : World) (hx : SliceAt w .u8 v xs) (hp : Blk w p #[v] 22) :
    Calls Tryd.prog 25 #[.int .i64 k, .pointer (some ⟨p, 0, none⟩)] w fun e w' => e = .returned (.int .u16 (pairW xs k)) ∧ Drew w w' := by
  have hu := slice_u8 hx
  obtain ⟨a, cp, rfl, h1, h2, hwf, h3⟩ := hx
  have cp0 : w.cell? ⟨p, 0, none⟩ = some (.slice a xs.length cp) := hp.cell 0
  have hpl := hp.lt
  have hlm : xs.length ≤ maxLen := by omega
  unfold maxLen at hlm
  have hk4 : (k : Int) ≤ 4000 := by omega
  by_cases hs : k + 1 < xs.length
  · have E : Hid (pairW xs k = xs.getD k 0 * 256 + xs.getD (k + 1) 0) := Lib.hid (by unfold pairW; rw [if_pos hs])
    obtain ⟨b, off, rfl, hlt, hc⟩ := h3 (by omega)
    have c0 := hc k (by omega)
    have c1 := hc (k + 1) hs
    have u0 := hu (xs.getD k 0) (by rw [List.getD_eq_getElem?_getD, List.getElem?_eq_getElem (by omega)]; exact List.getElem_mem _)
    have u1 := hu (xs.getD (k + 1) 0) (by rw [List.getD_eq_getElem?_getD, List.getElem?_eq_getElem hs]; exact List.getElem_mem _)
    obtain ⟨x, hx⟩ : ∃ x, x = xs.getD k 0 := ⟨_, rfl⟩
    obtain ⟨y, hy⟩ : ∃ x, x = xs.getD (k + 1) 0 := ⟨_, rfl⟩
    rw [← hx] at E c0 u0
    rw [← hy] at E c1 u1
    obtain ⟨u00, u01⟩ := u0
    obtain ⟨u10, u11⟩ := u1
    have hs1 : (k : Int) + 1 < xs.length := by omega
    have hs2 : (k : Int) < xs.length := by omega
    clear hx hy hc hu h3 hwf hs h1 h2
    have f1 : IntKind.i64.wrap ((k : Int) + 1) = k + 1 := by rw [IntKind.wrap_i64]; omega
    have f2 : ((k : Int) + 1).toNat = k + 1 := by omega
    have f3 : 0 ≤ (k : Int) + 1 := by omega
    have v1 : IntKind.u16.wrap x = x := by rw [wrap16]; omega
    have v2 : IntKind.u16.wrap (x * 256) = x * 256 := by rw [wrap16]; omega
    have v3 : IntKind.u16.wrap y = y := by rw [wrap16]; omega
    have v4 : bits .or .u16 (x * 256) y = x * 256 + y := or_join 8 _ _ (by omega) (by omega) (by omega) (by omega) (by omega) (by decide)
    clear u00 u01 u10 u11
    go_enter Tryd.func25, Tryd.ntmps25
    go_wp2
    go_quiet (fail)
    go_wp2
    go_ret
    exact ⟨by rw [E.out]; rfl, (Drew.refl _).drewN _⟩
  · have E : Hid (pairW xs k = 0) := Lib.hid (by unfold pairW; rw [if_neg hs])
    have hs1 : ¬ ((k : Int) + 1 < xs.length) := by omega
    clear hu h3 hwf hs h1 h2
    go_enter Tryd.func25, Tryd.ntmps25
    go_wp2
    go_ret
    exact ⟨by rw [E.out]; rfl, Drew.refl _⟩
/-! ### The list: mklst.py -/
theorem wrd_str (x : Int) : (⟨#[46, 119, 111, 114, 100, 32]⟩ : ByteArray) ++ ⟨(Lib.itoa x).toArray⟩ ++ ⟨#[10]⟩ = ⟨(wrdT x).toArray⟩ := by
  rw [show (⟨#[46, 119, 111, 114, 100, 32]⟩ : ByteArray) = ⟨([46, 119, 111, 114, 100, 32] : List UInt8).toArray⟩ from rfl, show (⟨#[10]⟩ : ByteArray) = ⟨([10] : List UInt8).toArray⟩ from rfl, str_app2, str_app2]
  rfl
theorem wrd_len (x : Int) (h : I64 x) : (wrdT x).length ≤ 40 := by
  have := Lib.itoa_length_le x h.1 h.2
  simp only [wrdT, List.length_append, List.length_cons, List.length_nil]
  omega
theorem text_right (o : Od) (h : checkO o = 0) (w : World) (hL : Lk w) : Calls Tryd.prog 29 #[.agg #[.int .i64 o.op, .int .i64 o.d, .int .i64 o.s, .int .i64 o.n, .int .i64 o.w]] w fun e w' => e = .returned (.string ⟨(textO o).toArray⟩) ∧ Below w.heap.size w w' := by
  obtain ⟨⟨b0, b1, b2⟩, ⟨d0, d1⟩, ⟨s0, s1⟩, ⟨n0, n1⟩, ⟨w0, w1⟩, _⟩ := right_in o h
  obtain ⟨K, hK⟩ : ∃ K : Nat, o.op = K := ⟨o.op.toNat, by omega⟩
  have := text_any K o.d o.s o.n o.w (by omega) (by omega) (by unfold I64; omega) (by unfold I64; omega) (by unfold I64; omega) (by unfold I64; omega) w hL
  rw [← hK] at this
  exact this
theorem readL_two (a : Int) : readL a = 1 ∨ readL a = 2 := by unfold readL; split <;> simp
theorem word_sl (w : World) (p : Nat) (v : Value) (xs : List Int) (k : Nat) (hk : k ≤ 4000) (hx : SliceAt w .u8 v xs) (hp : Blk w p #[v] 22) : ∀ X, Below w.heap.size w X →
    Calls Tryd.prog 25 #[.int .i64 k, .pointer (some ⟨p, 0, none⟩)] X fun e w' => e = .returned (.int .u16 (pairW xs k)) ∧ Below X.heap.size X w' := fun X hX =>
  (word_at p v xs k hk X (hx.below hX) (hp.below hX)).mono fun e w' ⟨he, hd⟩ => ⟨he, hd.below _⟩
theorem lst_step (f : Nat) (xs : List Int) (k : Nat) (hk : k < xs.length) : lst (f + 1) xs k = if asOrder xs k then textO (readO (pairW xs k) (pairW xs (k + 2))) ++ [10] ++ lst f xs (k + 2 * (readL (pairW xs k)).toNat) else wrdT (pairW xs k) ++ lst f xs (k + 2) := by
  conv => lhs; unfold lst
  rw [if_pos hk]
theorem lst_end (f : Nat) (xs : List Int) (k : Nat) (hk : ¬ k < xs.length) : lst f xs k = [] := by
  cases f with
  | zero => rfl
  | succ f => unfold lst; rw [if_neg hk]
theorem text_len (o : Od) (h : checkO o = 0) : (textO o).length ≤ 500 := by
  obtain ⟨⟨b0, b1, b2⟩, ⟨d0, d1⟩, ⟨s0, s1⟩, ⟨n0, n1⟩, ⟨w0, w1⟩, _⟩ := right_in o h
  unfold textO
  rw [List.length_append]
  have h1 : (namO o.op).data.toList.length ≤ 4 := by
    have := nm_len o.op.toNat (by omega)
    unfold namO
    simpa using this
  have h2 : (if prtL o.op.toNat = [] then [] else 32 :: Lib.join ((prtL o.op.toNat).map (fmtO o)) [44, 32]).length ≤ 401 := by
    split
    · simp
    · rw [List.length_cons]
      have hp := prt_all2 o.op.toNat (by omega)
      have := join_len ((prtL o.op.toNat).map (fmtO o)) (by rw [List.length_map]; exact hp.2) (fun t ht => by
        rw [List.mem_map] at ht
        obtain ⟨c, hc, rfl⟩ := ht
        have := hp.1 c hc
        have a1 := Lib.itoa_length_le o.d (by omega) (by omega)
        have a2 := Lib.itoa_length_le o.s (by omega) (by omega)
        have a3 := Lib.itoa_length_le o.n (by omega) (by omega)
        have a4 := Lib.itoa_length_le o.w (by omega) (by omega)
        rcases this with rfl | rfl | rfl | rfl <;> simp [fmtO, valO] <;> omega)
      omega
  omega
def LstEnd (xs : List Int) (w : World) (e : Ending) (w' : World) : Prop := (if 1024 < xs.length then e = .returned (.tuple #[.string ⟨#[]⟩, .int .i64 2]) else if xs.length % 2 = 1 then e = .returned (.tuple #[.string ⟨#[]⟩, .int .i64 4]) else e = .returned (.tuple #[.string ⟨(listF xs).toArray⟩, .int .i64 0])) ∧ Below w.heap.size w w'
theorem list_any (v : Value) (xs : List Int) (w : World) (hL : Lk w) (hx : SliceAt w .u8 v xs) : Calls Tryd.prog 7 #[v] w (LstEnd xs w) := by
  have hu := Lib.hid (slice_u8 hx)
  have HX := Lib.hid hx
  obtain ⟨a, cp, rfl, h1, h2, hwf, h3⟩ := hx
  have hlm : xs.length ≤ maxLen := by omega
  unfold maxLen at hlm
  have HL := Lib.hid hL
  clear hwf h3 h1 h2 hL
  by_cases hm : 1024 < xs.length
  · have E : Hid (∀ e w', (e = .returned (.tuple #[.string ⟨#[]⟩, .int .i64 2]) ∧ Below w.heap.size w w') → LstEnd xs w e w') := Lib.hid (fun e w' h => ⟨by rw [if_pos hm]; exact h.1, h.2⟩)
    have hi : 1024 < (xs.length : Int) := by omega
    clear hm
    go_enter Tryd.func7, Tryd.ntmps7
    go_wp2
    go_ret2
    exact E.out _ _ ⟨rfl, by repeat' (first | (with_reducible first | exact Below.refl _ _ | assumption | refine below_alloc ?_ _ | refine Below.drew ?_ | refine Go.Mq.below_drewN ?_ _ | refine below_then ?_ (by assumption) | refine below_put ?_ (by assumption) (by first | (simp; done) | (simp; omega) | omega) | refine Below.setCell ?_ ?_ _) | (simp; done) | (simp; omega) | omega)⟩
  by_cases ho : xs.length % 2 = 1
  · have E : Hid (∀ e w', (e = .returned (.tuple #[.string ⟨#[]⟩, .int .i64 4]) ∧ Below w.heap.size w w') → LstEnd xs w e w') := Lib.hid (fun e w' h => ⟨by rw [if_neg hm, if_pos ho]; exact h.1, h.2⟩)
    have hi : (xs.length : Int) ≤ 1024 := by omega
    have hr : Int.tmod (xs.length : Int) 2 = 1 := by rw [Int.tmod_eq_emod_of_nonneg (by omega)]; omega
    have hr2 : (xs.length : Int) % 2 = 1 := by omega
    clear hm ho
    go_enter Tryd.func7, Tryd.ntmps7
    go_wp2
    go_ret2
    exact E.out _ _ ⟨rfl, by repeat' (first | (with_reducible first | exact Below.refl _ _ | assumption | refine below_alloc ?_ _ | refine Below.drew ?_ | refine Go.Mq.below_drewN ?_ _ | refine below_then ?_ (by assumption) | refine below_put ?_ (by assumption) (by first | (simp; done) | (simp; omega) | omega) | refine Below.setCell ?_ ?_ _) | (simp; done) | (simp; omega) | omega)⟩
  have E : Hid (∀ e w', (e = .returned (.tuple #[.string ⟨(listF xs).toArray⟩, .int .i64 0]) ∧ Below w.heap.size w w') → LstEnd xs w e w') := Lib.hid (fun e w' h => ⟨by rw [if_neg hm, if_neg ho]; exact h.1, h.2⟩)
  have hi : (xs.length : Int) ≤ 1024 := by omega
  have hr : Int.tmod (xs.length : Int) 2 = 0 := by rw [Int.tmod_eq_emod_of_nonneg (by omega)]; omega
  have hr2 : (xs.length : Int) % 2 = 0 := by omega
  have hmf : ∀ (fn : Fn) (first cap : Array Value) (w : World), (Instr.makeFunc fn first cap).run Tryd.prog w = .ok (.func fn first cap) w := fun _ _ _ _ => rfl
  have HI := Lib.hid hi
  have RA := Lib.hid (fun k (hk : k ≤ 1100) => And.intro (read_any (pairW xs k) (pairW xs (k + 2)) (pairW_u hu.out k) (pairW_u hu.out (k + 2))) (And.intro (words_any (readO (pairW xs k) (pairW xs (k + 2))) (read_right _ _ (pairW_u hu.out k) (pairW_u hu.out (k + 2)))) (And.intro (read_right _ _ (pairW_u hu.out k) (pairW_u hu.out (k + 2))) (pairW_u hu.out k))))
  have KB0 := Lib.hid (Blk.new w #[.slice a xs.length cp] 22)
  have WS := Lib.hid (fun k (hk : k ≤ 4000) => word_sl (w.alloc (.cells #[.slice a xs.length cp] 22)) w.heap.size _ xs k hk (HX.out.below (below_alloc (Below.refl _ _) _)) KB0.out)
  obtain ⟨w0, hw0⟩ : ∃ x, x = w.alloc (.cells #[.slice a xs.length cp] 22) := ⟨_, rfl⟩
  have BW0 : Hid (Below w.heap.size w w0 ∧ w0.heap.size = w.heap.size + 1) := Lib.hid ⟨by rw [hw0]; exact below_alloc (Below.refl _ _) _, by rw [hw0]; simp⟩
  rw [← hw0] at KB0 WS
  replace hw0 := Lib.hid hw0
  clear hm ho
  go_enter Tryd.func7, Tryd.ntmps7
  go_upto_region 1 with (fail)
  rw [← hw0.out]
  obtain ⟨l0, c0, f0⟩ := KB0.out.use
  go_wp2_with fail
  clear hr hr2 c0 f0
  obtain ⟨B, hB⟩ : ∃ x, x = w0.heap.size := ⟨_, rfl⟩
  have IB : Hid (Lib.IsBuilderF 57 5 B B (Lib.byteCells []) (w0.alloc (.cells #[.pointer none, .slice none 0 0] 57))) := Lib.hid (by rw [hB]; exact Lib.IsBuilderF.of (Lib.fresh_isBuilder _ _ _))
  have BB : Hid (Below B w0 (w0.alloc (.cells #[.pointer none, .slice none 0 0] 57))) := Lib.hid (by rw [hB]; exact below_alloc (Below.refl _ _) _)
  rw [← hB]
  have HB : Hid (B = w0.heap.size) := Lib.hid hB
  have hB1 : w.heap.size + 1 = B := by rw [hB]; exact BW0.out.2.symm
  replace hB1 := Lib.hid hB1
  clear hB l0
  go_loopw [6] (fun i wr => ∃ (k f : Nat) (acc : List UInt8), i = .int .i64 k ∧ k ≤ 1026 ∧ Hid (listF xs = acc ++ lst f xs k ∧ xs.length ≤ f + k ∧ acc.length ≤ 600 * k ∧ k % 2 = 0) ∧ Hid (Lib.IsBuilderF 57 5 B B (Lib.byteCells acc) wr) ∧ Hid (Below B w0 wr)) (fun i _ => 1030 - (intOf i).toNat)
  case atStart => exact ⟨0, xs.length, [], rfl, by omega, Lib.hid ⟨rfl, by omega, by simp, rfl⟩, IB, BB⟩
  case round =>
    obtain ⟨k, f, acc, rfl, hk, hq, hib, hb⟩ := hrel
    have hbw0 : Hid (Below w0.heap.size w0 wr) := Lib.hid (hb.out.mono (by have := HB.out; omega))
    have hbw : Hid (Below w.heap.size w wr) := Lib.hid (BW0.out.1.trans (hbw0.out.mono (by have := BW0.out.2; omega)))
    have KB := Lib.hid (KB0.out.below hbw0.out)
    have hzB : B < wr.heap.size := by rcases hib.out with h | h <;> exact h.lt
    obtain ⟨lb, cb, fb⟩ := KB.out.use
    by_cases hkn : k < xs.length
    · have hki : (k : Int) < xs.length := by omega
      obtain ⟨RD, WD, CK, PU⟩ := RA.out k (by omega)
      have hkx : k ≤ 1024 := by omega
      obtain ⟨x, hx⟩ : ∃ x, x = pairW xs k := ⟨_, rfl⟩
      obtain ⟨y, hy⟩ : ∃ x, x = pairW xs (k + 2) := ⟨_, rfl⟩
      obtain ⟨o, ho⟩ : ∃ o, o = readO x y := ⟨_, rfl⟩
      obtain ⟨n, hn⟩ : ∃ n, n = readL x := ⟨_, rfl⟩
      have hn2 : n = 1 ∨ n = 2 := by rw [hn]; exact readL_two x
      have WA := Lib.hid (WS.out k (by omega))
      have WB := Lib.hid (WS.out (k + 2) (by omega))
      rw [show ((k + 2 : Nat) : Int) = (k : Int) + 2 by omega] at WB
      rw [← hx] at WA RD WD CK PU
      rw [← hy] at WB RD WD CK
      rw [← ho] at RD WD CK
      rw [← hn] at RD
      have RD1 := Lib.hid RD
      have WD1 := Lib.hid WD
      have CK1 := Lib.hid CK
      have PU1 := Lib.hid PU
      have AO : Hid (asOrder xs k = (wordO o == x && decide ((k : Int) + 2 * n ≤ xs.length))) := Lib.hid (by unfold asOrder; rw [← hx, ← hy, ← ho, ← hn])
      obtain ⟨f, rfl⟩ : ∃ f', f = f' + 1 := ⟨f - 1, by have := hq.out.2.1; omega⟩
      have LS : Hid (lst (f + 1) xs k = if asOrder xs k then textO o ++ [10] ++ lst f xs (k + 2 * n.toNat) else wrdT x ++ lst f xs (k + 2)) := Lib.hid (by rw [lst_step f xs k hkn, ← hx, ← hy, ← ho, ← hn])
      clear hx hy ho hn RD WD CK PU RA hkn
      go_wp2_with fail
      refine (WA.out _ hbw0.out).mono ?_
      rintro e w2 ⟨rfl, hb2⟩
      have b02 : Hid (Below w0.heap.size w0 w2) := Lib.hid (below_then hbw0.out hb2)
      go_wp2_with fail
      refine (WB.out _ b02.out).mono ?_
      rintro e w3 ⟨rfl, hb3⟩
      have br3 : Hid (Below wr.heap.size wr w3) := Lib.hid (below_then hb2 hb3)
      go_wp2_with fail
      refine (RD1.out _).mono ?_
      rintro e w4 ⟨rfl, hb4⟩
      have br4 : Hid (Below wr.heap.size wr w4) := Lib.hid (below_then br3.out hb4)
      clear hb2 b02 hb3 br3 hb4 cb fb lb
      go_wp2_with fail
      have KO5 := Lib.hid (Blk.new w4 #[.int .i64 o.op, .int .i64 o.d, .int .i64 o.s, .int .i64 o.n, .int .i64 o.w] 33)
      have br5 : Hid (Below wr.heap.size wr (w4.alloc (.cells #[.int .i64 o.op, .int .i64 o.d, .int .i64 o.s, .int .i64 o.n, .int .i64 o.w] 33))) := Lib.hid (below_alloc br4.out _)
      refine (WD1.out _).mono ?_
      rintro e w6 ⟨lv, rfl, hlv, hb6⟩
      have KO6 := Lib.hid (KO5.out.below hb6)
      have br6 : Hid (Below wr.heap.size wr w6) := Lib.hid (below_then br5.out hb6)
      obtain ⟨la, lc, ev⟩ := own_shape hlv
      subst ev
      obtain ⟨q, rfl, hql, hqc⟩ := own_at1 hlv (k := 0) (u := .int .u16 (wordO o)) (words_pos o) (words_hd o)
      have HLV := Lib.hid (And.intro hql hqc)
      have K6 := Lib.hid (KB.out.below br6.out)
      obtain ⟨on, hon⟩ : ∃ x, x = w4.heap.size := ⟨_, rfl⟩
      rw [← hon] at KO6 ⊢
      clear hon KO5 br5 hb6 br4 hlv hql hqc KB
      have hw0 := words_pos o
      obtain ⟨z, hz⟩ : ∃ z, z = wordO o := ⟨_, rfl⟩
      rw [← hz] at HLV AO
      replace hz := Lib.hid hz
      have g1 : IntKind.i64.wrap (2 * n) = 2 * n := by rw [IntKind.wrap_i64]; omega
      have g2 : IntKind.i64.wrap ((k : Int) + 2 * n) = (k : Int) + 2 * n := by rw [IntKind.wrap_i64]; omega
      have PI : Hid (I64 x) := Lib.hid (by have := PU1.out; unfold U16 at this; unfold I64; omega)
      by_cases hA : z = x
      · have qA : (z != x) = false := by simp [hA]
        by_cases hN : (k : Int) + 2 * n ≤ xs.length
        · have qN : decide ((xs.length : Int) < k + 2 * n) = false := by simp; omega
          have NO : Hid (asOrder xs k = true) := Lib.hid (by rw [AO.out]; simp [hA, hN])
          have hNh := Lib.hid hN
          clear hA
          go_wp2_with fail
          refine wp_region_F (fun k W => (k = 5 → W.cell? ⟨q, 0, none⟩ = some (.int .u16 z)) ∧ (k = 16 → W.cell? ⟨w.heap.size, 0, none⟩ = some (.slice a xs.length cp))) [0, 1, 2, 3, 4, 5, 6, 7, 9, 10, 11, 12, 13, 14, 15, 16, 17, 18, 19] (by kernel_rfl) ?_
          refine wpAnyF_take (i := 0) (v := ?v0_1) rfl (by kernel_rfl) (by kernel_rfl) (by kernel_rfl) (by kernel_rfl) (fun _ _ _ h => h) (Or.inl ⟨by rfl, ?y0_1⟩) ⟨(fun h => absurd h (by decide)), (fun h => absurd h (by decide))⟩ ?_
          case y0_1 => (intro w hF; clear hF; go_simp; try with_reducible rfl)
          try simp only [List.getElem_toArray, List.getElem_cons_succ, List.getElem_cons_zero, Act.put, List.setIfInBounds_toArray, List.set_cons_zero, List.set_cons_succ]
          refine wpAnyF_take (i := 1) (v := ?v1_1) rfl (by kernel_rfl) (by kernel_rfl) (by kernel_rfl) (by kernel_rfl) (fun _ _ _ h => h) (Or.inl ⟨by rfl, ?y1_1⟩) ⟨(fun h => absurd h (by decide)), (fun h => absurd h (by decide))⟩ ?_
          case y1_1 => (intro w hF; clear hF; go_simp; try with_reducible rfl)
          try simp only [List.getElem_toArray, List.getElem_cons_succ, List.getElem_cons_zero, Act.put, List.setIfInBounds_toArray, List.set_cons_zero, List.set_cons_succ]
          refine wpAnyF_take (i := 2) (v := ?v2_1) rfl (by kernel_rfl) (by kernel_rfl) (by kernel_rfl) (by kernel_rfl) (fun _ _ _ h => h) (Or.inl ⟨by rfl, ?y2_1⟩) ⟨(fun h => absurd h (by decide)), (fun h => absurd h (by decide))⟩ ?_
          case y2_1 => (intro w hF; clear hF; go_simp; try with_reducible rfl)
          try simp only [List.getElem_toArray, List.getElem_cons_succ, List.getElem_cons_zero, Act.put, List.setIfInBounds_toArray, List.set_cons_zero, List.set_cons_succ]
          refine wpAnyF_take (i := 3) (v := ?v3_1) rfl (by kernel_rfl) (by kernel_rfl) (by kernel_rfl) (by kernel_rfl) (fun _ _ _ h => h) (Or.inl ⟨by rfl, ?y3_1⟩) ⟨(fun h => absurd h (by decide)), (fun h => absurd h (by decide))⟩ ?_
          case y3_1 => (intro w hF; clear hF; go_simp; try with_reducible rfl)
          try simp only [List.getElem_toArray, List.getElem_cons_succ, List.getElem_cons_zero, Act.put, List.setIfInBounds_toArray, List.set_cons_zero, List.set_cons_succ]
          refine wpAnyF_take (i := 4) (v := ?v4_1) rfl (by kernel_rfl) (by kernel_rfl) (by kernel_rfl) (by kernel_rfl) (fun _ _ _ h => h) (Or.inl ⟨by rfl, ?y4_1⟩) ⟨(fun h => absurd h (by decide)), (fun h => absurd h (by decide))⟩ ?_
          case y4_1 => (intro w hF; clear hF; go_simp; try with_reducible rfl)
          try simp only [List.getElem_toArray, List.getElem_cons_succ, List.getElem_cons_zero, Act.put, List.setIfInBounds_toArray, List.set_cons_zero, List.set_cons_succ]
          refine wpAnyF_take (i := 5) (v := ?v5_1) rfl (by kernel_rfl) (by kernel_rfl) (by kernel_rfl) (by kernel_rfl) (fun _ _ _ h => h) (Or.inl ⟨by rfl, ?y5_1⟩) ⟨(fun _ => HLV.out.2), (fun h => absurd h (by decide))⟩ ?_
          case y5_1 => (intro w hF; have hF2 := hF.1 rfl; clear hF; go_simp; try with_reducible rfl)
          try simp only [List.getElem_toArray, List.getElem_cons_succ, List.getElem_cons_zero, Act.put, List.setIfInBounds_toArray, List.set_cons_zero, List.set_cons_succ]
          refine wpAnyF_take (i := 6) (v := ?v6_1) rfl (by kernel_rfl) (by kernel_rfl) (by kernel_rfl) (by kernel_rfl) (fun _ _ _ h => h) (Or.inl ⟨by rfl, ?y6_1⟩) ⟨(fun h => absurd h (by decide)), (fun h => absurd h (by decide))⟩ ?_
          case y6_1 => (intro w hF; clear hF; go_simp; try with_reducible rfl)
          try simp only [List.getElem_toArray, List.getElem_cons_succ, List.getElem_cons_zero, Act.put, List.setIfInBounds_toArray, List.set_cons_zero, List.set_cons_succ]
          refine wpAnyF_take (i := 7) (v := ?v7_1) rfl (by kernel_rfl) (by kernel_rfl) (by kernel_rfl) (by kernel_rfl) (fun _ _ _ h => h) (Or.inl ⟨by rfl, ?y7_1⟩) ⟨(fun h => absurd h (by decide)), (fun h => absurd h (by decide))⟩ ?_
          case y7_1 => (intro w hF; clear hF; go_simp; try with_reducible rfl)
          try simp only [List.getElem_toArray, List.getElem_cons_succ, List.getElem_cons_zero, Act.put, List.setIfInBounds_toArray, List.set_cons_zero, List.set_cons_succ]
          refine wpAnyF_ready (rs := [8]) (by kernel_rfl) (by simp) (AllReadyF.cons rfl (fun K hK => ?_) AllReadyF.nil)
          go_simp
          refine (WA.out _ (below_then hbw0.out br6.out).drew).mono ?_
          rintro e w7 ⟨rfl, hb7⟩
          try go_wp2_with fail
          refine hK.out _ _ (Sat.all (by kernel_rfl) (fun k => ⟨(fun _ => ((hb7.cell (p := ⟨q, 0, none⟩) HLV.out.1).trans HLV.out.2)), (fun _ => ((K6.out.drew.below hb7).cell 0))⟩)) ?_
          clear hK K
          try simp only [List.getElem_toArray, List.getElem_cons_succ, List.getElem_cons_zero, Act.put, List.setIfInBounds_toArray, List.set_cons_zero, List.set_cons_succ]
          have K7 := Lib.hid (K6.out.drew.below hb7)
          refine wpAnyF_take (i := 9) (v := ?v9_1) rfl (by kernel_rfl) (by kernel_rfl) (by kernel_rfl) (by kernel_rfl) (fun _ _ _ h => h) (Or.inl ⟨by rfl, ?y9_1⟩) ⟨(fun h => absurd h (by decide)), (fun h => absurd h (by decide))⟩ ?_
          case y9_1 => (intro w hF; clear hF; go_simp; try with_reducible rfl)
          try simp only [List.getElem_toArray, List.getElem_cons_succ, List.getElem_cons_zero, Act.put, List.setIfInBounds_toArray, List.set_cons_zero, List.set_cons_succ]
          refine wpAnyF_take (i := 10) (v := ?v10_1) rfl (by kernel_rfl) (by kernel_rfl) (by kernel_rfl) (by kernel_rfl) (fun _ _ _ h => h) (Or.inl ⟨by rfl, ?y10_1⟩) ⟨(fun h => absurd h (by decide)), (fun h => absurd h (by decide))⟩ ?_
          case y10_1 => (intro w hF; clear hF; go_simp; try with_reducible rfl)
          try simp only [List.getElem_toArray, List.getElem_cons_succ, List.getElem_cons_zero, Act.put, List.setIfInBounds_toArray, List.set_cons_zero, List.set_cons_succ]
          refine wpAnyF_take (i := 11) (v := ?v11_1) rfl (by kernel_rfl) (by kernel_rfl) (by kernel_rfl) (by kernel_rfl) (fun _ _ _ h => h) (Or.inl ⟨by rfl, ?y11_1⟩) ⟨(fun h => absurd h (by decide)), (fun h => absurd h (by decide))⟩ ?_
          case y11_1 => (intro w hF; clear hF; go_simp; try with_reducible rfl)
          try simp only [List.getElem_toArray, List.getElem_cons_succ, List.getElem_cons_zero, Act.put, List.setIfInBounds_toArray, List.set_cons_zero, List.set_cons_succ]
          refine wpAnyF_take (i := 12) (v := ?v12_1) rfl (by kernel_rfl) (by kernel_rfl) (by kernel_rfl) (by kernel_rfl) (fun _ _ _ h => h) (Or.inl ⟨by rfl, ?y12_1⟩) ⟨(fun h => absurd h (by decide)), (fun h => absurd h (by decide))⟩ ?_
          case y12_1 => (intro w hF; clear hF; go_simp; try with_reducible rfl)
          try simp only [List.getElem_toArray, List.getElem_cons_succ, List.getElem_cons_zero, Act.put, List.setIfInBounds_toArray, List.set_cons_zero, List.set_cons_succ]
          refine wpAnyF_take (i := 13) (v := ?v13_1) rfl (by kernel_rfl) (by kernel_rfl) (by kernel_rfl) (by kernel_rfl) (fun _ _ _ h => h) (Or.inl ⟨by rfl, ?y13_1⟩) ⟨(fun h => absurd h (by decide)), (fun h => absurd h (by decide))⟩ ?_
          case y13_1 => (intro w hF; clear hF; go_simp; try with_reducible rfl)
          try simp only [List.getElem_toArray, List.getElem_cons_succ, List.getElem_cons_zero, Act.put, List.setIfInBounds_toArray, List.set_cons_zero, List.set_cons_succ]
          refine wpAnyF_take (i := 14) (v := ?v14_1) rfl (by kernel_rfl) (by kernel_rfl) (by kernel_rfl) (by kernel_rfl) (fun _ _ _ h => h) (Or.inl ⟨by rfl, ?y14_1⟩) ⟨(fun h => absurd h (by decide)), (fun h => absurd h (by decide))⟩ ?_
          case y14_1 => (intro w hF; clear hF; go_simp; try with_reducible rfl)
          try simp only [List.getElem_toArray, List.getElem_cons_succ, List.getElem_cons_zero, Act.put, List.setIfInBounds_toArray, List.set_cons_zero, List.set_cons_succ]
          refine wpAnyF_take (i := 15) (v := ?v15_1) rfl (by kernel_rfl) (by kernel_rfl) (by kernel_rfl) (by kernel_rfl) (fun _ _ _ h => h) (Or.inl ⟨by rfl, ?y15_1⟩) ⟨(fun h => absurd h (by decide)), (fun h => absurd h (by decide))⟩ ?_
          case y15_1 => (intro w hF; clear hF; go_simp; try with_reducible rfl)
          try simp only [List.getElem_toArray, List.getElem_cons_succ, List.getElem_cons_zero, Act.put, List.setIfInBounds_toArray, List.set_cons_zero, List.set_cons_succ]
          refine wpAnyF_take (i := 16) (v := ?v16_1) rfl (by kernel_rfl) (by kernel_rfl) (by kernel_rfl) (by kernel_rfl) (fun _ _ _ h => h) (Or.inl ⟨by rfl, ?y16_1⟩) ⟨(fun h => absurd h (by decide)), (fun _ => (K7.out.cell 0))⟩ ?_
          case y16_1 => (intro w hF; have hF2 := hF.2 rfl; clear hF; go_simp; try with_reducible rfl)
          try simp only [List.getElem_toArray, List.getElem_cons_succ, List.getElem_cons_zero, Act.put, List.setIfInBounds_toArray, List.set_cons_zero, List.set_cons_succ]
          refine wpAnyF_take (i := 17) (v := ?v17_1) rfl (by kernel_rfl) (by kernel_rfl) (by kernel_rfl) (by kernel_rfl) (fun _ _ _ h => h) (Or.inl ⟨by rfl, ?y17_1⟩) ⟨(fun h => absurd h (by decide)), (fun h => absurd h (by decide))⟩ ?_
          case y17_1 => (intro w hF; clear hF; go_simp; try with_reducible rfl)
          try simp only [List.getElem_toArray, List.getElem_cons_succ, List.getElem_cons_zero, Act.put, List.setIfInBounds_toArray, List.set_cons_zero, List.set_cons_succ]
          refine wpAnyF_take (i := 18) (v := ?v18_1) rfl (by kernel_rfl) (by kernel_rfl) (by kernel_rfl) (by kernel_rfl) (fun _ _ _ h => h) (Or.inl ⟨by rfl, ?y18_1⟩) ⟨(fun h => absurd h (by decide)), (fun h => absurd h (by decide))⟩ ?_
          case y18_1 => (intro w hF; clear hF; go_simp; try with_reducible rfl)
          try simp only [List.getElem_toArray, List.getElem_cons_succ, List.getElem_cons_zero, Act.put, List.setIfInBounds_toArray, List.set_cons_zero, List.set_cons_succ]
          refine wpAnyF_take (i := 19) (v := ?v19_1) rfl (by kernel_rfl) (by kernel_rfl) (by kernel_rfl) (by kernel_rfl) (fun _ _ _ h => h) (Or.inl ⟨by rfl, ?y19_1⟩) ⟨(fun h => absurd h (by decide)), (fun h => absurd h (by decide))⟩ ?_
          case y19_1 => (intro w hF; clear hF; go_simp; try with_reducible rfl)
          try simp only [List.getElem_toArray, List.getElem_cons_succ, List.getElem_cons_zero, Act.put, List.setIfInBounds_toArray, List.set_cons_zero, List.set_cons_succ]
          refine wpAnyF_done (by kernel_rfl) ?_ _
          have br7 : Hid (Below wr.heap.size wr w7) := Lib.hid (below_then br6.out.drew hb7)
          have KO7 := Lib.hid (KO6.out.drew.below hb7)
          have IB7 := Lib.hid (isb_below hib.out br7.out)
          clear hb7
          clear g1 g2 qA qN
          go_wp2_with (first | ((with_reducible show wpList _ _ _ _ _ _); refine wpList_loadW rfl 33 (.tmp 7) rfl (on) rfl 33 #[.int .i64 o.op, .int .i64 o.d, .int .i64 o.s, .int .i64 o.n, .int .i64 o.w] (show Blk _ (on) #[.int .i64 o.op, .int .i64 o.d, .int .i64 o.s, .int .i64 o.n, .int .i64 o.w] 33 from (by repeat' (first | (with_reducible first | exact Hid.out (by assumption) | exact Blk.new _ _ _ | (refine Blk.new_at _ _ _ _ ?_; simp; done) | refine Blk.alloc ?_ _ | refine Blk.drewN ?_ _ | refine Blk.drew ?_ | apply Blk.set | refine Blk.put ?_ (by assumption) (by first | (simp; done) | (simp; omega) | omega) | refine Blk.below ?_ (by assumption)) | (refine Blk.setAt ?_ (by first | (simp; done) | (simp; omega))) | rfl))) _ Tryd.underlying33 rfl (by kernel_rfl) ?_))
          refine ((text_right o CK1.out _ (HL.out.below (below_then hbw.out br7.out)))).mono ?_
          rintro e w9 ⟨rfl, hb9⟩
          have br9 : Hid (Below wr.heap.size wr w9) := Lib.hid (below_then br7.out hb9)
          have IB9 := Lib.hid (isb_below hib.out br9.out)
          obtain ⟨tx, htx⟩ : ∃ x, x = textO o := ⟨_, rfl⟩
          have TL : Hid (tx.length ≤ 500) := Lib.hid (by rw [htx]; exact text_len o CK1.out)
          rw [← htx] at LS ⊢
          have n1 : ¬ (9223372036854775807 < tx.length + 1) := by have := TL.out; omega
          have S1 : Hid ((⟨tx.toArray⟩ : ByteArray) ++ ⟨#[10]⟩ = ⟨(tx ++ [10]).toArray⟩) := Lib.hid (str_app2 tx [10])
          have HLN : Hid ((Lib.byteCells acc).length + ((⟨tx.toArray⟩ : ByteArray) ++ ⟨#[10]⟩).size ≤ 140737488355328) := Lib.hid (by rw [S1.out, Lib.size_eq]; have := TL.out; have := hq.out.2.2.1; simp [Lib.byteCells]; omega)
          have hzz : Hid (B ≤ w9.heap.size) := Lib.hid (by have := br9.out.size; omega)
          clear hb9 htx
          go_wp2_with fail
          refine (Tryd.Builder_WriteString_k _ _ (Lib.byteCells acc) _ _ IB9.out HLN.out hzz.out).mono ?_
          rintro e w10 ⟨rfl, hb10, hbb10, hok10⟩
          have IB10 : Hid (Lib.IsBuilderF 57 5 B B (Lib.byteCells (acc ++ (tx ++ [10]))) w10) := Lib.hid (by
            rw [Lib.byteCells_append, ← strCells_eq (tx ++ [10]), ← S1.out]
            exact Or.inr hb10)
          have BW10 : Hid (Below B w0 w10) := Lib.hid ((hb.out.trans (br9.out.mono (by omega))).trans hbb10)
          have E10 : Hid (listF xs = (acc ++ (tx ++ [10])) ++ lst f xs (k + 2 * n.toNat)) := Lib.hid (by rw [hq.out.1, LS.out, NO.out, if_pos rfl]; simp)
          have nb1 : 1 ≤ n := by omega
          have nb2 : n ≤ 2 := by omega
          have ek : Hid ((k : Int) + 2 * n = ((k + 2 * n.toNat : Nat) : Int) ∧ n.toNat ≤ 2 ∧ 1 ≤ n.toNat ∧ k + 2 * n.toNat ≤ 1026) := Lib.hid (by omega)
          clear hb10 hbb10 hok10 n1
          go_wp2
          go_roundw
          case rel => exact ⟨k + 2 * n.toNat, f, acc ++ (tx ++ [10]), by rw [← ek.out.1], ek.out.2.2.2, Lib.hid ⟨E10.out, by have := hq.out.2.1; have := ek.out; omega, by simp only [List.length_append, List.length_cons, List.length_nil]; have := TL.out; have := hq.out.2.2.1; have := ek.out; omega, by have := hq.out.2.2.2; omega⟩, IB10, BW10⟩
          case measure => have := ek.out; simp [intOf]; omega
        · have qN : decide ((xs.length : Int) < k + 2 * n) = true := by simp; omega
          have NO : Hid (asOrder xs k = false) := Lib.hid (by rw [AO.out]; simp [hN])
          clear hA hN
          go_wp2_with fail
          refine wp_region_F (fun k W => (k = 5 → W.cell? ⟨q, 0, none⟩ = some (.int .u16 z)) ∧ (k = 16 → W.cell? ⟨w.heap.size, 0, none⟩ = some (.slice a xs.length cp))) [0, 1, 2, 3, 4, 5, 6, 7, 9, 10, 11, 12, 13, 14, 15, 16, 17, 18, 19] (by kernel_rfl) ?_
          refine wpAnyF_take (i := 0) (v := ?v0_2) rfl (by kernel_rfl) (by kernel_rfl) (by kernel_rfl) (by kernel_rfl) (fun _ _ _ h => h) (Or.inl ⟨by rfl, ?y0_2⟩) ⟨(fun h => absurd h (by decide)), (fun h => absurd h (by decide))⟩ ?_
          case y0_2 => (intro w hF; clear hF; go_simp; try with_reducible rfl)
          try simp only [List.getElem_toArray, List.getElem_cons_succ, List.getElem_cons_zero, Act.put, List.setIfInBounds_toArray, List.set_cons_zero, List.set_cons_succ]
          refine wpAnyF_take (i := 1) (v := ?v1_2) rfl (by kernel_rfl) (by kernel_rfl) (by kernel_rfl) (by kernel_rfl) (fun _ _ _ h => h) (Or.inl ⟨by rfl, ?y1_2⟩) ⟨(fun h => absurd h (by decide)), (fun h => absurd h (by decide))⟩ ?_
          case y1_2 => (intro w hF; clear hF; go_simp; try with_reducible rfl)
          try simp only [List.getElem_toArray, List.getElem_cons_succ, List.getElem_cons_zero, Act.put, List.setIfInBounds_toArray, List.set_cons_zero, List.set_cons_succ]
          refine wpAnyF_take (i := 2) (v := ?v2_2) rfl (by kernel_rfl) (by kernel_rfl) (by kernel_rfl) (by kernel_rfl) (fun _ _ _ h => h) (Or.inl ⟨by rfl, ?y2_2⟩) ⟨(fun h => absurd h (by decide)), (fun h => absurd h (by decide))⟩ ?_
          case y2_2 => (intro w hF; clear hF; go_simp; try with_reducible rfl)
          try simp only [List.getElem_toArray, List.getElem_cons_succ, List.getElem_cons_zero, Act.put, List.setIfInBounds_toArray, List.set_cons_zero, List.set_cons_succ]
          refine wpAnyF_take (i := 3) (v := ?v3_2) rfl (by kernel_rfl) (by kernel_rfl) (by kernel_rfl) (by kernel_rfl) (fun _ _ _ h => h) (Or.inl ⟨by rfl, ?y3_2⟩) ⟨(fun h => absurd h (by decide)), (fun h => absurd h (by decide))⟩ ?_
          case y3_2 => (intro w hF; clear hF; go_simp; try with_reducible rfl)
          try simp only [List.getElem_toArray, List.getElem_cons_succ, List.getElem_cons_zero, Act.put, List.setIfInBounds_toArray, List.set_cons_zero, List.set_cons_succ]
          refine wpAnyF_take (i := 4) (v := ?v4_2) rfl (by kernel_rfl) (by kernel_rfl) (by kernel_rfl) (by kernel_rfl) (fun _ _ _ h => h) (Or.inl ⟨by rfl, ?y4_2⟩) ⟨(fun h => absurd h (by decide)), (fun h => absurd h (by decide))⟩ ?_
          case y4_2 => (intro w hF; clear hF; go_simp; try with_reducible rfl)
          try simp only [List.getElem_toArray, List.getElem_cons_succ, List.getElem_cons_zero, Act.put, List.setIfInBounds_toArray, List.set_cons_zero, List.set_cons_succ]
          refine wpAnyF_take (i := 5) (v := ?v5_2) rfl (by kernel_rfl) (by kernel_rfl) (by kernel_rfl) (by kernel_rfl) (fun _ _ _ h => h) (Or.inl ⟨by rfl, ?y5_2⟩) ⟨(fun _ => HLV.out.2), (fun h => absurd h (by decide))⟩ ?_
          case y5_2 => (intro w hF; have hF2 := hF.1 rfl; clear hF; go_simp; try with_reducible rfl)
          try simp only [List.getElem_toArray, List.getElem_cons_succ, List.getElem_cons_zero, Act.put, List.setIfInBounds_toArray, List.set_cons_zero, List.set_cons_succ]
          refine wpAnyF_take (i := 6) (v := ?v6_2) rfl (by kernel_rfl) (by kernel_rfl) (by kernel_rfl) (by kernel_rfl) (fun _ _ _ h => h) (Or.inl ⟨by rfl, ?y6_2⟩) ⟨(fun h => absurd h (by decide)), (fun h => absurd h (by decide))⟩ ?_
          case y6_2 => (intro w hF; clear hF; go_simp; try with_reducible rfl)
          try simp only [List.getElem_toArray, List.getElem_cons_succ, List.getElem_cons_zero, Act.put, List.setIfInBounds_toArray, List.set_cons_zero, List.set_cons_succ]
          refine wpAnyF_take (i := 7) (v := ?v7_2) rfl (by kernel_rfl) (by kernel_rfl) (by kernel_rfl) (by kernel_rfl) (fun _ _ _ h => h) (Or.inl ⟨by rfl, ?y7_2⟩) ⟨(fun h => absurd h (by decide)), (fun h => absurd h (by decide))⟩ ?_
          case y7_2 => (intro w hF; clear hF; go_simp; try with_reducible rfl)
          try simp only [List.getElem_toArray, List.getElem_cons_succ, List.getElem_cons_zero, Act.put, List.setIfInBounds_toArray, List.set_cons_zero, List.set_cons_succ]
          refine wpAnyF_ready (rs := [8]) (by kernel_rfl) (by simp) (AllReadyF.cons rfl (fun K hK => ?_) AllReadyF.nil)
          go_simp
          refine (WA.out _ (below_then hbw0.out br6.out).drew).mono ?_
          rintro e w7 ⟨rfl, hb7⟩
          try go_wp2_with fail
          refine hK.out _ _ (Sat.all (by kernel_rfl) (fun k => ⟨(fun _ => ((hb7.cell (p := ⟨q, 0, none⟩) HLV.out.1).trans HLV.out.2)), (fun _ => ((K6.out.drew.below hb7).cell 0))⟩)) ?_
          clear hK K
          try simp only [List.getElem_toArray, List.getElem_cons_succ, List.getElem_cons_zero, Act.put, List.setIfInBounds_toArray, List.set_cons_zero, List.set_cons_succ]
          have K7 := Lib.hid (K6.out.drew.below hb7)
          refine wpAnyF_take (i := 9) (v := ?v9_2) rfl (by kernel_rfl) (by kernel_rfl) (by kernel_rfl) (by kernel_rfl) (fun _ _ _ h => h) (Or.inl ⟨by rfl, ?y9_2⟩) ⟨(fun h => absurd h (by decide)), (fun h => absurd h (by decide))⟩ ?_
          case y9_2 => (intro w hF; clear hF; go_simp; try with_reducible rfl)
          try simp only [List.getElem_toArray, List.getElem_cons_succ, List.getElem_cons_zero, Act.put, List.setIfInBounds_toArray, List.set_cons_zero, List.set_cons_succ]
          refine wpAnyF_take (i := 10) (v := ?v10_2) rfl (by kernel_rfl) (by kernel_rfl) (by kernel_rfl) (by kernel_rfl) (fun _ _ _ h => h) (Or.inl ⟨by rfl, ?y10_2⟩) ⟨(fun h => absurd h (by decide)), (fun h => absurd h (by decide))⟩ ?_
          case y10_2 => (intro w hF; clear hF; go_simp; try with_reducible rfl)
          try simp only [List.getElem_toArray, List.getElem_cons_succ, List.getElem_cons_zero, Act.put, List.setIfInBounds_toArray, List.set_cons_zero, List.set_cons_succ]
          refine wpAnyF_take (i := 11) (v := ?v11_2) rfl (by kernel_rfl) (by kernel_rfl) (by kernel_rfl) (by kernel_rfl) (fun _ _ _ h => h) (Or.inl ⟨by rfl, ?y11_2⟩) ⟨(fun h => absurd h (by decide)), (fun h => absurd h (by decide))⟩ ?_
          case y11_2 => (intro w hF; clear hF; go_simp; try with_reducible rfl)
          try simp only [List.getElem_toArray, List.getElem_cons_succ, List.getElem_cons_zero, Act.put, List.setIfInBounds_toArray, List.set_cons_zero, List.set_cons_succ]
          refine wpAnyF_take (i := 12) (v := ?v12_2) rfl (by kernel_rfl) (by kernel_rfl) (by kernel_rfl) (by kernel_rfl) (fun _ _ _ h => h) (Or.inl ⟨by rfl, ?y12_2⟩) ⟨(fun h => absurd h (by decide)), (fun h => absurd h (by decide))⟩ ?_
          case y12_2 => (intro w hF; clear hF; go_simp; try with_reducible rfl)
          try simp only [List.getElem_toArray, List.getElem_cons_succ, List.getElem_cons_zero, Act.put, List.setIfInBounds_toArray, List.set_cons_zero, List.set_cons_succ]
          refine wpAnyF_take (i := 13) (v := ?v13_2) rfl (by kernel_rfl) (by kernel_rfl) (by kernel_rfl) (by kernel_rfl) (fun _ _ _ h => h) (Or.inl ⟨by rfl, ?y13_2⟩) ⟨(fun h => absurd h (by decide)), (fun h => absurd h (by decide))⟩ ?_
          case y13_2 => (intro w hF; clear hF; go_simp; try with_reducible rfl)
          try simp only [List.getElem_toArray, List.getElem_cons_succ, List.getElem_cons_zero, Act.put, List.setIfInBounds_toArray, List.set_cons_zero, List.set_cons_succ]
          refine wpAnyF_take (i := 14) (v := ?v14_2) rfl (by kernel_rfl) (by kernel_rfl) (by kernel_rfl) (by kernel_rfl) (fun _ _ _ h => h) (Or.inl ⟨by rfl, ?y14_2⟩) ⟨(fun h => absurd h (by decide)), (fun h => absurd h (by decide))⟩ ?_
          case y14_2 => (intro w hF; clear hF; go_simp; try with_reducible rfl)
          try simp only [List.getElem_toArray, List.getElem_cons_succ, List.getElem_cons_zero, Act.put, List.setIfInBounds_toArray, List.set_cons_zero, List.set_cons_succ]
          refine wpAnyF_take (i := 15) (v := ?v15_2) rfl (by kernel_rfl) (by kernel_rfl) (by kernel_rfl) (by kernel_rfl) (fun _ _ _ h => h) (Or.inl ⟨by rfl, ?y15_2⟩) ⟨(fun h => absurd h (by decide)), (fun h => absurd h (by decide))⟩ ?_
          case y15_2 => (intro w hF; clear hF; go_simp; try with_reducible rfl)
          try simp only [List.getElem_toArray, List.getElem_cons_succ, List.getElem_cons_zero, Act.put, List.setIfInBounds_toArray, List.set_cons_zero, List.set_cons_succ]
          refine wpAnyF_take (i := 16) (v := ?v16_2) rfl (by kernel_rfl) (by kernel_rfl) (by kernel_rfl) (by kernel_rfl) (fun _ _ _ h => h) (Or.inl ⟨by rfl, ?y16_2⟩) ⟨(fun h => absurd h (by decide)), (fun _ => (K7.out.cell 0))⟩ ?_
          case y16_2 => (intro w hF; have hF2 := hF.2 rfl; clear hF; go_simp; try with_reducible rfl)
          try simp only [List.getElem_toArray, List.getElem_cons_succ, List.getElem_cons_zero, Act.put, List.setIfInBounds_toArray, List.set_cons_zero, List.set_cons_succ]
          refine wpAnyF_take (i := 17) (v := ?v17_2) rfl (by kernel_rfl) (by kernel_rfl) (by kernel_rfl) (by kernel_rfl) (fun _ _ _ h => h) (Or.inl ⟨by rfl, ?y17_2⟩) ⟨(fun h => absurd h (by decide)), (fun h => absurd h (by decide))⟩ ?_
          case y17_2 => (intro w hF; clear hF; go_simp; try with_reducible rfl)
          try simp only [List.getElem_toArray, List.getElem_cons_succ, List.getElem_cons_zero, Act.put, List.setIfInBounds_toArray, List.set_cons_zero, List.set_cons_succ]
          refine wpAnyF_take (i := 18) (v := ?v18_2) rfl (by kernel_rfl) (by kernel_rfl) (by kernel_rfl) (by kernel_rfl) (fun _ _ _ h => h) (Or.inl ⟨by rfl, ?y18_2⟩) ⟨(fun h => absurd h (by decide)), (fun h => absurd h (by decide))⟩ ?_
          case y18_2 => (intro w hF; clear hF; go_simp; try with_reducible rfl)
          try simp only [List.getElem_toArray, List.getElem_cons_succ, List.getElem_cons_zero, Act.put, List.setIfInBounds_toArray, List.set_cons_zero, List.set_cons_succ]
          refine wpAnyF_take (i := 19) (v := ?v19_2) rfl (by kernel_rfl) (by kernel_rfl) (by kernel_rfl) (by kernel_rfl) (fun _ _ _ h => h) (Or.inl ⟨by rfl, ?y19_2⟩) ⟨(fun h => absurd h (by decide)), (fun h => absurd h (by decide))⟩ ?_
          case y19_2 => (intro w hF; clear hF; go_simp; try with_reducible rfl)
          try simp only [List.getElem_toArray, List.getElem_cons_succ, List.getElem_cons_zero, Act.put, List.setIfInBounds_toArray, List.set_cons_zero, List.set_cons_succ]
          refine wpAnyF_done (by kernel_rfl) ?_ _
          have br7 : Hid (Below wr.heap.size wr w7) := Lib.hid (below_then br6.out.drew hb7)
          have KO7 := Lib.hid (KO6.out.drew.below hb7)
          have IB7 := Lib.hid (isb_below hib.out br7.out)
          clear hb7
          clear g1 g2 qA qN
          go_wp2_with fail
          refine (WA.out _ (below_then hbw0.out br7.out)).mono ?_
          rintro e w8 ⟨rfl, hb8⟩
          have br8 : Hid (Below wr.heap.size wr w8) := Lib.hid (below_then br7.out hb8)
          have IT := Lib.hid (itoa_any x PI.out w8 (HL.out.below (below_then hbw.out br8.out)))
          have l1 := Lib.itoa_length_le x PI.out.1 PI.out.2
          have n1 : ¬ (9223372036854775807 < 6 + (Lib.itoa x).length) := by omega
          have n2 : ¬ (9223372036854775807 < 6 + (Lib.itoa x).length + 1) := by omega
          have w3x : wrap64 x = x := by have := PI.out; have := PU1.out; unfold U16 at this; unfold wrap64; omega
          clear hb8
          go_wp2_with fail
          refine (IT.out).mono ?_
          rintro e w9 ⟨rfl, hb9⟩
          have br9 : Hid (Below wr.heap.size wr w9) := Lib.hid (below_then br8.out hb9)
          have IB9 := Lib.hid (isb_below hib.out br9.out)
          have HLN : Hid ((Lib.byteCells acc).length + (⟨#[46, 119, 111, 114, 100, 32]⟩ ++ ⟨(Lib.itoa x).toArray⟩ ++ ⟨#[10]⟩ : ByteArray).size ≤ 140737488355328) := Lib.hid (by rw [wrd_str]; have := wrd_len x PI.out; have := hq.out.2.2.1; rw [Lib.size_eq]; simp [Lib.byteCells]; omega)
          have hzz : Hid (B ≤ w9.heap.size) := Lib.hid (by have := br9.out.size; omega)
          clear hb9
          go_wp2_with fail
          refine (Tryd.Builder_WriteString_k _ _ (Lib.byteCells acc) _ _ IB9.out HLN.out hzz.out).mono ?_
          rintro e w10 ⟨rfl, hb10, hbb10, hok10⟩
          have IB10 : Hid (Lib.IsBuilderF 57 5 B B (Lib.byteCells (acc ++ wrdT x)) w10) := Lib.hid (by
            rw [Lib.byteCells_append, ← strCells_eq (wrdT x), ← wrd_str]
            exact Or.inr hb10)
          have BW10 : Hid (Below B w0 w10) := Lib.hid ((hb.out.trans (br9.out.mono (by omega))).trans hbb10)
          have E10 : Hid (listF xs = (acc ++ wrdT x) ++ lst f xs (k + 2)) := Lib.hid (by rw [hq.out.1, LS.out, NO.out, if_neg (by simp), List.append_assoc])
          have HWL : Hid ((wrdT x).length ≤ 600) := Lib.hid (by have := wrd_len x PI.out; omega)
          clear hb10 hbb10 hok10 n1 n2 l1 w3x
          go_wp2
          go_roundw
          case rel => exact ⟨k + 2, f, acc ++ wrdT x, by go_num, by omega, Lib.hid ⟨E10.out, by have := hq.out.2.1; omega, by rw [List.length_append]; have := HWL.out; have := hq.out.2.2.1; omega, by have := hq.out.2.2.2; omega⟩, IB10, BW10⟩
          case measure => simp [intOf]; omega
      · have qA : (z != x) = true := by simpa using hA
        have NO : Hid (asOrder xs k = false) := Lib.hid (by rw [AO.out]; simp [hA])
        clear hA
        go_wp2_with fail
        refine wp_region_F (fun k W => (k = 5 → W.cell? ⟨q, 0, none⟩ = some (.int .u16 z))) [0, 1, 2, 3, 4, 5, 6, 7, 9, 10, 11, 12, 13, 14, 15, 16, 17, 18, 19] (by kernel_rfl) ?_
        refine wpAnyF_take (i := 0) (v := ?v0_3) rfl (by kernel_rfl) (by kernel_rfl) (by kernel_rfl) (by kernel_rfl) (fun _ _ _ h => h) (Or.inl ⟨by rfl, ?y0_3⟩) (fun h => absurd h (by decide)) ?_
        case y0_3 => (intro w hF; clear hF; go_simp; try with_reducible rfl)
        try simp only [List.getElem_toArray, List.getElem_cons_succ, List.getElem_cons_zero, Act.put, List.setIfInBounds_toArray, List.set_cons_zero, List.set_cons_succ]
        refine wpAnyF_take (i := 1) (v := ?v1_3) rfl (by kernel_rfl) (by kernel_rfl) (by kernel_rfl) (by kernel_rfl) (fun _ _ _ h => h) (Or.inl ⟨by rfl, ?y1_3⟩) (fun h => absurd h (by decide)) ?_
        case y1_3 => (intro w hF; clear hF; go_simp; try with_reducible rfl)
        try simp only [List.getElem_toArray, List.getElem_cons_succ, List.getElem_cons_zero, Act.put, List.setIfInBounds_toArray, List.set_cons_zero, List.set_cons_succ]
        refine wpAnyF_take (i := 2) (v := ?v2_3) rfl (by kernel_rfl) (by kernel_rfl) (by kernel_rfl) (by kernel_rfl) (fun _ _ _ h => h) (Or.inl ⟨by rfl, ?y2_3⟩) (fun h => absurd h (by decide)) ?_
        case y2_3 => (intro w hF; clear hF; go_simp; try with_reducible rfl)
        try simp only [List.getElem_toArray, List.getElem_cons_succ, List.getElem_cons_zero, Act.put, List.setIfInBounds_toArray, List.set_cons_zero, List.set_cons_succ]
        refine wpAnyF_take (i := 3) (v := ?v3_3) rfl (by kernel_rfl) (by kernel_rfl) (by kernel_rfl) (by kernel_rfl) (fun _ _ _ h => h) (Or.inl ⟨by rfl, ?y3_3⟩) (fun h => absurd h (by decide)) ?_
        case y3_3 => (intro w hF; clear hF; go_simp; try with_reducible rfl)
        try simp only [List.getElem_toArray, List.getElem_cons_succ, List.getElem_cons_zero, Act.put, List.setIfInBounds_toArray, List.set_cons_zero, List.set_cons_succ]
        refine wpAnyF_take (i := 4) (v := ?v4_3) rfl (by kernel_rfl) (by kernel_rfl) (by kernel_rfl) (by kernel_rfl) (fun _ _ _ h => h) (Or.inl ⟨by rfl, ?y4_3⟩) (fun h => absurd h (by decide)) ?_
        case y4_3 => (intro w hF; clear hF; go_simp; try with_reducible rfl)
        try simp only [List.getElem_toArray, List.getElem_cons_succ, List.getElem_cons_zero, Act.put, List.setIfInBounds_toArray, List.set_cons_zero, List.set_cons_succ]
        refine wpAnyF_take (i := 5) (v := ?v5_3) rfl (by kernel_rfl) (by kernel_rfl) (by kernel_rfl) (by kernel_rfl) (fun _ _ _ h => h) (Or.inl ⟨by rfl, ?y5_3⟩) (fun _ => HLV.out.2) ?_
        case y5_3 => (intro w hF; have hF2 := hF rfl; clear hF; go_simp; try with_reducible rfl)
        try simp only [List.getElem_toArray, List.getElem_cons_succ, List.getElem_cons_zero, Act.put, List.setIfInBounds_toArray, List.set_cons_zero, List.set_cons_succ]
        refine wpAnyF_take (i := 6) (v := ?v6_3) rfl (by kernel_rfl) (by kernel_rfl) (by kernel_rfl) (by kernel_rfl) (fun _ _ _ h => h) (Or.inl ⟨by rfl, ?y6_3⟩) (fun h => absurd h (by decide)) ?_
        case y6_3 => (intro w hF; clear hF; go_simp; try with_reducible rfl)
        try simp only [List.getElem_toArray, List.getElem_cons_succ, List.getElem_cons_zero, Act.put, List.setIfInBounds_toArray, List.set_cons_zero, List.set_cons_succ]
        refine wpAnyF_take (i := 7) (v := ?v7_3) rfl (by kernel_rfl) (by kernel_rfl) (by kernel_rfl) (by kernel_rfl) (fun _ _ _ h => h) (Or.inl ⟨by rfl, ?y7_3⟩) (fun h => absurd h (by decide)) ?_
        case y7_3 => (intro w hF; clear hF; go_simp; try with_reducible rfl)
        try simp only [List.getElem_toArray, List.getElem_cons_succ, List.getElem_cons_zero, Act.put, List.setIfInBounds_toArray, List.set_cons_zero, List.set_cons_succ]
        refine wpAnyF_ready (rs := [8]) (by kernel_rfl) (by simp) (AllReadyF.cons rfl (fun K hK => ?_) AllReadyF.nil)
        go_simp
        refine (WA.out _ (below_then hbw0.out br6.out).drew).mono ?_
        rintro e w7 ⟨rfl, hb7⟩
        try go_wp2_with fail
        refine hK.out _ _ (Sat.all (by kernel_rfl) (fun k => (fun _ => ((hb7.cell (p := ⟨q, 0, none⟩) HLV.out.1).trans HLV.out.2)))) ?_
        clear hK K
        try simp only [List.getElem_toArray, List.getElem_cons_succ, List.getElem_cons_zero, Act.put, List.setIfInBounds_toArray, List.set_cons_zero, List.set_cons_succ]
        have K7 := Lib.hid (K6.out.drew.below hb7)
        refine wpAnyF_take (i := 9) (v := ?v9_3) rfl (by kernel_rfl) (by kernel_rfl) (by kernel_rfl) (by kernel_rfl) (fun _ _ _ h => h) (Or.inl ⟨by rfl, ?y9_3⟩) (fun h => absurd h (by decide)) ?_
        case y9_3 => (intro w hF; clear hF; go_simp; try with_reducible rfl)
        try simp only [List.getElem_toArray, List.getElem_cons_succ, List.getElem_cons_zero, Act.put, List.setIfInBounds_toArray, List.set_cons_zero, List.set_cons_succ]
        refine wpAnyF_take (i := 10) (v := ?v10_3) rfl (by kernel_rfl) (by kernel_rfl) (by kernel_rfl) (by kernel_rfl) (fun _ _ _ h => h) (Or.inl ⟨by rfl, ?y10_3⟩) (fun h => absurd h (by decide)) ?_
        case y10_3 => (intro w hF; clear hF; go_simp; try with_reducible rfl)
        try simp only [List.getElem_toArray, List.getElem_cons_succ, List.getElem_cons_zero, Act.put, List.setIfInBounds_toArray, List.set_cons_zero, List.set_cons_succ]
        refine wpAnyF_take (i := 11) (v := ?v11_3) rfl (by kernel_rfl) (by kernel_rfl) (by kernel_rfl) (by kernel_rfl) (fun _ _ _ h => h) (Or.inl ⟨by rfl, ?y11_3⟩) (fun h => absurd h (by decide)) ?_
        case y11_3 => (intro w hF; clear hF; go_simp; try with_reducible rfl)
        try simp only [List.getElem_toArray, List.getElem_cons_succ, List.getElem_cons_zero, Act.put, List.setIfInBounds_toArray, List.set_cons_zero, List.set_cons_succ]
        refine wpAnyF_take (i := 12) (v := undef) rfl (by kernel_rfl) (by kernel_rfl) (by kernel_rfl) (by kernel_rfl) (fun _ _ _ h => h) (Or.inr ⟨by rfl, rfl⟩) (fun h => absurd h (by decide)) ?_
        try simp only [List.getElem_toArray, List.getElem_cons_succ, List.getElem_cons_zero, Act.put, List.setIfInBounds_toArray, List.set_cons_zero, List.set_cons_succ]
        refine wpAnyF_take (i := 13) (v := undef) rfl (by kernel_rfl) (by kernel_rfl) (by kernel_rfl) (by kernel_rfl) (fun _ _ _ h => h) (Or.inr ⟨by rfl, rfl⟩) (fun h => absurd h (by decide)) ?_
        try simp only [List.getElem_toArray, List.getElem_cons_succ, List.getElem_cons_zero, Act.put, List.setIfInBounds_toArray, List.set_cons_zero, List.set_cons_succ]
        refine wpAnyF_take (i := 14) (v := undef) rfl (by kernel_rfl) (by kernel_rfl) (by kernel_rfl) (by kernel_rfl) (fun _ _ _ h => h) (Or.inr ⟨by rfl, rfl⟩) (fun h => absurd h (by decide)) ?_
        try simp only [List.getElem_toArray, List.getElem_cons_succ, List.getElem_cons_zero, Act.put, List.setIfInBounds_toArray, List.set_cons_zero, List.set_cons_succ]
        refine wpAnyF_take (i := 15) (v := undef) rfl (by kernel_rfl) (by kernel_rfl) (by kernel_rfl) (by kernel_rfl) (fun _ _ _ h => h) (Or.inr ⟨by rfl, rfl⟩) (fun h => absurd h (by decide)) ?_
        try simp only [List.getElem_toArray, List.getElem_cons_succ, List.getElem_cons_zero, Act.put, List.setIfInBounds_toArray, List.set_cons_zero, List.set_cons_succ]
        refine wpAnyF_take (i := 16) (v := undef) rfl (by kernel_rfl) (by kernel_rfl) (by kernel_rfl) (by kernel_rfl) (fun _ _ _ h => h) (Or.inr ⟨by rfl, rfl⟩) (fun h => absurd h (by decide)) ?_
        try simp only [List.getElem_toArray, List.getElem_cons_succ, List.getElem_cons_zero, Act.put, List.setIfInBounds_toArray, List.set_cons_zero, List.set_cons_succ]
        refine wpAnyF_take (i := 17) (v := undef) rfl (by kernel_rfl) (by kernel_rfl) (by kernel_rfl) (by kernel_rfl) (fun _ _ _ h => h) (Or.inr ⟨by rfl, rfl⟩) (fun h => absurd h (by decide)) ?_
        try simp only [List.getElem_toArray, List.getElem_cons_succ, List.getElem_cons_zero, Act.put, List.setIfInBounds_toArray, List.set_cons_zero, List.set_cons_succ]
        refine wpAnyF_take (i := 18) (v := undef) rfl (by kernel_rfl) (by kernel_rfl) (by kernel_rfl) (by kernel_rfl) (fun _ _ _ h => h) (Or.inr ⟨by rfl, rfl⟩) (fun h => absurd h (by decide)) ?_
        try simp only [List.getElem_toArray, List.getElem_cons_succ, List.getElem_cons_zero, Act.put, List.setIfInBounds_toArray, List.set_cons_zero, List.set_cons_succ]
        refine wpAnyF_take (i := 19) (v := ?v19_3) rfl (by kernel_rfl) (by kernel_rfl) (by kernel_rfl) (by kernel_rfl) (fun _ _ _ h => h) (Or.inl ⟨by rfl, ?y19_3⟩) (fun h => absurd h (by decide)) ?_
        case y19_3 => (intro w hF; clear hF; go_simp; try with_reducible rfl)
        try simp only [List.getElem_toArray, List.getElem_cons_succ, List.getElem_cons_zero, Act.put, List.setIfInBounds_toArray, List.set_cons_zero, List.set_cons_succ]
        refine wpAnyF_done (by kernel_rfl) ?_ _
        have br7 : Hid (Below wr.heap.size wr w7) := Lib.hid (below_then br6.out.drew hb7)
        have KO7 := Lib.hid (KO6.out.drew.below hb7)
        have IB7 := Lib.hid (isb_below hib.out br7.out)
        clear hb7
        clear g1 g2 qA
        go_wp2_with fail
        refine (WA.out _ (below_then hbw0.out br7.out)).mono ?_
        rintro e w8 ⟨rfl, hb8⟩
        have br8 : Hid (Below wr.heap.size wr w8) := Lib.hid (below_then br7.out hb8)
        have IT := Lib.hid (itoa_any x PI.out w8 (HL.out.below (below_then hbw.out br8.out)))
        have l1 := Lib.itoa_length_le x PI.out.1 PI.out.2
        have n1 : ¬ (9223372036854775807 < 6 + (Lib.itoa x).length) := by omega
        have n2 : ¬ (9223372036854775807 < 6 + (Lib.itoa x).length + 1) := by omega
        have w3x : wrap64 x = x := by have := PI.out; have := PU1.out; unfold U16 at this; unfold wrap64; omega
        clear hb8
        go_wp2_with fail
        refine (IT.out).mono ?_
        rintro e w9 ⟨rfl, hb9⟩
        have br9 : Hid (Below wr.heap.size wr w9) := Lib.hid (below_then br8.out hb9)
        have IB9 := Lib.hid (isb_below hib.out br9.out)
        have HLN : Hid ((Lib.byteCells acc).length + (⟨#[46, 119, 111, 114, 100, 32]⟩ ++ ⟨(Lib.itoa x).toArray⟩ ++ ⟨#[10]⟩ : ByteArray).size ≤ 140737488355328) := Lib.hid (by rw [wrd_str]; have := wrd_len x PI.out; have := hq.out.2.2.1; rw [Lib.size_eq]; simp [Lib.byteCells]; omega)
        have hzz : Hid (B ≤ w9.heap.size) := Lib.hid (by have := br9.out.size; omega)
        clear hb9
        go_wp2_with fail
        refine (Tryd.Builder_WriteString_k _ _ (Lib.byteCells acc) _ _ IB9.out HLN.out hzz.out).mono ?_
        rintro e w10 ⟨rfl, hb10, hbb10, hok10⟩
        have IB10 : Hid (Lib.IsBuilderF 57 5 B B (Lib.byteCells (acc ++ wrdT x)) w10) := Lib.hid (by
          rw [Lib.byteCells_append, ← strCells_eq (wrdT x), ← wrd_str]
          exact Or.inr hb10)
        have BW10 : Hid (Below B w0 w10) := Lib.hid ((hb.out.trans (br9.out.mono (by omega))).trans hbb10)
        have E10 : Hid (listF xs = (acc ++ wrdT x) ++ lst f xs (k + 2)) := Lib.hid (by rw [hq.out.1, LS.out, NO.out, if_neg (by simp), List.append_assoc])
        have HWL : Hid ((wrdT x).length ≤ 600) := Lib.hid (by have := wrd_len x PI.out; omega)
        clear hb10 hbb10 hok10 n1 n2 l1 w3x
        go_wp2
        go_roundw
        case rel => exact ⟨k + 2, f, acc ++ wrdT x, by go_num, by omega, Lib.hid ⟨E10.out, by have := hq.out.2.1; omega, by rw [List.length_append]; have := HWL.out; have := hq.out.2.2.1; omega, by have := hq.out.2.2.2; omega⟩, IB10, BW10⟩
        case measure => simp [intOf]; omega
    · have hki : ¬ (k : Int) < xs.length := by omega
      have EE : Hid (listF xs = acc) := Lib.hid (by rw [hq.out.1, lst_end f xs k hkn, List.append_nil])
      have hz2 : Hid (B ≤ wr.heap.size) := Lib.hid (by omega)
      clear hkn
      go_wp2_with fail
      refine (Tryd.Builder_String_any_k _ _ acc _ hib.out hz2.out).mono ?_
      rintro e w2 ⟨rfl, -, hb2, -⟩
      have hbb : Below w.heap.size w w2 := hbw.out.trans (hb2.mono (by have := hB1.out; omega))
      go_wp2
      go_ret2
      exact E.out _ _ ⟨by rw [EE.out]; rfl, hbb⟩
end Go.Proofs.YtmpdoiilakjmbaaDoor
