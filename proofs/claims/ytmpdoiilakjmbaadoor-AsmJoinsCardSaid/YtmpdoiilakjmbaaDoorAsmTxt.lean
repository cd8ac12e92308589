/- The text of an order. Conditions: the library's variables hold what they were laid with; there is an order of that number. -/
import Derived.Test.YtmpdoiilakjmbaaDoorAsmPure
import Derived.Test.YtmpdoiilakjmbaaDoorAsmLeaf
import Derived.Test.YtmpdoiilakjmbaaDoorOrdNm
import Derived.Test.YtmpdoiilakjmbaaDoorOfP
import Derived.Test.YtmpdoiilakjmbaaDoorBldrW
import Derived.Test.YtmpdoiilakjmbaaDoorOwnB
import Derived.Deep.RegionLawGrows
namespace Go.Proofs.YtmpdoiilakjmbaaDoor
open Go.RowKit Go.Mq
set_option linter.unusedVariables false
set_option linter.unusedSimpArgs false
set_option maxHeartbeats 2000000
set_option maxRecDepth 100000
def valO (o : Od) (c : UInt8) : Int := if c = 100 then o.d else if c = 115 then o.s else if c = 110 then o.n else o.w
def fmtO (o : Od) (c : UInt8) : List UInt8 := if c = 100 ∨ c = 115 then 114 :: Lib.itoa (valO o c) else Lib.itoa (valO o c)
def textO (o : Od) : List UInt8 := (namO o.op).data.toList ++ if prtL o.op.toNat = [] then [] else 32 :: Lib.join ((prtL o.op.toNat).map (fmtO o)) [44, 32]
theorem prt_all2 : ∀ k : Nat, k < 32 → (∀ c ∈ prtL k, c = 100 ∨ c = 115 ∨ c = 110 ∨ c = 119) ∧ (prtL k).length ≤ 4 := by decide +kernel
theorem infoStr : (Tryd.prog.info? 9).map (fun i => (i.zero, i.size, i.bytes)) = some (some (.string ⟨#[]⟩), 1, 16) := by kernel_rfl
theorem lens_le : ∀ (xs : List (List UInt8)), (∀ t ∈ xs, t.length ≤ 40) → Lib.lens xs ≤ 40 * xs.length
  | [], _ => by simp [Lib.lens]
  | x :: r, h => by
    have h1 := h x (by simp)
    have h2 := lens_le r (fun t ht => h t (by simp [ht]))
    simp only [Lib.lens, List.map_cons, List.sum_cons, List.length_cons] at h2 ⊢
    omega
theorem join_len (xs : List (List UInt8)) (h4 : xs.length ≤ 4) (h : ∀ t ∈ xs, t.length ≤ 40) : (Lib.join xs [44, 32]).length ≤ 400 := by
  cases xs with
  | nil => simp [Lib.join_nil]
  | cons x r =>
    rw [Lib.join_length]
    have := lens_le (x :: r) h
    simp only [List.length_cons, List.length_nil] at *
    omega
theorem join_own (w : World) (base : Nat) (va : Option Addr) (n vc : Nat) (xs : List (List UInt8)) (hn : n = xs.length) (h : w.ownsRow base 9 1 (.slice va n vc) n (xs.map strV)) (hl : ∀ t ∈ xs, t.length ≤ 40) (h4 : xs.length ≤ 4) (h0 : 0 < xs.length) :
    Calls Tryd.prog 48 #[.slice va n vc, .string ⟨#[44, 32]⟩] w fun e w' => e = .returned (.string ⟨(Lib.join xs [44, 32]).toArray⟩) ∧ Below w.heap.size w w' := by
  subst hn
  rcases h.2 with ⟨hv, hz⟩ | ⟨q, cap, cur, hv, hbg, hgg, h1, _⟩
  · omega
  · injection hv with e1 e2 e3
    subst e1
    subst e3
    have hx : (xs.map (fun l => (⟨l.toArray⟩ : ByteArray))).map (·.data.toList) = xs := by
      rw [List.map_map]
      conv => rhs; rw [← List.map_id xs]
      refine List.map_congr_left fun l _ => ?_
      simp
    have := Tryd.strings_Join q 0 vc (xs.map (fun l => (⟨l.toArray⟩ : ByteArray))) ⟨#[44, 32]⟩ w (fun j x hj => by
      have hc := h.cells (g := q) rfl j (.string x) (by
        rw [List.getElem?_map] at hj ⊢
        cases hq : xs[j]? with
        | none => rw [hq] at hj; cases hj
        | some l =>
          rw [hq] at hj
          simp at hj
          subst hj
          rfl)
      rw [Addr.add_lit] at hc
      exact hc) (Array.getElem?_eq_some_iff.1 hgg).1 (by rw [List.length_map]; omega) (by rw [List.length_map]; exact h1) (by
        rw [hx]
        have := join_len xs h4 hl
        show (Lib.join xs [44, 32]).length ≤ _
        omega)
    rw [hx, List.length_map] at this
    exact this
theorem str32 (m J : List UInt8) : (⟨m.toArray⟩ : ByteArray) ++ ⟨#[32]⟩ ++ ⟨J.toArray⟩ = ⟨(m ++ 32 :: J).toArray⟩ := by
  rw [show (⟨#[32]⟩ : ByteArray) = ⟨([32] : List UInt8).toArray⟩ from rfl, str_app2, str_app2]
  simp
theorem nm_len : ∀ k : Nat, k < 32 → (shmL.getD k []).length ≤ 4 := by decide +kernel
theorem mput (w0 : World) {n c : Nat} (hn : n = w0.heap.size) {es es' : Array MapEntry} (k v : Int) (h : es.push { key := .int .i32 k, val := .int .i64 v, born := c } = es') (hf : Instr.findNow (.int .i32) (.int .i32 k) es.toList 0 = some none) :
    (Instr.mapUpdate 94 (.map (some n)) (.int .i32 k) (.int .i64 v)).run Tryd.prog (w0.alloc (.map es c)) = .ok () (w0.alloc (.map es' (c + 1))) := by
  subst h
  exact run_put_new (P := Tryd.prog) w0 hn Tryd.underlying94 Tryd.underlying21 (by simp [MapKept.IsKey]) hf
theorem mget (w0 : World) {n c i : Nat} (hn : n = w0.heap.size) {es : Array MapEntry} (k v : Int) (hf : Instr.findNow (.int .i32) (.int .i32 k) es.toList 0 = some (some (i, .int .i64 v))) :
    (Instr.lookup 94 (.map (some n)) (.int .i32 k) false).run Tryd.prog (w0.alloc (.map es c)) = .ok (.int .i64 v) (w0.alloc (.map es c)) :=
  run_get_new (P := Tryd.prog) w0 hn Tryd.underlying94 Tryd.underlying21 (by simp [MapKept.IsKey]) hf
theorem text_any (K : Nat) (D S N V : Int) (hk : K < 32) (h30 : K ≠ 30) (hD : I64 D) (hS : I64 S) (hN : I64 N) (hV : I64 V) (w : World) (hL : Lk w) :
    Calls Tryd.prog 29 #[.agg #[.int .i64 K, .int .i64 D, .int .i64 S, .int .i64 N, .int .i64 V]] w fun e w' => e = .returned (.string ⟨(textO ⟨K, D, S, N, V⟩).toArray⟩) ∧ Below w.heap.size w w' := by
  have NM := Lib.hid (name_yes K (by omega) (by omega) (by omega))
  have PT := Lib.hid (parts_k K hk)
  have HL := Lib.hid hL
  have ET : Hid (textO ⟨K, D, S, N, V⟩ = (namO (K : Int)).data.toList ++ if prtL K = [] then [] else 32 :: Lib.join ((prtL K).map (fmtO ⟨K, D, S, N, V⟩)) [44, 32]) := Lib.hid (by unfold textO; simp only [Int.toNat_natCast])
  obtain ⟨m, hm⟩ : ∃ m, m = shmL.getD K [] := ⟨_, rfl⟩
  have HM : Hid (m.length ≤ 4) := Lib.hid (by rw [hm]; exact nm_len K hk)
  rw [show namO (K : Int) = ⟨m.toArray⟩ by rw [hm]; rfl] at NM ET
  obtain ⟨pl, hpl⟩ : ∃ x, x = prtL K := ⟨_, rfl⟩
  obtain ⟨O, hO⟩ : ∃ x : Od, x = ⟨K, D, S, N, V⟩ := ⟨_, rfl⟩
  rw [← hO] at ET ⊢
  replace hO := Lib.hid hO
  rw [← hpl] at PT ET
  have PA := Lib.hid (prt_all2 K hk)
  rw [← hpl] at PA
  replace hpl := Lib.hid hpl
  clear hL hm
  go_enter Tryd.func29, Tryd.ntmps29
  go_wp2_with fail
  refine (NM.out _).mono ?_
  rintro e w1 ⟨rfl, hb1⟩
  have Kw1_0 : Hid (Blk w1 (w.heap.size) #[.int .i64 K, .int .i64 D, .int .i64 S, .int .i64 N, .int .i64 V] 33) := Lib.hid (by repeat' (first | (with_reducible first | exact Hid.out (by assumption) | exact Blk.new _ _ _ | (refine Blk.new_at _ _ _ _ ?_; simp; done) | refine Blk.alloc ?_ _ | refine Blk.drewN ?_ _ | refine Blk.drew ?_ | apply Blk.set | refine Blk.put ?_ (by assumption) (by first | (simp; done) | (simp; omega) | omega) | refine Blk.below ?_ (by assumption)) | (refine Blk.setAt ?_ (by first | (simp; done) | (simp; omega))) | rfl))
  obtain ⟨lw1_0, cw1_0, fw1_0⟩ := Kw1_0.out.use
  go_wp2_with fail
  refine (PT.out _).mono ?_
  rintro e w1 ⟨rfl, rfl⟩
  go_wp2_with fail
  -- the loop: mktxt.py
  have FI := Lib.hid (World.iter_heap w1 ⟨pl.toArray⟩ 0)
  have KB := Lib.hid (Kw1_0.out.alloc (.stringIter ⟨pl.toArray⟩ 0))
  have hbw1 : Below w.heap.size w (w1.iter ⟨pl.toArray⟩ 0) := below_alloc (by repeat' (first | (with_reducible first | exact Below.refl _ _ | assumption | refine below_alloc ?_ _ | refine Below.drew ?_ | refine Go.Mq.below_drewN ?_ _ | refine below_then ?_ (by assumption) | refine below_put ?_ (by assumption) (by first | (simp; done) | (simp; omega) | omega) | refine Below.setCell ?_ ?_ _) | (simp; done) | (simp; omega) | omega)) _
  change Hid (Blk (w1.iter ⟨pl.toArray⟩ 0) _ _ _) at KB
  have GN : Hid (w.heap.size < w1.heap.size) := Lib.hid Kw1_0.out.lt
  have HZ : Hid (w1.heap.size + 1 ≤ (w1.iter ⟨pl.toArray⟩ 0).heap.size) := Lib.hid (by simp [World.iter])
  obtain ⟨W3, hW3⟩ : ∃ W3, W3 = w1.iter ⟨pl.toArray⟩ 0 := ⟨_, rfl⟩
  rw [← hW3] at FI KB hbw1 HZ ⊢
  obtain ⟨M, eM⟩ : ∃ M, M = w1.heap.size := ⟨_, rfl⟩
  rw [← eM] at FI GN HZ ⊢
  obtain ⟨i0, hi, hz0, hz1, hz2⟩ := info_parts infoStr
  have HI := Lib.hid (And.intro hi (And.intro hz0 (And.intro hz1 hz2)))
  clear hi hz0 hz1 hz2 hW3 eM hb1 Kw1_0 cw1_0 fw1_0 lw1_0
  have hmm := @run_makeMap Tryd.prog
  go_loopw [5] (fun v wr => ∃ (p r : List UInt8), pl = p ++ r ∧ Hid (wr.heap[M]? = some (.stringIter ⟨pl.toArray⟩ p.length) ∧ Blk wr w.heap.size #[.int .i64 K, .int .i64 D, .int .i64 S, .int .i64 N, .int .i64 V] 33 ∧ wr.ownsRow (M + 1) 9 1 v p.length ((p.map (fmtO O)).map strV)) ∧ Below w.heap.size w wr ∧ M + 1 ≤ wr.heap.size) (fun _ wr => pl.length - wr.iterPos M)
  case atStart => exact ⟨[], pl, rfl, Lib.hid ⟨FI.out, KB.out, ⟨rfl, .inl ⟨rfl, rfl⟩⟩⟩, hbw1, HZ.out⟩
  case round =>
    obtain ⟨p, r, hpr, hx, hb, hz⟩ := hrel
    have hit0 := hx.out.1
    obtain ⟨va, vc, ev⟩ := own_shape hx.out.2.2
    subst ev
    cases r with
    | nil =>
      rw [List.append_nil] at hpr
      subst hpr
      have hnx : ∀ ty, (Instr.next (.pointer (some ⟨M, 0, none⟩)) true ty).run Tryd.prog wr = _ := fun ty => next_end wr M pl ty hit0
      have HO := Lib.hid hx.out.2.2
      have HEL := Lib.hid PA.out.2
      clear hx hit0
      by_cases hp0 : pl.length = 0
      · have hp1 : pl = [] := List.length_eq_zero_iff.1 hp0
        have EX : Hid (textO O = m) := Lib.hid (by rw [ET.out, if_pos hp1]; simp)
        have q : ((pl.length : Int) == 0) = true := by simp; omega
        clear hp0 hp1
        go_wp2
        go_ret
        exact ⟨by rw [EX.out]; rfl, hb⟩
      · have EX : Hid (textO O = m ++ (32 :: Lib.join (pl.map (fmtO O)) [44, 32])) := Lib.hid (by rw [ET.out, if_neg (fun e => hp0 (by rw [e]; rfl))])
        have q : ((pl.length : Int) == 0) = false := by simp; exact fun h => hp0 (by rw [h]; rfl)
        have JN := Lib.hid (join_own wr (M + 1) va pl.length vc (pl.map (fmtO O)) (by simp) HO.out (fun t ht => by
          rw [List.mem_map] at ht
          obtain ⟨c, hc, rfl⟩ := ht
          have := PA.out.1 c hc
          have a1 := Lib.itoa_length_le D hD.1 hD.2
          have a2 := Lib.itoa_length_le S hS.1 hS.2
          have a3 := Lib.itoa_length_le N hN.1 hN.2
          have a4 := Lib.itoa_length_le V hV.1 hV.2
          rw [hO.out]
          rcases this with rfl | rfl | rfl | rfl <;> simp [fmtO, valO] <;> omega) (by rw [List.length_map]; exact HEL.out) (by rw [List.length_map]; omega))
        have JL := Lib.hid (join_len (pl.map (fmtO O)) (by rw [List.length_map]; exact HEL.out) (fun t ht => by
          rw [List.mem_map] at ht
          obtain ⟨c, hc, rfl⟩ := ht
          have := PA.out.1 c hc
          have a1 := Lib.itoa_length_le D hD.1 hD.2
          have a2 := Lib.itoa_length_le S hS.1 hS.2
          have a3 := Lib.itoa_length_le N hN.1 hN.2
          have a4 := Lib.itoa_length_le V hV.1 hV.2
          rw [hO.out]
          rcases this with rfl | rfl | rfl | rfl <;> simp [fmtO, valO] <;> omega))
        obtain ⟨J, hJ⟩ : ∃ x, x = Lib.join (pl.map (fmtO O)) [44, 32] := ⟨_, rfl⟩
        rw [← hJ] at JN EX JL
        have n1 : ¬ (9223372036854775807 < m.length + 1) := by have := HM.out; omega
        have n2 : ¬ (9223372036854775807 < m.length + 1 + J.length) := by have := HM.out; have := JL.out; omega
        clear hp0 hJ HO
        go_wp2_with fail
        refine (JN.out).mono ?_
        rintro e w5 ⟨rfl, hb5⟩
        go_wp2
        go_ret
        exact ⟨by rw [EX.out, ← str32 m J]; rfl, below_then hb hb5⟩
    | cons c r =>
      have hc := PA.out.1 c (by rw [hpr]; simp)
      have hit1 : wr.heap[M]? = some (.stringIter ⟨(p ++ c :: r).toArray⟩ p.length) := by rw [← hpr]; exact hit0
      have hnx : ∀ ty, (Instr.next (.pointer (some ⟨M, 0, none⟩)) true ty).run Tryd.prog wr = _ := fun ty => next_mid wr M p r c ty hit1 (by rcases hc with rfl | rfl | rfl | rfl <;> decide)
      rw [← hpr] at hnx
      have hP := put_iterAt wr M ⟨pl.toArray⟩ (p.length + 1)
      have hit2 := Lib.iterAt_heap wr M ⟨pl.toArray⟩ p.length (p.length + 1) hit0
      obtain ⟨W1, hW1⟩ : ∃ W1, W1 = wr.iterAt M ⟨pl.toArray⟩ (p.length + 1) := ⟨_, rfl⟩
      rw [← hW1] at hnx hP hit2
      have K9 := Lib.hid (hx.out.2.1.put hP (by have := GN.out; omega))
      have O9 := Lib.hid (own_put hx.out.2.2 hP (by omega))
      have hb1 : Below w.heap.size w W1 := below_put hb hP (by have := GN.out; omega)
      have hz1 : M + 1 ≤ W1.heap.size := by have := hP.size; omega
      have HP0 := Lib.hid (iterPos_eq hit0)
      have HIT := Lib.hid hit2
      have HLN : Hid (pl.length = p.length + (r.length + 1)) := Lib.hid (by rw [hpr]; simp)
      have HPL := Lib.hid hpr
      obtain ⟨l9, c9, f9⟩ := K9.out.use
      have p1 := mput W1 (n := W1.heap.size) rfl (es := #[]) (es' := #[{ key := .int .i32 100, val := .int .i64 D, born := 0 }]) (c := 0) 100 D rfl rfl
      have p2 := mput W1 (n := W1.heap.size) rfl (es := #[{ key := .int .i32 100, val := .int .i64 D, born := 0 }]) (es' := #[{ key := .int .i32 100, val := .int .i64 D, born := 0 }, { key := .int .i32 115, val := .int .i64 S, born := 1 }]) (c := 1) 115 S rfl rfl
      have p3 := mput W1 (n := W1.heap.size) rfl (es := #[{ key := .int .i32 100, val := .int .i64 D, born := 0 }, { key := .int .i32 115, val := .int .i64 S, born := 1 }]) (es' := #[{ key := .int .i32 100, val := .int .i64 D, born := 0 }, { key := .int .i32 115, val := .int .i64 S, born := 1 }, { key := .int .i32 110, val := .int .i64 N, born := 2 }]) (c := 2) 110 N rfl rfl
      have p4 := mput W1 (n := W1.heap.size) rfl (es := #[{ key := .int .i32 100, val := .int .i64 D, born := 0 }, { key := .int .i32 115, val := .int .i64 S, born := 1 }, { key := .int .i32 110, val := .int .i64 N, born := 2 }]) (es' := #[{ key := .int .i32 100, val := .int .i64 D, born := 0 }, { key := .int .i32 115, val := .int .i64 S, born := 1 }, { key := .int .i32 110, val := .int .i64 N, born := 2 }, { key := .int .i32 119, val := .int .i64 V, born := 3 }]) (c := 3) 119 V rfl rfl
      have hbm := below_alloc (Below.refl W1.heap.size W1) (.map #[{ key := .int .i32 100, val := .int .i64 D, born := 0 }, { key := .int .i32 115, val := .int .i64 S, born := 1 }, { key := .int .i32 110, val := .int .i64 N, born := 2 }, { key := .int .i32 119, val := .int .i64 V, born := 3 }] 4)
      have HBM := Lib.hid hbm
      clear hW1 hx hit0 hit1 hit2 hP hb hpr hbm hz
      rcases hc with rfl | rfl | rfl | rfl
      · have g4 := mget W1 (n := W1.heap.size) rfl (es := #[{ key := .int .i32 100, val := .int .i64 D, born := 0 }, { key := .int .i32 115, val := .int .i64 S, born := 1 }, { key := .int .i32 110, val := .int .i64 N, born := 2 }, { key := .int .i32 119, val := .int .i64 V, born := 3 }]) (c := 4) (i := 0) 100 D rfl
        have cu : (((100 : UInt8)).toNat : Int) = 100 := rfl
        have IT := Lib.hid (itoa_any D hD)
        have FM : Hid (fmtO O 100 = 114 :: Lib.itoa D) := Lib.hid (by rw [hO.out]; rfl)
        have LI := Lib.itoa_length_le D hD.1 hD.2
        have n1 : ¬ (9223372036854775807 < 1 + (Lib.itoa D).length) := by omega
        have ES : (⟨#[114]⟩ : ByteArray) ++ ⟨(Lib.itoa D).toArray⟩ = ⟨(114 :: Lib.itoa D).toArray⟩ := str_app2 [114] _
        go_wp2_with fail
        refine (IT.out _ (HL.out.below (hb1.trans (HBM.out.mono hb1.size)))).mono ?_
        rintro e w5 ⟨rfl, hb5⟩
        have B5 : Below W1.heap.size W1 w5 := HBM.out.trans (hb5.mono HBM.out.size)
        have K5 := Lib.hid (K9.out.below B5)
        have O5 := Lib.hid (own_below O9.out B5)
        have I5 : Hid (w5.heap[M]? = some (.stringIter ⟨pl.toArray⟩ (p.length + 1))) := Lib.hid ((B5.block M (by omega)).trans HIT.out)
        have bw5 : Hid (Below w.heap.size w w5) := Lib.hid (below_then hb1 B5)
        have z5 : M + 1 ≤ w5.heap.size := by have := B5.size; omega
        clear p1 p2 p3 p4 g4 hnx c9 f9 l9 hb5 B5
        go_wp2_with (first | (at_builtin; refine wpList_append_own _ rfl (.tmp 45) (.tmp 47) 69 rfl (M + 1) 9 i0 (.string ⟨#[]⟩) 1 16 Tryd.underlying69 HI.out.1 HI.out.2.1 HI.out.2.2.1 HI.out.2.2.2 rfl (by decide) _ _ _ rfl (O5.out.alloc _) ⟨w5.heap.size, 0, none⟩ 1 1 [.string ⟨(114 :: Lib.itoa D).toArray⟩] rfl rfl ?c1 ?c2 ?c3 ?c4 ?c5 ?_))
        case c1 =>
          intro j u hj
          match j, hj with
          | 0, hj => simp at hj; subst hj; simp [Addr.add]
        case c2 => intro u hu; simp at hu; subst hu; rfl
        case c3 => unfold maxLen; have := PA.out.2; have := HLN.out; omega
        case c4 => have := PA.out.2; have := HLN.out; omega
        case c5 => simp; omega
        intro v' w6 hown hgrow _
        have OA := O5.out.alloc (.cells #[.string ⟨(114 :: Lib.itoa D).toArray⟩] 9)
        have I6 : Hid (w6.heap[M]? = some (.stringIter ⟨pl.toArray⟩ (p.length + 1))) := Lib.hid (by rw [hgrow.block M (by simp; omega) (fun e => by have := (OA.lt M e.symm).1; omega), (MapKept.heap_alloc w5 _).2 M (by omega)]; exact I5.out)
        have K6 := Lib.hid ((K5.out.alloc _).grown hgrow OA (by have := GN.out; omega))
        have O6 : Hid (w6.ownsRow (M + 1) 9 1 v' (p ++ [100]).length (((p ++ [100]).map (fmtO O)).map strV)) := Lib.hid (by rw [List.map_append, List.map_append, List.length_append, List.map_cons, FM.out, List.map_map]; exact hown)
        have B6 : Hid (Below w.heap.size w w6) := Lib.hid (below_grown (below_alloc bw5.out _) (by have := bw5.out.size; simp; omega) hgrow OA (by have := GN.out; omega))
        have z6 : M + 1 ≤ w6.heap.size := by have := hgrow.size; simp at this; omega
        clear hown hgrow OA
        go_wp2
        go_roundw
        case rel => exact ⟨p ++ [100], r, by rw [List.append_assoc]; exact HPL.out, Lib.hid ⟨by rw [List.length_append]; exact I6.out, K6.out, O6.out⟩, B6.out, z6⟩
        case measure => rw [HP0.out, iterPos_eq (p := p.length + 1) (s := ⟨pl.toArray⟩) I6.out]; have := HLN.out; omega
      · have g4 := mget W1 (n := W1.heap.size) rfl (es := #[{ key := .int .i32 100, val := .int .i64 D, born := 0 }, { key := .int .i32 115, val := .int .i64 S, born := 1 }, { key := .int .i32 110, val := .int .i64 N, born := 2 }, { key := .int .i32 119, val := .int .i64 V, born := 3 }]) (c := 4) (i := 1) 115 S rfl
        have cu : (((115 : UInt8)).toNat : Int) = 115 := rfl
        have IT := Lib.hid (itoa_any S hS)
        have FM : Hid (fmtO O 115 = 114 :: Lib.itoa S) := Lib.hid (by rw [hO.out]; rfl)
        have LI := Lib.itoa_length_le S hS.1 hS.2
        have n1 : ¬ (9223372036854775807 < 1 + (Lib.itoa S).length) := by omega
        have ES : (⟨#[114]⟩ : ByteArray) ++ ⟨(Lib.itoa S).toArray⟩ = ⟨(114 :: Lib.itoa S).toArray⟩ := str_app2 [114] _
        go_wp2_with fail
        refine (IT.out _ (HL.out.below (hb1.trans (HBM.out.mono hb1.size)))).mono ?_
        rintro e w5 ⟨rfl, hb5⟩
        have B5 : Below W1.heap.size W1 w5 := HBM.out.trans (hb5.mono HBM.out.size)
        have K5 := Lib.hid (K9.out.below B5)
        have O5 := Lib.hid (own_below O9.out B5)
        have I5 : Hid (w5.heap[M]? = some (.stringIter ⟨pl.toArray⟩ (p.length + 1))) := Lib.hid ((B5.block M (by omega)).trans HIT.out)
        have bw5 : Hid (Below w.heap.size w w5) := Lib.hid (below_then hb1 B5)
        have z5 : M + 1 ≤ w5.heap.size := by have := B5.size; omega
        clear p1 p2 p3 p4 g4 hnx c9 f9 l9 hb5 B5
        go_wp2_with (first | (at_builtin; refine wpList_append_own _ rfl (.tmp 45) (.tmp 47) 69 rfl (M + 1) 9 i0 (.string ⟨#[]⟩) 1 16 Tryd.underlying69 HI.out.1 HI.out.2.1 HI.out.2.2.1 HI.out.2.2.2 rfl (by decide) _ _ _ rfl (O5.out.alloc _) ⟨w5.heap.size, 0, none⟩ 1 1 [.string ⟨(114 :: Lib.itoa S).toArray⟩] rfl rfl ?c1 ?c2 ?c3 ?c4 ?c5 ?_))
        case c1 =>
          intro j u hj
          match j, hj with
          | 0, hj => simp at hj; subst hj; simp [Addr.add]
        case c2 => intro u hu; simp at hu; subst hu; rfl
        case c3 => unfold maxLen; have := PA.out.2; have := HLN.out; omega
        case c4 => have := PA.out.2; have := HLN.out; omega
        case c5 => simp; omega
        intro v' w6 hown hgrow _
        have OA := O5.out.alloc (.cells #[.string ⟨(114 :: Lib.itoa S).toArray⟩] 9)
        have I6 : Hid (w6.heap[M]? = some (.stringIter ⟨pl.toArray⟩ (p.length + 1))) := Lib.hid (by rw [hgrow.block M (by simp; omega) (fun e => by have := (OA.lt M e.symm).1; omega), (MapKept.heap_alloc w5 _).2 M (by omega)]; exact I5.out)
        have K6 := Lib.hid ((K5.out.alloc _).grown hgrow OA (by have := GN.out; omega))
        have O6 : Hid (w6.ownsRow (M + 1) 9 1 v' (p ++ [115]).length (((p ++ [115]).map (fmtO O)).map strV)) := Lib.hid (by rw [List.map_append, List.map_append, List.length_append, List.map_cons, FM.out, List.map_map]; exact hown)
        have B6 : Hid (Below w.heap.size w w6) := Lib.hid (below_grown (below_alloc bw5.out _) (by have := bw5.out.size; simp; omega) hgrow OA (by have := GN.out; omega))
        have z6 : M + 1 ≤ w6.heap.size := by have := hgrow.size; simp at this; omega
        clear hown hgrow OA
        go_wp2
        go_roundw
        case rel => exact ⟨p ++ [115], r, by rw [List.append_assoc]; exact HPL.out, Lib.hid ⟨by rw [List.length_append]; exact I6.out, K6.out, O6.out⟩, B6.out, z6⟩
        case measure => rw [HP0.out, iterPos_eq (p := p.length + 1) (s := ⟨pl.toArray⟩) I6.out]; have := HLN.out; omega
      · have g4 := mget W1 (n := W1.heap.size) rfl (es := #[{ key := .int .i32 100, val := .int .i64 D, born := 0 }, { key := .int .i32 115, val := .int .i64 S, born := 1 }, { key := .int .i32 110, val := .int .i64 N, born := 2 }, { key := .int .i32 119, val := .int .i64 V, born := 3 }]) (c := 4) (i := 2) 110 N rfl
        have cu : (((110 : UInt8)).toNat : Int) = 110 := rfl
        have IT := Lib.hid (itoa_any N hN)
        have FM : Hid (fmtO O 110 = Lib.itoa N) := Lib.hid (by rw [hO.out]; rfl)
        have LI := Lib.itoa_length_le N hN.1 hN.2
        have n1 : ¬ (9223372036854775807 < 1 + (Lib.itoa N).length) := by omega
        skip
        go_wp2_with fail
        refine (IT.out _ (HL.out.below (hb1.trans (HBM.out.mono hb1.size)))).mono ?_
        rintro e w5 ⟨rfl, hb5⟩
        have B5 : Below W1.heap.size W1 w5 := HBM.out.trans (hb5.mono HBM.out.size)
        have K5 := Lib.hid (K9.out.below B5)
        have O5 := Lib.hid (own_below O9.out B5)
        have I5 : Hid (w5.heap[M]? = some (.stringIter ⟨pl.toArray⟩ (p.length + 1))) := Lib.hid ((B5.block M (by omega)).trans HIT.out)
        have bw5 : Hid (Below w.heap.size w w5) := Lib.hid (below_then hb1 B5)
        have z5 : M + 1 ≤ w5.heap.size := by have := B5.size; omega
        clear p1 p2 p3 p4 g4 hnx c9 f9 l9 hb5 B5
        go_wp2_with (first | (at_builtin; refine wpList_append_own _ rfl (.tmp 45) (.tmp 47) 69 rfl (M + 1) 9 i0 (.string ⟨#[]⟩) 1 16 Tryd.underlying69 HI.out.1 HI.out.2.1 HI.out.2.2.1 HI.out.2.2.2 rfl (by decide) _ _ _ rfl (O5.out.alloc _) ⟨w5.heap.size, 0, none⟩ 1 1 [.string ⟨(Lib.itoa N).toArray⟩] rfl rfl ?c1 ?c2 ?c3 ?c4 ?c5 ?_))
        case c1 =>
          intro j u hj
          match j, hj with
          | 0, hj => simp at hj; subst hj; simp [Addr.add]
        case c2 => intro u hu; simp at hu; subst hu; rfl
        case c3 => unfold maxLen; have := PA.out.2; have := HLN.out; omega
        case c4 => have := PA.out.2; have := HLN.out; omega
        case c5 => simp; omega
        intro v' w6 hown hgrow _
        have OA := O5.out.alloc (.cells #[.string ⟨(Lib.itoa N).toArray⟩] 9)
        have I6 : Hid (w6.heap[M]? = some (.stringIter ⟨pl.toArray⟩ (p.length + 1))) := Lib.hid (by rw [hgrow.block M (by simp; omega) (fun e => by have := (OA.lt M e.symm).1; omega), (MapKept.heap_alloc w5 _).2 M (by omega)]; exact I5.out)
        have K6 := Lib.hid ((K5.out.alloc _).grown hgrow OA (by have := GN.out; omega))
        have O6 : Hid (w6.ownsRow (M + 1) 9 1 v' (p ++ [110]).length (((p ++ [110]).map (fmtO O)).map strV)) := Lib.hid (by rw [List.map_append, List.map_append, List.length_append, List.map_cons, FM.out, List.map_map]; exact hown)
        have B6 : Hid (Below w.heap.size w w6) := Lib.hid (below_grown (below_alloc bw5.out _) (by have := bw5.out.size; simp; omega) hgrow OA (by have := GN.out; omega))
        have z6 : M + 1 ≤ w6.heap.size := by have := hgrow.size; simp at this; omega
        clear hown hgrow OA
        go_wp2
        go_roundw
        case rel => exact ⟨p ++ [110], r, by rw [List.append_assoc]; exact HPL.out, Lib.hid ⟨by rw [List.length_append]; exact I6.out, K6.out, O6.out⟩, B6.out, z6⟩
        case measure => rw [HP0.out, iterPos_eq (p := p.length + 1) (s := ⟨pl.toArray⟩) I6.out]; have := HLN.out; omega
      · have g4 := mget W1 (n := W1.heap.size) rfl (es := #[{ key := .int .i32 100, val := .int .i64 D, born := 0 }, { key := .int .i32 115, val := .int .i64 S, born := 1 }, { key := .int .i32 110, val := .int .i64 N, born := 2 }, { key := .int .i32 119, val := .int .i64 V, born := 3 }]) (c := 4) (i := 3) 119 V rfl
        have cu : (((119 : UInt8)).toNat : Int) = 119 := rfl
        have IT := Lib.hid (itoa_any V hV)
        have FM : Hid (fmtO O 119 = Lib.itoa V) := Lib.hid (by rw [hO.out]; rfl)
        have LI := Lib.itoa_length_le V hV.1 hV.2
        have n1 : ¬ (9223372036854775807 < 1 + (Lib.itoa V).length) := by omega
        skip
        go_wp2_with fail
        refine (IT.out _ (HL.out.below (hb1.trans (HBM.out.mono hb1.size)))).mono ?_
        rintro e w5 ⟨rfl, hb5⟩
        have B5 : Below W1.heap.size W1 w5 := HBM.out.trans (hb5.mono HBM.out.size)
        have K5 := Lib.hid (K9.out.below B5)
        have O5 := Lib.hid (own_below O9.out B5)
        have I5 : Hid (w5.heap[M]? = some (.stringIter ⟨pl.toArray⟩ (p.length + 1))) := Lib.hid ((B5.block M (by omega)).trans HIT.out)
        have bw5 : Hid (Below w.heap.size w w5) := Lib.hid (below_then hb1 B5)
        have z5 : M + 1 ≤ w5.heap.size := by have := B5.size; omega
        clear p1 p2 p3 p4 g4 hnx c9 f9 l9 hb5 B5
        go_wp2_with (first | (at_builtin; refine wpList_append_own _ rfl (.tmp 45) (.tmp 47) 69 rfl (M + 1) 9 i0 (.string ⟨#[]⟩) 1 16 Tryd.underlying69 HI.out.1 HI.out.2.1 HI.out.2.2.1 HI.out.2.2.2 rfl (by decide) _ _ _ rfl (O5.out.alloc _) ⟨w5.heap.size, 0, none⟩ 1 1 [.string ⟨(Lib.itoa V).toArray⟩] rfl rfl ?c1 ?c2 ?c3 ?c4 ?c5 ?_))
        case c1 =>
          intro j u hj
          match j, hj with
          | 0, hj => simp at hj; subst hj; simp [Addr.add]
        case c2 => intro u hu; simp at hu; subst hu; rfl
        case c3 => unfold maxLen; have := PA.out.2; have := HLN.out; omega
        case c4 => have := PA.out.2; have := HLN.out; omega
        case c5 => simp; omega
        intro v' w6 hown hgrow _
        have OA := O5.out.alloc (.cells #[.string ⟨(Lib.itoa V).toArray⟩] 9)
        have I6 : Hid (w6.heap[M]? = some (.stringIter ⟨pl.toArray⟩ (p.length + 1))) := Lib.hid (by rw [hgrow.block M (by simp; omega) (fun e => by have := (OA.lt M e.symm).1; omega), (MapKept.heap_alloc w5 _).2 M (by omega)]; exact I5.out)
        have K6 := Lib.hid ((K5.out.alloc _).grown hgrow OA (by have := GN.out; omega))
        have O6 : Hid (w6.ownsRow (M + 1) 9 1 v' (p ++ [119]).length (((p ++ [119]).map (fmtO O)).map strV)) := Lib.hid (by rw [List.map_append, List.map_append, List.length_append, List.map_cons, FM.out, List.map_map]; exact hown)
        have B6 : Hid (Below w.heap.size w w6) := Lib.hid (below_grown (below_alloc bw5.out _) (by have := bw5.out.size; simp; omega) hgrow OA (by have := GN.out; omega))
        have z6 : M + 1 ≤ w6.heap.size := by have := hgrow.size; simp at this; omega
        clear hown hgrow OA
        go_wp2
        go_roundw
        case rel => exact ⟨p ++ [119], r, by rw [List.append_assoc]; exact HPL.out, Lib.hid ⟨by rw [List.length_append]; exact I6.out, K6.out, O6.out⟩, B6.out, z6⟩
        case measure => rw [HP0.out, iterPos_eq (p := p.length + 1) (s := ⟨pl.toArray⟩) I6.out]; have := HLN.out; omega
end Go.Proofs.YtmpdoiilakjmbaaDoor
