/- The law TapeParse answers true for every input. Conditions: the library's variables hold what they were laid with. -/
import Derived.Test.YtlhjoclclbhjgaaDoorTaped
import Derived.Test.YtlhjoclclbhjgaaDoorRefIn
namespace Go.Mq
open Go Go.RowKit
theorem sepBy_len (c : UInt8) : ∀ l : List UInt8, (sepBy c l).length ≤ l.length + 1
  | [] => by simp [sepBy]
  | x :: t => by
    have ih := sepBy_len c t
    rw [sepBy]
    split
    · simp only [List.length_cons]; omega
    · split
      · simp
      · rename_i y r hq
        rw [hq] at ih
        simp only [List.length_cons] at ih ⊢; omega
theorem parse_end (k : Nat) (acc : List Inp) : parseGo k acc [[]] = .inr acc := by rw [parseGo, if_pos rfl]
theorem parse_stop (k : Nat) (acc : List Inp) (t : List UInt8) (h : t ≠ []) : parseGo k acc [t] = .inl k := by rw [parseGo, if_neg h]
theorem parse_none (k : Nat) (acc : List Inp) (t : List UInt8) (r : List (List UInt8)) (hr : r ≠ []) (h : item t = none) : parseGo k acc (t :: r) = .inl k := by
  cases r with
  | nil => exact absurd rfl hr
  | cons u q => rw [parseGo, h]
theorem parse_some (k : Nat) (acc : List Inp) (t : List UInt8) (r : List (List UInt8)) (hr : r ≠ []) (x : Inp) (h : item t = some x) : parseGo k acc (t :: r) = parseGo (k + 1) (acc ++ [x]) r := by
  cases r with
  | nil => exact absurd rfl hr
  | cons u q => rw [parseGo, h]
end Go.Mq
namespace Go.Proofs.YtlhjoclclbhjgaaDoor.tapeParse
open Go.RowKit Go.Mq
set_option linter.unusedVariables false
set_option linter.unusedSimpArgs false
set_option maxHeartbeats 2000000
set_option maxRecDepth 100000
theorem whole_y (x : List UInt8) (hx : x.length ≤ 4000) (v : Int) (h : wholeZ x = some v) (w : World) (hL : Lk w) : Calls Tryd.prog 23 #[.string ⟨x.toArray⟩] w fun e w' => e = .returned (.tuple #[.int .i64 v, .bool true]) ∧ Below w.heap.size w w' := by
  unfold wholeZ at h
  cases ha : Lib.atoiAll x with
  | ok u =>
    rw [ha] at h
    simp only at h
    split at h
    · rename_i hi
      injection h with h
      subst h
      have PI := Lib.hid (parseint_yes ⟨x.toArray⟩ (by rw [Lib.size_eq]; simp; omega) u (by simpa using ha))
      have FI := Lib.hid (fmtint_any u (whole_ok ha))
      have HL := Lib.hid hL
      have q1 : (Lib.itoa u == x) = true := beq_iff_eq.2 hi
      clear hL ha hi
      go_enter Tryd.func23, Tryd.ntmps23
      go_wp2_with fail
      refine (PI.out w).mono ?_
      rintro e w1 ⟨rfl, hb1⟩
      go_wp2_with fail
      refine (FI.out w1 (HL.out.below hb1)).mono ?_
      rintro e w2 ⟨rfl, hb2⟩
      have hbb : Below w.heap.size w w2 := below_then hb1 hb2
      go_wp2
      go_ret2
      exact ⟨rfl, hbb⟩
    · cases h
  | _ => rw [ha] at h; cases h
theorem whole_n (x : List UInt8) (hx : x.length ≤ 4000) (h : wholeZ x = none) (w : World) (hL : Lk w) : Calls Tryd.prog 23 #[.string ⟨x.toArray⟩] w fun e w' => (∃ n : Int, e = .returned (.tuple #[.int .i64 n, .bool false])) ∧ Below w.heap.size w w' := by
  have HL := Lib.hid hL
  by_cases hok : ∃ u, Lib.atoiAll x = .ok u
  · obtain ⟨u, ha⟩ := hok
    have hi : ¬ Lib.itoa u = x := fun e => by
      unfold wholeZ at h
      rw [ha] at h
      simp only at h
      rw [if_pos e] at h
      cases h
    have PI := Lib.hid (parseint_yes ⟨x.toArray⟩ (by rw [Lib.size_eq]; simp; omega) u (by simpa using ha))
    have FI := Lib.hid (fmtint_any u (whole_ok ha))
    have q1 : (Lib.itoa u == x) = false := beq_eq_false_iff_ne.2 hi
    clear hL ha hi h
    go_enter Tryd.func23, Tryd.ntmps23
    go_wp2_with fail
    refine (PI.out w).mono ?_
    rintro e w1 ⟨rfl, hb1⟩
    go_wp2_with fail
    refine (FI.out w1 (HL.out.below hb1)).mono ?_
    rintro e w2 ⟨rfl, hb2⟩
    have hbb : Below w.heap.size w w2 := below_then hb1 hb2
    go_wp2
    go_ret2
    exact ⟨⟨u, rfl⟩, hbb⟩
  · have PN := Lib.hid (parseint_no ⟨x.toArray⟩ (by rw [Lib.size_eq]; simp; omega) (fun v hv => hok ⟨v, by simpa using hv⟩) w hL)
    clear hL h hok
    go_enter Tryd.func23, Tryd.ntmps23
    go_wp2_with fail
    refine PN.out.mono ?_
    rintro e w1 ⟨⟨n, Nb, rfl, -⟩, hb1⟩
    go_wp2
    go_ret2
    exact ⟨⟨n, rfl⟩, hb1⟩
theorem whole_u (x : List UInt8) (hx : x.length ≤ 4000) (w : World) (hL : Lk w) : Calls Tryd.prog 23 #[.string ⟨x.toArray⟩] w fun e w' => (∃ (n : Int) (b : Bool), e = .returned (.tuple #[.int .i64 n, .bool b])) ∧ Below w.heap.size w w' := by
  cases h : wholeZ x with
  | none => exact (whole_n x hx h w hL).mono fun e w' ⟨⟨n, he⟩, hb⟩ => ⟨⟨n, _, he⟩, hb⟩
  | some v => exact (whole_y x hx v h w hL).mono fun e w' ⟨he, hb⟩ => ⟨⟨_, _, he⟩, hb⟩
theorem law_n (z : List UInt8) (w : World) : Calls Tryd.prog 15 #[.string ⟨z.toArray⟩] w fun e w' => e = .returned (lawOf z) ∧ Below w.heap.size w w' := by
  have := lawof_any ⟨z.toArray⟩ w
  simpa using this
theorem law_y (z : List UInt8) (d : Nat) (h : ofBtn z = some d) (w : World) : Calls Tryd.prog 15 #[.string ⟨z.toArray⟩] w fun e w' => e = .returned (.tuple #[.int .u8 d, .bool true]) ∧ Below w.heap.size w w' := by
  have := law_n z w
  rw [show lawOf z = .tuple #[.int .u8 d, .bool true] by rw [lawOf, h]] at this
  exact this
theorem law_no (z : List UInt8) (h : ofBtn z = none) (w : World) : Calls Tryd.prog 15 #[.string ⟨z.toArray⟩] w fun e w' => e = .returned (.tuple #[.int .u8 0, .bool false]) ∧ Below w.heap.size w w' := by
  have := law_n z w
  rw [show lawOf z = .tuple #[.int .u8 0, .bool false] by rw [lawOf, h]] at this
  exact this
theorem law_u (z : List UInt8) (w : World) : Calls Tryd.prog 15 #[.string ⟨z.toArray⟩] w fun e w' => (∃ (n : Int) (b : Bool), e = .returned (.tuple #[.int .u8 n, .bool b])) ∧ Below w.heap.size w w' := by
  cases h : ofBtn z with
  | none => exact (law_no z h w).mono fun e w' ⟨he, hb⟩ => ⟨⟨_, _, he⟩, hb⟩
  | some d => exact (law_y z d h w).mono fun e w' ⟨he, hb⟩ => ⟨⟨_, _, he⟩, hb⟩
theorem whole_in {x : List UInt8} {v : Int} (h : wholeZ x = some v) : I64 v := by
  unfold wholeZ at h
  cases ha : Lib.atoiAll x with
  | ok u =>
    rw [ha] at h
    simp only at h
    split at h
    · injection h with h; subst h; exact whole_ok ha
    · cases h
  | _ => rw [ha] at h; cases h
theorem walk_long (s : ByteArray) (w : World) (hL : Lk w) (hs : 4000 < s.size) : Calls Tryd.prog 5 #[.string s] w fun e w' => e = .returned (.bool true) ∧ Below w.heap.size w w' := by
  have PL := Lib.hid (parse_long s w hs)
  have TP := Lib.hid taped_any
  have HL := Lib.hid hL
  have hs' : (4000 : Int) < s.size := by omega
  clear hL hs
  go_enter Tryd.func5, Tryd.ntmps5
  go_wp2_with fail
  refine PL.out.mono ?_
  rintro e w1 ⟨rfl, hb1⟩
  go_wp2_with fail
  refine (TP.out w1 (HL.out.below hb1)).mono ?_
  rintro e w2 ⟨rfl, hb2⟩
  have hbb2 : Below w.heap.size w w2 := below_then hb1 hb2
  go_wp2_with fail
  refine (TP.out w2 (HL.out.below hbb2)).mono ?_
  rintro e w3 ⟨rfl, hb3⟩
  have hbb3 : Below w.heap.size w w3 := below_then hbb2 hb3
  go_wp2
  go_ret
  exact ⟨rfl, hbb3⟩
/-- what the program's reading has told, as the walk keeps it -/
def Told (S : List UInt8) (w1 : World) (lv : Value) (n : Nat) (at' er : Int) : Prop :=
  (∀ k, parseV S = .inl k → er = 1 ∧ at' = k ∧ n = 0) ∧
  (∀ acc, parseV S = .inr acc → (chkI acc 0 = 0 → er = 0 ∧ at' = 0 ∧ InpsAt w1 lv acc) ∧ (chkI acc 0 ≠ 0 → er = chkI acc 0 ∧ at' = 0 ∧ n = 0))
theorem parse_told (S : List UInt8) (hl : S.length ≤ 4000) (w : World) (hL : Lk w) : Calls Tryd.prog 21 #[.string ⟨S.toArray⟩] w fun e w' => (∃ (ao : Option Addr) (n cp : Nat) (at' er : Int), e = .returned (.tuple #[.slice ao n cp, .int .i64 at', .int .i64 er]) ∧ Told S w' (.slice ao n cp) n at' er) ∧ Below w.heap.size w w' := by
  refine (parse_any ⟨S.toArray⟩ w hL (by rw [Lib.size_eq]; simpa using hl)).mono ?_
  rintro e w' ⟨he, hb⟩
  refine ⟨?_, hb⟩
  unfold ParseEnd at he
  rw [show (⟨S.toArray⟩ : ByteArray).data.toList = S by simp] at he
  cases hp : parseV S with
  | inl k =>
    rw [hp] at he
    simp only at he
    refine ⟨none, 0, 0, k, 1, he, ⟨fun k' h => ?_, fun acc h => ?_⟩⟩
    · rw [hp] at h; injection h with h; subst h; exact ⟨rfl, rfl, rfl⟩
    · rw [hp] at h; cases h
  | inr l =>
    rw [hp] at he
    simp only at he
    by_cases hz : chkI l 0 = 0
    · rw [if_pos hz] at he
      obtain ⟨v, h1, h2, h3⟩ := he
      obtain ⟨ao, cp, rfl⟩ := own_shape h2
      refine ⟨ao, l.length, cp, 0, 0, h1, ⟨fun k' h => ?_, fun acc h => ?_⟩⟩
      · rw [hp] at h; cases h
      · rw [hp] at h; injection h with h; subst h
        exact ⟨fun _ => ⟨rfl, rfl, own_inps h2 h3⟩, fun h => absurd hz h⟩
    · rw [if_neg hz] at he
      refine ⟨none, 0, 0, 0, chkI l 0, he, ⟨fun k' h => ?_, fun acc h => ?_⟩⟩
      · rw [hp] at h; cases h
      · rw [hp] at h; injection h with h; subst h
        exact ⟨fun h => absurd h hz, fun _ => ⟨rfl, rfl, rfl⟩⟩
theorem walk_short (S : List UInt8) (w : World) (hL : Lk w) (hs : S.length ≤ 4000) : Calls Tryd.prog 5 #[.string ⟨S.toArray⟩] w fun e w' => e = .returned (.bool true) ∧ Below w.heap.size w w' := by
  have PT := Lib.hid (parse_told S hs w hL)
  have TP := Lib.hid taped_any
  have HL := Lib.hid hL
  have hs' : ¬ (4000 : Int) < (S.length : Int) := by omega
  have SP : Hid (∀ W, Lk W → Calls Tryd.prog 26 #[.string ⟨S.toArray⟩, .string ⟨#[10]⟩] W fun e w' =>
    e = .returned (.slice (some ⟨W.heap.size, 0, none⟩) (sepBy 10 S).length (sepBy 10 S).length) ∧ w' = W.alloc (.cells ((sepBy 10 S).map strV).toArray 9)) := Lib.hid (fun W hW => by
    have := split_any ⟨S.toArray⟩ (by rw [Lib.size_eq]; simp; omega) 10 W hW
    rwa [show (⟨S.toArray⟩ : ByteArray).data.toList = S by simp] at this)
  have HLL := Lib.hid (sepBy_len 10 S)
  have SLN := Lib.hid (sep_len 10 S)
  have PV : Hid (parseV S = parseGo 0 [] (sepBy 10 S)) := Lib.hid rfl
  have NE := Lib.hid (sepBy_ne 10 S)
  obtain ⟨i0, hi, hz0, hz1, hz2⟩ := info_parts infoI
  have HI := Lib.hid (And.intro hi (And.intro hz0 (And.intro hz1 hz2)))
  have HS := Lib.hid hs
  clear hi hz0 hz1 hz2 hL hs
  generalize sepBy 10 S = Ls at *
  obtain ⟨n, hn⟩ : ∃ n, n = Ls.length := ⟨_, rfl⟩
  have hn1 : 0 < n := by
    rw [hn]
    exact List.length_pos_iff.2 NE.out
  have hn2 : n ≤ 4001 := by have := HLL.out; have := HS.out; omega
  rw [← hn] at SP
  have HN := Lib.hid hn
  clear hn
  go_enter Tryd.func5, Tryd.ntmps5
  go_wp2_with fail
  refine PT.out.mono ?_
  rintro e w1 ⟨⟨ao, ln, cp, at', er, rfl, ht⟩, hb1⟩
  have HT := Lib.hid ht
  clear ht
  go_wp2_with fail
  refine (TP.out w1 (HL.out.below hb1)).mono ?_
  rintro e w2 ⟨rfl, hb2⟩
  have hbb2 : Below w.heap.size w w2 := below_then hb1 hb2
  go_wp2_with fail
  refine (SP.out w2 (HL.out.below hbb2)).mono ?_
  rintro e w3 ⟨rfl, rfl⟩
  obtain ⟨g, eg⟩ : ∃ g, g = w2.heap.size := ⟨_, rfl⟩
  have KB : Hid (Blk (w2.alloc (.cells (Ls.map strV).toArray 9)) g (Ls.map strV).toArray 9) := Lib.hid (Blk.new_at _ _ _ _ eg)
  have LG : Hid (w.heap.size ≤ g ∧ g < (w2.alloc (.cells (Ls.map strV).toArray 9)).heap.size) := Lib.hid (by have := hbb2.size; rw [eg]; simp; omega)
  have BA : Hid (Below w2.heap.size w2 (w2.alloc (.cells (Ls.map strV).toArray 9))) := Lib.hid (below_alloc (Below.refl _ _) _)
  have hbb3 : Below w.heap.size w (w2.alloc (.cells (Ls.map strV).toArray 9)) := below_alloc hbb2 _
  rw [← eg]
  replace eg := Lib.hid eg
  have LW : Hid (w1.heap.size ≤ g) := Lib.hid (by have := hb2.size; have := eg.out; omega)
  have B13 : Hid (Below w1.heap.size w1 (w2.alloc (.cells (Ls.map strV).toArray 9))) := Lib.hid (below_alloc hb2 _)
  clear hb1 hb2 hbb2
  generalize w2.alloc (.cells (Ls.map strV).toArray 9) = w3 at *
  go_wp2
  go_loopw [7, 50] (fun v i wr => ∃ (k : Nat) (acc : List Inp), i = .int .i64 k ∧ k < n ∧ Hid (parseV S = parseGo k acc (Ls.drop k) ∧ acc.length ≤ k ∧ wr.ownsRow (g + 1) 34 3 v acc.length (inpCells acc) ∧ (∀ x ∈ acc, x.Ok) ∧ Blk wr g (Ls.map strV).toArray 9 ∧ Below w1.heap.size w1 wr) ∧ Below w.heap.size w wr) (fun _ i _ => n - (intOf i).toNat)
  case atStart => exact ⟨0, [], rfl, hn1, Lib.hid ⟨PV.out, Nat.le_refl _, ⟨rfl, .inl ⟨rfl, rfl⟩⟩, by simp, KB.out, B13.out⟩, hbb3⟩
  case round =>
    obtain ⟨k, acc, rfl, hkn, hx, hb⟩ := hrel
    have hki : (k : Int) < n := by omega
    have hkl : k < Ls.length := by rw [← HN.out]; exact hkn
    obtain ⟨t, et⟩ : ∃ t, t = Ls[k] := ⟨_, rfl⟩
    have ck : wr.cell? ⟨g, k, none⟩ = some (.string ⟨t.toArray⟩) := by
      have := hx.out.2.2.2.2.1.cell k
      rw [this, List.getElem?_toArray, List.getElem?_map, List.getElem?_eq_getElem hkl, et]
      rfl
    have hdr : Ls.drop k = t :: Ls.drop (k + 1) := by rw [List.drop_eq_getElem_cons hkl, ← et]
    have htl : t.length ≤ 4000 := by have := SLN.out t (by rw [et]; exact List.getElem_mem hkl); have := HS.out; omega
    have PK : Hid (parseV S = parseGo k acc (t :: Ls.drop (k + 1))) := Lib.hid (by rw [← hdr]; exact hx.out.1)
    have HLr := Lib.hid (HL.out.below hb)
    have ST := Lib.hid (split_n t htl)
    have STL := Lib.hid (sep_len 32 t)
    clear et hdr hkl
    by_cases hlast : k + 1 = n
    · have DN : Hid (Ls.drop (k + 1) = []) := Lib.hid (List.drop_of_length_le (by rw [hlast, HN.out]; exact Nat.le_refl _))
      rw [DN.out] at PK
      have hkk : ((k : Int) == n - 1) = true := beq_iff_eq.2 (by omega)
      by_cases h0 : t = []
      · subst h0
        have PE : Hid (parseV S = .inr acc) := Lib.hid (by rw [PK.out]; exact parse_end k acc)
        have IN := Lib.hid (own_inps hx.out.2.2.1 hx.out.2.2.2.1)
        have CI := Lib.hid (refinputs_any _ acc 0 _ IN.out (by unfold I64; omega))
        have AL := Lib.hid hx.out.2.1
        by_cases hz : chkI acc 0 = 0
        · obtain ⟨rfl, rfl, hin⟩ := (HT.out.2 acc PE.out).1 hz
          have EQ := Lib.hid (fun W (h : Below wr.heap.size wr W) => inpEq_same _ _ acc W ((hin.below hx.out.2.2.2.2.2).below h) (IN.out.below h) (by have := AL.out; omega))
          rw [hz] at CI
          clear hin hx hz
          go_wp2_with fail
          refine CI.out.mono ?_
          rintro e w4 ⟨rfl, hb4⟩
          go_wp2_with fail
          refine (EQ.out w4 hb4).mono ?_
          rintro e w5 ⟨rfl, hb5⟩
          have hbb5 : Below w.heap.size w w5 := below_then (below_then hb hb4) hb5
          go_wp2
          go_ret
          exact ⟨rfl, hbb5⟩
        · obtain ⟨rfl, rfl, rfl⟩ := (HT.out.2 acc PE.out).2 hz
          have hz1 : (chkI acc 0 != 0) = true := by simpa using hz
          obtain ⟨Z, hZ⟩ : ∃ Z, Z = chkI acc 0 := ⟨_, rfl⟩
          rw [← hZ] at hz1 CI ⊢
          replace hZ := Lib.hid hZ
          clear hx hz
          go_wp2_with fail
          refine CI.out.mono ?_
          rintro e w4 ⟨rfl, hb4⟩
          have hbb4 : Below w.heap.size w w4 := below_then hb hb4
          go_wp2
          go_ret
          exact ⟨rfl, hbb4⟩
      · have hne : t.isEmpty = false := by simpa using h0
        have PE : Hid (parseV S = .inl k) := Lib.hid (by rw [PK.out]; exact parse_stop k acc t h0)
        obtain ⟨rfl, rfl, rfl⟩ := HT.out.1 k PE.out
        clear hx h0
        obtain ⟨q, hq⟩ : ∃ q : Nat, q = (sepBy 32 t).length := ⟨_, rfl⟩
        rw [← hq] at ST
        replace hq := Lib.hid hq
        by_cases hq3 : q = 3
        · subst hq3
          go_wp2_with fail
          refine (ST.out wr HLr.out).mono ?_
          rintro e w4 ⟨rfl, rfl⟩
          go_wp2
          go_ret
          exact ⟨rfl, by repeat' (first | (with_reducible first | exact Below.refl _ _ | assumption | refine below_alloc ?_ _ | refine Below.drew ?_ | refine Go.Mq.below_drewN ?_ _ | refine below_then ?_ (by assumption) | refine below_put ?_ (by assumption) (by first | (simp; done) | (simp; omega) | omega) | refine Below.setCell ?_ ?_ _) | (simp; done) | (simp; omega) | omega)⟩
        · have hq4 : ((q : Int) != 3) = true := by simp; omega
          clear hq3
          go_wp2_with fail
          refine (ST.out wr HLr.out).mono ?_
          rintro e w4 ⟨rfl, rfl⟩
          go_wp2
          go_ret
          exact ⟨rfl, by repeat' (first | (with_reducible first | exact Below.refl _ _ | assumption | refine below_alloc ?_ _ | refine Below.drew ?_ | refine Go.Mq.below_drewN ?_ _ | refine below_then ?_ (by assumption) | refine below_put ?_ (by assumption) (by first | (simp; done) | (simp; omega) | omega) | refine Below.setCell ?_ ?_ _) | (simp; done) | (simp; omega) | omega)⟩
    · have hkk : ((k : Int) == n - 1) = false := beq_eq_false_iff_ne.2 (by omega)
      have DN : Hid (Ls.drop (k + 1) ≠ []) := Lib.hid (fun h => by
        have := congrArg List.length h
        rw [List.length_drop, ← HN.out] at this
        simp at this
        omega)
      rcases hq3 : sepBy 32 t with _ | ⟨x, _ | ⟨y, _ | ⟨z, _ | ⟨z2, tt⟩⟩⟩⟩
      · exact absurd hq3 (sepBy_ne 32 t)
      all_goals first | (rw [hq3] at ST STL) | skip
      · have PE : Hid (parseV S = .inl k) := Lib.hid (by rw [PK.out]; exact parse_none k acc t _ DN.out (by rw [item, hq3]))
        obtain ⟨rfl, rfl, rfl⟩ := HT.out.1 k PE.out
        clear hx hq3
        go_wp2_with fail
        refine (ST.out wr HLr.out).mono ?_
        rintro e w4 ⟨rfl, rfl⟩
        go_wp2
        go_ret
        exact ⟨rfl, by repeat' (first | (with_reducible first | exact Below.refl _ _ | assumption | refine below_alloc ?_ _ | refine Below.drew ?_ | refine Go.Mq.below_drewN ?_ _ | refine below_then ?_ (by assumption) | refine below_put ?_ (by assumption) (by first | (simp; done) | (simp; omega) | omega) | refine Below.setCell ?_ ?_ _) | (simp; done) | (simp; omega) | omega)⟩
      · have PE : Hid (parseV S = .inl k) := Lib.hid (by rw [PK.out]; exact parse_none k acc t _ DN.out (by rw [item, hq3]))
        obtain ⟨rfl, rfl, rfl⟩ := HT.out.1 k PE.out
        clear hx hq3
        go_wp2_with fail
        refine (ST.out wr HLr.out).mono ?_
        rintro e w4 ⟨rfl, rfl⟩
        go_wp2
        go_ret
        exact ⟨rfl, by repeat' (first | (with_reducible first | exact Below.refl _ _ | assumption | refine below_alloc ?_ _ | refine Below.drew ?_ | refine Go.Mq.below_drewN ?_ _ | refine below_then ?_ (by assumption) | refine below_put ?_ (by assumption) (by first | (simp; done) | (simp; omega) | omega) | refine Below.setCell ?_ ?_ _) | (simp; done) | (simp; omega) | omega)⟩
      · have hxl : x.length ≤ 4000 := by have := STL.out x (by simp); omega
        have hyl : y.length ≤ 4000 := by have := STL.out y (by simp); omega
        replace ST : Hid (∀ w, Lk w → Calls Tryd.prog 26 #[.string ⟨t.toArray⟩, .string ⟨#[32]⟩] w fun e w' => e = .returned (.slice (some ⟨w.heap.size, 0, none⟩) 3 3) ∧ w' = w.alloc (.cells #[.string ⟨x.toArray⟩, .string ⟨y.toArray⟩, .string ⟨z.toArray⟩] 9)) := Lib.hid ST.out
        have OW := Lib.hid hx.out.2.2.1
        have KL := Lib.hid hx.out.2.2.2.2.1
        have B1 := Lib.hid hx.out.2.2.2.2.2
        cases hax : wholeZ x with
        | none =>
          have PE : Hid (parseV S = .inl k) := Lib.hid (by rw [PK.out]; exact parse_none k acc t _ DN.out (by rw [item, hq3]; simp only; rw [hax]))
          obtain ⟨rfl, rfl, rfl⟩ := HT.out.1 k PE.out
          clear hx hq3
          go_wp2_with fail
          refine (ST.out wr HLr.out).mono ?_
          rintro e w4 ⟨rfl, rfl⟩
          go_wp2_with fail
          refine cmark (F := fun X => Calls _ _ _ X _) (R := fun W => Below w.heap.size w W ∧ Hid (Blk W (wr.heap.size) (#[.string ⟨x.toArray⟩, .string ⟨y.toArray⟩, .string ⟨z.toArray⟩]) 9) ∧ Hid (Go.World.ownsRow W (g + 1) 34 3 u7 acc.length (inpCells acc)) ∧ Hid (Lw Tryd.prog 1 W) ∧ Hid (Blk W g (Ls.map strV).toArray 9) ∧ Hid (Below w1.heap.size w1 W)) ⟨by repeat' (first | (with_reducible first | exact Below.refl _ _ | assumption | refine below_alloc ?_ _ | refine Below.drew ?_ | refine Go.Mq.below_drewN ?_ _ | refine below_then ?_ (by assumption) | refine below_put ?_ (by assumption) (by first | (simp; done) | (simp; omega) | omega) | refine Below.setCell ?_ ?_ _) | (simp; done) | (simp; omega) | omega), Lib.hid (by repeat' (first | (with_reducible first | exact Hid.out (by assumption) | exact Blk.new _ _ _ | (refine Blk.new_at _ _ _ _ ?_; simp; done) | refine Blk.alloc ?_ _ | refine Blk.drewN ?_ _ | refine Blk.drew ?_ | apply Blk.set | refine Blk.put ?_ (by assumption) (by first | (simp; done) | (simp; omega) | omega) | refine Blk.below ?_ (by assumption)) | (refine Blk.setAt ?_ (by first | (simp; done) | (simp; omega))) | rfl)), Lib.hid (own_below OW.out (below_alloc (Below.refl _ _) _)), Lib.hid (HLr.out.below (below_alloc (Below.refl _ _) _)), Lib.hid (KL.out.below (below_alloc (Below.refl _ _) _)), Lib.hid (below_alloc B1.out _)⟩ ?_
          rintro w4 ⟨hbw4, Kw4_0, OW4, HL4, KL4, B4⟩
          obtain ⟨lw4_0, cw4_0, fw4_0⟩ := Kw4_0.out.use
          refine (whole_n x hxl hax _ HL4.out).mono ?_
          rintro e w5 ⟨⟨n1, rfl⟩, hb5⟩
          have HL5 := Lib.hid (HL4.out.below hb5)
          have OW5 := Lib.hid (own_below OW4.out hb5)
          have KL5 := Lib.hid (KL4.out.below hb5)
          have B5 := Lib.hid (below_then B4.out hb5)
          have KW5 := Lib.hid (Kw4_0.out.below hb5)
          have cw5 := KW5.out.cell
          have hbw5 : Below w.heap.size w w5 := below_then hbw4 hb5
          clear hb5 cw4_0 fw4_0
          go_wp2_with fail
          refine (whole_u y hyl _ HL5.out).mono ?_
          rintro e w6 ⟨⟨n2, b2, rfl⟩, hb6⟩
          have HL6 := Lib.hid (HL5.out.below hb6)
          have OW6 := Lib.hid (own_below OW5.out hb6)
          have KL6 := Lib.hid (KL5.out.below hb6)
          have B6 := Lib.hid (below_then B5.out hb6)
          have KW6 := Lib.hid (KW5.out.below hb6)
          have cw6 := KW6.out.cell
          have hbw6 : Below w.heap.size w w6 := below_then hbw5 hb6
          clear hb6 cw5
          go_wp2_with fail
          refine (law_u z _).mono ?_
          rintro e w7 ⟨⟨d3, b3, rfl⟩, hb7⟩
          have OW7 := Lib.hid (own_below OW6.out hb7)
          have KL7 := Lib.hid (KL6.out.below hb7)
          have B7 := Lib.hid (below_then B6.out hb7)
          have hbw7 : Below w.heap.size w w7 := below_then hbw6 hb7
          clear hb7 cw6
          go_wp2
          go_ret
          exact ⟨rfl, hbw7⟩
        | some v1 =>
          cases hay : wholeZ y with
          | none =>
            have PE : Hid (parseV S = .inl k) := Lib.hid (by rw [PK.out]; exact parse_none k acc t _ DN.out (by rw [item, hq3]; simp only; rw [hax, hay]))
            obtain ⟨rfl, rfl, rfl⟩ := HT.out.1 k PE.out
            clear hx hq3
            go_wp2_with fail
            refine (ST.out wr HLr.out).mono ?_
            rintro e w4 ⟨rfl, rfl⟩
            go_wp2_with fail
            refine cmark (F := fun X => Calls _ _ _ X _) (R := fun W => Below w.heap.size w W ∧ Hid (Blk W (wr.heap.size) (#[.string ⟨x.toArray⟩, .string ⟨y.toArray⟩, .string ⟨z.toArray⟩]) 9) ∧ Hid (Go.World.ownsRow W (g + 1) 34 3 u7 acc.length (inpCells acc)) ∧ Hid (Lw Tryd.prog 1 W) ∧ Hid (Blk W g (Ls.map strV).toArray 9) ∧ Hid (Below w1.heap.size w1 W)) ⟨by repeat' (first | (with_reducible first | exact Below.refl _ _ | assumption | refine below_alloc ?_ _ | refine Below.drew ?_ | refine Go.Mq.below_drewN ?_ _ | refine below_then ?_ (by assumption) | refine below_put ?_ (by assumption) (by first | (simp; done) | (simp; omega) | omega) | refine Below.setCell ?_ ?_ _) | (simp; done) | (simp; omega) | omega), Lib.hid (by repeat' (first | (with_reducible first | exact Hid.out (by assumption) | exact Blk.new _ _ _ | (refine Blk.new_at _ _ _ _ ?_; simp; done) | refine Blk.alloc ?_ _ | refine Blk.drewN ?_ _ | refine Blk.drew ?_ | apply Blk.set | refine Blk.put ?_ (by assumption) (by first | (simp; done) | (simp; omega) | omega) | refine Blk.below ?_ (by assumption)) | (refine Blk.setAt ?_ (by first | (simp; done) | (simp; omega))) | rfl)), Lib.hid (own_below OW.out (below_alloc (Below.refl _ _) _)), Lib.hid (HLr.out.below (below_alloc (Below.refl _ _) _)), Lib.hid (KL.out.below (below_alloc (Below.refl _ _) _)), Lib.hid (below_alloc B1.out _)⟩ ?_
            rintro w4 ⟨hbw4, Kw4_0, OW4, HL4, KL4, B4⟩
            obtain ⟨lw4_0, cw4_0, fw4_0⟩ := Kw4_0.out.use
            refine (whole_y x hxl v1 hax _ HL4.out).mono ?_
            rintro e w5 ⟨rfl, hb5⟩
            have HL5 := Lib.hid (HL4.out.below hb5)
            have OW5 := Lib.hid (own_below OW4.out hb5)
            have KL5 := Lib.hid (KL4.out.below hb5)
            have B5 := Lib.hid (below_then B4.out hb5)
            have KW5 := Lib.hid (Kw4_0.out.below hb5)
            have cw5 := KW5.out.cell
            have hbw5 : Below w.heap.size w w5 := below_then hbw4 hb5
            clear hb5 cw4_0 fw4_0
            go_wp2_with fail
            refine (whole_n y hyl hay _ HL5.out).mono ?_
            rintro e w6 ⟨⟨n2, rfl⟩, hb6⟩
            have HL6 := Lib.hid (HL5.out.below hb6)
            have OW6 := Lib.hid (own_below OW5.out hb6)
            have KL6 := Lib.hid (KL5.out.below hb6)
            have B6 := Lib.hid (below_then B5.out hb6)
            have KW6 := Lib.hid (KW5.out.below hb6)
            have cw6 := KW6.out.cell
            have hbw6 : Below w.heap.size w w6 := below_then hbw5 hb6
            clear hb6 cw5
            go_wp2_with fail
            refine (law_u z _).mono ?_
            rintro e w7 ⟨⟨d3, b3, rfl⟩, hb7⟩
            have OW7 := Lib.hid (own_below OW6.out hb7)
            have KL7 := Lib.hid (KL6.out.below hb7)
            have B7 := Lib.hid (below_then B6.out hb7)
            have hbw7 : Below w.heap.size w w7 := below_then hbw6 hb7
            clear hb7 cw6
            go_wp2
            go_ret
            exact ⟨rfl, hbw7⟩
          | some v2 =>
            cases hz : ofBtn z with
            | none =>
              have PE : Hid (parseV S = .inl k) := Lib.hid (by rw [PK.out]; exact parse_none k acc t _ DN.out (by rw [item, hq3]; simp only; rw [hax, hay, hz]))
              obtain ⟨rfl, rfl, rfl⟩ := HT.out.1 k PE.out
              clear hx hq3
              go_wp2_with fail
              refine (ST.out wr HLr.out).mono ?_
              rintro e w4 ⟨rfl, rfl⟩
              go_wp2_with fail
              refine cmark (F := fun X => Calls _ _ _ X _) (R := fun W => Below w.heap.size w W ∧ Hid (Blk W (wr.heap.size) (#[.string ⟨x.toArray⟩, .string ⟨y.toArray⟩, .string ⟨z.toArray⟩]) 9) ∧ Hid (Go.World.ownsRow W (g + 1) 34 3 u7 acc.length (inpCells acc)) ∧ Hid (Lw Tryd.prog 1 W) ∧ Hid (Blk W g (Ls.map strV).toArray 9) ∧ Hid (Below w1.heap.size w1 W)) ⟨by repeat' (first | (with_reducible first | exact Below.refl _ _ | assumption | refine below_alloc ?_ _ | refine Below.drew ?_ | refine Go.Mq.below_drewN ?_ _ | refine below_then ?_ (by assumption) | refine below_put ?_ (by assumption) (by first | (simp; done) | (simp; omega) | omega) | refine Below.setCell ?_ ?_ _) | (simp; done) | (simp; omega) | omega), Lib.hid (by repeat' (first | (with_reducible first | exact Hid.out (by assumption) | exact Blk.new _ _ _ | (refine Blk.new_at _ _ _ _ ?_; simp; done) | refine Blk.alloc ?_ _ | refine Blk.drewN ?_ _ | refine Blk.drew ?_ | apply Blk.set | refine Blk.put ?_ (by assumption) (by first | (simp; done) | (simp; omega) | omega) | refine Blk.below ?_ (by assumption)) | (refine Blk.setAt ?_ (by first | (simp; done) | (simp; omega))) | rfl)), Lib.hid (own_below OW.out (below_alloc (Below.refl _ _) _)), Lib.hid (HLr.out.below (below_alloc (Below.refl _ _) _)), Lib.hid (KL.out.below (below_alloc (Below.refl _ _) _)), Lib.hid (below_alloc B1.out _)⟩ ?_
              rintro w4 ⟨hbw4, Kw4_0, OW4, HL4, KL4, B4⟩
              obtain ⟨lw4_0, cw4_0, fw4_0⟩ := Kw4_0.out.use
              refine (whole_y x hxl v1 hax _ HL4.out).mono ?_
              rintro e w5 ⟨rfl, hb5⟩
              have HL5 := Lib.hid (HL4.out.below hb5)
              have OW5 := Lib.hid (own_below OW4.out hb5)
              have KL5 := Lib.hid (KL4.out.below hb5)
              have B5 := Lib.hid (below_then B4.out hb5)
              have KW5 := Lib.hid (Kw4_0.out.below hb5)
              have cw5 := KW5.out.cell
              have hbw5 : Below w.heap.size w w5 := below_then hbw4 hb5
              clear hb5 cw4_0 fw4_0
              go_wp2_with fail
              refine (whole_y y hyl v2 hay _ HL5.out).mono ?_
              rintro e w6 ⟨rfl, hb6⟩
              have HL6 := Lib.hid (HL5.out.below hb6)
              have OW6 := Lib.hid (own_below OW5.out hb6)
              have KL6 := Lib.hid (KL5.out.below hb6)
              have B6 := Lib.hid (below_then B5.out hb6)
              have KW6 := Lib.hid (KW5.out.below hb6)
              have cw6 := KW6.out.cell
              have hbw6 : Below w.heap.size w w6 := below_then hbw5 hb6
              clear hb6 cw5
              go_wp2_with fail
              refine (law_no z hz _).mono ?_
              rintro e w7 ⟨rfl, hb7⟩
              have OW7 := Lib.hid (own_below OW6.out hb7)
              have KL7 := Lib.hid (KL6.out.below hb7)
              have B7 := Lib.hid (below_then B6.out hb7)
              have hbw7 : Below w.heap.size w w7 := below_then hbw6 hb7
              clear hb7 cw6
              go_wp2
              go_ret
              exact ⟨rfl, hbw7⟩
            | some d =>
              have X : Hid (parseV S = parseGo (k + 1) (acc ++ [⟨v1, v2, d⟩]) (Ls.drop (k + 1))) := Lib.hid (by rw [PK.out]; exact parse_some k acc t _ DN.out _ (by rw [item, hq3]; simp only; rw [hax, hay, hz]))
              have XO := Lib.hid hx.out.2.2.2.1
              have XL := Lib.hid hx.out.2.1
              have HD := Lib.hid (btn_of hz).1
              have IV : Hid (I64 v1 ∧ I64 v2) := Lib.hid ⟨whole_in hax, whole_in hay⟩
              clear hx hq3
              go_wp2_with fail
              refine (ST.out wr HLr.out).mono ?_
              rintro e w4 ⟨rfl, rfl⟩
              go_wp2_with fail
              refine cmark (F := fun X => Calls _ _ _ X _) (R := fun W => Below w.heap.size w W ∧ Hid (Blk W (wr.heap.size) (#[.string ⟨x.toArray⟩, .string ⟨y.toArray⟩, .string ⟨z.toArray⟩]) 9) ∧ Hid (Go.World.ownsRow W (g + 1) 34 3 u7 acc.length (inpCells acc)) ∧ Hid (Lw Tryd.prog 1 W) ∧ Hid (Blk W g (Ls.map strV).toArray 9) ∧ Hid (Below w1.heap.size w1 W)) ⟨by repeat' (first | (with_reducible first | exact Below.refl _ _ | assumption | refine below_alloc ?_ _ | refine Below.drew ?_ | refine Go.Mq.below_drewN ?_ _ | refine below_then ?_ (by assumption) | refine below_put ?_ (by assumption) (by first | (simp; done) | (simp; omega) | omega) | refine Below.setCell ?_ ?_ _) | (simp; done) | (simp; omega) | omega), Lib.hid (by repeat' (first | (with_reducible first | exact Hid.out (by assumption) | exact Blk.new _ _ _ | (refine Blk.new_at _ _ _ _ ?_; simp; done) | refine Blk.alloc ?_ _ | refine Blk.drewN ?_ _ | refine Blk.drew ?_ | apply Blk.set | refine Blk.put ?_ (by assumption) (by first | (simp; done) | (simp; omega) | omega) | refine Blk.below ?_ (by assumption)) | (refine Blk.setAt ?_ (by first | (simp; done) | (simp; omega))) | rfl)), Lib.hid (own_below OW.out (below_alloc (Below.refl _ _) _)), Lib.hid (HLr.out.below (below_alloc (Below.refl _ _) _)), Lib.hid (KL.out.below (below_alloc (Below.refl _ _) _)), Lib.hid (below_alloc B1.out _)⟩ ?_
              rintro w4 ⟨hbw4, Kw4_0, OW4, HL4, KL4, B4⟩
              obtain ⟨lw4_0, cw4_0, fw4_0⟩ := Kw4_0.out.use
              refine (whole_y x hxl v1 hax _ HL4.out).mono ?_
              rintro e w5 ⟨rfl, hb5⟩
              have HL5 := Lib.hid (HL4.out.below hb5)
              have OW5 := Lib.hid (own_below OW4.out hb5)
              have KL5 := Lib.hid (KL4.out.below hb5)
              have B5 := Lib.hid (below_then B4.out hb5)
              have KW5 := Lib.hid (Kw4_0.out.below hb5)
              have cw5 := KW5.out.cell
              have hbw5 : Below w.heap.size w w5 := below_then hbw4 hb5
              clear hb5 cw4_0 fw4_0
              go_wp2_with fail
              refine (whole_y y hyl v2 hay _ HL5.out).mono ?_
              rintro e w6 ⟨rfl, hb6⟩
              have HL6 := Lib.hid (HL5.out.below hb6)
              have OW6 := Lib.hid (own_below OW5.out hb6)
              have KL6 := Lib.hid (KL5.out.below hb6)
              have B6 := Lib.hid (below_then B5.out hb6)
              have KW6 := Lib.hid (KW5.out.below hb6)
              have cw6 := KW6.out.cell
              have hbw6 : Below w.heap.size w w6 := below_then hbw5 hb6
              clear hb6 cw5
              go_wp2_with fail
              refine (law_y z d hz _).mono ?_
              rintro e w7 ⟨rfl, hb7⟩
              have OW7 := Lib.hid (own_below OW6.out hb7)
              have KL7 := Lib.hid (KL6.out.below hb7)
              have B7 := Lib.hid (below_then B6.out hb7)
              have hbw7 : Below w.heap.size w w7 := below_then hbw6 hb7
              clear hb7 cw6
              have hs7 := hbw7.size
              have hg7 : g + 1 ≤ w7.heap.size := KL7.out.lt
              have hgw := LG.out.1
              go_wp2_with (first
                | (at_builtin; refine wpList_append_own _ rfl (.tmp 133) (.tmp 138) 22 rfl (g + 1) 34 i0 (.agg #[.int .i64 0, .int .i64 0, .int .u8 0]) 3 24 Tryd.underlying22 HI.out.1 HI.out.2.1 HI.out.2.2.1 HI.out.2.2.2 rfl (by decide) _ _ _ rfl (World.ownsRow.alloc OW7.out _) ⟨w7.heap.size, 0, none⟩ 1 1 [.int .i64 v1, .int .i64 v2, .int .u8 d] rfl rfl ?c1 ?c2 ?c3 ?c4 ?c5 ?_)
                | fail)
              case c1 =>
                intro j u hj
                match j, hj with
                | 0, hj => simp at hj; subst hj; simp [Addr.add]
                | 1, hj => simp at hj; subst hj; simp [Addr.add]
                | 2, hj => simp at hj; subst hj; simp [Addr.add]
              case c2 =>
                intro u hu
                simp at hu
                rcases hu with rfl | rfl | rfl <;> rfl
              case c3 => have := XL.out; unfold maxLen; omega
              case c4 => have := XL.out; omega
              case c5 => simp; omega
              intro v' w9 hown hgrow _
              have hb9 : Below w.heap.size w w9 := below_grown (below_alloc hbw7 _) (by simp; omega) hgrow (World.ownsRow.alloc OW7.out _) (by omega)
              have B9 : Hid (Below w1.heap.size w1 w9) := Lib.hid (below_grown (below_alloc B7.out _) (by have := B7.out.size; simp; omega) hgrow (World.ownsRow.alloc OW7.out _) (by have := LW.out; omega))
              have KL9 := Lib.hid ((KL7.out.alloc _).grown hgrow (World.ownsRow.alloc OW7.out _) (Nat.lt_succ_self _))
              have HO : Hid (w9.ownsRow (g + 1) 34 3 v' (acc ++ [(⟨v1, v2, d⟩ : Inp)]).length (inpCells (acc ++ [(⟨v1, v2, d⟩ : Inp)]))) := Lib.hid (by
                rw [List.length_append, show inpCells (acc ++ [(⟨v1, v2, d⟩ : Inp)]) = inpCells acc ++ [.int .i64 v1, .int .i64 v2, .int .u8 d] by simp [inpCells]]
                exact hown)
              obtain ⟨ao', cp', rfl⟩ := own_shape hown
              have OKX : Hid (∀ q ∈ acc ++ [(⟨v1, v2, d⟩ : Inp)], q.Ok) := Lib.hid (fun q hq => by
                rcases List.mem_append.1 hq with h | h
                · exact XO.out q h
                · rw [List.mem_singleton] at h
                  subst h
                  exact ⟨IV.out.1, IV.out.2, by unfold U8; have := HD.out; show 0 ≤ (d : Int) ∧ (d : Int) ≤ 255; omega⟩)
              clear hown hgrow
              go_wp2
              go_roundw
              case rel => exact ⟨k + 1, _, by go_num, by omega, Lib.hid ⟨X.out, by rw [List.length_append]; have := XL.out; simp; omega, HO.out, OKX.out, KL9.out, B9.out⟩, hb9⟩
              case measure => simp [intOf]; omega
      · have PE : Hid (parseV S = .inl k) := Lib.hid (by rw [PK.out]; exact parse_none k acc t _ DN.out (by rw [item, hq3]))
        obtain ⟨rfl, rfl, rfl⟩ := HT.out.1 k PE.out
        obtain ⟨n4, hn4⟩ : ∃ n4 : Nat, n4 = (x :: y :: z :: z2 :: tt).length := ⟨_, rfl⟩
        have hn5 : ((n4 : Int) != 3) = true := by simp [hn4]; omega
        rw [← hn4] at ST
        replace hn4 := Lib.hid hn4
        clear hx hq3
        go_wp2_with fail
        refine (ST.out wr HLr.out).mono ?_
        rintro e w4 ⟨rfl, rfl⟩
        go_wp2
        go_ret
        exact ⟨rfl, by repeat' (first | (with_reducible first | exact Below.refl _ _ | assumption | refine below_alloc ?_ _ | refine Below.drew ?_ | refine Go.Mq.below_drewN ?_ _ | refine below_then ?_ (by assumption) | refine below_put ?_ (by assumption) (by first | (simp; done) | (simp; omega) | omega) | refine Below.setCell ?_ ?_ _) | (simp; done) | (simp; omega) | omega)⟩
theorem walk (s : ByteArray) (w : World) (hL : Lk w) : Calls Tryd.prog 5 #[.string s] w fun e w' => e = .returned (.bool true) ∧ Below w.heap.size w w' := by
  by_cases hs : 4000 < s.size
  · exact walk_long s w hL hs
  · have := walk_short s.data.toList w hL (by rw [← Lib.size_eq]; omega)
    rwa [Array.toArray_toList] at this
end Go.Proofs.YtlhjoclclbhjgaaDoor.tapeParse
