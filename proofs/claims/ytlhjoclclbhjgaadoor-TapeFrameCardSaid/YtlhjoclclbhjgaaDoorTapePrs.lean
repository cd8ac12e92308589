/- The program reads what was pressed. Conditions: the library's variables hold what they were laid with. -/
import Derived.Test.YtlhjoclclbhjgaaDoorTapePrn
import Derived.Test.YtlhjoclclbhjgaaDoorParsePure
namespace Go.Proofs.YtlhjoclclbhjgaaDoor
open Go.RowKit Go.Mq
set_option linter.unusedVariables false
set_option linter.unusedSimpArgs false
set_option maxHeartbeats 2000000
set_option maxRecDepth 100000
def strSz : Value → Nat
  | .string q => q.size
  | _ => 0
theorem strSz_list (l : List UInt8) : strSz (.string ⟨l.toArray⟩) = l.length := by simp [strSz, Lib.size_eq]
def ParseEnd (base : Nat) (s : List UInt8) (e : Ending) (w' : World) : Prop :=
  match parseV s with
  | .inl i => e = .returned (.tuple #[.slice none 0 0, .int .i64 i, .int .i64 1])
  | .inr l => if chkI l 0 = 0 then ∃ v, e = .returned (.tuple #[v, .int .i64 0, .int .i64 0]) ∧ w'.ownsRow base 34 3 v l.length (inpCells l) ∧ (∀ x ∈ l, x.Ok) else e = .returned (.tuple #[.slice none 0 0, .int .i64 0, .int .i64 (chkI l 0)])
theorem infoI : (Tryd.prog.info? 34).map (fun i => (i.zero, i.size, i.bytes)) = some (some (.agg #[.int .i64 0, .int .i64 0, .int .u8 0]), 3, 24) := by kernel_rfl
theorem atoi_y (x : List UInt8) (hx : x.length ≤ 4000) (v : Int) (h : Lib.atoiAll x = .ok v) (w : World) : Calls Tryd.prog 56 #[.string ⟨x.toArray⟩] w fun e w' => e = .returned (.tuple #[.int .i64 v, .nilIface]) ∧ Below w.heap.size w w' :=
  atoi_yes ⟨x.toArray⟩ (by show x.toArray.size ≤ _; rw [List.size_toArray]; omega) v (by simpa using h) w
theorem atoi_n (x : List UInt8) (hx : x.length ≤ 4000) (h : ∀ v, Lib.atoiAll x ≠ .ok v) (w : World) (hL : Lk w) : Calls Tryd.prog 56 #[.string ⟨x.toArray⟩] w fun e w' => (∃ (n : Int) (N : Nat), e = .returned (.tuple #[.int .i64 n, .iface 138 (.pointer (some ⟨N, 0, none⟩))])) ∧ Below w.heap.size w w' :=
  atoi_no ⟨x.toArray⟩ (by show x.toArray.size ≤ _; rw [List.size_toArray]; omega) (by simpa using h) w hL
theorem of_n (x : List UInt8) (w : World) : Calls Tryd.prog 14 #[.string ⟨x.toArray⟩] w fun e w' => e = .returned (ofRes x) ∧ Below w.heap.size w w' := by
  have := of_any ⟨x.toArray⟩ w
  simpa using this
theorem cut_n (r : List UInt8) (hr : r.length ≤ 4000) (h : (10 : UInt8) ∉ r) (w : World) (hL : Lk w) : Calls Tryd.prog 55 #[.string ⟨r.toArray⟩, .string ⟨#[10]⟩] w fun e w' => e = .returned (.tuple #[.string ⟨r.toArray⟩, .string ⟨#[]⟩, .bool false]) ∧ Below w.heap.size w w' := by
  have := cut_any ⟨r.toArray⟩ (by rw [Lib.size_eq]; simp; omega) 10 w hL
  rw [show (⟨r.toArray⟩ : ByteArray).data.toList = r by simp, cut_miss 10 r h] at this
  exact this
theorem cut_y (a b : List UInt8) (hr : (a ++ 10 :: b).length ≤ 4000) (h : (10 : UInt8) ∉ a) (w : World) (hL : Lk w) : Calls Tryd.prog 55 #[.string ⟨(a ++ 10 :: b).toArray⟩, .string ⟨#[10]⟩] w fun e w' => e = .returned (.tuple #[.string ⟨a.toArray⟩, .string ⟨b.toArray⟩, .bool true]) ∧ Below w.heap.size w w' := by
  have := cut_any ⟨(a ++ 10 :: b).toArray⟩ (by rw [Lib.size_eq, List.toList_toArray]; omega) 10 w hL
  rw [show (⟨(a ++ 10 :: b).toArray⟩ : ByteArray).data.toList = a ++ 10 :: b by simp, cut_hit 10 a b h] at this
  exact this
theorem split_n (r : List UInt8) (hr : r.length ≤ 4000) (w : World) (hL : Lk w) : Calls Tryd.prog 26 #[.string ⟨r.toArray⟩, .string ⟨#[32]⟩] w fun e w' =>
    e = .returned (.slice (some ⟨w.heap.size, 0, none⟩) (sepBy 32 r).length (sepBy 32 r).length) ∧ w' = w.alloc (.cells ((sepBy 32 r).map strV).toArray 9) := by
  have := split_any ⟨r.toArray⟩ (by rw [Lib.size_eq]; simp; omega) 32 w hL
  rw [show (⟨r.toArray⟩ : ByteArray).data.toList = r by simp] at this
  exact this
theorem atoi_u (x : List UInt8) (hx : x.length ≤ 4000) (w : World) (hL : Lk w) : Calls Tryd.prog 56 #[.string ⟨x.toArray⟩] w fun e w' => (∃ (n : Int) (er : Value), e = .returned (.tuple #[.int .i64 n, er])) ∧ Below w.heap.size w w' := by
  cases h : Lib.atoiAll x with
  | ok v => exact (atoi_y x hx v h w).mono fun e w' ⟨he, hb⟩ => ⟨⟨_, _, he⟩, hb⟩
  | _ => exact (atoi_n x hx (fun v => by rw [h]; exact fun h => by cases h) w hL).mono fun e w' ⟨⟨n, N, he⟩, hb⟩ => ⟨⟨_, _, he⟩, hb⟩
theorem atoi_dec (x : List UInt8) : (∀ v, Lib.atoiAll x ≠ .ok v) ∨ ∃ v, Lib.atoiAll x = .ok v := by
  cases h : Lib.atoiAll x with
  | ok v => exact .inr ⟨v, rfl⟩
  | _ => exact .inl fun v hv => by cases hv
theorem whole_none {x : List UInt8} (h : ∀ v, Lib.atoiAll x ≠ .ok v) : wholeZ x = none := by
  unfold wholeZ
  split
  · exact absurd ‹_› (h _)
  · rfl
theorem of_none (z : List UInt8) (h : ofBtn z = none) (w : World) : Calls Tryd.prog 14 #[.string ⟨z.toArray⟩] w fun e w' => e = .returned (.tuple #[.int .u8 0, .int .i64 1]) ∧ Below w.heap.size w w' := by
  have := of_n z w
  rw [show ofRes z = .tuple #[.int .u8 0, .int .i64 1] by rw [ofRes, h]] at this
  exact this
theorem of_some (z : List UInt8) (d : Nat) (h : ofBtn z = some d) (w : World) : Calls Tryd.prog 14 #[.string ⟨z.toArray⟩] w fun e w' => e = .returned (.tuple #[.int .u8 d, .int .i64 0]) ∧ Below w.heap.size w w' := by
  have := of_n z w
  rw [show ofRes z = .tuple #[.int .u8 d, .int .i64 0] by rw [ofRes, h]] at this
  exact this
theorem of_u (z : List UInt8) (w : World) : Calls Tryd.prog 14 #[.string ⟨z.toArray⟩] w fun e w' => (∃ (d c : Int), e = .returned (.tuple #[.int .u8 d, .int .i64 c])) ∧ Below w.heap.size w w' := by
  cases h : ofBtn z with
  | none => exact (of_none z h w).mono fun e w' ⟨he, hb⟩ => ⟨⟨_, _, he⟩, hb⟩
  | some d => exact (of_some z d h w).mono fun e w' ⟨he, hb⟩ => ⟨⟨_, _, he⟩, hb⟩
theorem sep_len (c : UInt8) : ∀ (l x : List UInt8), x ∈ sepBy c l → x.length ≤ l.length
  | [], x, h => by simp [sepBy] at h; simp [h]
  | y :: t, x, h => by
    rw [sepBy] at h
    split at h
    · rcases List.mem_cons.1 h with rfl | h
      · simp
      · have := sep_len c t x h; simp; omega
    · split at h
      · simp at h; simp [h]
      · rename_i z r hq
        rcases List.mem_cons.1 h with rfl | h
        · have := sep_len c t z (by rw [hq]; simp); simp; omega
        · have := sep_len c t x (by rw [hq]; simp [h]); simp; omega
theorem parse_long (s : ByteArray) (w : World) (hs : 4000 < s.size) : Calls Tryd.prog 21 #[.string s] w fun e w' => e = .returned (.tuple #[.slice none 0 0, .int .i64 0, .int .i64 2]) ∧ Below w.heap.size w w' := by
  have hs' : (4000 : Int) < s.size := by omega
  go_enter Tryd.func21, Tryd.ntmps21
  go_wp2
  go_ret3
  exact ⟨rfl, by repeat' (first | (with_reducible first | exact Below.refl _ _ | assumption | refine below_alloc ?_ _ | refine Below.drew ?_ | refine Go.Mq.below_drewN ?_ _ | refine below_then ?_ (by assumption) | refine below_put ?_ (by assumption) (by first | (simp; done) | (simp; omega) | omega) | refine Below.setCell ?_ ?_ _) | (simp; done) | (simp; omega) | omega)⟩
theorem parse_any (s : ByteArray) (w : World) (hL : Lk w) (hs : s.size ≤ 4000) : Calls Tryd.prog 21 #[.string s] w fun e w' => ParseEnd w.heap.size s.data.toList e w' ∧ Below w.heap.size w w' := by
  have hs' : ¬ (4000 : Int) < s.size := by omega
  have HL := Lib.hid hL
  obtain ⟨S, hS⟩ : ∃ S, S = s.data.toList := ⟨_, rfl⟩
  have hSl : S.length ≤ 4000 := by rw [hS, ← Lib.size_eq]; exact hs
  have e0 : s = ⟨S.toArray⟩ := by rw [hS, Array.toArray_toList]
  rw [← hS]
  obtain ⟨Z, hZ⟩ : ∃ Z, Z = (s.size : Int) := ⟨_, rfl⟩
  clear hL hS hs
  subst e0
  obtain ⟨i0, hi, hz0, hz1, hz2⟩ := info_parts infoI
  have HI := Lib.hid (And.intro hi (And.intro hz0 (And.intro hz1 hz2)))
  clear hi hz0 hz1 hz2
  go_enter Tryd.func21, Tryd.ntmps21
  go_wp2
  go_loopw [0, 2, 5] (fun t v i wr => ∃ (r : List UInt8) (acc : List Inp) (k : Nat), t = .string ⟨r.toArray⟩ ∧ i = .int .i64 k ∧ Hid (r.length ≤ 4000 ∧ k + r.length ≤ 4000 ∧ acc.length ≤ k ∧ parseV S = parseGo k acc (sepBy 10 r) ∧ wr.ownsRow w.heap.size 34 3 v acc.length (inpCells acc) ∧ ∀ x ∈ acc, x.Ok) ∧ Below w.heap.size w wr) (fun t _ _ _ => strSz t)
  case atStart => exact ⟨S, [], 0, rfl, rfl, Lib.hid ⟨by omega, by omega, by simp, rfl, ⟨rfl, .inl ⟨rfl, rfl⟩⟩, by simp⟩, Below.refl _ _⟩
  case round =>
    obtain ⟨r, acc, k, rfl, rfl, hx, hb⟩ := hrel
    by_cases h0 : r = []
    · subst h0
      obtain ⟨x1, x2, x3, x4, x5, x6⟩ := hx.out
      rw [parse_nil] at x4
      have IN := own_inps x5 x6
      have CI := Lib.hid (inputs_any _ acc 0 _ IN (by unfold I64; omega))
      obtain ⟨ao, cp, rfl⟩ := own_shape x5
      clear IN hx
      by_cases hz : chkI acc 0 = 0
      · rw [hz] at CI
        go_wp2_with fail
        refine (CI.out).mono ?_
        rintro e w1 ⟨rfl, hb1⟩
        have X5 := Lib.hid (own_below x5 hb1)
        have hbb : Below w.heap.size w w1 := hb.trans (hb1.mono hb.size)
        go_wp2
        go_ret3
        refine ⟨?_, hbb⟩
        unfold ParseEnd
        rw [x4]
        simp only
        rw [if_pos hz]
        exact ⟨_, rfl, X5.out, x6⟩
      · have hz' : (chkI acc 0 != 0) = true := by simpa using hz
        have HZ := Lib.hid hz
        clear hz
        go_wp2_with fail
        refine (CI.out).mono ?_
        rintro e w1 ⟨rfl, hb1⟩
        have hbb : Below w.heap.size w w1 := hb.trans (hb1.mono hb.size)
        go_wp2
        go_ret3
        refine ⟨?_, hbb⟩
        unfold ParseEnd
        rw [x4]
        simp only
        rw [if_neg HZ.out]
        rfl
    · have hne : r.isEmpty = false := by simpa using h0
      by_cases h10 : (10 : UInt8) ∈ r
      · obtain ⟨a, b, rfl, ha⟩ : ∃ a b : List UInt8, r = a ++ 10 :: b ∧ (10 : UInt8) ∉ a := by
          rcases index1_cases r 10 with ⟨-, h2⟩ | ⟨a, b, e, h2, -⟩
          · exact absurd h10 h2
          · exact ⟨a, b, e, h2⟩
        have hal : a.length ≤ 4000 := by have := hx.out.1; simp at this; omega
        have CY := Lib.hid (cut_y a b hx.out.1 ha)
        have SN := Lib.hid (split_n a hal)
        have HLr := Lib.hid (HL.out.below hb)
        have OW := Lib.hid hx.out.2.2.2.2.1
        have hab : a.length + b.length + 1 ≤ 4000 := by have := hx.out.1; simp at this; omega
        have SL := Lib.hid (sep_len 32 a)
        clear h10 h0
        rcases hq3 : sepBy 32 a with _ | ⟨x, _ | ⟨y, _ | ⟨z, _ | ⟨z2, t⟩⟩⟩⟩
        · exact absurd hq3 (sepBy_ne 32 a)
        all_goals first | (rw [hq3] at SN SL) | skip
        · have E : Hid (parseV S = .inl k) := Lib.hid (by rw [hx.out.2.2.2.1]; exact parse_bad k acc a b ha (by rw [item, hq3]))
          clear hx hq3
          go_wp2_with fail
          refine (CY.out _ HLr.out).mono ?_
          rintro e w1 ⟨rfl, hb1⟩
          have HL1 := Lib.hid (HLr.out.below hb1)
          have hbb : Below w.heap.size w w1 := hb.trans (hb1.mono hb.size)
          go_wp2_with fail
          refine (SN.out _ HL1.out).mono ?_
          rintro e w2 ⟨rfl, rfl⟩
          go_wp2
          go_ret3
          refine ⟨?_, by repeat' (first | (with_reducible first | exact Below.refl _ _ | assumption | refine below_alloc ?_ _ | refine Below.drew ?_ | refine Go.Mq.below_drewN ?_ _ | refine below_then ?_ (by assumption) | refine below_put ?_ (by assumption) (by first | (simp; done) | (simp; omega) | omega) | refine Below.setCell ?_ ?_ _) | (simp; done) | (simp; omega) | omega)⟩
          unfold ParseEnd
          rw [E.out]
          rfl
        · have E : Hid (parseV S = .inl k) := Lib.hid (by rw [hx.out.2.2.2.1]; exact parse_bad k acc a b ha (by rw [item, hq3]))
          clear hx hq3
          go_wp2_with fail
          refine (CY.out _ HLr.out).mono ?_
          rintro e w1 ⟨rfl, hb1⟩
          have HL1 := Lib.hid (HLr.out.below hb1)
          have hbb : Below w.heap.size w w1 := hb.trans (hb1.mono hb.size)
          go_wp2_with fail
          refine (SN.out _ HL1.out).mono ?_
          rintro e w2 ⟨rfl, rfl⟩
          go_wp2
          go_ret3
          refine ⟨?_, by repeat' (first | (with_reducible first | exact Below.refl _ _ | assumption | refine below_alloc ?_ _ | refine Below.drew ?_ | refine Go.Mq.below_drewN ?_ _ | refine below_then ?_ (by assumption) | refine below_put ?_ (by assumption) (by first | (simp; done) | (simp; omega) | omega) | refine Below.setCell ?_ ?_ _) | (simp; done) | (simp; omega) | omega)⟩
          unfold ParseEnd
          rw [E.out]
          rfl
        · have hxl : x.length ≤ 4000 := by have := SL.out x (by simp); omega
          have hyl : y.length ≤ 4000 := by have := SL.out y (by simp); omega
          replace SN : Hid (∀ w, Lk w → Calls Tryd.prog 26 #[.string ⟨a.toArray⟩, .string ⟨#[32]⟩] w fun e w' => e = .returned (.slice (some ⟨w.heap.size, 0, none⟩) 3 3) ∧ w' = w.alloc (.cells #[.string ⟨x.toArray⟩, .string ⟨y.toArray⟩, .string ⟨z.toArray⟩] 9)) := Lib.hid SN.out
        -- arms: written by mkprs.py
          rcases atoi_dec x with hax | ⟨v1, hax⟩
          · skip
            have E : Hid (parseV S = .inl k) := Lib.hid (by rw [hx.out.2.2.2.1]; exact parse_bad k acc a b ha (by rw [item, hq3]; simp only; rw [whole_none hax]))
            clear hx hq3
            go_wp2_with fail
            refine (CY.out _ HLr.out).mono ?_
            rintro e w1 ⟨rfl, hb1⟩
            have HL1 := Lib.hid (HLr.out.below hb1)
            have OW1 := Lib.hid (own_below OW.out hb1)
            have hbb : Below w.heap.size w w1 := hb.trans (hb1.mono hb.size)
            have hs1 := hbb.size
            clear hb1
            go_wp2_with fail
            refine (SN.out _ HL1.out).mono ?_
            rintro e w2 ⟨rfl, rfl⟩
            go_wp2_with fail
            refine cmark (F := fun X => Calls _ _ _ X _) (R := fun W => Below w.heap.size w W ∧ Hid (Blk W (w1.heap.size) (#[.string ⟨x.toArray⟩, .string ⟨y.toArray⟩, .string ⟨z.toArray⟩]) 9) ∧ Hid (Go.World.ownsRow W w.heap.size 34 3 u2 acc.length (inpCells acc)) ∧ Hid (Lw Tryd.prog 1 W)) ⟨by repeat' (first | (with_reducible first | exact Below.refl _ _ | assumption | refine below_alloc ?_ _ | refine Below.drew ?_ | refine Go.Mq.below_drewN ?_ _ | refine below_then ?_ (by assumption) | refine below_put ?_ (by assumption) (by first | (simp; done) | (simp; omega) | omega) | refine Below.setCell ?_ ?_ _) | (simp; done) | (simp; omega) | omega), Lib.hid (by repeat' (first | (with_reducible first | exact Hid.out (by assumption) | exact Blk.new _ _ _ | (refine Blk.new_at _ _ _ _ ?_; simp; done) | refine Blk.alloc ?_ _ | refine Blk.drewN ?_ _ | refine Blk.drew ?_ | apply Blk.set | refine Blk.put ?_ (by assumption) (by first | (simp; done) | (simp; omega) | omega) | refine Blk.below ?_ (by assumption)) | (refine Blk.setAt ?_ (by first | (simp; done) | (simp; omega))) | rfl)), Lib.hid (own_below OW1.out (below_alloc (Below.refl _ _) _)), Lib.hid (HL1.out.below (below_alloc (Below.refl _ _) _))⟩ ?_
            rintro w2 ⟨hbw2, Kw2_0, OW2, HL2⟩
            obtain ⟨lw2_0, cw2_0, fw2_0⟩ := Kw2_0.out.use
            refine (atoi_n x hxl hax _ HL2.out).mono ?_
            rintro e w3 ⟨⟨n1, N1, rfl⟩, hb3⟩
            have HL3 := Lib.hid (HL2.out.below hb3)
            have OW3 := Lib.hid (own_below OW2.out hb3)
            have KW3 := Lib.hid (Kw2_0.out.below hb3)
            have cw3 := KW3.out.cell
            have hbw3 : Below w.heap.size w w3 := below_then hbw2 hb3
            clear hb3 cw2_0 fw2_0
            go_wp2_with fail
            refine (atoi_u y hyl _ HL3.out).mono ?_
            rintro e w4 ⟨⟨n2, er2, rfl⟩, hb4⟩
            have HL4 := Lib.hid (HL3.out.below hb4)
            have OW4 := Lib.hid (own_below OW3.out hb4)
            have KW4 := Lib.hid (KW3.out.below hb4)
            have cw4 := KW4.out.cell
            have hbw4 : Below w.heap.size w w4 := below_then hbw3 hb4
            clear hb4 cw3
            go_wp2_with fail
            refine (of_u z _).mono ?_
            rintro e w5 ⟨⟨d3, c3, rfl⟩, hb5⟩
            have HL5 := Lib.hid (HL4.out.below hb5)
            have OW5 := Lib.hid (own_below OW4.out hb5)
            have KW5 := Lib.hid (KW4.out.below hb5)
            have cw5 := KW5.out.cell
            have hbw5 : Below w.heap.size w w5 := below_then hbw4 hb5
            clear hb5 cw4
            go_wp2
            go_quiet (fail)
            go_wp2
            go_ret3
            refine ⟨?_, by repeat' (first | (with_reducible first | exact Below.refl _ _ | assumption | refine below_alloc ?_ _ | refine Below.drew ?_ | refine Go.Mq.below_drewN ?_ _ | refine below_then ?_ (by assumption) | refine below_put ?_ (by assumption) (by first | (simp; done) | (simp; omega) | omega) | refine Below.setCell ?_ ?_ _) | (simp; done) | (simp; omega) | omega)⟩
            unfold ParseEnd
            rw [E.out]
            rfl
          · skip
            rcases atoi_dec y with hay | ⟨v2, hay⟩
            · skip
              have E : Hid (parseV S = .inl k) := Lib.hid (by rw [hx.out.2.2.2.1]; exact parse_bad k acc a b ha (by rw [item, hq3]; simp only; rw [whole_none hay]; cases wholeZ x <;> rfl))
              clear hx hq3
              go_wp2_with fail
              refine (CY.out _ HLr.out).mono ?_
              rintro e w1 ⟨rfl, hb1⟩
              have HL1 := Lib.hid (HLr.out.below hb1)
              have OW1 := Lib.hid (own_below OW.out hb1)
              have hbb : Below w.heap.size w w1 := hb.trans (hb1.mono hb.size)
              have hs1 := hbb.size
              clear hb1
              go_wp2_with fail
              refine (SN.out _ HL1.out).mono ?_
              rintro e w2 ⟨rfl, rfl⟩
              go_wp2_with fail
              refine cmark (F := fun X => Calls _ _ _ X _) (R := fun W => Below w.heap.size w W ∧ Hid (Blk W (w1.heap.size) (#[.string ⟨x.toArray⟩, .string ⟨y.toArray⟩, .string ⟨z.toArray⟩]) 9) ∧ Hid (Go.World.ownsRow W w.heap.size 34 3 u2 acc.length (inpCells acc)) ∧ Hid (Lw Tryd.prog 1 W)) ⟨by repeat' (first | (with_reducible first | exact Below.refl _ _ | assumption | refine below_alloc ?_ _ | refine Below.drew ?_ | refine Go.Mq.below_drewN ?_ _ | refine below_then ?_ (by assumption) | refine below_put ?_ (by assumption) (by first | (simp; done) | (simp; omega) | omega) | refine Below.setCell ?_ ?_ _) | (simp; done) | (simp; omega) | omega), Lib.hid (by repeat' (first | (with_reducible first | exact Hid.out (by assumption) | exact Blk.new _ _ _ | (refine Blk.new_at _ _ _ _ ?_; simp; done) | refine Blk.alloc ?_ _ | refine Blk.drewN ?_ _ | refine Blk.drew ?_ | apply Blk.set | refine Blk.put ?_ (by assumption) (by first | (simp; done) | (simp; omega) | omega) | refine Blk.below ?_ (by assumption)) | (refine Blk.setAt ?_ (by first | (simp; done) | (simp; omega))) | rfl)), Lib.hid (own_below OW1.out (below_alloc (Below.refl _ _) _)), Lib.hid (HL1.out.below (below_alloc (Below.refl _ _) _))⟩ ?_
              rintro w2 ⟨hbw2, Kw2_0, OW2, HL2⟩
              obtain ⟨lw2_0, cw2_0, fw2_0⟩ := Kw2_0.out.use
              refine (atoi_y x hxl v1 hax _).mono ?_
              rintro e w3 ⟨rfl, hb3⟩
              have HL3 := Lib.hid (HL2.out.below hb3)
              have OW3 := Lib.hid (own_below OW2.out hb3)
              have KW3 := Lib.hid (Kw2_0.out.below hb3)
              have cw3 := KW3.out.cell
              have hbw3 : Below w.heap.size w w3 := below_then hbw2 hb3
              clear hb3 cw2_0 fw2_0
              go_wp2_with fail
              refine (atoi_n y hyl hay _ HL3.out).mono ?_
              rintro e w4 ⟨⟨n2, N2, rfl⟩, hb4⟩
              have HL4 := Lib.hid (HL3.out.below hb4)
              have OW4 := Lib.hid (own_below OW3.out hb4)
              have KW4 := Lib.hid (KW3.out.below hb4)
              have cw4 := KW4.out.cell
              have hbw4 : Below w.heap.size w w4 := below_then hbw3 hb4
              clear hb4 cw3
              go_wp2_with fail
              refine (of_u z _).mono ?_
              rintro e w5 ⟨⟨d3, c3, rfl⟩, hb5⟩
              have HL5 := Lib.hid (HL4.out.below hb5)
              have OW5 := Lib.hid (own_below OW4.out hb5)
              have KW5 := Lib.hid (KW4.out.below hb5)
              have cw5 := KW5.out.cell
              have hbw5 : Below w.heap.size w w5 := below_then hbw4 hb5
              clear hb5 cw4
              go_wp2
              go_quiet (fail)
              go_wp2
              go_ret3
              refine ⟨?_, by repeat' (first | (with_reducible first | exact Below.refl _ _ | assumption | refine below_alloc ?_ _ | refine Below.drew ?_ | refine Go.Mq.below_drewN ?_ _ | refine below_then ?_ (by assumption) | refine below_put ?_ (by assumption) (by first | (simp; done) | (simp; omega) | omega) | refine Below.setCell ?_ ?_ _) | (simp; done) | (simp; omega) | omega)⟩
              unfold ParseEnd
              rw [E.out]
              rfl
            · skip
              cases hz : ofBtn z with
              | none =>
                have E : Hid (parseV S = .inl k) := Lib.hid (by rw [hx.out.2.2.2.1]; exact parse_bad k acc a b ha (by rw [item, hq3]; simp only; rw [hz]; cases wholeZ x <;> cases wholeZ y <;> rfl))
                clear hx hq3
                go_wp2_with fail
                refine (CY.out _ HLr.out).mono ?_
                rintro e w1 ⟨rfl, hb1⟩
                have HL1 := Lib.hid (HLr.out.below hb1)
                have OW1 := Lib.hid (own_below OW.out hb1)
                have hbb : Below w.heap.size w w1 := hb.trans (hb1.mono hb.size)
                have hs1 := hbb.size
                clear hb1
                go_wp2_with fail
                refine (SN.out _ HL1.out).mono ?_
                rintro e w2 ⟨rfl, rfl⟩
                go_wp2_with fail
                refine cmark (F := fun X => Calls _ _ _ X _) (R := fun W => Below w.heap.size w W ∧ Hid (Blk W (w1.heap.size) (#[.string ⟨x.toArray⟩, .string ⟨y.toArray⟩, .string ⟨z.toArray⟩]) 9) ∧ Hid (Go.World.ownsRow W w.heap.size 34 3 u2 acc.length (inpCells acc)) ∧ Hid (Lw Tryd.prog 1 W)) ⟨by repeat' (first | (with_reducible first | exact Below.refl _ _ | assumption | refine below_alloc ?_ _ | refine Below.drew ?_ | refine Go.Mq.below_drewN ?_ _ | refine below_then ?_ (by assumption) | refine below_put ?_ (by assumption) (by first | (simp; done) | (simp; omega) | omega) | refine Below.setCell ?_ ?_ _) | (simp; done) | (simp; omega) | omega), Lib.hid (by repeat' (first | (with_reducible first | exact Hid.out (by assumption) | exact Blk.new _ _ _ | (refine Blk.new_at _ _ _ _ ?_; simp; done) | refine Blk.alloc ?_ _ | refine Blk.drewN ?_ _ | refine Blk.drew ?_ | apply Blk.set | refine Blk.put ?_ (by assumption) (by first | (simp; done) | (simp; omega) | omega) | refine Blk.below ?_ (by assumption)) | (refine Blk.setAt ?_ (by first | (simp; done) | (simp; omega))) | rfl)), Lib.hid (own_below OW1.out (below_alloc (Below.refl _ _) _)), Lib.hid (HL1.out.below (below_alloc (Below.refl _ _) _))⟩ ?_
                rintro w2 ⟨hbw2, Kw2_0, OW2, HL2⟩
                obtain ⟨lw2_0, cw2_0, fw2_0⟩ := Kw2_0.out.use
                refine (atoi_y x hxl v1 hax _).mono ?_
                rintro e w3 ⟨rfl, hb3⟩
                have HL3 := Lib.hid (HL2.out.below hb3)
                have OW3 := Lib.hid (own_below OW2.out hb3)
                have KW3 := Lib.hid (Kw2_0.out.below hb3)
                have cw3 := KW3.out.cell
                have hbw3 : Below w.heap.size w w3 := below_then hbw2 hb3
                clear hb3 cw2_0 fw2_0
                go_wp2_with fail
                refine (atoi_y y hyl v2 hay _).mono ?_
                rintro e w4 ⟨rfl, hb4⟩
                have HL4 := Lib.hid (HL3.out.below hb4)
                have OW4 := Lib.hid (own_below OW3.out hb4)
                have KW4 := Lib.hid (KW3.out.below hb4)
                have cw4 := KW4.out.cell
                have hbw4 : Below w.heap.size w w4 := below_then hbw3 hb4
                clear hb4 cw3
                go_wp2_with fail
                refine (of_none z hz _).mono ?_
                rintro e w5 ⟨rfl, hb5⟩
                have HL5 := Lib.hid (HL4.out.below hb5)
                have OW5 := Lib.hid (own_below OW4.out hb5)
                have KW5 := Lib.hid (KW4.out.below hb5)
                have cw5 := KW5.out.cell
                have hbw5 : Below w.heap.size w w5 := below_then hbw4 hb5
                clear hb5 cw4
                go_wp2
                go_quiet (fail)
                go_wp2
                go_ret3
                refine ⟨?_, by repeat' (first | (with_reducible first | exact Below.refl _ _ | assumption | refine below_alloc ?_ _ | refine Below.drew ?_ | refine Go.Mq.below_drewN ?_ _ | refine below_then ?_ (by assumption) | refine below_put ?_ (by assumption) (by first | (simp; done) | (simp; omega) | omega) | refine Below.setCell ?_ ?_ _) | (simp; done) | (simp; omega) | omega)⟩
                unfold ParseEnd
                rw [E.out]
                rfl
              | some d =>
                have hd := (btn_of hz).1
                have IV1 := Lib.hid (whole_ok hax)
                have IV2 := Lib.hid (whole_ok hay)
                by_cases h1 : Lib.itoa v1 = x
                · by_cases h2 : Lib.itoa v2 = y
                  · have X : Hid (parseV S = parseGo (k + 1) (acc ++ [⟨v1, v2, d⟩]) (sepBy 10 b)) := Lib.hid (by rw [hx.out.2.2.2.1]; exact parse_good k acc a b ha _ (by rw [item, hq3]; simp only; rw [show wholeZ x = some v1 by rw [wholeZ, hax]; simp only; rw [if_pos h1], show wholeZ y = some v2 by rw [wholeZ, hay]; simp only; rw [if_pos h2], hz]))
                    have XO := Lib.hid hx.out.2.2.2.2.2
                    have XL := Lib.hid (And.intro (show k + (a.length + (b.length + 1)) ≤ 4000 by have := hx.out.2.1; simpa using this) hx.out.2.2.1)
                    have XB := Lib.hid hab
                    have HD := Lib.hid hd
                    have q1 : (Lib.itoa v1 == x) = true := beq_iff_eq.2 h1
                    have q2 : (Lib.itoa v2 == y) = true := beq_iff_eq.2 h2
                    clear hx hq3 h1 h2
                    go_wp2_with fail
                    refine (CY.out _ HLr.out).mono ?_
                    rintro e w1 ⟨rfl, hb1⟩
                    have HL1 := Lib.hid (HLr.out.below hb1)
                    have OW1 := Lib.hid (own_below OW.out hb1)
                    have hbb : Below w.heap.size w w1 := hb.trans (hb1.mono hb.size)
                    have hs1 := hbb.size
                    clear hb1
                    go_wp2_with fail
                    refine (SN.out _ HL1.out).mono ?_
                    rintro e w2 ⟨rfl, rfl⟩
                    go_wp2_with fail
                    refine cmark (F := fun X => Calls _ _ _ X _) (R := fun W => Below w.heap.size w W ∧ Hid (Blk W (w1.heap.size) (#[.string ⟨x.toArray⟩, .string ⟨y.toArray⟩, .string ⟨z.toArray⟩]) 9) ∧ Hid (Go.World.ownsRow W w.heap.size 34 3 u2 acc.length (inpCells acc)) ∧ Hid (Lw Tryd.prog 1 W)) ⟨by repeat' (first | (with_reducible first | exact Below.refl _ _ | assumption | refine below_alloc ?_ _ | refine Below.drew ?_ | refine Go.Mq.below_drewN ?_ _ | refine below_then ?_ (by assumption) | refine below_put ?_ (by assumption) (by first | (simp; done) | (simp; omega) | omega) | refine Below.setCell ?_ ?_ _) | (simp; done) | (simp; omega) | omega), Lib.hid (by repeat' (first | (with_reducible first | exact Hid.out (by assumption) | exact Blk.new _ _ _ | (refine Blk.new_at _ _ _ _ ?_; simp; done) | refine Blk.alloc ?_ _ | refine Blk.drewN ?_ _ | refine Blk.drew ?_ | apply Blk.set | refine Blk.put ?_ (by assumption) (by first | (simp; done) | (simp; omega) | omega) | refine Blk.below ?_ (by assumption)) | (refine Blk.setAt ?_ (by first | (simp; done) | (simp; omega))) | rfl)), Lib.hid (own_below OW1.out (below_alloc (Below.refl _ _) _)), Lib.hid (HL1.out.below (below_alloc (Below.refl _ _) _))⟩ ?_
                    rintro w2 ⟨hbw2, Kw2_0, OW2, HL2⟩
                    obtain ⟨lw2_0, cw2_0, fw2_0⟩ := Kw2_0.out.use
                    refine (atoi_y x hxl v1 hax _).mono ?_
                    rintro e w3 ⟨rfl, hb3⟩
                    have HL3 := Lib.hid (HL2.out.below hb3)
                    have OW3 := Lib.hid (own_below OW2.out hb3)
                    have KW3 := Lib.hid (Kw2_0.out.below hb3)
                    have cw3 := KW3.out.cell
                    have hbw3 : Below w.heap.size w w3 := below_then hbw2 hb3
                    clear hb3 cw2_0 fw2_0
                    go_wp2_with fail
                    refine (atoi_y y hyl v2 hay _).mono ?_
                    rintro e w4 ⟨rfl, hb4⟩
                    have HL4 := Lib.hid (HL3.out.below hb4)
                    have OW4 := Lib.hid (own_below OW3.out hb4)
                    have KW4 := Lib.hid (KW3.out.below hb4)
                    have cw4 := KW4.out.cell
                    have hbw4 : Below w.heap.size w w4 := below_then hbw3 hb4
                    clear hb4 cw3
                    go_wp2_with fail
                    refine (of_some z d hz _).mono ?_
                    rintro e w5 ⟨rfl, hb5⟩
                    have HL5 := Lib.hid (HL4.out.below hb5)
                    have OW5 := Lib.hid (own_below OW4.out hb5)
                    have KW5 := Lib.hid (KW4.out.below hb5)
                    have cw5 := KW5.out.cell
                    have hbw5 : Below w.heap.size w w5 := below_then hbw4 hb5
                    clear hb5 cw4
                    have HL5d := Lib.hid (HL5.out.below (Below.refl _ _).drew)
                    have KW5d := Lib.hid KW5.out.drew
                    go_wp2
                    refine wp_region_F (fun k W => (k = 15 → W.cell? ⟨w1.heap.size, 0, none⟩ = some (.string ⟨x.toArray⟩)) ∧ (k = 23 → W.cell? ⟨w1.heap.size, 1, none⟩ = some (.string ⟨y.toArray⟩))) [0, 1, 2, 3, 4, 5, 6, 7, 8, 9, 10, 11, 13, 14, 15, 16, 17, 18, 19, 21, 22, 23, 24, 25] (by kernel_rfl) ?_
                    refine wpAnyF_take (i := 0) (v := ?v0_1) rfl (by kernel_rfl) (by kernel_rfl) (by kernel_rfl) (by kernel_rfl) (fun _ _ _ h => h) (Or.inl ⟨by rfl, ?y0_1⟩) ⟨(fun h => absurd h (by decide)), (fun h => absurd h (by decide))⟩ ?_
                    case y0_1 => (intro w hF; clear hF; go_simp; try with_reducible rfl)
                    try simp only [List.getElem_toArray, List.getElem_cons_succ, List.getElem_cons_zero, Act.put, List.setIfInBounds_toArray, List.set_cons_zero, List.set_cons_succ]
                    refine wpAnyF_take (i := 1) (v := ?v1_1) rfl (by kernel_rfl) (by kernel_rfl) (by kernel_rfl) (by kernel_rfl) (fun _ _ _ h => h) (Or.inl ⟨by rfl, ?y1_1⟩) ⟨(fun h => absurd h (by decide)), (fun h => absurd h (by decide))⟩ ?_
                    case y1_1 => (intro w hF; clear hF; go_simp; try with_reducible rfl)
                    try simp only [List.getElem_toArray, List.getElem_cons_succ, List.getElem_cons_zero, Act.put, List.setIfInBounds_toArray, List.set_cons_zero, List.set_cons_succ]
                    refine wpAnyF_take (i := 2) (v := ?v2_1) rfl (by kernel_rfl) (by kernel_rfl) (by kernel_rfl) (by kernel_rfl) (fun _ _ _ h => h) (Or.inl ⟨by rfl, ?y2_1⟩) ⟨(fun h => absurd h (by decide)), (fun h => absurd h (by decide))⟩ ?_
                    case y2_1 => (intro w hF; clear hF; go_simp; try with_reducible rfl)
                    try simp only [List.getElem_toArray, List.getElem_cons_succ, List.getElem_cons_zero, Act.put, List.setIfInBounds_toArray, List.set_cons_zero, List.set_cons_succ]
                    refine wpAnyF_take (i := 3) (v := ?v3_1) rfl (by kernel_rfl) (by kernel_rfl) (by kernel_rfl) (by kernel_rfl) (fun _ _ _ h => h) (Or.inl ⟨by rfl, ?y3_1⟩) ⟨(fun h => absurd h (by decide)), (fun h => absurd h (by decide))⟩ ?_
                    case y3_1 => (intro w hF; clear hF; go_simp; try with_reducible rfl)
                    try simp only [List.getElem_toArray, List.getElem_cons_succ, List.getElem_cons_zero, Act.put, List.setIfInBounds_toArray, List.set_cons_zero, List.set_cons_succ]
                    refine wpAnyF_take (i := 4) (v := ?v4_1) rfl (by kernel_rfl) (by kernel_rfl) (by kernel_rfl) (by kernel_rfl) (fun _ _ _ h => h) (Or.inl ⟨by rfl, ?y4_1⟩) ⟨(fun h => absurd h (by decide)), (fun h => absurd h (by decide))⟩ ?_
                    case y4_1 => (intro w hF; clear hF; go_simp; try with_reducible rfl)
                    try simp only [List.getElem_toArray, List.getElem_cons_succ, List.getElem_cons_zero, Act.put, List.setIfInBounds_toArray, List.set_cons_zero, List.set_cons_succ]
                    refine wpAnyF_take (i := 5) (v := ?v5_1) rfl (by kernel_rfl) (by kernel_rfl) (by kernel_rfl) (by kernel_rfl) (fun _ _ _ h => h) (Or.inl ⟨by rfl, ?y5_1⟩) ⟨(fun h => absurd h (by decide)), (fun h => absurd h (by decide))⟩ ?_
                    case y5_1 => (intro w hF; clear hF; go_simp; try with_reducible rfl)
                    try simp only [List.getElem_toArray, List.getElem_cons_succ, List.getElem_cons_zero, Act.put, List.setIfInBounds_toArray, List.set_cons_zero, List.set_cons_succ]
                    refine wpAnyF_take (i := 6) (v := ?v6_1) rfl (by kernel_rfl) (by kernel_rfl) (by kernel_rfl) (by kernel_rfl) (fun _ _ _ h => h) (Or.inl ⟨by rfl, ?y6_1⟩) ⟨(fun h => absurd h (by decide)), (fun h => absurd h (by decide))⟩ ?_
                    case y6_1 => (intro w hF; clear hF; go_simp; try with_reducible rfl)
                    try simp only [List.getElem_toArray, List.getElem_cons_succ, List.getElem_cons_zero, Act.put, List.setIfInBounds_toArray, List.set_cons_zero, List.set_cons_succ]
                    refine wpAnyF_take (i := 7) (v := ?v7_1) rfl (by kernel_rfl) (by kernel_rfl) (by kernel_rfl) (by kernel_rfl) (fun _ _ _ h => h) (Or.inl ⟨by rfl, ?y7_1⟩) ⟨(fun h => absurd h (by decide)), (fun h => absurd h (by decide))⟩ ?_
                    case y7_1 => (intro w hF; clear hF; go_simp; try with_reducible rfl)
                    try simp only [List.getElem_toArray, List.getElem_cons_succ, List.getElem_cons_zero, Act.put, List.setIfInBounds_toArray, List.set_cons_zero, List.set_cons_succ]
                    refine wpAnyF_take (i := 8) (v := ?v8_1) rfl (by kernel_rfl) (by kernel_rfl) (by kernel_rfl) (by kernel_rfl) (fun _ _ _ h => h) (Or.inl ⟨by rfl, ?y8_1⟩) ⟨(fun h => absurd h (by decide)), (fun h => absurd h (by decide))⟩ ?_
                    case y8_1 => (intro w hF; clear hF; go_simp; try with_reducible rfl)
                    try simp only [List.getElem_toArray, List.getElem_cons_succ, List.getElem_cons_zero, Act.put, List.setIfInBounds_toArray, List.set_cons_zero, List.set_cons_succ]
                    refine wpAnyF_take (i := 9) (v := ?v9_1) rfl (by kernel_rfl) (by kernel_rfl) (by kernel_rfl) (by kernel_rfl) (fun _ _ _ h => h) (Or.inl ⟨by rfl, ?y9_1⟩) ⟨(fun h => absurd h (by decide)), (fun h => absurd h (by decide))⟩ ?_
                    case y9_1 => (intro w hF; clear hF; go_simp; try with_reducible rfl)
                    try simp only [List.getElem_toArray, List.getElem_cons_succ, List.getElem_cons_zero, Act.put, List.setIfInBounds_toArray, List.set_cons_zero, List.set_cons_succ]
                    refine wpAnyF_take (i := 10) (v := ?v10_1) rfl (by kernel_rfl) (by kernel_rfl) (by kernel_rfl) (by kernel_rfl) (fun _ _ _ h => h) (Or.inl ⟨by rfl, ?y10_1⟩) ⟨(fun h => absurd h (by decide)), (fun h => absurd h (by decide))⟩ ?_
                    case y10_1 => (intro w hF; clear hF; go_simp; try with_reducible rfl)
                    try simp only [List.getElem_toArray, List.getElem_cons_succ, List.getElem_cons_zero, Act.put, List.setIfInBounds_toArray, List.set_cons_zero, List.set_cons_succ]
                    refine wpAnyF_take (i := 11) (v := ?v11_1) rfl (by kernel_rfl) (by kernel_rfl) (by kernel_rfl) (by kernel_rfl) (fun _ _ _ h => h) (Or.inl ⟨by rfl, ?y11_1⟩) ⟨(fun h => absurd h (by decide)), (fun h => absurd h (by decide))⟩ ?_
                    case y11_1 => (intro w hF; clear hF; go_simp; try with_reducible rfl)
                    try simp only [List.getElem_toArray, List.getElem_cons_succ, List.getElem_cons_zero, Act.put, List.setIfInBounds_toArray, List.set_cons_zero, List.set_cons_succ]
                    refine wpAnyF_take (i := 13) (v := ?v13_1) rfl (by kernel_rfl) (by kernel_rfl) (by kernel_rfl) (by kernel_rfl) (fun _ _ _ h => h) (Or.inl ⟨by rfl, ?y13_1⟩) ⟨(fun h => absurd h (by decide)), (fun h => absurd h (by decide))⟩ ?_
                    case y13_1 => (intro w hF; clear hF; go_simp; try with_reducible rfl)
                    try simp only [List.getElem_toArray, List.getElem_cons_succ, List.getElem_cons_zero, Act.put, List.setIfInBounds_toArray, List.set_cons_zero, List.set_cons_succ]
                    refine wpAnyF_take (i := 14) (v := ?v14_1) rfl (by kernel_rfl) (by kernel_rfl) (by kernel_rfl) (by kernel_rfl) (fun _ _ _ h => h) (Or.inl ⟨by rfl, ?y14_1⟩) ⟨(fun h => absurd h (by decide)), (fun h => absurd h (by decide))⟩ ?_
                    case y14_1 => (intro w hF; clear hF; go_simp; try with_reducible rfl)
                    try simp only [List.getElem_toArray, List.getElem_cons_succ, List.getElem_cons_zero, Act.put, List.setIfInBounds_toArray, List.set_cons_zero, List.set_cons_succ]
                    refine wpAnyF_take (i := 15) (v := ?v15_1) rfl (by kernel_rfl) (by kernel_rfl) (by kernel_rfl) (by kernel_rfl) (fun _ _ _ h => h) (Or.inl ⟨by rfl, ?y15_1⟩) ⟨(fun _ => KW5d.out.cell 0), (fun h => absurd h (by decide))⟩ ?_
                    case y15_1 => (intro w hF; have hF2 := hF.1 rfl; clear hF; go_simp; try with_reducible rfl)
                    try simp only [List.getElem_toArray, List.getElem_cons_succ, List.getElem_cons_zero, Act.put, List.setIfInBounds_toArray, List.set_cons_zero, List.set_cons_succ]
                    refine wpAnyF_ready (rs := [12]) (by kernel_rfl) (by simp) (AllReadyF.cons rfl (fun K hK => ?_) AllReadyF.nil)
                    go_simp
                    refine (itoa_any v1 IV1.out _ HL5d.out).mono ?_
                    rintro e w6 ⟨rfl, hb6⟩
                    try go_wp2_with fail
                    refine hK.out _ _ (Sat.all (by kernel_rfl) (fun k => ⟨(fun _ => (KW5d.out.below hb6).cell 0), (fun _ => (KW5d.out.below hb6).cell 1)⟩)) ?_
                    clear hK K
                    try simp only [List.getElem_toArray, List.getElem_cons_succ, List.getElem_cons_zero, Act.put, List.setIfInBounds_toArray, List.set_cons_zero, List.set_cons_succ]
                    have KW6 := Lib.hid (KW5d.out.below hb6)
                    refine wpAnyF_take (i := 16) (v := ?v16_1) rfl (by kernel_rfl) (by kernel_rfl) (by kernel_rfl) (by kernel_rfl) (fun _ _ _ h => h) (Or.inl ⟨by rfl, ?y16_1⟩) ⟨(fun h => absurd h (by decide)), (fun h => absurd h (by decide))⟩ ?_
                    case y16_1 => (intro w hF; clear hF; go_simp; try with_reducible rfl)
                    try simp only [List.getElem_toArray, List.getElem_cons_succ, List.getElem_cons_zero, Act.put, List.setIfInBounds_toArray, List.set_cons_zero, List.set_cons_succ]
                    refine wpAnyF_take (i := 17) (v := ?v17_1) rfl (by kernel_rfl) (by kernel_rfl) (by kernel_rfl) (by kernel_rfl) (fun _ _ _ h => h) (Or.inl ⟨by rfl, ?y17_1⟩) ⟨(fun h => absurd h (by decide)), (fun h => absurd h (by decide))⟩ ?_
                    case y17_1 => (intro w hF; clear hF; go_simp; try with_reducible rfl)
                    try simp only [List.getElem_toArray, List.getElem_cons_succ, List.getElem_cons_zero, Act.put, List.setIfInBounds_toArray, List.set_cons_zero, List.set_cons_succ]
                    refine wpAnyF_take (i := 18) (v := ?v18_1) rfl (by kernel_rfl) (by kernel_rfl) (by kernel_rfl) (by kernel_rfl) (fun _ _ _ h => h) (Or.inl ⟨by rfl, ?y18_1⟩) ⟨(fun h => absurd h (by decide)), (fun h => absurd h (by decide))⟩ ?_
                    case y18_1 => (intro w hF; clear hF; go_simp; try with_reducible rfl)
                    try simp only [List.getElem_toArray, List.getElem_cons_succ, List.getElem_cons_zero, Act.put, List.setIfInBounds_toArray, List.set_cons_zero, List.set_cons_succ]
                    refine wpAnyF_take (i := 19) (v := ?v19_1) rfl (by kernel_rfl) (by kernel_rfl) (by kernel_rfl) (by kernel_rfl) (fun _ _ _ h => h) (Or.inl ⟨by rfl, ?y19_1⟩) ⟨(fun h => absurd h (by decide)), (fun h => absurd h (by decide))⟩ ?_
                    case y19_1 => (intro w hF; clear hF; go_simp; try with_reducible rfl)
                    try simp only [List.getElem_toArray, List.getElem_cons_succ, List.getElem_cons_zero, Act.put, List.setIfInBounds_toArray, List.set_cons_zero, List.set_cons_succ]
                    refine wpAnyF_take (i := 21) (v := ?v21_1) rfl (by kernel_rfl) (by kernel_rfl) (by kernel_rfl) (by kernel_rfl) (fun _ _ _ h => h) (Or.inl ⟨by rfl, ?y21_1⟩) ⟨(fun h => absurd h (by decide)), (fun h => absurd h (by decide))⟩ ?_
                    case y21_1 => (intro w hF; clear hF; go_simp; try with_reducible rfl)
                    try simp only [List.getElem_toArray, List.getElem_cons_succ, List.getElem_cons_zero, Act.put, List.setIfInBounds_toArray, List.set_cons_zero, List.set_cons_succ]
                    refine wpAnyF_take (i := 22) (v := ?v22_1) rfl (by kernel_rfl) (by kernel_rfl) (by kernel_rfl) (by kernel_rfl) (fun _ _ _ h => h) (Or.inl ⟨by rfl, ?y22_1⟩) ⟨(fun h => absurd h (by decide)), (fun h => absurd h (by decide))⟩ ?_
                    case y22_1 => (intro w hF; clear hF; go_simp; try with_reducible rfl)
                    try simp only [List.getElem_toArray, List.getElem_cons_succ, List.getElem_cons_zero, Act.put, List.setIfInBounds_toArray, List.set_cons_zero, List.set_cons_succ]
                    refine wpAnyF_take (i := 23) (v := ?v23_1) rfl (by kernel_rfl) (by kernel_rfl) (by kernel_rfl) (by kernel_rfl) (fun _ _ _ h => h) (Or.inl ⟨by rfl, ?y23_1⟩) ⟨(fun h => absurd h (by decide)), (fun _ => KW6.out.cell 1)⟩ ?_
                    case y23_1 => (intro w hF; have hF2 := hF.2 rfl; clear hF; go_simp; try with_reducible rfl)
                    try simp only [List.getElem_toArray, List.getElem_cons_succ, List.getElem_cons_zero, Act.put, List.setIfInBounds_toArray, List.set_cons_zero, List.set_cons_succ]
                    refine wpAnyF_ready (rs := [20]) (by kernel_rfl) (by simp) (AllReadyF.cons rfl (fun K hK => ?_) AllReadyF.nil)
                    go_simp
                    refine (itoa_any v2 IV2.out _ (HL5d.out.below hb6)).mono ?_
                    rintro e w7 ⟨rfl, hb7⟩
                    try go_wp2_with fail
                    refine hK.out _ _ (Sat.all (by kernel_rfl) (fun k => ⟨(fun _ => (KW6.out.below hb7).cell 0), (fun _ => (KW6.out.below hb7).cell 1)⟩)) ?_
                    clear hK K
                    try simp only [List.getElem_toArray, List.getElem_cons_succ, List.getElem_cons_zero, Act.put, List.setIfInBounds_toArray, List.set_cons_zero, List.set_cons_succ]
                    refine wpAnyF_take (i := 24) (v := ?v24_1) rfl (by kernel_rfl) (by kernel_rfl) (by kernel_rfl) (by kernel_rfl) (fun _ _ _ h => h) (Or.inl ⟨by rfl, ?y24_1⟩) ⟨(fun h => absurd h (by decide)), (fun h => absurd h (by decide))⟩ ?_
                    case y24_1 => (intro w hF; clear hF; go_simp; try with_reducible rfl)
                    try simp only [List.getElem_toArray, List.getElem_cons_succ, List.getElem_cons_zero, Act.put, List.setIfInBounds_toArray, List.set_cons_zero, List.set_cons_succ]
                    refine wpAnyF_take (i := 25) (v := ?v25_1) rfl (by kernel_rfl) (by kernel_rfl) (by kernel_rfl) (by kernel_rfl) (fun _ _ _ h => h) (Or.inl ⟨by rfl, ?y25_1⟩) ⟨(fun h => absurd h (by decide)), (fun h => absurd h (by decide))⟩ ?_
                    case y25_1 => (intro w hF; clear hF; go_simp; try with_reducible rfl)
                    try simp only [List.getElem_toArray, List.getElem_cons_succ, List.getElem_cons_zero, Act.put, List.setIfInBounds_toArray, List.set_cons_zero, List.set_cons_succ]
                    refine wpAnyF_done (by kernel_rfl) ?_ _
                    have OW7 := Lib.hid (own_below (own_below (World.ownsRow.drew OW5.out) hb6) hb7)
                    have hb8 : Below w.heap.size w w7 := below_then (below_then hbw5.drew hb6) hb7
                    have hs8 := hb8.size
                    go_wp2_with (first
                      | (at_builtin; refine wpList_append_own _ rfl (.tmp 88) (.tmp 93) 22 rfl w.heap.size 34 i0 (.agg #[.int .i64 0, .int .i64 0, .int .u8 0]) 3 24 Tryd.underlying22 HI.out.1 HI.out.2.1 HI.out.2.2.1 HI.out.2.2.2 rfl (by decide) _ _ _ rfl (World.ownsRow.alloc OW7.out _) ⟨w7.heap.size, 0, none⟩ 1 1 [.int .i64 v1, .int .i64 v2, .int .u8 d] rfl rfl ?c1 ?c2 ?c3 ?c4 ?c5 ?_)
                      | fail)
                    case c1 =>
                      intro j u hj
                      match j, hj with
                      | 0, hj => simp at hj; subst hj; simp [Addr.add]
                      | 1, hj => simp at hj; subst hj; simp [Addr.add]
                      | 2, hj => simp at hj; subst hj; simp [Addr.add]
                    case c2 =>
                      intro u hu
                      simp at hu
                      rcases hu with rfl | rfl | rfl <;> rfl
                    case c3 => have := XL.out; unfold maxLen; omega
                    case c4 => have := XL.out; omega
                    case c5 => simp; omega
                    intro v' w9 hown hgrow _
                    have hb9 : Below w.heap.size w w9 := below_grown (below_alloc hb8 _) (by simp; omega) hgrow (World.ownsRow.alloc OW7.out _) (Nat.le_refl _)
                    have HO : Hid (w9.ownsRow w.heap.size 34 3 v' (acc ++ [(⟨v1, v2, d⟩ : Inp)]).length (inpCells (acc ++ [(⟨v1, v2, d⟩ : Inp)]))) := Lib.hid (by
                      rw [List.length_append, show inpCells (acc ++ [(⟨v1, v2, d⟩ : Inp)]) = inpCells acc ++ [.int .i64 v1, .int .i64 v2, .int .u8 d] by simp [inpCells]]
                      exact hown)
                    obtain ⟨ao', cp', rfl⟩ := own_shape hown
                    have OKX : Hid (∀ q ∈ acc ++ [(⟨v1, v2, d⟩ : Inp)], q.Ok) := Lib.hid (fun q hq => by
                      rcases List.mem_append.1 hq with h | h
                      · exact XO.out q h
                      · rw [List.mem_singleton] at h
                        subst h
                        exact ⟨IV1.out, IV2.out, by unfold U8; have := HD.out; show 0 ≤ (d : Int) ∧ (d : Int) ≤ 255; omega⟩)
                    clear hown hgrow q1 q2
                    have hkk : (k : Int) ≤ 4000 := by have := XL.out.1; omega
                    go_wp2
                    go_roundw
                    case rel => exact ⟨b, _, k + 1, rfl, by go_num, Lib.hid ⟨by have := XB.out; omega, by have := XL.out; have := XB.out; omega, by rw [List.length_append]; have := XL.out; simp; omega, X.out, HO.out, OKX.out⟩, hb9⟩
                    case measure => rw [strSz_list, strSz_list]; have := XB.out; simp; omega
                  · have E : Hid (parseV S = .inl k) := Lib.hid (by rw [hx.out.2.2.2.1]; exact parse_bad k acc a b ha (by rw [item, hq3]; simp only; rw [show wholeZ y = none by rw [wholeZ, hay]; simp only; rw [if_neg h2]]; cases wholeZ x <;> rfl))
                    have q1 : (Lib.itoa v1 == x) = true := beq_iff_eq.2 h1
                    have q2 : (Lib.itoa v2 == y) = false := beq_eq_false_iff_ne.2 h2
                    clear hx hq3 h1 h2
                    go_wp2_with fail
                    refine (CY.out _ HLr.out).mono ?_
                    rintro e w1 ⟨rfl, hb1⟩
                    have HL1 := Lib.hid (HLr.out.below hb1)
                    have OW1 := Lib.hid (own_below OW.out hb1)
                    have hbb : Below w.heap.size w w1 := hb.trans (hb1.mono hb.size)
                    have hs1 := hbb.size
                    clear hb1
                    go_wp2_with fail
                    refine (SN.out _ HL1.out).mono ?_
                    rintro e w2 ⟨rfl, rfl⟩
                    go_wp2_with fail
                    refine cmark (F := fun X => Calls _ _ _ X _) (R := fun W => Below w.heap.size w W ∧ Hid (Blk W (w1.heap.size) (#[.string ⟨x.toArray⟩, .string ⟨y.toArray⟩, .string ⟨z.toArray⟩]) 9) ∧ Hid (Go.World.ownsRow W w.heap.size 34 3 u2 acc.length (inpCells acc)) ∧ Hid (Lw Tryd.prog 1 W)) ⟨by repeat' (first | (with_reducible first | exact Below.refl _ _ | assumption | refine below_alloc ?_ _ | refine Below.drew ?_ | refine Go.Mq.below_drewN ?_ _ | refine below_then ?_ (by assumption) | refine below_put ?_ (by assumption) (by first | (simp; done) | (simp; omega) | omega) | refine Below.setCell ?_ ?_ _) | (simp; done) | (simp; omega) | omega), Lib.hid (by repeat' (first | (with_reducible first | exact Hid.out (by assumption) | exact Blk.new _ _ _ | (refine Blk.new_at _ _ _ _ ?_; simp; done) | refine Blk.alloc ?_ _ | refine Blk.drewN ?_ _ | refine Blk.drew ?_ | apply Blk.set | refine Blk.put ?_ (by assumption) (by first | (simp; done) | (simp; omega) | omega) | refine Blk.below ?_ (by assumption)) | (refine Blk.setAt ?_ (by first | (simp; done) | (simp; omega))) | rfl)), Lib.hid (own_below OW1.out (below_alloc (Below.refl _ _) _)), Lib.hid (HL1.out.below (below_alloc (Below.refl _ _) _))⟩ ?_
                    rintro w2 ⟨hbw2, Kw2_0, OW2, HL2⟩
                    obtain ⟨lw2_0, cw2_0, fw2_0⟩ := Kw2_0.out.use
                    refine (atoi_y x hxl v1 hax _).mono ?_
                    rintro e w3 ⟨rfl, hb3⟩
                    have HL3 := Lib.hid (HL2.out.below hb3)
                    have OW3 := Lib.hid (own_below OW2.out hb3)
                    have KW3 := Lib.hid (Kw2_0.out.below hb3)
                    have cw3 := KW3.out.cell
                    have hbw3 : Below w.heap.size w w3 := below_then hbw2 hb3
                    clear hb3 cw2_0 fw2_0
                    go_wp2_with fail
                    refine (atoi_y y hyl v2 hay _).mono ?_
                    rintro e w4 ⟨rfl, hb4⟩
                    have HL4 := Lib.hid (HL3.out.below hb4)
                    have OW4 := Lib.hid (own_below OW3.out hb4)
                    have KW4 := Lib.hid (KW3.out.below hb4)
                    have cw4 := KW4.out.cell
                    have hbw4 : Below w.heap.size w w4 := below_then hbw3 hb4
                    clear hb4 cw3
                    go_wp2_with fail
                    refine (of_some z d hz _).mono ?_
                    rintro e w5 ⟨rfl, hb5⟩
                    have HL5 := Lib.hid (HL4.out.below hb5)
                    have OW5 := Lib.hid (own_below OW4.out hb5)
                    have KW5 := Lib.hid (KW4.out.below hb5)
                    have cw5 := KW5.out.cell
                    have hbw5 : Below w.heap.size w w5 := below_then hbw4 hb5
                    clear hb5 cw4
                    have HL5d := Lib.hid (HL5.out.below (Below.refl _ _).drew)
                    have KW5d := Lib.hid KW5.out.drew
                    go_wp2
                    refine wp_region_F (fun k W => (k = 15 → W.cell? ⟨w1.heap.size, 0, none⟩ = some (.string ⟨x.toArray⟩)) ∧ (k = 23 → W.cell? ⟨w1.heap.size, 1, none⟩ = some (.string ⟨y.toArray⟩))) [0, 1, 2, 3, 4, 5, 6, 7, 8, 9, 10, 11, 13, 14, 15, 16, 17, 18, 19, 21, 22, 23, 24, 25] (by kernel_rfl) ?_
                    refine wpAnyF_take (i := 0) (v := ?v0_2) rfl (by kernel_rfl) (by kernel_rfl) (by kernel_rfl) (by kernel_rfl) (fun _ _ _ h => h) (Or.inl ⟨by rfl, ?y0_2⟩) ⟨(fun h => absurd h (by decide)), (fun h => absurd h (by decide))⟩ ?_
                    case y0_2 => (intro w hF; clear hF; go_simp; try with_reducible rfl)
                    try simp only [List.getElem_toArray, List.getElem_cons_succ, List.getElem_cons_zero, Act.put, List.setIfInBounds_toArray, List.set_cons_zero, List.set_cons_succ]
                    refine wpAnyF_take (i := 1) (v := ?v1_2) rfl (by kernel_rfl) (by kernel_rfl) (by kernel_rfl) (by kernel_rfl) (fun _ _ _ h => h) (Or.inl ⟨by rfl, ?y1_2⟩) ⟨(fun h => absurd h (by decide)), (fun h => absurd h (by decide))⟩ ?_
                    case y1_2 => (intro w hF; clear hF; go_simp; try with_reducible rfl)
                    try simp only [List.getElem_toArray, List.getElem_cons_succ, List.getElem_cons_zero, Act.put, List.setIfInBounds_toArray, List.set_cons_zero, List.set_cons_succ]
                    refine wpAnyF_take (i := 2) (v := ?v2_2) rfl (by kernel_rfl) (by kernel_rfl) (by kernel_rfl) (by kernel_rfl) (fun _ _ _ h => h) (Or.inl ⟨by rfl, ?y2_2⟩) ⟨(fun h => absurd h (by decide)), (fun h => absurd h (by decide))⟩ ?_
                    case y2_2 => (intro w hF; clear hF; go_simp; try with_reducible rfl)
                    try simp only [List.getElem_toArray, List.getElem_cons_succ, List.getElem_cons_zero, Act.put, List.setIfInBounds_toArray, List.set_cons_zero, List.set_cons_succ]
                    refine wpAnyF_take (i := 3) (v := ?v3_2) rfl (by kernel_rfl) (by kernel_rfl) (by kernel_rfl) (by kernel_rfl) (fun _ _ _ h => h) (Or.inl ⟨by rfl, ?y3_2⟩) ⟨(fun h => absurd h (by decide)), (fun h => absurd h (by decide))⟩ ?_
                    case y3_2 => (intro w hF; clear hF; go_simp; try with_reducible rfl)
                    try simp only [List.getElem_toArray, List.getElem_cons_succ, List.getElem_cons_zero, Act.put, List.setIfInBounds_toArray, List.set_cons_zero, List.set_cons_succ]
                    refine wpAnyF_take (i := 4) (v := ?v4_2) rfl (by kernel_rfl) (by kernel_rfl) (by kernel_rfl) (by kernel_rfl) (fun _ _ _ h => h) (Or.inl ⟨by rfl, ?y4_2⟩) ⟨(fun h => absurd h (by decide)), (fun h => absurd h (by decide))⟩ ?_
                    case y4_2 => (intro w hF; clear hF; go_simp; try with_reducible rfl)
                    try simp only [List.getElem_toArray, List.getElem_cons_succ, List.getElem_cons_zero, Act.put, List.setIfInBounds_toArray, List.set_cons_zero, List.set_cons_succ]
                    refine wpAnyF_take (i := 5) (v := ?v5_2) rfl (by kernel_rfl) (by kernel_rfl) (by kernel_rfl) (by kernel_rfl) (fun _ _ _ h => h) (Or.inl ⟨by rfl, ?y5_2⟩) ⟨(fun h => absurd h (by decide)), (fun h => absurd h (by decide))⟩ ?_
                    case y5_2 => (intro w hF; clear hF; go_simp; try with_reducible rfl)
                    try simp only [List.getElem_toArray, List.getElem_cons_succ, List.getElem_cons_zero, Act.put, List.setIfInBounds_toArray, List.set_cons_zero, List.set_cons_succ]
                    refine wpAnyF_take (i := 6) (v := ?v6_2) rfl (by kernel_rfl) (by kernel_rfl) (by kernel_rfl) (by kernel_rfl) (fun _ _ _ h => h) (Or.inl ⟨by rfl, ?y6_2⟩) ⟨(fun h => absurd h (by decide)), (fun h => absurd h (by decide))⟩ ?_
                    case y6_2 => (intro w hF; clear hF; go_simp; try with_reducible rfl)
                    try simp only [List.getElem_toArray, List.getElem_cons_succ, List.getElem_cons_zero, Act.put, List.setIfInBounds_toArray, List.set_cons_zero, List.set_cons_succ]
                    refine wpAnyF_take (i := 7) (v := ?v7_2) rfl (by kernel_rfl) (by kernel_rfl) (by kernel_rfl) (by kernel_rfl) (fun _ _ _ h => h) (Or.inl ⟨by rfl, ?y7_2⟩) ⟨(fun h => absurd h (by decide)), (fun h => absurd h (by decide))⟩ ?_
                    case y7_2 => (intro w hF; clear hF; go_simp; try with_reducible rfl)
                    try simp only [List.getElem_toArray, List.getElem_cons_succ, List.getElem_cons_zero, Act.put, List.setIfInBounds_toArray, List.set_cons_zero, List.set_cons_succ]
                    refine wpAnyF_take (i := 8) (v := ?v8_2) rfl (by kernel_rfl) (by kernel_rfl) (by kernel_rfl) (by kernel_rfl) (fun _ _ _ h => h) (Or.inl ⟨by rfl, ?y8_2⟩) ⟨(fun h => absurd h (by decide)), (fun h => absurd h (by decide))⟩ ?_
                    case y8_2 => (intro w hF; clear hF; go_simp; try with_reducible rfl)
                    try simp only [List.getElem_toArray, List.getElem_cons_succ, List.getElem_cons_zero, Act.put, List.setIfInBounds_toArray, List.set_cons_zero, List.set_cons_succ]
                    refine wpAnyF_take (i := 9) (v := ?v9_2) rfl (by kernel_rfl) (by kernel_rfl) (by kernel_rfl) (by kernel_rfl) (fun _ _ _ h => h) (Or.inl ⟨by rfl, ?y9_2⟩) ⟨(fun h => absurd h (by decide)), (fun h => absurd h (by decide))⟩ ?_
                    case y9_2 => (intro w hF; clear hF; go_simp; try with_reducible rfl)
                    try simp only [List.getElem_toArray, List.getElem_cons_succ, List.getElem_cons_zero, Act.put, List.setIfInBounds_toArray, List.set_cons_zero, List.set_cons_succ]
                    refine wpAnyF_take (i := 10) (v := ?v10_2) rfl (by kernel_rfl) (by kernel_rfl) (by kernel_rfl) (by kernel_rfl) (fun _ _ _ h => h) (Or.inl ⟨by rfl, ?y10_2⟩) ⟨(fun h => absurd h (by decide)), (fun h => absurd h (by decide))⟩ ?_
                    case y10_2 => (intro w hF; clear hF; go_simp; try with_reducible rfl)
                    try simp only [List.getElem_toArray, List.getElem_cons_succ, List.getElem_cons_zero, Act.put, List.setIfInBounds_toArray, List.set_cons_zero, List.set_cons_succ]
                    refine wpAnyF_take (i := 11) (v := ?v11_2) rfl (by kernel_rfl) (by kernel_rfl) (by kernel_rfl) (by kernel_rfl) (fun _ _ _ h => h) (Or.inl ⟨by rfl, ?y11_2⟩) ⟨(fun h => absurd h (by decide)), (fun h => absurd h (by decide))⟩ ?_
                    case y11_2 => (intro w hF; clear hF; go_simp; try with_reducible rfl)
                    try simp only [List.getElem_toArray, List.getElem_cons_succ, List.getElem_cons_zero, Act.put, List.setIfInBounds_toArray, List.set_cons_zero, List.set_cons_succ]
                    refine wpAnyF_take (i := 13) (v := ?v13_2) rfl (by kernel_rfl) (by kernel_rfl) (by kernel_rfl) (by kernel_rfl) (fun _ _ _ h => h) (Or.inl ⟨by rfl, ?y13_2⟩) ⟨(fun h => absurd h (by decide)), (fun h => absurd h (by decide))⟩ ?_
                    case y13_2 => (intro w hF; clear hF; go_simp; try with_reducible rfl)
                    try simp only [List.getElem_toArray, List.getElem_cons_succ, List.getElem_cons_zero, Act.put, List.setIfInBounds_toArray, List.set_cons_zero, List.set_cons_succ]
                    refine wpAnyF_take (i := 14) (v := ?v14_2) rfl (by kernel_rfl) (by kernel_rfl) (by kernel_rfl) (by kernel_rfl) (fun _ _ _ h => h) (Or.inl ⟨by rfl, ?y14_2⟩) ⟨(fun h => absurd h (by decide)), (fun h => absurd h (by decide))⟩ ?_
                    case y14_2 => (intro w hF; clear hF; go_simp; try with_reducible rfl)
                    try simp only [List.getElem_toArray, List.getElem_cons_succ, List.getElem_cons_zero, Act.put, List.setIfInBounds_toArray, List.set_cons_zero, List.set_cons_succ]
                    refine wpAnyF_take (i := 15) (v := ?v15_2) rfl (by kernel_rfl) (by kernel_rfl) (by kernel_rfl) (by kernel_rfl) (fun _ _ _ h => h) (Or.inl ⟨by rfl, ?y15_2⟩) ⟨(fun _ => KW5d.out.cell 0), (fun h => absurd h (by decide))⟩ ?_
                    case y15_2 => (intro w hF; have hF2 := hF.1 rfl; clear hF; go_simp; try with_reducible rfl)
                    try simp only [List.getElem_toArray, List.getElem_cons_succ, List.getElem_cons_zero, Act.put, List.setIfInBounds_toArray, List.set_cons_zero, List.set_cons_succ]
                    refine wpAnyF_ready (rs := [12]) (by kernel_rfl) (by simp) (AllReadyF.cons rfl (fun K hK => ?_) AllReadyF.nil)
                    go_simp
                    refine (itoa_any v1 IV1.out _ HL5d.out).mono ?_
                    rintro e w6 ⟨rfl, hb6⟩
                    try go_wp2_with fail
                    refine hK.out _ _ (Sat.all (by kernel_rfl) (fun k => ⟨(fun _ => (KW5d.out.below hb6).cell 0), (fun _ => (KW5d.out.below hb6).cell 1)⟩)) ?_
                    clear hK K
                    try simp only [List.getElem_toArray, List.getElem_cons_succ, List.getElem_cons_zero, Act.put, List.setIfInBounds_toArray, List.set_cons_zero, List.set_cons_succ]
                    have KW6 := Lib.hid (KW5d.out.below hb6)
                    refine wpAnyF_take (i := 16) (v := ?v16_2) rfl (by kernel_rfl) (by kernel_rfl) (by kernel_rfl) (by kernel_rfl) (fun _ _ _ h => h) (Or.inl ⟨by rfl, ?y16_2⟩) ⟨(fun h => absurd h (by decide)), (fun h => absurd h (by decide))⟩ ?_
                    case y16_2 => (intro w hF; clear hF; go_simp; try with_reducible rfl)
                    try simp only [List.getElem_toArray, List.getElem_cons_succ, List.getElem_cons_zero, Act.put, List.setIfInBounds_toArray, List.set_cons_zero, List.set_cons_succ]
                    refine wpAnyF_take (i := 17) (v := ?v17_2) rfl (by kernel_rfl) (by kernel_rfl) (by kernel_rfl) (by kernel_rfl) (fun _ _ _ h => h) (Or.inl ⟨by rfl, ?y17_2⟩) ⟨(fun h => absurd h (by decide)), (fun h => absurd h (by decide))⟩ ?_
                    case y17_2 => (intro w hF; clear hF; go_simp; try with_reducible rfl)
                    try simp only [List.getElem_toArray, List.getElem_cons_succ, List.getElem_cons_zero, Act.put, List.setIfInBounds_toArray, List.set_cons_zero, List.set_cons_succ]
                    refine wpAnyF_take (i := 18) (v := ?v18_2) rfl (by kernel_rfl) (by kernel_rfl) (by kernel_rfl) (by kernel_rfl) (fun _ _ _ h => h) (Or.inl ⟨by rfl, ?y18_2⟩) ⟨(fun h => absurd h (by decide)), (fun h => absurd h (by decide))⟩ ?_
                    case y18_2 => (intro w hF; clear hF; go_simp; try with_reducible rfl)
                    try simp only [List.getElem_toArray, List.getElem_cons_succ, List.getElem_cons_zero, Act.put, List.setIfInBounds_toArray, List.set_cons_zero, List.set_cons_succ]
                    refine wpAnyF_take (i := 19) (v := ?v19_2) rfl (by kernel_rfl) (by kernel_rfl) (by kernel_rfl) (by kernel_rfl) (fun _ _ _ h => h) (Or.inl ⟨by rfl, ?y19_2⟩) ⟨(fun h => absurd h (by decide)), (fun h => absurd h (by decide))⟩ ?_
                    case y19_2 => (intro w hF; clear hF; go_simp; try with_reducible rfl)
                    try simp only [List.getElem_toArray, List.getElem_cons_succ, List.getElem_cons_zero, Act.put, List.setIfInBounds_toArray, List.set_cons_zero, List.set_cons_succ]
                    refine wpAnyF_take (i := 21) (v := ?v21_2) rfl (by kernel_rfl) (by kernel_rfl) (by kernel_rfl) (by kernel_rfl) (fun _ _ _ h => h) (Or.inl ⟨by rfl, ?y21_2⟩) ⟨(fun h => absurd h (by decide)), (fun h => absurd h (by decide))⟩ ?_
                    case y21_2 => (intro w hF; clear hF; go_simp; try with_reducible rfl)
                    try simp only [List.getElem_toArray, List.getElem_cons_succ, List.getElem_cons_zero, Act.put, List.setIfInBounds_toArray, List.set_cons_zero, List.set_cons_succ]
                    refine wpAnyF_take (i := 22) (v := ?v22_2) rfl (by kernel_rfl) (by kernel_rfl) (by kernel_rfl) (by kernel_rfl) (fun _ _ _ h => h) (Or.inl ⟨by rfl, ?y22_2⟩) ⟨(fun h => absurd h (by decide)), (fun h => absurd h (by decide))⟩ ?_
                    case y22_2 => (intro w hF; clear hF; go_simp; try with_reducible rfl)
                    try simp only [List.getElem_toArray, List.getElem_cons_succ, List.getElem_cons_zero, Act.put, List.setIfInBounds_toArray, List.set_cons_zero, List.set_cons_succ]
                    refine wpAnyF_take (i := 23) (v := ?v23_2) rfl (by kernel_rfl) (by kernel_rfl) (by kernel_rfl) (by kernel_rfl) (fun _ _ _ h => h) (Or.inl ⟨by rfl, ?y23_2⟩) ⟨(fun h => absurd h (by decide)), (fun _ => KW6.out.cell 1)⟩ ?_
                    case y23_2 => (intro w hF; have hF2 := hF.2 rfl; clear hF; go_simp; try with_reducible rfl)
                    try simp only [List.getElem_toArray, List.getElem_cons_succ, List.getElem_cons_zero, Act.put, List.setIfInBounds_toArray, List.set_cons_zero, List.set_cons_succ]
                    refine wpAnyF_ready (rs := [20]) (by kernel_rfl) (by simp) (AllReadyF.cons rfl (fun K hK => ?_) AllReadyF.nil)
                    go_simp
                    refine (itoa_any v2 IV2.out _ (HL5d.out.below hb6)).mono ?_
                    rintro e w7 ⟨rfl, hb7⟩
                    try go_wp2_with fail
                    refine hK.out _ _ (Sat.all (by kernel_rfl) (fun k => ⟨(fun _ => (KW6.out.below hb7).cell 0), (fun _ => (KW6.out.below hb7).cell 1)⟩)) ?_
                    clear hK K
                    try simp only [List.getElem_toArray, List.getElem_cons_succ, List.getElem_cons_zero, Act.put, List.setIfInBounds_toArray, List.set_cons_zero, List.set_cons_succ]
                    refine wpAnyF_take (i := 24) (v := ?v24_2) rfl (by kernel_rfl) (by kernel_rfl) (by kernel_rfl) (by kernel_rfl) (fun _ _ _ h => h) (Or.inl ⟨by rfl, ?y24_2⟩) ⟨(fun h => absurd h (by decide)), (fun h => absurd h (by decide))⟩ ?_
                    case y24_2 => (intro w hF; clear hF; go_simp; try with_reducible rfl)
                    try simp only [List.getElem_toArray, List.getElem_cons_succ, List.getElem_cons_zero, Act.put, List.setIfInBounds_toArray, List.set_cons_zero, List.set_cons_succ]
                    refine wpAnyF_take (i := 25) (v := ?v25_2) rfl (by kernel_rfl) (by kernel_rfl) (by kernel_rfl) (by kernel_rfl) (fun _ _ _ h => h) (Or.inl ⟨by rfl, ?y25_2⟩) ⟨(fun h => absurd h (by decide)), (fun h => absurd h (by decide))⟩ ?_
                    case y25_2 => (intro w hF; clear hF; go_simp; try with_reducible rfl)
                    try simp only [List.getElem_toArray, List.getElem_cons_succ, List.getElem_cons_zero, Act.put, List.setIfInBounds_toArray, List.set_cons_zero, List.set_cons_succ]
                    refine wpAnyF_done (by kernel_rfl) ?_ _
                    have hb8 : Below w.heap.size w w7 := below_then (below_then hbw5.drew hb6) hb7
                    go_wp2
                    go_ret3
                    refine ⟨?_, by repeat' (first | (with_reducible first | exact Below.refl _ _ | assumption | refine below_alloc ?_ _ | refine Below.drew ?_ | refine Go.Mq.below_drewN ?_ _ | refine below_then ?_ (by assumption) | refine below_put ?_ (by assumption) (by first | (simp; done) | (simp; omega) | omega) | refine Below.setCell ?_ ?_ _) | (simp; done) | (simp; omega) | omega)⟩
                    unfold ParseEnd
                    rw [E.out]
                    rfl
                · have E : Hid (parseV S = .inl k) := Lib.hid (by rw [hx.out.2.2.2.1]; exact parse_bad k acc a b ha (by rw [item, hq3]; simp only; rw [show wholeZ x = none by rw [wholeZ, hax]; simp only; rw [if_neg h1]]))
                  have q1 : (Lib.itoa v1 == x) = false := beq_eq_false_iff_ne.2 h1
                  clear hx hq3 h1
                  go_wp2_with fail
                  refine (CY.out _ HLr.out).mono ?_
                  rintro e w1 ⟨rfl, hb1⟩
                  have HL1 := Lib.hid (HLr.out.below hb1)
                  have OW1 := Lib.hid (own_below OW.out hb1)
                  have hbb : Below w.heap.size w w1 := hb.trans (hb1.mono hb.size)
                  have hs1 := hbb.size
                  clear hb1
                  go_wp2_with fail
                  refine (SN.out _ HL1.out).mono ?_
                  rintro e w2 ⟨rfl, rfl⟩
                  go_wp2_with fail
                  refine cmark (F := fun X => Calls _ _ _ X _) (R := fun W => Below w.heap.size w W ∧ Hid (Blk W (w1.heap.size) (#[.string ⟨x.toArray⟩, .string ⟨y.toArray⟩, .string ⟨z.toArray⟩]) 9) ∧ Hid (Go.World.ownsRow W w.heap.size 34 3 u2 acc.length (inpCells acc)) ∧ Hid (Lw Tryd.prog 1 W)) ⟨by repeat' (first | (with_reducible first | exact Below.refl _ _ | assumption | refine below_alloc ?_ _ | refine Below.drew ?_ | refine Go.Mq.below_drewN ?_ _ | refine below_then ?_ (by assumption) | refine below_put ?_ (by assumption) (by first | (simp; done) | (simp; omega) | omega) | refine Below.setCell ?_ ?_ _) | (simp; done) | (simp; omega) | omega), Lib.hid (by repeat' (first | (with_reducible first | exact Hid.out (by assumption) | exact Blk.new _ _ _ | (refine Blk.new_at _ _ _ _ ?_; simp; done) | refine Blk.alloc ?_ _ | refine Blk.drewN ?_ _ | refine Blk.drew ?_ | apply Blk.set | refine Blk.put ?_ (by assumption) (by first | (simp; done) | (simp; omega) | omega) | refine Blk.below ?_ (by assumption)) | (refine Blk.setAt ?_ (by first | (simp; done) | (simp; omega))) | rfl)), Lib.hid (own_below OW1.out (below_alloc (Below.refl _ _) _)), Lib.hid (HL1.out.below (below_alloc (Below.refl _ _) _))⟩ ?_
                  rintro w2 ⟨hbw2, Kw2_0, OW2, HL2⟩
                  obtain ⟨lw2_0, cw2_0, fw2_0⟩ := Kw2_0.out.use
                  refine (atoi_y x hxl v1 hax _).mono ?_
                  rintro e w3 ⟨rfl, hb3⟩
                  have HL3 := Lib.hid (HL2.out.below hb3)
                  have OW3 := Lib.hid (own_below OW2.out hb3)
                  have KW3 := Lib.hid (Kw2_0.out.below hb3)
                  have cw3 := KW3.out.cell
                  have hbw3 : Below w.heap.size w w3 := below_then hbw2 hb3
                  clear hb3 cw2_0 fw2_0
                  go_wp2_with fail
                  refine (atoi_y y hyl v2 hay _).mono ?_
                  rintro e w4 ⟨rfl, hb4⟩
                  have HL4 := Lib.hid (HL3.out.below hb4)
                  have OW4 := Lib.hid (own_below OW3.out hb4)
                  have KW4 := Lib.hid (KW3.out.below hb4)
                  have cw4 := KW4.out.cell
                  have hbw4 : Below w.heap.size w w4 := below_then hbw3 hb4
                  clear hb4 cw3
                  go_wp2_with fail
                  refine (of_some z d hz _).mono ?_
                  rintro e w5 ⟨rfl, hb5⟩
                  have HL5 := Lib.hid (HL4.out.below hb5)
                  have OW5 := Lib.hid (own_below OW4.out hb5)
                  have KW5 := Lib.hid (KW4.out.below hb5)
                  have cw5 := KW5.out.cell
                  have hbw5 : Below w.heap.size w w5 := below_then hbw4 hb5
                  clear hb5 cw4
                  have HL5d := Lib.hid (HL5.out.below (Below.refl _ _).drew)
                  have KW5d := Lib.hid KW5.out.drew
                  go_wp2
                  refine wp_region_F (fun k W => (k = 15 → W.cell? ⟨w1.heap.size, 0, none⟩ = some (.string ⟨x.toArray⟩))) [0, 1, 2, 3, 4, 5, 6, 7, 8, 9, 10, 11, 13, 14, 15, 16, 17, 18, 19, 20, 21, 22, 23, 24, 25] (by kernel_rfl) ?_
                  refine wpAnyF_take (i := 0) (v := ?v0_3) rfl (by kernel_rfl) (by kernel_rfl) (by kernel_rfl) (by kernel_rfl) (fun _ _ _ h => h) (Or.inl ⟨by rfl, ?y0_3⟩) (fun h => absurd h (by decide)) ?_
                  case y0_3 => (intro w hF; clear hF; go_simp; try with_reducible rfl)
                  try simp only [List.getElem_toArray, List.getElem_cons_succ, List.getElem_cons_zero, Act.put, List.setIfInBounds_toArray, List.set_cons_zero, List.set_cons_succ]
                  refine wpAnyF_take (i := 1) (v := ?v1_3) rfl (by kernel_rfl) (by kernel_rfl) (by kernel_rfl) (by kernel_rfl) (fun _ _ _ h => h) (Or.inl ⟨by rfl, ?y1_3⟩) (fun h => absurd h (by decide)) ?_
                  case y1_3 => (intro w hF; clear hF; go_simp; try with_reducible rfl)
                  try simp only [List.getElem_toArray, List.getElem_cons_succ, List.getElem_cons_zero, Act.put, List.setIfInBounds_toArray, List.set_cons_zero, List.set_cons_succ]
                  refine wpAnyF_take (i := 2) (v := ?v2_3) rfl (by kernel_rfl) (by kernel_rfl) (by kernel_rfl) (by kernel_rfl) (fun _ _ _ h => h) (Or.inl ⟨by rfl, ?y2_3⟩) (fun h => absurd h (by decide)) ?_
                  case y2_3 => (intro w hF; clear hF; go_simp; try with_reducible rfl)
                  try simp only [List.getElem_toArray, List.getElem_cons_succ, List.getElem_cons_zero, Act.put, List.setIfInBounds_toArray, List.set_cons_zero, List.set_cons_succ]
                  refine wpAnyF_take (i := 3) (v := ?v3_3) rfl (by kernel_rfl) (by kernel_rfl) (by kernel_rfl) (by kernel_rfl) (fun _ _ _ h => h) (Or.inl ⟨by rfl, ?y3_3⟩) (fun h => absurd h (by decide)) ?_
                  case y3_3 => (intro w hF; clear hF; go_simp; try with_reducible rfl)
                  try simp only [List.getElem_toArray, List.getElem_cons_succ, List.getElem_cons_zero, Act.put, List.setIfInBounds_toArray, List.set_cons_zero, List.set_cons_succ]
                  refine wpAnyF_take (i := 4) (v := ?v4_3) rfl (by kernel_rfl) (by kernel_rfl) (by kernel_rfl) (by kernel_rfl) (fun _ _ _ h => h) (Or.inl ⟨by rfl, ?y4_3⟩) (fun h => absurd h (by decide)) ?_
                  case y4_3 => (intro w hF; clear hF; go_simp; try with_reducible rfl)
                  try simp only [List.getElem_toArray, List.getElem_cons_succ, List.getElem_cons_zero, Act.put, List.setIfInBounds_toArray, List.set_cons_zero, List.set_cons_succ]
                  refine wpAnyF_take (i := 5) (v := ?v5_3) rfl (by kernel_rfl) (by kernel_rfl) (by kernel_rfl) (by kernel_rfl) (fun _ _ _ h => h) (Or.inl ⟨by rfl, ?y5_3⟩) (fun h => absurd h (by decide)) ?_
                  case y5_3 => (intro w hF; clear hF; go_simp; try with_reducible rfl)
                  try simp only [List.getElem_toArray, List.getElem_cons_succ, List.getElem_cons_zero, Act.put, List.setIfInBounds_toArray, List.set_cons_zero, List.set_cons_succ]
                  refine wpAnyF_take (i := 6) (v := ?v6_3) rfl (by kernel_rfl) (by kernel_rfl) (by kernel_rfl) (by kernel_rfl) (fun _ _ _ h => h) (Or.inl ⟨by rfl, ?y6_3⟩) (fun h => absurd h (by decide)) ?_
                  case y6_3 => (intro w hF; clear hF; go_simp; try with_reducible rfl)
                  try simp only [List.getElem_toArray, List.getElem_cons_succ, List.getElem_cons_zero, Act.put, List.setIfInBounds_toArray, List.set_cons_zero, List.set_cons_succ]
                  refine wpAnyF_take (i := 7) (v := ?v7_3) rfl (by kernel_rfl) (by kernel_rfl) (by kernel_rfl) (by kernel_rfl) (fun _ _ _ h => h) (Or.inl ⟨by rfl, ?y7_3⟩) (fun h => absurd h (by decide)) ?_
                  case y7_3 => (intro w hF; clear hF; go_simp; try with_reducible rfl)
                  try simp only [List.getElem_toArray, List.getElem_cons_succ, List.getElem_cons_zero, Act.put, List.setIfInBounds_toArray, List.set_cons_zero, List.set_cons_succ]
                  refine wpAnyF_take (i := 8) (v := ?v8_3) rfl (by kernel_rfl) (by kernel_rfl) (by kernel_rfl) (by kernel_rfl) (fun _ _ _ h => h) (Or.inl ⟨by rfl, ?y8_3⟩) (fun h => absurd h (by decide)) ?_
                  case y8_3 => (intro w hF; clear hF; go_simp; try with_reducible rfl)
                  try simp only [List.getElem_toArray, List.getElem_cons_succ, List.getElem_cons_zero, Act.put, List.setIfInBounds_toArray, List.set_cons_zero, List.set_cons_succ]
                  refine wpAnyF_take (i := 9) (v := ?v9_3) rfl (by kernel_rfl) (by kernel_rfl) (by kernel_rfl) (by kernel_rfl) (fun _ _ _ h => h) (Or.inl ⟨by rfl, ?y9_3⟩) (fun h => absurd h (by decide)) ?_
                  case y9_3 => (intro w hF; clear hF; go_simp; try with_reducible rfl)
                  try simp only [List.getElem_toArray, List.getElem_cons_succ, List.getElem_cons_zero, Act.put, List.setIfInBounds_toArray, List.set_cons_zero, List.set_cons_succ]
                  refine wpAnyF_take (i := 10) (v := ?v10_3) rfl (by kernel_rfl) (by kernel_rfl) (by kernel_rfl) (by kernel_rfl) (fun _ _ _ h => h) (Or.inl ⟨by rfl, ?y10_3⟩) (fun h => absurd h (by decide)) ?_
                  case y10_3 => (intro w hF; clear hF; go_simp; try with_reducible rfl)
                  try simp only [List.getElem_toArray, List.getElem_cons_succ, List.getElem_cons_zero, Act.put, List.setIfInBounds_toArray, List.set_cons_zero, List.set_cons_succ]
                  refine wpAnyF_take (i := 11) (v := ?v11_3) rfl (by kernel_rfl) (by kernel_rfl) (by kernel_rfl) (by kernel_rfl) (fun _ _ _ h => h) (Or.inl ⟨by rfl, ?y11_3⟩) (fun h => absurd h (by decide)) ?_
                  case y11_3 => (intro w hF; clear hF; go_simp; try with_reducible rfl)
                  try simp only [List.getElem_toArray, List.getElem_cons_succ, List.getElem_cons_zero, Act.put, List.setIfInBounds_toArray, List.set_cons_zero, List.set_cons_succ]
                  refine wpAnyF_take (i := 13) (v := ?v13_3) rfl (by kernel_rfl) (by kernel_rfl) (by kernel_rfl) (by kernel_rfl) (fun _ _ _ h => h) (Or.inl ⟨by rfl, ?y13_3⟩) (fun h => absurd h (by decide)) ?_
                  case y13_3 => (intro w hF; clear hF; go_simp; try with_reducible rfl)
                  try simp only [List.getElem_toArray, List.getElem_cons_succ, List.getElem_cons_zero, Act.put, List.setIfInBounds_toArray, List.set_cons_zero, List.set_cons_succ]
                  refine wpAnyF_take (i := 14) (v := ?v14_3) rfl (by kernel_rfl) (by kernel_rfl) (by kernel_rfl) (by kernel_rfl) (fun _ _ _ h => h) (Or.inl ⟨by rfl, ?y14_3⟩) (fun h => absurd h (by decide)) ?_
                  case y14_3 => (intro w hF; clear hF; go_simp; try with_reducible rfl)
                  try simp only [List.getElem_toArray, List.getElem_cons_succ, List.getElem_cons_zero, Act.put, List.setIfInBounds_toArray, List.set_cons_zero, List.set_cons_succ]
                  refine wpAnyF_take (i := 15) (v := ?v15_3) rfl (by kernel_rfl) (by kernel_rfl) (by kernel_rfl) (by kernel_rfl) (fun _ _ _ h => h) (Or.inl ⟨by rfl, ?y15_3⟩) (fun _ => KW5d.out.cell 0) ?_
                  case y15_3 => (intro w hF; have hF2 := hF rfl; clear hF; go_simp; try with_reducible rfl)
                  try simp only [List.getElem_toArray, List.getElem_cons_succ, List.getElem_cons_zero, Act.put, List.setIfInBounds_toArray, List.set_cons_zero, List.set_cons_succ]
                  refine wpAnyF_ready (rs := [12]) (by kernel_rfl) (by simp) (AllReadyF.cons rfl (fun K hK => ?_) AllReadyF.nil)
                  go_simp
                  refine (itoa_any v1 IV1.out _ HL5d.out).mono ?_
                  rintro e w6 ⟨rfl, hb6⟩
                  try go_wp2_with fail
                  refine hK.out _ _ (Sat.all (by kernel_rfl) (fun k => (fun _ => (KW5d.out.below hb6).cell 0))) ?_
                  clear hK K
                  try simp only [List.getElem_toArray, List.getElem_cons_succ, List.getElem_cons_zero, Act.put, List.setIfInBounds_toArray, List.set_cons_zero, List.set_cons_succ]
                  have KW6 := Lib.hid (KW5d.out.below hb6)
                  refine wpAnyF_take (i := 16) (v := ?v16_3) rfl (by kernel_rfl) (by kernel_rfl) (by kernel_rfl) (by kernel_rfl) (fun _ _ _ h => h) (Or.inl ⟨by rfl, ?y16_3⟩) (fun h => absurd h (by decide)) ?_
                  case y16_3 => (intro w hF; clear hF; go_simp; try with_reducible rfl)
                  try simp only [List.getElem_toArray, List.getElem_cons_succ, List.getElem_cons_zero, Act.put, List.setIfInBounds_toArray, List.set_cons_zero, List.set_cons_succ]
                  refine wpAnyF_take (i := 17) (v := ?v17_3) rfl (by kernel_rfl) (by kernel_rfl) (by kernel_rfl) (by kernel_rfl) (fun _ _ _ h => h) (Or.inl ⟨by rfl, ?y17_3⟩) (fun h => absurd h (by decide)) ?_
                  case y17_3 => (intro w hF; clear hF; go_simp; try with_reducible rfl)
                  try simp only [List.getElem_toArray, List.getElem_cons_succ, List.getElem_cons_zero, Act.put, List.setIfInBounds_toArray, List.set_cons_zero, List.set_cons_succ]
                  refine wpAnyF_take (i := 18) (v := ?v18_3) rfl (by kernel_rfl) (by kernel_rfl) (by kernel_rfl) (by kernel_rfl) (fun _ _ _ h => h) (Or.inl ⟨by rfl, ?y18_3⟩) (fun h => absurd h (by decide)) ?_
                  case y18_3 => (intro w hF; clear hF; go_simp; try with_reducible rfl)
                  try simp only [List.getElem_toArray, List.getElem_cons_succ, List.getElem_cons_zero, Act.put, List.setIfInBounds_toArray, List.set_cons_zero, List.set_cons_succ]
                  refine wpAnyF_take (i := 19) (v := undef) rfl (by kernel_rfl) (by kernel_rfl) (by kernel_rfl) (by kernel_rfl) (fun _ _ _ h => h) (Or.inr ⟨by rfl, rfl⟩) (fun h => absurd h (by decide)) ?_
                  try simp only [List.getElem_toArray, List.getElem_cons_succ, List.getElem_cons_zero, Act.put, List.setIfInBounds_toArray, List.set_cons_zero, List.set_cons_succ]
                  refine wpAnyF_take (i := 20) (v := undef) rfl (by kernel_rfl) (by kernel_rfl) (by kernel_rfl) (by kernel_rfl) (fun _ _ _ h => h) (Or.inr ⟨by rfl, rfl⟩) (fun h => absurd h (by decide)) ?_
                  try simp only [List.getElem_toArray, List.getElem_cons_succ, List.getElem_cons_zero, Act.put, List.setIfInBounds_toArray, List.set_cons_zero, List.set_cons_succ]
                  refine wpAnyF_take (i := 21) (v := undef) rfl (by kernel_rfl) (by kernel_rfl) (by kernel_rfl) (by kernel_rfl) (fun _ _ _ h => h) (Or.inr ⟨by rfl, rfl⟩) (fun h => absurd h (by decide)) ?_
                  try simp only [List.getElem_toArray, List.getElem_cons_succ, List.getElem_cons_zero, Act.put, List.setIfInBounds_toArray, List.set_cons_zero, List.set_cons_succ]
                  refine wpAnyF_take (i := 22) (v := undef) rfl (by kernel_rfl) (by kernel_rfl) (by kernel_rfl) (by kernel_rfl) (fun _ _ _ h => h) (Or.inr ⟨by rfl, rfl⟩) (fun h => absurd h (by decide)) ?_
                  try simp only [List.getElem_toArray, List.getElem_cons_succ, List.getElem_cons_zero, Act.put, List.setIfInBounds_toArray, List.set_cons_zero, List.set_cons_succ]
                  refine wpAnyF_take (i := 23) (v := undef) rfl (by kernel_rfl) (by kernel_rfl) (by kernel_rfl) (by kernel_rfl) (fun _ _ _ h => h) (Or.inr ⟨by rfl, rfl⟩) (fun h => absurd h (by decide)) ?_
                  try simp only [List.getElem_toArray, List.getElem_cons_succ, List.getElem_cons_zero, Act.put, List.setIfInBounds_toArray, List.set_cons_zero, List.set_cons_succ]
                  refine wpAnyF_take (i := 24) (v := undef) rfl (by kernel_rfl) (by kernel_rfl) (by kernel_rfl) (by kernel_rfl) (fun _ _ _ h => h) (Or.inr ⟨by rfl, rfl⟩) (fun h => absurd h (by decide)) ?_
                  try simp only [List.getElem_toArray, List.getElem_cons_succ, List.getElem_cons_zero, Act.put, List.setIfInBounds_toArray, List.set_cons_zero, List.set_cons_succ]
                  refine wpAnyF_take (i := 25) (v := ?v25_3) rfl (by kernel_rfl) (by kernel_rfl) (by kernel_rfl) (by kernel_rfl) (fun _ _ _ h => h) (Or.inl ⟨by rfl, ?y25_3⟩) (fun h => absurd h (by decide)) ?_
                  case y25_3 => (intro w hF; clear hF; go_simp; try with_reducible rfl)
                  try simp only [List.getElem_toArray, List.getElem_cons_succ, List.getElem_cons_zero, Act.put, List.setIfInBounds_toArray, List.set_cons_zero, List.set_cons_succ]
                  refine wpAnyF_done (by kernel_rfl) ?_ _
                  have hb8 : Below w.heap.size w w6 := below_then hbw5.drew hb6
                  go_wp2
                  go_ret3
                  refine ⟨?_, by repeat' (first | (with_reducible first | exact Below.refl _ _ | assumption | refine below_alloc ?_ _ | refine Below.drew ?_ | refine Go.Mq.below_drewN ?_ _ | refine below_then ?_ (by assumption) | refine below_put ?_ (by assumption) (by first | (simp; done) | (simp; omega) | omega) | refine Below.setCell ?_ ?_ _) | (simp; done) | (simp; omega) | omega)⟩
                  unfold ParseEnd
                  rw [E.out]
                  rfl
        -- arms end
        · have E : Hid (parseV S = .inl k) := Lib.hid (by rw [hx.out.2.2.2.1]; exact parse_bad k acc a b ha (by rw [item, hq3]))
          obtain ⟨n4, hn4⟩ : ∃ n4 : Nat, n4 = (x :: y :: z :: z2 :: t).length := ⟨_, rfl⟩
          have hn5 : ((n4 : Int) != 3) = true := by simp [hn4]; omega
          rw [← hn4] at SN
          replace hn4 := Lib.hid hn4
          clear hx hq3
          go_wp2_with fail
          refine (CY.out _ HLr.out).mono ?_
          rintro e w1 ⟨rfl, hb1⟩
          have HL1 := Lib.hid (HLr.out.below hb1)
          have hbb : Below w.heap.size w w1 := hb.trans (hb1.mono hb.size)
          go_wp2_with fail
          refine (SN.out _ HL1.out).mono ?_
          rintro e w2 ⟨rfl, rfl⟩
          go_wp2
          go_ret3
          refine ⟨?_, by repeat' (first | (with_reducible first | exact Below.refl _ _ | assumption | refine below_alloc ?_ _ | refine Below.drew ?_ | refine Go.Mq.below_drewN ?_ _ | refine below_then ?_ (by assumption) | refine below_put ?_ (by assumption) (by first | (simp; done) | (simp; omega) | omega) | refine Below.setCell ?_ ?_ _) | (simp; done) | (simp; omega) | omega)⟩
          unfold ParseEnd
          rw [E.out]
          rfl
      · have E : Hid (parseV S = .inl k) := Lib.hid (by rw [hx.out.2.2.2.1]; exact parse_miss k acc r h0 h10)
        have CN := Lib.hid (cut_n r hx.out.1 h10)
        have SN := Lib.hid (split_n r hx.out.1)
        have HLr := Lib.hid (HL.out.below hb)
        clear hx h10 h0
        go_wp2_with fail
        refine (CN.out _ HLr.out).mono ?_
        rintro e w1 ⟨rfl, hb1⟩
        have HL1 := Lib.hid (HLr.out.below hb1)
        have hbb : Below w.heap.size w w1 := hb.trans (hb1.mono hb.size)
        go_wp2_with fail
        refine (SN.out _ HL1.out).mono ?_
        rintro e w2 ⟨rfl, rfl⟩
        go_wp2
        go_ret3
        refine ⟨?_, by repeat' (first | (with_reducible first | exact Below.refl _ _ | assumption | refine below_alloc ?_ _ | refine Below.drew ?_ | refine Go.Mq.below_drewN ?_ _ | refine below_then ?_ (by assumption) | refine below_put ?_ (by assumption) (by first | (simp; done) | (simp; omega) | omega) | refine Below.setCell ?_ ?_ _) | (simp; done) | (simp; omega) | omega)⟩
        unfold ParseEnd
        rw [E.out]
        rfl
end Go.Proofs.YtlhjoclclbhjgaaDoor
