/- The law LockParts answers true for every input. Conditions: the machine's memories, and what is pressed, lie in memory; the library's variables hold what they were laid with. -/
import Derived.Test.YtmppkjkmocecmaaGreatDoorSq
import Derived.Test.YtmppkjkmocecmaaGreatDoorSh
import Derived.Test.YtmppkjkmocecmaaGreatDoorP32
import Derived.Test.YtmppkjkmocecmaaGreatDoorP41
import Derived.Test.YtmppkjkmocecmaaGreatDoorP42
import Derived.Test.YtmppkjkmocecmaaGreatDoorP45
set_option linter.unusedVariables false
set_option linter.unusedSimpArgs false
set_option maxHeartbeats 8000000
set_option maxRecDepth 100000
namespace Go.Proofs.YtmppkjkmocecmaaGreatDoor.lockParts
open Go.RowKit Go.Mq
/-- which test says no first -/
def NoAt (m : Mach) (ins : List Inp) (a b : Int) (k : Nat) : Prop := match k with
 | 0 => errL m ins a ≠ 0
 | 1 => errL m ins a = 0 ∧ b < 0
 | 2 => errL m ins a = 0 ∧ ¬ b < 0 ∧ 20000 - a < b
 | 3 => errL m ins a = 0 ∧ ¬ b < 0 ∧ ¬ 20000 - a < b ∧ errL m ins (a + b) ≠ 0
 | _ => errL m ins a = 0 ∧ ¬ b < 0 ∧ ¬ 20000 - a < b ∧ errL m ins (a + b) = 0 ∧ 19000 < m.bm.fr
theorem no (V : Nat → Value) (m : Mach) (v : Value) (ins : List Inp) (a b : Int) (w : World) (hm : MV w V m) (hi : m.In) (hI : InpsAt w v ins) (ha : I64 a) (hb : I64 b) (hL : Lk w) (k : Nat) (hk : k < 5) (h : NoAt m ins a b k) : Calls Tryz.prog 5 #[.agg (machC V m), v, .int .i64 a, .int .i64 b] w fun e w' => e = .returned (.bool true) ∧ Below w.heap.size w w' := by
 have BR := Lib.hid (fun n W (k : Below w.heap.size w W) => badrun_any V m v ins n W (hm.below k) (hI.below k))
 have ON0 := Lib.hid (machC_one m (fun i hi => hm.one i hi))
 have LG := Lib.hid (fun n W => long_any V m n W ON0.out)
 have HL := Lib.hid hL
 have HA := Lib.hid (fun (h : errL m ins a = 0) => errL_ok h)
 clear hm hi hI hL
 have B1 := Lib.hid (BR.out a)
 have B2 := Lib.hid (BR.out (a + b))
 have B3 := Lib.hid (LG.out (a + b))
 obtain ⟨c, ec⟩ : ∃ c, c = errL m ins a := ⟨_, rfl⟩
 obtain ⟨d, ed⟩ : ∃ d, d = errL m ins (a + b) := ⟨_, rfl⟩
 obtain ⟨l, el⟩ : ∃ l, l = decide (19000 < m.bm.fr) := ⟨_, rfl⟩
 rw [← ec] at B1
 rw [← ed] at B2
 rw [← el] at B3
 clear BR LG
 rcases (by omega : k = 0 ∨ k = 1 ∨ k = 2 ∨ k = 3 ∨ k = 4) with rfl | rfl | rfl | rfl | rfl
 case' inl =>
  have hcb : (c != 0) = true := by rw [bne_iff_ne, ec]; exact h
  clear ec ed el h HA
 case' inr.inl =>
  obtain ⟨h1, h2⟩ := h
  rw [h1] at ec
  subst ec
  clear ed el h1 HA
 case' inr.inr.inl =>
  obtain ⟨h1, h2, h3⟩ := h
  have hA := HA.out h1
  have WS : wrap64 (20000 - a) = 20000 - a := wrap64_id _ kO kO
  rw [h1] at ec
  subst ec
  clear ed el h1 HA hA
 case' inr.inr.inr.inl | inr.inr.inr.inr =>
  obtain ⟨h1, h2, h3, h4⟩ := h
  have hA := HA.out h1
  have WS : wrap64 (20000 - a) = 20000 - a := wrap64_id _ kO kO
  have WAB : wrap64 (a + b) = a + b := wrap64_id _ kO kO
  have h2d : decide (b < 0) = false := decide_eq_false h2
  have h3d : decide (20000 - a < b) = false := decide_eq_false h3
  replace h3 : b ≤ 20000 - a := by omega
  rw [h1] at ec
  subst ec
  clear h1 HA hA
 case' inr.inr.inr.inl =>
  have hcb : (d != 0) = true := by rw [bne_iff_ne, ed]; exact h4
  clear ed el h4
 case' inr.inr.inr.inr =>
  rw [h4.1] at ed
  rw [decide_eq_true h4.2] at el
  subst ed el
  clear h4
 all_goals
  go_enter Tryz.func5, Tryz.ntmps5
  go_wp2_with fail
  refine (locked_any _ (HL.out.below kL)).mono ?_
  rintro e w1 ⟨rfl, hb1⟩
  have KM := Lib.hid (show Blk w1 w.heap.size (machC V m) 41 from kB)
  have Q1 : Below w.heap.size w w1 := kL
  clear hb1
  go_wp2_with (first | ((with_reducible show wpList _ _ _ _ _ _); refine lG 41 4 (by rfl) rfl (w.heap.size) (0) 75 rfl 41 (machC V m) (machC V m) kB Tryz.underlying41 ?_))
  refine (B1.out _ Q1).mono ?_
  rintro e w2 ⟨rfl, hb2⟩
  have Q2 := below_then Q1 hb2
  replace KM := Lib.hid (KM.out.below hb2)
  clear hb2 Q1
  go_wp2_with (first | ((with_reducible show wpList _ _ _ _ _ _); refine lG 41 4 (by rfl) rfl (w.heap.size) (0) 75 rfl 41 (machC V m) (machC V m) kB Tryz.underlying41 ?_))
 all_goals try
  refine (B2.out _ Q2).mono ?_
  rintro e w4 ⟨rfl, hb4⟩
  replace Q2 := below_then Q2 hb4
  replace KM := Lib.hid (KM.out.below hb4)
  clear hb4
  go_wp2_with (first | ((with_reducible show wpList _ _ _ _ _ _); refine lG 41 4 (by rfl) rfl (w.heap.size) (0) 75 rfl 41 (machC V m) (machC V m) kB Tryz.underlying41 ?_))
 all_goals try
  refine (B3.out _).mono ?_
  rintro e w5 ⟨rfl, hb5⟩
  replace Q2 := below_then Q2 hb5
  clear hb5
  go_wp2_with (first | ((with_reducible show wpList _ _ _ _ _ _); refine lG 41 4 (by rfl) rfl (w.heap.size) (0) 75 rfl 41 (machC V m) (machC V m) kB Tryz.underlying41 ?_))
 all_goals
  refine (locked_any _ (HL.out.below Q2)).mono ?_
  rintro e w3 ⟨rfl, hb3⟩
  go_wp2_with (first | ((with_reducible show wpList _ _ _ _ _ _); refine lG 41 4 (by rfl) rfl (w.heap.size) (0) 75 rfl 41 (machC V m) (machC V m) kB Tryz.underlying41 ?_) | go_in)
  go_ret
  exact ⟨rfl, kL⟩
theorem infoI : (Tryz.prog.info? 63).map (fun i => (i.zero, i.size, i.bytes)) = some (some (.agg #[.int .i64 0, .int .i64 0, .int .u8 0]), 3, 24) := by kernel_rfl
def inpC (l : List Inp) : List Value := l.flatMap fun x => [.int .i64 x.ck, .int .i64 x.pd, .int .u8 x.dn]
theorem inpC_snoc (l : List Inp) (x : Inp) : inpC (l ++ [x]) = inpC l ++ [.int .i64 x.ck, .int .i64 x.pd, .int .u8 x.dn] := by simp [inpC]
theorem inpC_at : ∀ (l : List Inp) (k : Nat), k < l.length → (inpC l)[k * 3]? = some (.int .i64 (l.getD k Inp0).ck) ∧ (inpC l)[k * 3 + 1]? = some (.int .i64 (l.getD k Inp0).pd) ∧ (inpC l)[k * 3 + 2]? = some (.int .u8 (l.getD k Inp0).dn)
 | [], k, h => absurd h (Nat.not_lt_zero _)
 | x :: t, 0, h => ⟨rfl, rfl, rfl⟩
 | x :: t, k + 1, h => by
  obtain ⟨a, b, c⟩ := inpC_at t k (by simpa using h)
  have e : ∀ j, ([.int .i64 x.ck, .int .i64 x.pd, .int .u8 x.dn] ++ inpC t : List Value)[(k + 1) * 3 + j]? = (inpC t)[k * 3 + j]? := fun j => by
   rw [List.getElem?_append_right (by show 3 ≤ _; omega)]
   congr 1
   show (k + 1) * 3 + j - 3 = _
   omega
  exact ⟨(e 0).trans a, (e 1).trans b, (e 2).trans c⟩
theorem own_inps' {w : World} {B : Nat} {v : Value} {l : List Inp} (h : w.ownsRow B 63 3 v l.length (inpC l)) (hok : ∀ x ∈ l, x.Ok) : InpsAt w v l := by
 rcases h.2 with ⟨rfl, hn⟩ | ⟨g, cap, cur, rfl, hbg, hgg, k1, k2, k3, k4⟩
 ·exact ⟨none, 0, by rw [hn], by omega, by simp [maxLen], hok, fun hp => by omega⟩
 ·refine ⟨some ⟨g, 0, none⟩, cap, rfl, k1, k2, hok, fun _ => ⟨g, 0, rfl, (Array.getElem?_eq_some_iff.1 hgg).1, fun i hi => ?_⟩⟩
  obtain ⟨a, b, c⟩ := inpC_at l i hi
  have q := fun j u hj => h.cells (g := g) rfl j u hj
  simp only [Addr.add_lit, Nat.zero_add] at q ⊢
  exact ⟨q _ _ a, q _ _ b, q _ _ c⟩
theorem filter_take {l : List Inp} {p : Inp → Bool} {k : Nat} (h : k < l.length) : (l.take (k + 1)).filter p = (l.take k).filter p ++ (if p (l.getD k Inp0) then [l.getD k Inp0] else []) := by
 rw [List.take_succ_eq_append_getElem h, List.filter_append, List.getD_eq_getElem?_getD, List.getElem?_eq_getElem h]
 congr 1
 by_cases hp : p l[k]
 ·simp [hp]
 ·simp [hp]
theorem wrC_app : ∀ (a b : List Wr), wrC (a ++ b) = wrC a ++ wrC b
 | [], b => rfl
 | x :: t, b => by
  show [.int .i64 x.ck, .int .i64 x.at', .int .u8 x.v] ++ wrC (t ++ b) = ([.int .i64 x.ck, .int .i64 x.at', .int .u8 x.v] ++ wrC t) ++ wrC b
  rw [wrC_app t b, List.append_assoc]
theorem errL_zero {m : Mach} {ins : List Inp} {n : Int} (h1 : m.Right) (h2 : chkI ins m.ck = 0) (h3 : 0 ≤ n) (h4 : n ≤ 20000) (h5 : m.ck + n ≤ 200000) : errL m ins n = 0 := by
 unfold errL
 rw [if_neg (fun k => k ((chk_zero m).2 h1)), if_neg (fun k => k h2), if_neg kO]
theorem q_lt {k L : Nat} {K N : Int} (h : k < L) (hK : K = k) (hN : N = L) : K < N ∧ 0 ≤ K ∧ k = K.toNat := by omega
theorem q_ge {k L : Nat} {K N : Int} (h : ¬ k < L) (hK : K = k) (hN : N = L) : ¬ K < N := by omega
theorem q_w {k L : Nat} {K : Int} (h : k < L) (hK : K = k) (hL : L ≤ 40) : wrap64 (K + 1) = K + 1 ∧ K + 1 = ((k + 1 : Nat) : Int) := ⟨wrap64_id _ kO kO, by omega⟩
theorem q_ms {k L : Nat} {K : Int} (h : k < L) (hK : K = k) : L - (intOf (.int .i64 (K + 1))).toNat < L - (intOf (.int .i64 K)).toNat := by
 show L - (K + 1).toNat < L - K.toNat
 omega
theorem good (V : Nat → Value) (m : Mach) (v : Value) (ins : List Inp) (a b : Nat) (w : World) (hm : MV w V m) (hi : m.In) (hI : InpsAt w v ins) (hL : Lk w) (hr : m.Right) (hc : chkI ins m.ck = 0) (hab : a + b ≤ 20000) (hk : m.ck + a + b ≤ 200000) (hf : ¬ 19000 < m.bm.fr) :
  Calls Tryz.prog 5 #[.agg (machC V m), v, .int .i64 a, .int .i64 b] w fun e w' => e = .returned (.bool true) ∧ Below w.heap.size w w' := by
 have hc0 : chkFrom m.ck ins = 0 := by
  unfold chkI at hc
  split at hc
  ·cases hc
  ·exact hc
 have h40 : ins.length ≤ 40 := by
  unfold chkI at hc
  split at hc
  ·cases hc
  ·omega
 have hok : ∀ i ∈ ins, i.Ok := by
  obtain ⟨_, _, _, _, _, h, _⟩ := hI
  exact h
 have hd : ∀ i ∈ ins, U8 i.dn := fun i hi => (hok i hi).2.2
 have hck := hr.time.1
 have A0 := at_start hi hr hc0 hd
 have AA := A0.run a hck.1 kO
 have BB := (bt_start (ins := ins) hr.bm.1).run A0 a hr.bm.1 hck.1 kO hr.bm.2.1 kO kO
 rw [Nat.zero_add] at AA BB
 have MR := runs_right AA BB hr.bm.1 hr.bm.2.1 kO kO hck.1 kO
 have MI := AA.wk.inn
 have MK := AA.ck
 have TP := two_parts A0 a b hck.1 kO
 have LC := lk_lens A0 hck.1 a kO
 obtain ⟨C, hC⟩ : ∃ C, C = lkN (cnI m ins) a := ⟨_, rfl⟩
 rw [← hC] at AA BB MR MI MK TP LC
 obtain ⟨P, hP⟩ : ∃ P : Inp → Bool, P = fun i => decide (m.ck + a ≤ i.ck) := ⟨_, rfl⟩
 rw [← hP] at TP
 have hc1 : chkI (ins.filter P) C.x.m.ck = 0 := chkI_filter hc (fun i _ hp => by rw [hP] at hp; have := of_decide_eq_true hp; omega)
 have hok1 : ∀ i ∈ ins.filter P, i.Ok := fun i hi => hok i (List.mem_filter.1 hi).1
 have hc2 : chkFrom C.x.m.ck (ins.filter P) = 0 := by
  unfold chkI at hc1
  split at hc1
  ·cases hc1
  ·exact hc1
 have A1 := at_start MI MR hc2 (fun i hi => (hok1 i hi).2.2)
 have LD := lk_lens A1 kO b kO
 have RN1 := Lib.hid (fun W (k : Below w.heap.size w W) => lock_ok V m v ins a W (hm.below k) hi hr (hI.below k) hc kO kO)
 have RN2 := Lib.hid (fun W U u (k1 : MV W U C.x.m) (k2 : InpsAt W u (ins.filter P)) => lock_ok U C.x.m u (ins.filter P) b W k1 MI MR k2 hc1 kO kO)
 have RN3 := Lib.hid (fun W (k : Below w.heap.size w W) => lock_ok V m v ins (a + b) W (hm.below k) hi hr (hI.below k) hc kO kO)
 rw [show lkN (cn0 m ins) a = C from hC.symm] at RN1
 obtain ⟨D, hD⟩ : ∃ D, D = lkN (cnI C.x.m (ins.filter P)) b := ⟨_, rfl⟩
 rw [show lkN (cn0 C.x.m (ins.filter P)) b = D from hD.symm] at RN2
 rw [← hD] at TP LD
 rw [show lkN (cn0 m ins) (a + b) = lkN (cnI m ins) (a + b) from rfl, TP.m, TP.ls, TP.ss, TP.ws] at RN3
 have HAB : Hid (a + b ≤ 20000) := Lib.hid hab
 have HLC := Lib.hid LC
 have HLD := Lib.hid LD
 obtain ⟨A, hA⟩ : ∃ A : Int, A = a := ⟨_, rfl⟩
 obtain ⟨B, hB⟩ : ∃ B : Int, B = b := ⟨_, rfl⟩
 have hAB : ((a + b : Nat) : Int) = A + B := by omega
 rw [hAB] at RN3
 rw [← hA] at RN1 hP
 rw [← hB] at RN2
 rw [← hA, ← hB]
 have a0 : 0 ≤ A := by omega
 have b0 : ¬ B < 0 := by omega
 have b0d : decide (B < 0) = false := decide_eq_false b0
 have b1 : B ≤ 20000 - A := by omega
 have b1d : decide (20000 - A < B) = false := decide_eq_false kO
 have WS : wrap64 (20000 - A) = 20000 - A := wrap64_id _ kO kO
 have WAB : wrap64 (A + B) = A + B := wrap64_id _ kO kO
 have WKA : wrap64 (m.ck + A) = m.ck + A := wrap64_id _ kO kO
 have BR1 := Lib.hid (fun W (k : Below w.heap.size w W) => badrun_any V m v ins A W (hm.below k) (hI.below k))
 rw [errL_zero hr hc a0 kO kO] at BR1
 have BR2 := Lib.hid (fun W (k : Below w.heap.size w W) => badrun_any V m v ins (A + B) W (hm.below k) (hI.below k))
 rw [errL_zero hr hc kO kO kO] at BR2
 have ON0 := Lib.hid (machC_one m (fun i hi => hm.one i hi))
 have ONZ := zeroM_one
 have LG := Lib.hid (fun W => long_any V m (A + B) W ON0.out)
 rw [decide_eq_false hf] at LG
 have HL := Lib.hid hL
 have HOK := Lib.hid hok1
 have HOI := Lib.hid hok
 have H40 := Lib.hid h40
 have HP := Lib.hid hP
 have HI0 := Lib.hid (fun W (k : Below w.heap.size w W) => hI.below k)
 obtain ⟨I0, hi0, hz0, hz1, hz2⟩ := info_parts infoI
 have HII := Lib.hid (And.intro hi0 (And.intro hz0 (And.intro hz1 hz2)))
 have HOC := Lib.hid (And.intro hr.lens trivial)
 obtain ⟨av, cv, rfl, q1, q2, -⟩ := hI
 obtain ⟨N, hN⟩ : ∃ N : Int, N = ins.length := ⟨_, rfl⟩
 have HN := Lib.hid hN
 clear hm hi hL hr hc hc0 hok hd hck A0 AA BB MR MI TP LC hC hc1 hok1 hc2 A1 LD hD hAB hA hB hf hab hk hi0 hz0 hz1 hz2 hP HOC h40 MK
 go_enter Tryz.func5, Tryz.ntmps5
 go_wp2_with (first | ((with_reducible show wpList _ _ _ _ _ _); refine lG 41 4 (by rfl) rfl (w.heap.size) (0) 75 rfl 41 (machC V m) (machC V m) kB Tryz.underlying41 ?_))
 refine (locked_any _ (HL.out.below kL)).mono ?_
 rintro e w1 ⟨rfl, hb1⟩
 have KM := Lib.hid (show Blk w1 w.heap.size (machC V m) 41 from kB)
 have Q1 : Below w.heap.size w w1 := kL
 clear hb1
 go_wp2_with (first | ((with_reducible show wpList _ _ _ _ _ _); first | (refine lG 41 4 (by rfl) rfl (w.heap.size) (0) 75 rfl 41 (machC V m) (machC V m) kB Tryz.underlying41 ?_) | (refine lW 41 4 rfl rfl (w.heap.size) rfl (machC V m) kB Tryz.underlying41 ?_)))
 refine (BR1.out _ Q1).mono ?_
 rintro e w2 ⟨rfl, hb2⟩
 have Q2 := below_then Q1 hb2
 have KM2 := Lib.hid (KM.out.below hb2)
 clear hb2 Q1 KM
 go_wp2_with (first | ((with_reducible show wpList _ _ _ _ _ _); first | (refine lG 41 4 (by rfl) rfl (w.heap.size) (0) 75 rfl 41 (machC V m) (machC V m) kB Tryz.underlying41 ?_) | (refine lW 41 4 rfl rfl (w.heap.size) rfl (machC V m) kB Tryz.underlying41 ?_)))
 refine (BR2.out _ Q2).mono ?_
 rintro e w4 ⟨rfl, hb4⟩
 have Q4 := below_then Q2 hb4
 have KM4 := Lib.hid (KM2.out.below hb4)
 clear hb4 Q2 KM2
 go_wp2_with (first | ((with_reducible show wpList _ _ _ _ _ _); first | (refine lG 41 4 (by rfl) rfl (w.heap.size) (0) 75 rfl 41 (machC V m) (machC V m) kB Tryz.underlying41 ?_) | (refine lW 41 4 rfl rfl (w.heap.size) rfl (machC V m) kB Tryz.underlying41 ?_)))
 refine (LG.out _).mono ?_
 rintro e w5 ⟨rfl, hb5⟩
 have Q5 := below_then Q4 hb5
 have KM5 := Lib.hid (KM4.out.below hb5)
 clear hb5 Q4 KM4 BR1 BR2 LG HL b0 b0d b1 b1d WS
 go_wp2_with (first | ((with_reducible show wpList _ _ _ _ _ _); first | (refine lG 41 4 (by rfl) rfl (w.heap.size) (0) 75 rfl 41 (machC V m) (machC V m) kB Tryz.underlying41 ?_) | (refine lW 41 4 rfl rfl (w.heap.size) rfl (machC V m) kB Tryz.underlying41 ?_)))
 refine (RN1.out _ Q5).mono ?_
 rintro e w6 ⟨U1, lv1, sv1, wv1, rfl, T1⟩
 have hb6 := T1.told.below
 have Q6 := below_then Q5 hb6
 have KM6 := Lib.hid (KM5.out.below hb6)
 have ON1 := run_one T1
 have OS1 := shown_one T1
 have TT1 := Lib.hid T1
 have s6 := Q6.size
 clear hb6 T1 Q5 KM5 RN1
 go_wp2_with (first | ((with_reducible show wpList _ _ _ _ _ _); first | (refine sW 41 9 63 rfl rfl (w6.heap.size) (machC U1 C.x.m) rfl rfl Tryz.zeroCells41 kB ?_; intro w7 hp_w7 K_w7) | (refine sW 45 10 64 rfl rfl (w6.heap.size + 1) (#[lv1, sv1, wv1]) rfl rfl #[.slice none 0 0, .slice none 0 0, .slice none 0 0] kB ?_; intro w8 hp_w8 K_w8)))
 have b68 : Below w6.heap.size w6 w8 := kL
 have Q8 : Below w.heap.size w w8 := kL
 have KX8 := Lib.hid (K_w7.out.put hp_w8 (Nat.ne_of_lt (Nat.lt_succ_self _)))
 have KS8 := Lib.hid K_w8.out
 have KM8 := Lib.hid (KM6.out.below b68)
 have L8 : Hid (w6.heap.size + 1 < w8.heap.size) := Lib.hid K_w8.out.lt
 have B68 := Lib.hid b68
 clear hp_w7 hp_w8 K_w7 K_w8 Q6 s6 KM6 b68
 go_loopw [12, 68] (fun r i wr => ∃ (k : Nat) (K : Int) (acc : List Inp), i = .int .i64 K ∧ Hid (K = k ∧ k ≤ ins.length ∧ acc = (ins.take k).filter P) ∧ Hid (wr.ownsRow w8.heap.size 63 3 r acc.length (inpC acc)) ∧ Below w8.heap.size w8 wr) (fun _ i _ => ins.length - (intOf i).toNat)
 case atStart => exact ⟨0, 0, [], rfl, Lib.hid ⟨rfl, Nat.zero_le _, rfl⟩, Lib.hid ⟨rfl, .inl ⟨rfl, rfl⟩⟩, Below.refl _ _⟩
 case round =>
  obtain ⟨k, K, acc, rfl, hK, OW, hb⟩ := hrel
  obtain ⟨ao, cp, rfl⟩ := own_shape OW.out
  have AL : Hid (acc.length ≤ 40) := Lib.hid (by
   rw [hK.out.2.2]
   exact Nat.le_trans (List.length_filter_le _ _) (Nat.le_trans (by rw [List.length_take]; exact Nat.min_le_right _ _) H40.out))
  by_cases hkn : k < ins.length
  ·have LT : K < ins.length := by rw [hK.out.1]; exact Int.ofNat_lt.2 hkn
   obtain ⟨-, K0, hkk⟩ := q_lt hkn hK.out.1 rfl
   obtain ⟨WK, hK1⟩ := q_w hkn hK.out.1 H40.out
   have MS := Lib.hid (q_ms hkn hK.out.1)
   obtain ⟨a', cap', ea, -, -, -, q4⟩ := HI0.out wr (below_then Q8 hb)
   injection ea with ea1 ea2 ea3
   subst ea1 ea3
   obtain ⟨g, off, rfl, gl, gc⟩ := q4 (Nat.lt_of_le_of_lt (Nat.zero_le _) hkn)
   obtain ⟨c0, c1, c2⟩ := gc k hkn
   have FT := Lib.hid (filter_take (p := P) hkn)
   have OK := Lib.hid (HOI.out (ins.getD k Inp0) (by rw [List.getD_eq_getElem?_getD, List.getElem?_eq_getElem hkn]; exact List.getElem_mem hkn))
   obtain ⟨y, ey⟩ : ∃ y, y = ins.getD k Inp0 := ⟨_, rfl⟩
   rw [← ey] at c0 c1 c2 FT OK
   rw [hkk] at c0 c1 c2
   have HKN := Lib.hid (And.intro hkn (And.intro hkk (And.intro hK1 ey)))
   have sr := hb.size
   clear gc q4 hkn hkk hK1 ey
   go_upto_region 8 with (first | ((with_reducible show wpList _ _ _ _ _ _); refine sW 63 14 71 rfl rfl (wr.heap.size) #[.int .i64 y.ck, .int .i64 y.pd, .int .u8 y.dn] rfl rfl #[.int .i64 0, .int .i64 0, .int .u8 0] kB ?_; intro w9 hp_w9 K_w9))
   have b9 : Below w8.heap.size w8 w9 := kL
   have KMr := KM8.out.below b9
   have m72 := (KMr.cell 72).trans (mx72 V _)
   have z0 : w9.cell? ⟨wr.heap.size, 0, none⟩ = some (.int .i64 y.ck) := K_w9.out.cell 0
   have B9 := Lib.hid b9
   have KY := Lib.hid K_w9.out
   have OW9 := Lib.hid (own_below OW.out (below_put (below_alloc (Below.refl _ _) _) hp_w9 kS))
   have ml := KMr.lt
   have yl := K_w9.out.lt
   clear KMr hp_w9 K_w9 b9 hb OW
   by_cases hp : m.ck + A ≤ y.ck
   ·have hpd : P y = true := by rw [HP.out]; exact decide_eq_true hp
    rw [hpd, if_pos rfl] at FT
    have FT := Lib.hid FT
    go_wp2_with (first
     | ((with_reducible show wpList _ _ _ _ _ _); refine lW 63 14 rfl rfl (wr.heap.size) rfl #[.int .i64 y.ck, .int .i64 y.pd, .int .u8 y.dn] kB Tryz.underlying63 ?_)
     | (at_builtin; refine wpList_append_own _ rfl (.tmp 79) (.tmp 81) 52 rfl w8.heap.size 63 I0 (.agg #[.int .i64 0, .int .i64 0, .int .u8 0]) 3 24 Tryz.underlying52 HII.out.1 HII.out.2.1 HII.out.2.2.1 HII.out.2.2.2 rfl kD _ _ _ rfl (World.ownsRow.alloc OW9.out _) ⟨w9.heap.size, 0, none⟩ 1 1 [.int .i64 y.ck, .int .i64 y.pd, .int .u8 y.dn] rfl rfl (by intro j u hj; match j, hj with | 0, hj => (simp at hj; subst hj; simp [Addr.add]) | 1, hj => (simp at hj; subst hj; simp [Addr.add]) | 2, hj => (simp at hj; subst hj; simp [Addr.add])) (by intro u hu; simp at hu; rcases hu with rfl | rfl | rfl <;> rfl) (by have := AL.out; unfold maxLen; omega) (by have := AL.out; omega) (by simp; omega) ?_)
     | fail)
    intro v' w10 hown hgrow _
    have hb10 : Below w8.heap.size w8 w10 := below_grown (below_alloc B9.out _) (by have := B9.out.size; simp; omega) hgrow (World.ownsRow.alloc OW9.out _) (Nat.le_refl _)
    have HO : Hid (w10.ownsRow w8.heap.size 63 3 v' (acc ++ [y]).length (inpC (acc ++ [y]))) := Lib.hid (by
     rw [List.length_append, inpC_snoc]
     exact hown)
    clear hown hgrow
    go_wp2_with (first | ((with_reducible show wpList _ _ _ _ _ _); first | (refine sW 41 9 63 rfl rfl (w6.heap.size) (machC U1 C.x.m) rfl rfl Tryz.zeroCells41 kB ?_; intro w7 hp_w7 K_w7) | (refine sW 45 10 64 rfl rfl (w6.heap.size + 1) (#[lv1, sv1, wv1]) rfl rfl #[.slice none 0 0, .slice none 0 0, .slice none 0 0] kB ?_; intro w8 hp_w8 K_w8)) | go_in)
    go_roundw
    case rel => exact ⟨k + 1, K + 1, acc ++ [y], by rw [WK], Lib.hid ⟨HKN.out.2.2.1, HKN.out.1, by rw [FT.out, ← hK.out.2.2]⟩, HO, hb10⟩
    case measure => rw [WK]; exact MS.out
   ·have hpd : P y = false := by rw [HP.out]; exact decide_eq_false hp
    rw [hpd, if_neg Bool.false_ne_true] at FT
    have FT := Lib.hid FT
    go_wp2_with (first | ((with_reducible show wpList _ _ _ _ _ _); first | (refine sW 41 9 63 rfl rfl (w6.heap.size) (machC U1 C.x.m) rfl rfl Tryz.zeroCells41 kB ?_; intro w7 hp_w7 K_w7) | (refine sW 45 10 64 rfl rfl (w6.heap.size + 1) (#[lv1, sv1, wv1]) rfl rfl #[.slice none 0 0, .slice none 0 0, .slice none 0 0] kB ?_; intro w8 hp_w8 K_w8)) | go_in)
    go_roundw
    case rel => exact ⟨k + 1, K + 1, acc, by rw [WK], Lib.hid ⟨HKN.out.2.2.1, HKN.out.1, by rw [FT.out, List.append_nil, ← hK.out.2.2]⟩, OW9, B9.out⟩
    case measure => rw [WK]; exact MS.out
  ·have LT : ¬ K < ins.length := by rw [hK.out.1]; exact fun h => hkn (Int.ofNat_lt.1 h)
   have KXr := Lib.hid (KX8.out.below hb)
   have KSr := Lib.hid (KS8.out.below hb)
   have KMr := Lib.hid (KM8.out.below hb)
   have Qr := below_then Q8 hb
   have Br := below_then B68.out hb
   have EA : acc = ins.filter P := by
    rw [hK.out.2.2, List.take_of_length_le (Nat.le_of_not_lt hkn)]
   subst EA
   have IR := Lib.hid (own_inps' OW.out HOK.out)
   have sr := hb.size
   clear KX8 KS8 KM8 hb hK hkn
   go_wp2_with (first | ((with_reducible show wpList _ _ _ _ _ _); refine lW 41 9 rfl rfl (w6.heap.size) rfl (machC U1 C.x.m) kB Tryz.underlying41 ?_))
   have M1 := TT1.out.told.mv.below Br
   refine (RN2.out _ U1 _ M1 IR.out).mono ?_
   rintro e x1 ⟨U2, lv2, sv2, wv2, rfl, T2⟩
   have hx1 := T2.told.below
   have QX1 := below_then Qr hx1
   have BX1 := Lib.hid (below_then Br hx1)
   have KS1 := Lib.hid (KSr.out.below hx1)
   have KM1 := Lib.hid (KMr.out.below hx1)
   have ON2 := run_one T2
   have OS2 := shown_one T2
   have TT2 := Lib.hid T2
   have s7 := QX1.size
   have l7 := KS1.out.lt
   have l8 := KM1.out.lt
   clear hx1 T2 Qr Br KSr KMr KXr IR M1 sr OW AL ON1 RN2
   go_wp2_with (first | ((with_reducible show wpList _ _ _ _ _ _); first | (refine sW 41 15 89 rfl rfl (x1.heap.size) (machC U2 D.x.m) rfl rfl Tryz.zeroCells41 kB ?_; intro x2 hp_x2 K_x2) | (refine sW 45 16 90 rfl rfl (x1.heap.size + 1) (#[lv2, sv2, wv2]) rfl rfl #[.slice none 0 0, .slice none 0 0, .slice none 0 0] kB ?_; intro x3 hp_x3 K_x3) | (refine lW 41 4 rfl rfl (w.heap.size) rfl (machC V m) kB Tryz.underlying41 ?_)))
   have b13 : Below x1.heap.size x1 x3 := kL
   have Q3 : Below w.heap.size w x3 := kL
   have KY3 := Lib.hid (K_x2.out.put hp_x3 (Nat.ne_of_lt (Nat.lt_succ_self _)))
   have KT3 := Lib.hid K_x3.out
   have KS3 := Lib.hid (KS1.out.below b13)
   have B3 := Lib.hid b13
   clear hp_x2 hp_x3 K_x2 K_x3 QX1 KS1 KM1 b13 l7
   refine (RN3.out _ Q3).mono ?_
   rintro e x4 ⟨U3, lv3, sv3, wv3, rfl, T3⟩
   have hx4 := T3.told.below
   have Q4 := below_then Q3 hx4
   have KS4 := Lib.hid (KS3.out.below hx4)
   have KT4 := Lib.hid (KT3.out.below hx4)
   have KY4 := Lib.hid (KY3.out.below hx4)
   have B4 := Lib.hid (below_then B3.out hx4)
   have ON3 := run_one T3
   have OS3 := shown_one T3
   have TT3 := Lib.hid T3
   have s8 := Q4.size
   clear hx4 T3 Q3 KS3 KT3 KY3 B3 ON2 RN3 s7
   go_upto_region 13 with (first | ((with_reducible show wpList _ _ _ _ _ _); first | (refine sW 41 18 99 rfl rfl (x4.heap.size) (machC U3 D.x.m) rfl rfl Tryz.zeroCells41 kB ?_; intro x5 hp_x5 K_x5) | (refine sW 45 19 100 rfl rfl (x4.heap.size + 1) (#[lv3, sv3, wv3]) rfl rfl #[.slice none 0 0, .slice none 0 0, .slice none 0 0] kB ?_; intro x6 hp_x6 K_x6)))
   have b46 : Below x4.heap.size x4 x6 := kL
   have KSx := Lib.hid (KS4.out.below b46)
   have KTx := Lib.hid (KT4.out.below b46)
   have KYx := Lib.hid (KY4.out.below b46)
   have KZx := Lib.hid (K_x5.out.put hp_x6 (Nat.ne_of_lt (Nat.lt_succ_self _)))
   have KWx := Lib.hid K_x6.out
   have Q6 := below_then Q4 b46
   have Bb := below_then B4.out b46
   have B6x := below_then BX1.out Bb
   have RL1 := Lib.hid (TT1.out.lns.row.below B6x)
   have RS1 := Lib.hid (TT1.out.sms.row.below B6x)
   have RW1 := Lib.hid ((Wrs.row TT1.out.wrs).below B6x)
   have RL2 := Lib.hid (TT2.out.lns.row.below Bb)
   have RS2 := Lib.hid (TT2.out.sms.row.below Bb)
   have RW2 := Lib.hid ((Wrs.row TT2.out.wrs).below Bb)
   have MY := Lib.hid (TT2.out.told.mv.below Bb)
   have MZ := Lib.hid (TT3.out.told.mv.below b46)
   have RL3 := Lib.hid (TT3.out.lns.row.below b46)
   have RS3 := Lib.hid (TT3.out.sms.row.below b46)
   have RW3 := Lib.hid ((Wrs.row TT3.out.wrs).below b46)
   have OK3 := Lib.hid TT3.out.ok
   have l10 := KSx.out.lt
   have l16 := KTx.out.lt
   have HN6 : Hid (C.ls.length ≤ 20000 ∧ C.ss.length ≤ 20000 ∧ C.x.ws.length ≤ 80000 ∧ D.ls.length ≤ 20000 ∧ D.ss.length ≤ 20000 ∧ D.x.ws.length ≤ 80000) := Lib.hid (by
    have h1 := HLC.out
    have h2 := HLD.out
    have h3 := HAB.out
    omega)
   clear KS4 KT4 KY4 K_x5 K_x6 hp_x5 hp_x6 Q4 B4 BX1 b46 B6x Bb TT1 TT2 TT3 B68 HI0 HOI HOK H40 HP HN HII Q8 HLC HLD
   obtain ⟨al1, cl1, rfl, -⟩ := id RL1.out
   obtain ⟨al2, cl2, rfl, -⟩ := id RL2.out
   obtain ⟨as1, cs1, rfl, -⟩ := id RS1.out
   obtain ⟨as2, cs2, rfl, -⟩ := id RS2.out
   obtain ⟨aw1, cw1, rfl, -⟩ := id RW1.out
   obtain ⟨aw2, cw2, rfl, -⟩ := id RW2.out
   refine wp_region_held_drew (S := fun X => Below x6.heap.size x6 X) kR (Below.refl _ _).drew (fun hS => ?_)
   refine tH 0 hS ?_
   refine tI 1 rfl (by intro w hSw; have e : w.cell? ⟨w6.heap.size + 1, 0, none⟩ = some (.slice al1 C.ls.length cl1) := (KSx.out.below hSw).cell 0; go_simp; try with_reducible rfl) hS ?_
   try simp only [yA,yB,yC,Act.put,yD,yE,yF]
   refine tH 2 hS ?_
   refine tI 3 rfl (by intro w hSw; have e : w.cell? ⟨x1.heap.size + 1, 0, none⟩ = some (.slice al2 D.ls.length cl2) := (KTx.out.below hSw).cell 0; go_simp; try with_reducible rfl) hS ?_
   try simp only [yA,yB,yC,Act.put,yD,yE,yF]
   refine tH 6 hS ?_
   refine tI 7 rfl (by intro w hSw; have e : w.cell? ⟨w6.heap.size + 1, 1, none⟩ = some (.slice as1 C.ss.length cs1) := (KSx.out.below hSw).cell 1; go_simp; try with_reducible rfl) hS ?_
   try simp only [yA,yB,yC,Act.put,yD,yE,yF]
   refine tH 8 hS ?_
   refine tI 9 rfl (by intro w hSw; have e : w.cell? ⟨x1.heap.size + 1, 1, none⟩ = some (.slice as2 D.ss.length cs2) := (KTx.out.below hSw).cell 1; go_simp; try with_reducible rfl) hS ?_
   try simp only [yA,yB,yC,Act.put,yD,yE,yF]
   refine tH 12 hS ?_
   refine tI 13 rfl (by intro w hSw; have e : w.cell? ⟨w6.heap.size + 1, 2, none⟩ = some (.slice aw1 C.x.ws.length cw1) := (KSx.out.below hSw).cell 2; go_simp; try with_reducible rfl) hS ?_
   try simp only [yA,yB,yC,Act.put,yD,yE,yF]
   refine tH 14 hS ?_
   refine tI 15 rfl (by intro w hSw; have e : w.cell? ⟨x1.heap.size + 1, 2, none⟩ = some (.slice aw2 D.x.ws.length cw2) := (KTx.out.below hSw).cell 2; go_simp; try with_reducible rfl) hS ?_
   try simp only [yA,yB,yC,Act.put,yD,yE,yF]
   refine wpAnyH_inv0 (fun a0 listed a W => ∃ (b4 : Bool) (b5 : Bool) (b10 : Bool) (b11 : Bool) (b16 : Bool) (b17 : Bool) (b18 : Bool) (b19 : Bool) (b20 : Bool) (v4 : Value) (v5 : Value) (v10 : Value) (v11 : Value) (v16 : Value) (v17 : Value) (v18 : Value) (v19 : Value), listed = #[true, true, true, true, b4, b5, true, true, true, true, b10, b11, true, true, true, true, b16, b17, b18, b19, b20] ∧ a = ((((((((a0.put (some 106) v4).put (some 107) v5).put (some 112) v10).put (some 113) v11).put (some 118) v16).put (some 119) v17).put (some 120) v18).put (some 21) v19) ∧ CatAt x6 W (.slice al1 C.ls.length cl1) (.slice al2 D.ls.length cl2) (.slice as1 C.ss.length cs1) (.slice as2 D.ss.length cs2) (.slice aw1 C.x.ws.length cw1) (.slice aw2 D.x.ws.length cw2) (C.ls.length + D.ls.length) (C.ss.length + D.ss.length) (C.x.ws.length + D.x.ws.length) (lnsC C.ls ++ lnsC D.ls) (C.ss.map (Value.int .u8) ++ D.ss.map (Value.int .u8)) (wrC C.x.ws ++ wrC D.x.ws) b4 b5 b10 b11 b16 b17 b18 b19 b20 v4 v5 v10 v11 v16 v17 v18 v19) kR ?hJ kD ?init ?step ?last
   case hJ =>
    rintro l a' W ⟨_, _, _, _, _, _, _, _, _, _, _, _, _, _, _, _, _, rfl, -⟩
    rfl
   case init => exact ⟨false, false, false, false, false, false, false, false, false, undef, undef, undef, undef, undef, undef, undef, undef, by kernel_rfl, by kernel_rfl, ⟨hS, by simp, by simp, by simp, by simp, by simp, by simp, by simp, by simp, by simp⟩⟩
   case step =>
    rintro l a' W i ⟨b4, b5, b10, b11, b16, b17, b18, b19, b20, v4, v5, v10, v11, v16, v17, v18, v19, rfl, rfl, hC⟩ hi
    have hlt := ready_lt hi
    have hr := (mem_ready.1 hi).1
    have BW := hC.below
    have sW := BW.size
    rcases (show i = 0 ∨ i = 1 ∨ i = 2 ∨ i = 3 ∨ i = 4 ∨ i = 5 ∨ i = 6 ∨ i = 7 ∨ i = 8 ∨ i = 9 ∨ i = 10 ∨ i = 11 ∨ i = 12 ∨ i = 13 ∨ i = 14 ∨ i = 15 ∨ i = 16 ∨ i = 17 ∨ i = 18 ∨ i = 19 ∨ i = 20 by have : i < 21 := hlt; omega) with rfl | rfl | rfl | rfl | rfl | rfl | rfl | rfl | rfl | rfl | rfl | rfl | rfl | rfl | rfl | rfl | rfl | rfl | rfl | rfl | rfl
    ·cases (show true = false from hr)
    ·cases (show true = false from hr)
    ·cases (show true = false from hr)
    ·cases (show true = false from hr)
    ·have HC := Lib.hid hC
     clear hC hi hr hlt BW
     refine stepJ 4 fun K hK => ?_
     go_simp
     have hC2 := HC.out.grow ((Below.refl W.heap.size W).alloc (Nat.le_refl _) (.cells #[(.slice al1 C.ls.length cl1), (.slice al2 D.ls.length cl2)] 42))
     obtain ⟨q0, q4, q10, q16, q5, q11, q17, q18, q20, q19⟩ := hC2
     exact hK.out _ _ ⟨q0, ⟨true, b5, b10, b11, b16, b17, b18, b19, b20, (.slice (some ⟨W.heap.size, 0, none⟩) 2 2), v5, v10, v11, v16, v17, v18, v19, by kernel_rfl, by kernel_rfl, ⟨q0, (fun _ => ⟨W.heap.size, _, rfl, Blk.new _ _ _, by decide⟩), q10, q16, q5, q11, q17, q18, q20, q19⟩⟩⟩
    ·have h4 : b4 = true := ready_dep hi 4 _ rfl kR
     obtain ⟨g, t, hv, kg, ng⟩ := hC.f4 h4
     have HC := Lib.hid hC
     have HNN := HN6.out
     subst hv
     have CT := Lib.hid (concatLn W g t (.slice al1 C.ls.length cl1) (.slice al2 D.ls.length cl2) _ _ _ _ (RL1.out.below BW) (RL2.out.below BW) kg kO kO)
     have hb : b5 = false := hr
     clear hC kg HNN hi hr hlt BW
     replace hb := Lib.hid hb
     refine stepJ 5 fun K hK => ?_
     go_simp
     refine CT.out.mono ?_
     rintro e W2 ⟨ao2, cp2, rfl, ow2, hb2⟩
     try go_wp2_with fail
     have ow3 := own_base ow2 sW
     obtain ⟨q0, q4, q10, q16, q5, q11, q17, q18, q20, q19⟩ := HC.out.grow hb2
     have n18 : ∀ e : b18 = true, False := fun e => absurd (q18 e).1.1 (by rw [hb.out]; decide)
     have n20 : b20 = false := by cases b20 with | false => rfl | true => exact absurd (q20 rfl).1 n18
     subst n20
     exact hK.out _ _ ⟨q0, ⟨b4, true, b10, b11, b16, b17, b18, b19, false, (.slice (some ⟨g, 0, none⟩) 2 2), (.slice ao2 (C.ls.length + D.ls.length) cp2), v10, v11, v16, v17, v18, v19, by kernel_rfl, by kernel_rfl, ⟨q0, q4, q10, q16, (fun _ => ow3), q11, q17, (fun e => (n18 e).elim), (fun e => absurd e kD), q19⟩⟩⟩
    ·cases (show true = false from hr)
    ·cases (show true = false from hr)
    ·cases (show true = false from hr)
    ·cases (show true = false from hr)
    ·have HC := Lib.hid hC
     clear hC hi hr hlt BW
     refine stepJ 10 fun K hK => ?_
     go_simp
     have hC2 := HC.out.grow ((Below.refl W.heap.size W).alloc (Nat.le_refl _) (.cells #[(.slice as1 C.ss.length cs1), (.slice as2 D.ss.length cs2)] 26))
     obtain ⟨q0, q4, q10, q16, q5, q11, q17, q18, q20, q19⟩ := hC2
     exact hK.out _ _ ⟨q0, ⟨b4, b5, true, b11, b16, b17, b18, b19, b20, v4, v5, (.slice (some ⟨W.heap.size, 0, none⟩) 2 2), v11, v16, v17, v18, v19, by kernel_rfl, by kernel_rfl, ⟨q0, q4, (fun _ => ⟨W.heap.size, _, rfl, Blk.new _ _ _, by decide⟩), q16, q5, q11, q17, q18, q20, q19⟩⟩⟩
    ·have h10 : b10 = true := ready_dep hi 10 _ rfl kR
     obtain ⟨g, t, hv, kg, ng⟩ := hC.f10 h10
     have HC := Lib.hid hC
     have HNN := HN6.out
     subst hv
     have CT := Lib.hid (concatBy W g t (.slice as1 C.ss.length cs1) (.slice as2 D.ss.length cs2) _ _ _ _ (RS1.out.below BW) (RS2.out.below BW) kg kO kO)
     have hb : b11 = false := hr
     clear hC kg HNN hi hr hlt BW
     replace hb := Lib.hid hb
     refine stepJ 11 fun K hK => ?_
     go_simp
     refine CT.out.mono ?_
     rintro e W2 ⟨ao2, cp2, rfl, ow2, hb2⟩
     try go_wp2_with fail
     have ow3 := own_base ow2 sW
     obtain ⟨q0, q4, q10, q16, q5, q11, q17, q18, q20, q19⟩ := HC.out.grow hb2
     have n18 : ∀ e : b18 = true, False := fun e => absurd (q18 e).1.2.1 (by rw [hb.out]; decide)
     have n20 : b20 = false := by cases b20 with | false => rfl | true => exact absurd (q20 rfl).1 n18
     subst n20
     exact hK.out _ _ ⟨q0, ⟨b4, b5, b10, true, b16, b17, b18, b19, false, v4, v5, (.slice (some ⟨g, 0, none⟩) 2 2), (.slice ao2 (C.ss.length + D.ss.length) cp2), v16, v17, v18, v19, by kernel_rfl, by kernel_rfl, ⟨q0, q4, q10, q16, q5, (fun _ => ow3), q17, (fun e => (n18 e).elim), (fun e => absurd e kD), q19⟩⟩⟩
    ·cases (show true = false from hr)
    ·cases (show true = false from hr)
    ·cases (show true = false from hr)
    ·cases (show true = false from hr)
    ·have HC := Lib.hid hC
     clear hC hi hr hlt BW
     refine stepJ 16 fun K hK => ?_
     go_simp
     have hC2 := HC.out.grow ((Below.refl W.heap.size W).alloc (Nat.le_refl _) (.cells #[(.slice aw1 C.x.ws.length cw1), (.slice aw2 D.x.ws.length cw2)] 43))
     obtain ⟨q0, q4, q10, q16, q5, q11, q17, q18, q20, q19⟩ := hC2
     exact hK.out _ _ ⟨q0, ⟨b4, b5, b10, b11, true, b17, b18, b19, b20, v4, v5, v10, v11, (.slice (some ⟨W.heap.size, 0, none⟩) 2 2), v17, v18, v19, by kernel_rfl, by kernel_rfl, ⟨q0, q4, q10, (fun _ => ⟨W.heap.size, _, rfl, Blk.new _ _ _, by decide⟩), q5, q11, q17, q18, q20, q19⟩⟩⟩
    ·have h16 : b16 = true := ready_dep hi 16 _ rfl kR
     obtain ⟨g, t, hv, kg, ng⟩ := hC.f16 h16
     have HC := Lib.hid hC
     have HNN := HN6.out
     subst hv
     have CT := Lib.hid (concatWr W g t (.slice aw1 C.x.ws.length cw1) (.slice aw2 D.x.ws.length cw2) _ _ _ _ (RW1.out.below BW) (RW2.out.below BW) kg kO kO)
     have hb : b17 = false := hr
     clear hC kg HNN hi hr hlt BW
     replace hb := Lib.hid hb
     refine stepJ 17 fun K hK => ?_
     go_simp
     refine CT.out.mono ?_
     rintro e W2 ⟨ao2, cp2, rfl, ow2, hb2⟩
     try go_wp2_with fail
     have ow3 := own_base ow2 sW
     obtain ⟨q0, q4, q10, q16, q5, q11, q17, q18, q20, q19⟩ := HC.out.grow hb2
     have n18 : ∀ e : b18 = true, False := fun e => absurd (q18 e).1.2.2 (by rw [hb.out]; decide)
     have n20 : b20 = false := by cases b20 with | false => rfl | true => exact absurd (q20 rfl).1 n18
     subst n20
     exact hK.out _ _ ⟨q0, ⟨b4, b5, b10, b11, b16, true, b18, b19, false, v4, v5, v10, v11, (.slice (some ⟨g, 0, none⟩) 2 2), (.slice ao2 (C.x.ws.length + D.x.ws.length) cp2), v18, v19, by kernel_rfl, by kernel_rfl, ⟨q0, q4, q10, q16, q5, q11, (fun _ => ow3), (fun e => (n18 e).elim), (fun e => absurd e kD), q19⟩⟩⟩
    ·have h5 : b5 = true := ready_dep hi 5 _ rfl kR
     have h11 : b11 = true := ready_dep hi 11 _ rfl kR
     have h17 : b17 = true := ready_dep hi 17 _ rfl kR
     obtain ⟨a5, c5, rfl⟩ := own_shape (hC.f5 h5)
     obtain ⟨a11, c11, rfl⟩ := own_shape (hC.f11 h11)
     obtain ⟨a17, c17, rfl⟩ := own_shape (hC.f17 h17)
     have HC := Lib.hid hC
     have HH := Lib.hid (And.intro h5 (And.intro h11 h17))
     clear hC hi hr hlt BW h5 h11 h17
     refine stepJ 18 fun K hK => ?_
     go_simp
     obtain ⟨q0, q4, q10, q16, q5, q11, q17, q18, q20, q19⟩ := HC.out
     exact hK.out _ _ ⟨q0, ⟨b4, b5, b10, b11, b16, b17, true, b19, b20, v4, (.slice a5 (C.ls.length + D.ls.length) c5), v10, (.slice a11 (C.ss.length + D.ss.length) c11), v16, (.slice a17 (C.x.ws.length + D.x.ws.length) c17), (.agg #[(.slice a5 (C.ls.length + D.ls.length) c5), (.slice a11 (C.ss.length + D.ss.length) c11), (.slice a17 (C.x.ws.length + D.x.ws.length) c17)]), v19, by kernel_rfl, by kernel_rfl, ⟨q0, q4, q10, q16, q5, q11, q17, (fun _ => ⟨HH.out, rfl⟩), (fun e => ⟨rfl, (q20 e).2⟩), q19⟩⟩⟩
    ·have hb : b19 = false := hr
     have HC := Lib.hid hC
     clear hC hi hr hlt BW
     replace hb := Lib.hid hb
     refine stepJ 19 fun K hK => ?_
     go_simp
     have hC2 := HC.out.grow ((Below.refl W.heap.size W).alloc (Nat.le_refl _) (.cells #[.slice none 0 0, .slice none 0 0, .slice none 0 0] 45))
     obtain ⟨q0, q4, q10, q16, q5, q11, q17, q18, q20, q19⟩ := hC2
     have n20 : b20 = false := by cases b20 with | false => rfl | true => exact absurd (q20 rfl).2 (by rw [hb.out]; decide)
     subst n20
     exact hK.out _ _ ⟨q0, ⟨b4, b5, b10, b11, b16, b17, b18, true, false, v4, v5, v10, v11, v16, v17, v18, (.pointer (some ⟨W.heap.size, 0, none⟩)), by kernel_rfl, by kernel_rfl, ⟨q0, q4, q10, q16, q5, q11, q17, q18, (fun e => absurd e kD), (fun _ => ⟨W.heap.size, rfl, sW, Blk.new _ _ _⟩)⟩⟩⟩
    ·have h18 : b18 = true := ready_dep hi 18 _ rfl kR
     have h19 : b19 = true := ready_dep hi 19 _ rfl kR
     have hb : b20 = false := hr
     subst h19 hb
     obtain ⟨⟨h5, h11, h17⟩, e18⟩ := hC.f18 h18
     obtain ⟨g, e19, hg, kg⟩ := hC.f19 rfl
     obtain ⟨a5, c5, rfl⟩ := own_shape (hC.f5 h5)
     obtain ⟨a11, c11, rfl⟩ := own_shape (hC.f11 h11)
     obtain ⟨a17, c17, rfl⟩ := own_shape (hC.f17 h17)
     subst e18 e19
     have kg : Blk W g #[.slice none 0 0, .slice none 0 0, .slice none 0 0] 45 := kg
     have HC := Lib.hid hC
     clear hC hi hr hlt h5 h11 h17 BW
     refine stepJ 20 fun K hK => ?_
     simp only [yA,yB,yC,Act.put,yD,yE,yF]
     rw [if_pos (by rfl)]
     refine wp_storeW 45 (.tmp 21) (.tmp 120) rfl g #[(.slice a5 (C.ls.length + D.ls.length) c5), (.slice a11 (C.ss.length + D.ss.length) c11), (.slice a17 (C.x.ws.length + D.x.ws.length) c17)] rfl rfl 45 #[.slice none 0 0, .slice none 0 0, .slice none 0 0] kg kR rfl (by simp [Value.oneCell']) ?_
     intro W2 hp K2
     have hC2 := HC.out.put h18 hp hg kg K2.out
     exact hK.out _ _ ⟨hC2.below, ⟨b4, b5, b10, b11, b16, b17, b18, true, true, v4, (.slice a5 (C.ls.length + D.ls.length) c5), v10, (.slice a11 (C.ss.length + D.ss.length) c11), v16, (.slice a17 (C.x.ws.length + D.x.ws.length) c17), (.agg #[(.slice a5 (C.ls.length + D.ls.length) c5), (.slice a11 (C.ss.length + D.ss.length) c11), (.slice a17 (C.x.ws.length + D.x.ws.length) c17)]), (.pointer (some ⟨g, 0, none⟩)), by kernel_rfl, by kernel_rfl, hC2⟩⟩
   case last =>
    rintro l a' W ⟨b4, b5, b10, b11, b16, b17, b18, b19, b20, v4, v5, v10, v11, v16, v17, v18, v19, rfl, rfl, hC⟩ hall
    have h20 : b20 = true := hall 20
    subst h20
    obtain ⟨h18, h19⟩ := hC.f20 rfl
    obtain ⟨⟨h5, h11, h17⟩, e18⟩ := hC.f18 h18
    obtain ⟨g, e19, hg, kg⟩ := hC.f19 h19
    have kg : Blk W g #[v5, v11, v17] 45 := kg
    obtain ⟨a5, c5, rfl⟩ := own_shape (hC.f5 h5)
    obtain ⟨a11, c11, rfl⟩ := own_shape (hC.f11 h11)
    obtain ⟨a17, c17, rfl⟩ := own_shape (hC.f17 h17)
    have BW := hC.below
    have KG := Lib.hid kg
    have R5 := Lib.hid (own_rowAt (hC.f5 h5) (fun u hu => by rw [List.mem_append] at hu; exact hu.elim (lnsC_one _ u) (lnsC_one _ u)))
    have R11 := Lib.hid (own_rowAt (hC.f11 h11) (fun u hu => by rw [← List.map_append] at hu; obtain ⟨x, _, rfl⟩ := List.mem_map.1 hu; rfl))
    have R17 := Lib.hid (own_rowAt (hC.f17 h17) (fun u hu => by rw [List.mem_append] at hu; exact hu.elim (wrC_one _ u) (wrC_one _ u)))
    subst e18 e19
    have SH1 : Hid (ShAt W (.slice a5 (C.ls.length + D.ls.length) c5) (.slice a11 (C.ss.length + D.ss.length) c11) (.slice a17 (C.x.ws.length + D.x.ws.length) c17) (C.ls ++ D.ls) (C.ss ++ D.ss) (C.x.ws ++ D.x.ws)) := Lib.hid (by
     refine ⟨?_, RowAt.bytes ?_ OK3.out.2, ?_⟩
     ·rw [List.length_append, show lnsC (C.ls ++ D.ls) = lnsC C.ls ++ lnsC D.ls from List.flatMap_append ..]
      exact R5.out
     ·rw [List.length_append, List.map_append]
      exact R11.out
     ·rw [List.length_append, show wrC (C.x.ws ++ D.x.ws) = wrC C.x.ws ++ wrC D.x.ws from wrC_app ..]
      exact R17.out)
    have SH2 : Hid (ShAt W lv3 sv3 wv3 (C.ls ++ D.ls) (C.ss ++ D.ss) (C.x.ws ++ D.x.ws)) := Lib.hid ⟨RL3.out.below BW, RowAt.bytes (RS3.out.below BW) OK3.out.2, RW3.out.below BW⟩
    have HLL : Hid ((C.ls ++ D.ls).length ≤ 1000000 ∧ (C.x.ws ++ D.x.ws).length ≤ 1000000) := Lib.hid (by
     have h := HN6.out
     rw [List.length_append, List.length_append]
     omega)
    have KYW := Lib.hid (KYx.out.below BW)
    have KZW := Lib.hid (KZx.out.below BW)
    have KWW := Lib.hid (KWx.out.below BW)
    have MYW := Lib.hid (MY.out.below BW)
    have MZW := Lib.hid (MZ.out.below BW)
    have QW := below_then Q6 BW
    clear hC hall h5 h11 h17 h18 h19 kg R5 R11 R17 KYx KZx KWx MY MZ Q6 BW hg RL1 RL2 RL3 RS1 RS2 RS3 RW1 RW2 RW3 KSx KTx hS l10 l16
    simp only [yA,yB,yC,Act.put,yD,yE,yF]
    go_wp2_with (first | ((with_reducible show wpList _ _ _ _ _ _); first | (refine lG 41 15 (by rfl) rfl (x1.heap.size) (0) 75 rfl 41 (machC U2 D.x.m) (machC U2 D.x.m) kB Tryz.underlying41 ?_) | (refine lG 41 18 (by rfl) rfl (x4.heap.size) (0) 75 rfl 41 (machC U3 D.x.m) (machC U3 D.x.m) kB Tryz.underlying41 ?_)))
    refine (same_any U2 U3 D.x.m W MYW.out MZW.out).mono ?_
    rintro e W1 ⟨rfl, hb1⟩
    have KG1 := Lib.hid (KG.out.below hb1)
    have KW1 := Lib.hid (KWW.out.below hb1)
    have SH3 := Lib.hid (SH1.out.below hb1)
    have SH4 := Lib.hid (SH2.out.below hb1)
    have Q1 := below_then QW hb1
    have d0 : W1.cell? ⟨g, 0, none⟩ = some (.slice a5 (C.ls.length + D.ls.length) c5) := KG1.out.cell 0
    have d1 : W1.cell? ⟨g, 1, none⟩ = some (.slice a11 (C.ss.length + D.ss.length) c11) := KG1.out.cell 1
    have d2 : W1.cell? ⟨g, 2, none⟩ = some (.slice a17 (C.x.ws.length + D.x.ws.length) c17) := KG1.out.cell 2
    have y0 : W1.cell? ⟨x4.heap.size + 1, 0, none⟩ = some lv3 := KW1.out.cell 0
    have y1 : W1.cell? ⟨x4.heap.size + 1, 1, none⟩ = some sv3 := KW1.out.cell 1
    have y2 : W1.cell? ⟨x4.heap.size + 1, 2, none⟩ = some wv3 := KW1.out.cell 2
    clear KG KWW SH1 SH2 QW hb1 MYW MZW KYW KZW KG1 KW1
    go_wp2_with (first | ((with_reducible show wpList _ _ _ _ _ _); first | (refine lG 41 15 (by rfl) rfl (x1.heap.size) (0) 75 rfl 41 (machC U2 D.x.m) (machC U2 D.x.m) kB Tryz.underlying41 ?_) | (refine lG 41 18 (by rfl) rfl (x4.heap.size) (0) 75 rfl 41 (machC U3 D.x.m) (machC U3 D.x.m) kB Tryz.underlying41 ?_)))
    refine (sameShown_any _ _ _ _ _ _ _ _ _ W1 SH3.out SH4.out OK3.out.1 HLL.out.1 HLL.out.2).mono ?_
    rintro e W2 ⟨rfl, hb2⟩
    have Q2 := below_then Q1 hb2
    clear hb2
    go_wp2_with (first | ((with_reducible show wpList _ _ _ _ _ _); first | (refine lG 41 15 (by rfl) rfl (x1.heap.size) (0) 75 rfl 41 (machC U2 D.x.m) (machC U2 D.x.m) kB Tryz.underlying41 ?_) | (refine lG 41 18 (by rfl) rfl (x4.heap.size) (0) 75 rfl 41 (machC U3 D.x.m) (machC U3 D.x.m) kB Tryz.underlying41 ?_)) | go_in)
    go_ret
    exact ⟨rfl, Q2⟩
theorem walk (V : Nat → Value) (m : Mach) (v : Value) (ins : List Inp) (a b : Int) (w : World) (hm : MV w V m) (hi : m.In) (hI : InpsAt w v ins) (ha : I64 a) (hb : I64 b) (hL : Lk w) : Calls Tryz.prog 5 #[.agg (machC V m), v, .int .i64 a, .int .i64 b] w fun e w' => e = .returned (.bool true) ∧ Below w.heap.size w w' := by
 by_cases h0 : errL m ins a = 0
 ·obtain ⟨h1, h2, h3, h4, h5⟩ := errL_ok h0
  by_cases hb0 : b < 0
  ·exact no V m v ins a b w hm hi hI ha hb hL 1 kD ⟨h0, hb0⟩
  ·by_cases hb1 : 20000 - a < b
   ·exact no V m v ins a b w hm hi hI ha hb hL 2 kD ⟨h0, hb0, hb1⟩
   ·by_cases h6 : errL m ins (a + b) = 0
    ·by_cases h7 : 19000 < m.bm.fr
     ·exact no V m v ins a b w hm hi hI ha hb hL 4 kD ⟨h0, hb0, hb1, h6, h7⟩
     ·obtain ⟨-, -, -, h8, h9⟩ := errL_ok h6
      obtain ⟨a, rfl⟩ := Int.eq_ofNat_of_zero_le h3
      obtain ⟨b, rfl⟩ := Int.eq_ofNat_of_zero_le (show 0 ≤ b by omega)
      exact good V m v ins a b w hm hi hI hL h1 h2 kO kO h7
    ·exact no V m v ins a b w hm hi hI ha hb hL 3 kD ⟨h0, hb0, hb1, h6⟩
 ·exact no V m v ins a b w hm hi hI ha hb hL 0 kD h0
end Go.Proofs.YtmppkjkmocecmaaGreatDoor.lockParts
