/- The program writes an order as words. Conditions: the parts are ints. -/
import Derived.Test.YtmpdoiilakjmbaaDoorRows
import Derived.Test.YtmpdoiilakjmbaaDoorOrderIdx
namespace Go.Proofs.YtmpdoiilakjmbaaDoor
open Go.RowKit Go.Mq
set_option linter.unusedVariables false
set_option linter.unusedSimpArgs false
set_option maxHeartbeats 1000000
set_option maxRecDepth 100000
theorem or_join (k : Nat) (a b : Int) (h0 : 0 ≤ a) (h1 : a ≤ 65535) (h2 : a % 2 ^ k = 0) (hb : 0 ≤ b) (hb' : b < 2 ^ k) (hk : (2 : Int) ^ k ≤ 65536) : bits .or .u16 a b = a + b := by
  rw [show a = ((a.toNat : Nat) : Int) from by omega, show b = ((b.toNat : Nat) : Int) from by omega, u16_or_nat _ _ (by omega) (by omega), nat_join k _ _ ?_ ?_]
  · omega
  · have : ((a.toNat % 2 ^ k : Nat) : Int) = a % 2 ^ k := by
      rw [Int.natCast_emod, Int.toNat_of_nonneg h0]; simp
    omega
  · have : ((2 ^ k : Nat) : Int) = 2 ^ k := by simp
    omega
theorem own_one {w : World} {g base : Nat} {c : Value} {e : TypeId} (h : Blk w g #[c] e) (hb : base ≤ g) : w.ownsRow base e 1 (.slice (some ⟨g, 0, none⟩) 1 1) 1 [c] :=
  ⟨rfl, Or.inr ⟨g, 1, #[c], rfl, hb, h, Nat.le_refl _, by unfold maxLen; omega, rfl, rfl⟩⟩
theorem words_bad (op D S N V k : Int) (w : World) (hk : ¬ k = 0)
    (hC : ∀ w, Calls Tryd.prog 17 #[.agg #[.int .i64 op, .int .i64 D, .int .i64 S, .int .i64 N, .int .i64 V]] w fun e w' => e = .returned (.int .i64 k) ∧ Below w.heap.size w w') :
    Calls Tryd.prog 12 #[.agg #[.int .i64 op, .int .i64 D, .int .i64 S, .int .i64 N, .int .i64 V]] w fun e w' => e = .returned (.tuple #[.slice none 0 0, .int .i64 k]) ∧ Below w.heap.size w w' := by
  have hk' : (k == 0) = false := by simpa using hk
  have C := Lib.hid hC
  clear hC
  go_enter Tryd.func12, Tryd.ntmps12
  go_wp2_with fail
  refine (C.out _).mono ?_
  rintro e w1 ⟨rfl, hb1⟩
  go_wp2
  refine bodyPost_ret (v := .tuple #[.slice none 0 0, .int .i64 k]) (by simp [results, Tryd.results12, go_sem]) rfl ⟨rfl, ?_⟩
  exact by repeat' (first | (with_reducible first | exact Below.refl _ _ | assumption | refine below_alloc ?_ _ | refine Below.drew ?_ | refine Go.Mq.below_drewN ?_ _ | refine below_then ?_ (by assumption) | refine below_put ?_ (by assumption) (by first | (simp; done) | (simp; omega) | omega) | refine Below.setCell ?_ ?_ _) | (simp; done) | (simp; omega) | omega)
theorem infoU16 : (Tryd.prog.info? 48).map (fun i => (i.zero, i.size, i.bytes)) = some (some (.int .u16 0), 1, 2) := by kernel_rfl
theorem words_good (op D S N V : Int) (w : World) (h0 : 0 ≤ op) (h1 : op ≤ 31) (d0 : 0 ≤ D) (d1 : D ≤ 7) (s0 : 0 ≤ S) (s1 : S ≤ 7) (n0 : -16 ≤ N) (n1 : N ≤ 15) (w0 : 0 ≤ V) (w1 : V ≤ 65535)
    (hC : ∀ w, Calls Tryd.prog 17 #[.agg #[.int .i64 op, .int .i64 D, .int .i64 S, .int .i64 N, .int .i64 V]] w fun e w' => e = .returned (.int .i64 0) ∧ Below w.heap.size w w') 
    (d s n x : Bool) (c : Int) (m : ByteArray)
    (hidx : ∀ w, (Instr.index 82 (.agg shC) (.int .i64 op)).run Tryd.prog w = .ok (.agg #[.bool d, .bool s, .bool n, .bool x, .int .i64 c, .string m]) w) :
    Calls Tryd.prog 12 #[.agg #[.int .i64 op, .int .i64 D, .int .i64 S, .int .i64 N, .int .i64 V]] w fun e w' => ∃ v, e = .returned (.tuple #[v, .int .i64 0]) ∧ w'.ownsRow w.heap.size 48 1 v (if x then 2 else 1) (if x then [.int .u16 (op * 2048 + D * 256 + S * 32 + N % 32), .int .u16 V] else [.int .u16 (op * 2048 + D * 256 + S * 32 + N % 32)]) ∧ Below w.heap.size w w' := by
  have C := Lib.hid hC
  clear hC
  have A := Lib.hid shapes_any
  have u1 : IntKind.u16.wrap op = op := by rw [wrap16]; omega
  have u2 : IntKind.u16.wrap (op * 2048) = op * 2048 := by rw [wrap16]; omega
  have u3 : IntKind.u16.wrap D = D := by rw [wrap16]; omega
  have u4 : IntKind.u16.wrap (D * 256) = D * 256 := by rw [wrap16]; omega
  have u5 : IntKind.u16.wrap S = S := by rw [wrap16]; omega
  have u6 : IntKind.u16.wrap (S * 32) = S * 32 := by rw [wrap16]; omega
  have u7 : IntKind.u16.wrap N = N % 65536 := by rw [wrap16]
  have u8 : IntKind.u16.wrap V = V := by rw [wrap16]; omega
  have a1 : bits .and .u16 (N % 65536) 31 = N % 32 := by rw [and31 _ (by unfold U16; omega)]; omega
  have o1 : bits .or .u16 (op * 2048) (D * 256) = op * 2048 + D * 256 := or_join 11 _ _ (by omega) (by omega) (by omega) (by omega) (by omega) (by decide)
  have o2 : bits .or .u16 (op * 2048 + D * 256) (S * 32) = op * 2048 + D * 256 + S * 32 := or_join 8 _ _ (by omega) (by omega) (by omega) (by omega) (by omega) (by decide)
  have o3 : bits .or .u16 (op * 2048 + D * 256 + S * 32) (N % 32) = op * 2048 + D * 256 + S * 32 + N % 32 := or_join 5 _ _ (by omega) (by omega) (by omega) (by omega) (by omega) (by decide)
  clear h0 h1 d0 d1 s0 s1 n0 n1 w0 w1
  have fd : ∀ w, (Instr.field 81 (.agg #[.bool d, .bool s, .bool n, .bool x, .int .i64 c, .string m]) 3).run Tryd.prog w = .ok (.bool x) w := fun w => by kernel_rfl
  generalize shC = G at *
  obtain ⟨i0, hi, hz0, hz1, hz2⟩ := info_parts infoU16
  have HI := Lib.hid (And.intro hi (And.intro hz0 (And.intro hz1 hz2)))
  clear hi hz0 hz1 hz2
  go_enter Tryd.func12, Tryd.ntmps12
  go_wp2_with fail
  refine (C.out _).mono ?_
  rintro e w1 ⟨rfl, hb1⟩
  have Kw1_0 : Hid (Blk w1 (w.heap.size) #[.int .i64 op, .int .i64 D, .int .i64 S, .int .i64 N, .int .i64 V] 33) := Lib.hid (by repeat' (first | (with_reducible first | exact Hid.out (by assumption) | exact Blk.new _ _ _ | (refine Blk.new_at _ _ _ _ ?_; simp; done) | refine Blk.alloc ?_ _ | refine Blk.drewN ?_ _ | refine Blk.drew ?_ | apply Blk.set | refine Blk.put ?_ (by assumption) (by first | (simp; done) | (simp; omega) | omega) | refine Blk.below ?_ (by assumption)) | (refine Blk.setAt ?_ (by first | (simp; done) | (simp; omega))) | rfl))
  obtain ⟨lw1_0, cw1_0, fw1_0⟩ := Kw1_0.out.use
  go_wp2_with fail
  refine wp_mark (R := fun W => Below w.heap.size w W ∧ Hid (Blk W (w.heap.size) (#[.int .i64 op, .int .i64 D, .int .i64 S, .int .i64 N, .int .i64 V]) 33) ∧ Hid (Blk W (w1.heap.size) (#[.int .u16 (op * 2048 + D * 256 + S * 32 + N % 32)]) 48)) ⟨by repeat' (first | (with_reducible first | exact Below.refl _ _ | assumption | refine below_alloc ?_ _ | refine Below.drew ?_ | refine Go.Mq.below_drewN ?_ _ | refine below_then ?_ (by assumption) | refine below_put ?_ (by assumption) (by first | (simp; done) | (simp; omega) | omega) | refine Below.setCell ?_ ?_ _) | (simp; done) | (simp; omega) | omega), Lib.hid (by repeat' (first | (with_reducible first | exact Hid.out (by assumption) | exact Blk.new _ _ _ | (refine Blk.new_at _ _ _ _ ?_; simp; done) | refine Blk.alloc ?_ _ | refine Blk.drewN ?_ _ | refine Blk.drew ?_ | apply Blk.set | refine Blk.put ?_ (by assumption) (by first | (simp; done) | (simp; omega) | omega) | refine Blk.below ?_ (by assumption)) | (refine Blk.setAt ?_ (by first | (simp; done) | (simp; omega))) | rfl)), Lib.hid (by repeat' (first | (with_reducible first | exact Hid.out (by assumption) | exact Blk.new _ _ _ | (refine Blk.new_at _ _ _ _ ?_; simp; done) | refine Blk.alloc ?_ _ | refine Blk.drewN ?_ _ | refine Blk.drew ?_ | apply Blk.set | refine Blk.put ?_ (by assumption) (by first | (simp; done) | (simp; omega) | omega) | refine Blk.below ?_ (by assumption)) | (refine Blk.setAt ?_ (by first | (simp; done) | (simp; omega))) | rfl))⟩ ?_
  rintro w2 ⟨hbw2, Kw2_0, Kw2_1⟩
  clear Kw1_0 cw1_0 fw1_0
  obtain ⟨lw2_0, cw2_0, fw2_0⟩ := Kw2_0.out.use
  obtain ⟨lw2_1, cw2_1, fw2_1⟩ := Kw2_1.out.use
  refine wp_region_held_drew (S := fun W => Below w2.heap.size w2 W ∧ Blk W (w.heap.size) (#[.int .i64 op, .int .i64 D, .int .i64 S, .int .i64 N, .int .i64 V]) 33 ∧ Blk W (w1.heap.size) (#[.int .u16 (op * 2048 + D * 256 + S * 32 + N % 32)]) 48) (by kernel_rfl) ⟨(Below.refl _ _).drew, Blk.drew (show Blk w2 (w.heap.size) (#[.int .i64 op, .int .i64 D, .int .i64 S, .int .i64 N, .int .i64 V]) 33 from (by repeat' (first | (with_reducible first | exact Hid.out (by assumption) | exact Blk.new _ _ _ | (refine Blk.new_at _ _ _ _ ?_; simp; done) | refine Blk.alloc ?_ _ | refine Blk.drewN ?_ _ | refine Blk.drew ?_ | apply Blk.set | refine Blk.put ?_ (by assumption) (by first | (simp; done) | (simp; omega) | omega) | refine Blk.below ?_ (by assumption)) | (refine Blk.setAt ?_ (by first | (simp; done) | (simp; omega))) | rfl))), Blk.drew (show Blk w2 (w1.heap.size) (#[.int .u16 (op * 2048 + D * 256 + S * 32 + N % 32)]) 48 from (by repeat' (first | (with_reducible first | exact Hid.out (by assumption) | exact Blk.new _ _ _ | (refine Blk.new_at _ _ _ _ ?_; simp; done) | refine Blk.alloc ?_ _ | refine Blk.drewN ?_ _ | refine Blk.drew ?_ | apply Blk.set | refine Blk.put ?_ (by assumption) (by first | (simp; done) | (simp; omega) | omega) | refine Blk.below ?_ (by assumption)) | (refine Blk.setAt ?_ (by first | (simp; done) | (simp; omega))) | rfl)))⟩ (fun hS => ?_)
  refine wpAnyH_take (i := 1) (v := ?v1) rfl (by kernel_rfl) (by kernel_rfl) (by kernel_rfl) (fun _ _ _ h => h) (Or.inl ⟨by rfl, ?y1⟩) hS ?_
  case y1 => (intro w hSw; go_simp; try with_reducible rfl)
  try simp only [List.getElem_toArray, List.getElem_cons_succ, List.getElem_cons_zero, Act.put, List.setIfInBounds_toArray, List.set_cons_zero, List.set_cons_succ]
  refine wpAnyH_take (i := 2) (v := ?v2) rfl (by kernel_rfl) (by kernel_rfl) (by kernel_rfl) (fun _ _ _ h => h) (Or.inl ⟨by rfl, ?y2⟩) hS ?_
  case y2 => (intro w hSw; have c0 := (hSw.2.1).cell; have c1 := (hSw.2.2).cell; go_simp; try with_reducible rfl)
  try simp only [List.getElem_toArray, List.getElem_cons_succ, List.getElem_cons_zero, Act.put, List.setIfInBounds_toArray, List.set_cons_zero, List.set_cons_succ]
  refine wpAnyH_ready (rs := [0]) (by kernel_rfl) (by simp) (AllReadyH.cons rfl (fun K hK => ?_) AllReadyH.nil)
  go_simp
  refine (A.out _).mono ?_
  rintro e w3 ⟨rfl, hb_w3⟩
  try go_wp2_with fail
  refine hK.out _ _ ⟨below_then hS.1 hb_w3, hS.2.1.below hb_w3, hS.2.2.below hb_w3⟩ (fun hS => ?_)
  clear hK K
  try simp only [List.getElem_toArray, List.getElem_cons_succ, List.getElem_cons_zero, Act.put, List.setIfInBounds_toArray, List.set_cons_zero, List.set_cons_succ]
  refine wpAnyH_take (i := 3) (v := ?v3) rfl (by kernel_rfl) (by kernel_rfl) (by kernel_rfl) (fun _ _ _ h => h) (Or.inl ⟨by rfl, ?y3⟩) hS ?_
  case y3 => (intro w hSw; go_simp; try with_reducible rfl)
  try simp only [List.getElem_toArray, List.getElem_cons_succ, List.getElem_cons_zero, Act.put, List.setIfInBounds_toArray, List.set_cons_zero, List.set_cons_succ]
  refine wpAnyH_take (i := 4) (v := ?v4) rfl (by kernel_rfl) (by kernel_rfl) (by kernel_rfl) (fun _ _ _ h => h) (Or.inl ⟨by rfl, ?y4⟩) hS ?_
  case y4 => (intro w hSw; go_simp; try with_reducible rfl)
  try simp only [List.getElem_toArray, List.getElem_cons_succ, List.getElem_cons_zero, Act.put, List.setIfInBounds_toArray, List.set_cons_zero, List.set_cons_succ]
  refine wpAnyH_done (by kernel_rfl) ?_ _
  have hbw3 : Below w2.heap.size w2 w3 := hS.1
  have Bw3_0 := Lib.hid hS.2.1
  have Bw3_1 := Lib.hid hS.2.2
  clear hS
  have Kw3_0 : Hid (Blk w3 (w.heap.size) #[.int .i64 op, .int .i64 D, .int .i64 S, .int .i64 N, .int .i64 V] 33) := Lib.hid (by repeat' (first | (with_reducible first | exact Hid.out (by assumption) | exact Blk.new _ _ _ | (refine Blk.new_at _ _ _ _ ?_; simp; done) | refine Blk.alloc ?_ _ | refine Blk.drewN ?_ _ | refine Blk.drew ?_ | apply Blk.set | refine Blk.put ?_ (by assumption) (by first | (simp; done) | (simp; omega) | omega) | refine Blk.below ?_ (by assumption)) | (refine Blk.setAt ?_ (by first | (simp; done) | (simp; omega))) | rfl))
  have Kw3_1 : Hid (Blk w3 (w1.heap.size) #[.int .u16 (op * 2048 + D * 256 + S * 32 + N % 32)] 48) := Lib.hid (by repeat' (first | (with_reducible first | exact Hid.out (by assumption) | exact Blk.new _ _ _ | (refine Blk.new_at _ _ _ _ ?_; simp; done) | refine Blk.alloc ?_ _ | refine Blk.drewN ?_ _ | refine Blk.drew ?_ | apply Blk.set | refine Blk.put ?_ (by assumption) (by first | (simp; done) | (simp; omega) | omega) | refine Blk.below ?_ (by assumption)) | (refine Blk.setAt ?_ (by first | (simp; done) | (simp; omega))) | rfl))
  clear Kw2_0 cw2_0 fw2_0 Kw2_1 cw2_1 fw2_1
  obtain ⟨lw3_0, cw3_0, fw3_0⟩ := Kw3_0.out.use
  obtain ⟨lw3_1, cw3_1, fw3_1⟩ := Kw3_1.out.use
  have hsz : w.heap.size + 1 ≤ w1.heap.size := by have := hb1.size; simpa using this
  have hs3 : w1.heap.size < w3.heap.size := Kw3_1.out.lt
  cases x
  · go_wp2
    refine bodyPost_ret (v := .tuple #[.slice (some ⟨w1.heap.size, 0, none⟩) 1 1, .int .i64 0]) (by simp [results, Tryd.results12, go_sem]) rfl ⟨_, rfl, own_one Kw3_1.out (by omega), by repeat' (first | (with_reducible first | exact Below.refl _ _ | assumption | refine below_alloc ?_ _ | refine Below.drew ?_ | refine Go.Mq.below_drewN ?_ _ | refine below_then ?_ (by assumption) | refine below_put ?_ (by assumption) (by first | (simp; done) | (simp; omega) | omega) | refine Below.setCell ?_ ?_ _) | (simp; done) | (simp; omega) | omega)⟩
  · go_wp2_with (first
      | (at_builtin; refine wpList_append_own _ rfl (.tmp 36) (.tmp 40) 34 rfl (w.heap.size) 48 i0 (.int .u16 0) 1 2 Tryd.underlying34 HI.out.1 HI.out.2.1 HI.out.2.2.1 HI.out.2.2.2 rfl (by decide) _ _ _ rfl ((own_one Kw3_1.out (by omega)).alloc _) ⟨w3.heap.size, 0, none⟩ 1 1 [.int .u16 V] rfl rfl ?c1 ?c2 ?c3 ?c4 ?c5 ?_)
      | fail)
    case c1 =>
      intro j u hj
      match j, hj with
      | 0, hj => simp at hj; subst hj; simp [Addr.add]
    case c2 => intro u hu; simp at hu; subst hu; rfl
    case c3 => unfold maxLen; omega
    case c4 => omega
    case c5 => simp; omega
    intro v' w5 hown hgrow _
    have hb5 : Below w.heap.size w w5 := below_grown (below_alloc (by repeat' (first | (with_reducible first | exact Below.refl _ _ | assumption | refine below_alloc ?_ _ | refine Below.drew ?_ | refine Go.Mq.below_drewN ?_ _ | refine below_then ?_ (by assumption) | refine below_put ?_ (by assumption) (by first | (simp; done) | (simp; omega) | omega) | refine Below.setCell ?_ ?_ _) | (simp; done) | (simp; omega) | omega)) _) (by simp; omega) hgrow ((own_one Kw3_1.out (by omega)).alloc _) (by omega)
    go_wp2
    refine bodyPost_ret (v := .tuple #[v', .int .i64 0]) (by simp [results, Tryd.results12, go_sem]) rfl ⟨_, rfl, hown, hb5⟩
end Go.Proofs.YtmpdoiilakjmbaaDoor
