/- The assembler tells names, and knows an order by its name. Conditions: none. -/
import Derived.Test.YtmpdoiilakjmbaaDoorAsmLeaf
namespace Go.Proofs.YtmpdoiilakjmbaaDoor
open Go.RowKit Go.Mq
set_option linter.unusedVariables false
set_option linter.unusedSimpArgs false
set_option maxHeartbeats 1000000
set_option maxRecDepth 100000
theorem op_step (s : List UInt8) (k : Nat) (hk : k < 32) : opGo s ((List.range 32).drop k) = if k ≠ 30 ∧ (namO k).data.toList = s then some k else opGo s ((List.range 32).drop (k + 1)) := by
  rw [List.drop_eq_getElem_cons (by simpa using hk), List.getElem_range]
  rfl
def OpEnd (s : List UInt8) (w0 : World) (e : Ending) (w' : World) : Prop := (match opF s with
  | some k => e = .returned (.int .i64 k)
  | none => e = stopE 5) ∧ Below w0.heap.size w0 w'
theorem op_any (l : List UInt8) (w : World) : Calls Tryd.prog 62 #[.string ⟨l.toArray⟩] w (OpEnd l w) := by
  have F := Lib.hid fail_any
  have N30 := Lib.hid (name_no 30 (by omega))
  go_enter Tryd.func62, Tryd.ntmps62
  go_wp2
  go_loopw [6] (fun i wr => ∃ k : Nat, k ≤ 32 ∧ i = .int .i64 k ∧ Hid (opF l = opGo l ((List.range 32).drop k)) ∧ Below w.heap.size w wr) (fun i _ => 32 - (intOf i).toNat)
  case atStart => exact ⟨0, by omega, rfl, Lib.hid rfl, Below.refl _ _⟩
  case round =>
    obtain ⟨k, hk, rfl, hx, hb⟩ := hrel
    by_cases hkn : k < 32
    · have hki : (k : Int) < 32 := by omega
      have ST := Lib.hid (op_step l k hkn)
      by_cases h30 : k = 30
      · subst h30
        go_wp2_with fail
        refine (N30.out _).mono ?_
        rintro e w2 ⟨rfl, hb2⟩
        go_wp2
        go_roundw
        case rel => exact ⟨31, by omega, by go_num, Lib.hid (by rw [hx.out, ST.out, if_neg (by simp)]), by repeat' (first | (with_reducible first | exact Below.refl _ _ | assumption | refine below_alloc ?_ _ | refine Below.drew ?_ | refine Go.Mq.below_drewN ?_ _ | refine below_then ?_ (by assumption) | refine below_put ?_ (by assumption) (by first | (simp; done) | (simp; omega) | omega) | refine Below.setCell ?_ ?_ _) | (simp; done) | (simp; omega) | omega)⟩
        case measure => simp [intOf]
      · have NM := Lib.hid (name_yes k (by omega) hki (by omega))
        obtain ⟨m, hm⟩ : ∃ m, m = shmL.getD k [] := ⟨_, rfl⟩
        rw [show namO (k : Int) = ⟨m.toArray⟩ by rw [hm]; rfl] at NM
        have SM : Hid ((namO (k : Int)).data.toList = m) := Lib.hid (by rw [hm]; unfold namO; simp)
        clear hm
        by_cases hq : m = l
        · have q : (m == l) = true := beq_iff_eq.2 hq
          have HE : Hid (opF l = some k) := Lib.hid (by rw [hx.out, ST.out, if_pos ⟨h30, by rw [SM.out]; exact hq⟩])
          clear hq h30
          go_wp2_with fail
          refine (NM.out _).mono ?_
          rintro e w2 ⟨rfl, hb2⟩
          go_wp2
          go_ret
          refine ⟨?_, by repeat' (first | (with_reducible first | exact Below.refl _ _ | assumption | refine below_alloc ?_ _ | refine Below.drew ?_ | refine Go.Mq.below_drewN ?_ _ | refine below_then ?_ (by assumption) | refine below_put ?_ (by assumption) (by first | (simp; done) | (simp; omega) | omega) | refine Below.setCell ?_ ?_ _) | (simp; done) | (simp; omega) | omega)⟩
          rw [HE.out]
          rfl
        · have q : (m == l) = false := beq_eq_false_iff_ne.2 hq
          have HE : Hid (opF l = opGo l ((List.range 32).drop (k + 1))) := Lib.hid (by rw [hx.out, ST.out, if_neg (by rw [SM.out]; exact fun h => hq h.2)])
          clear hq h30
          go_wp2_with fail
          refine (NM.out _).mono ?_
          rintro e w2 ⟨rfl, hb2⟩
          go_wp2
          go_roundw
          case rel => exact ⟨k + 1, by omega, by go_num, HE, by repeat' (first | (with_reducible first | exact Below.refl _ _ | assumption | refine below_alloc ?_ _ | refine Below.drew ?_ | refine Go.Mq.below_drewN ?_ _ | refine below_then ?_ (by assumption) | refine below_put ?_ (by assumption) (by first | (simp; done) | (simp; omega) | omega) | refine Below.setCell ?_ ?_ _) | (simp; done) | (simp; omega) | omega)⟩
          case measure => simp [intOf]; omega
    · have h32 : k = 32 := by omega
      subst h32
      have HE : Hid (opF l = none) := Lib.hid (by rw [hx.out]; rfl)
      go_wp2_with fail
      refine (F.out _ _).mono ?_
      rintro e w2 ⟨rfl, rfl⟩
      refine ⟨rfl, ?_, by repeat' (first | (with_reducible first | exact Below.refl _ _ | assumption | refine below_alloc ?_ _ | refine Below.drew ?_ | refine Go.Mq.below_drewN ?_ _ | refine below_then ?_ (by assumption) | refine below_put ?_ (by assumption) (by first | (simp; done) | (simp; omega) | omega) | refine Below.setCell ?_ ?_ _) | (simp; done) | (simp; omega) | omega)⟩
      rw [HE.out]
      rfl
theorem nm_int (k : Nat) (c : UInt8) : nmB k c = decide ((97 ≤ (c.toNat : Int) ∧ (c.toNat : Int) ≤ 122) ∨ (c.toNat : Int) = 95 ∨ (0 < (k : Int) ∧ 48 ≤ (c.toNat : Int) ∧ (c.toNat : Int) ≤ 57)) := by
  unfold nmB
  rw [Bool.eq_iff_iff]
  simp
  omega
theorem nms_step (l : List UInt8) (k : Nat) (hk : k < l.length) : nmsB k (l.drop k) = (nmB k l[k] && nmsB (k + 1) (l.drop (k + 1))) := by
  rw [List.drop_eq_getElem_cons hk]
  rfl
theorem name_any (l : List UInt8) (w : World) : Calls Tryd.prog 57 #[.string ⟨l.toArray⟩] w fun e w' => e = .returned (.bool (isNm l)) ∧ w' = w := by
  by_cases h0 : l.length < 1
  · have hr : isNm l = false := by unfold isNm; simp; omega
    rw [hr]
    have hi : (l.length : Int) < 1 := by omega
    clear h0 hr
    go_enter Tryd.func57, Tryd.ntmps57
    go_wp2
    go_ret
    exact ⟨rfl, rfl⟩
  by_cases h1 : 12 < l.length
  · have hr : isNm l = false := by unfold isNm; simp; omega
    rw [hr]
    have hi : 12 < (l.length : Int) := by omega
    have hi2 : 1 ≤ (l.length : Int) := by omega
    clear h0 h1 hr
    go_enter Tryd.func57, Tryd.ntmps57
    go_wp2
    go_ret
    exact ⟨rfl, rfl⟩
  have R1 := Lib.hid (reg_cases l)
  have RY := Lib.hid reg_yes
  have RN := Lib.hid (reg_no l)
  have IS : Hid (isNm l = (nmsB 0 l && (regF l).isNone)) := Lib.hid (by
    unfold isNm
    rw [decide_eq_true (by omega), decide_eq_true (by omega)]
    rfl)
  obtain ⟨n, hn⟩ : ∃ n, n = l.length := ⟨_, rfl⟩
  obtain ⟨R, hR⟩ : ∃ R, R = isNm l := ⟨_, rfl⟩
  rw [← hR] at IS ⊢
  replace hR := Lib.hid hR
  have hi1 : 1 ≤ (l.length : Int) := by omega
  have hi2 : (l.length : Int) ≤ 12 := by omega
  clear h0 h1 hn
  go_enter Tryd.func57, Tryd.ntmps57
  go_wp2
  go_loop [18] (fun i => ∃ k : Nat, k ≤ l.length ∧ i = .int .i64 k ∧ Hid (nmsB 0 l = nmsB k (l.drop k))) (fun i => l.length - (intOf i).toNat)
  case atStart => exact ⟨0, by omega, rfl, Lib.hid rfl⟩
  case round =>
    obtain ⟨k, hk, rfl, hx⟩ := hrel
    by_cases hkn : k < l.length
    · have hki : (k : Int) < l.length := by omega
      have ST := Lib.hid (nms_step l k hkn)
      have NI := Lib.hid (nm_int k l[k])
      obtain ⟨c, hc⟩ : ∃ c, c = l[k] := ⟨_, rfl⟩
      have ec : ∀ h, ((⟨l.toArray⟩ : ByteArray)[k]'h) = c := fun h => by rw [hc]; rfl
      rw [← hc] at ST NI
      obtain ⟨x, hx2⟩ : ∃ x : Int, x = c.toNat := ⟨_, rfl⟩
      have hb : 0 ≤ x ∧ x ≤ 255 := by have := c.toNat_lt; omega
      rw [← hx2] at NI
      replace hx2 : ((c.toNat : Nat) : Int) = x := hx2.symm
      obtain ⟨hb0, hb1⟩ := hb
      clear hc
      go_wp2
      all_goals simp only [Bool.not_eq_true', Bool.not_eq_false', decide_eq_false_iff_not, decide_eq_true_eq, beq_iff_eq, beq_eq_false_iff_ne, ne_eq] at *
      all_goals (first
        | (have q : nmB k c = true := by rw [NI.out]; exact decide_eq_true (by omega)
           refine ⟨⟨k + 1, by omega, by go_num, Lib.hid (by rw [hx.out, ST.out, q]; rfl)⟩, by simp [intOf]; omega⟩)
        | (have q : nmB k c = false := by rw [NI.out]; exact decide_eq_false (by omega)
           have E : R = false := by rw [IS.out, hx.out, ST.out, q]; rfl
           rw [E]
           go_ret
           exact ⟨rfl, rfl⟩))
    · have hkn' : k = l.length := by omega
      have HE : Hid (nmsB 0 l = true) := Lib.hid (by rw [hx.out, List.drop_of_length_le (by omega)]; rfl)
      subst hkn'
      rcases R1.out with h0 | ⟨r, d, rfl, hd, h0⟩
      · have I := Lib.hid (RN.out h0)
        have E : R = true := by rw [IS.out, HE.out, h0]; rfl
        subst E
        clear h0
        go_wp2_with fail
        refine (I.out _).mono ?_
        rintro e w' ⟨rfl, rfl⟩
        go_wp2
        go_ret
        exact ⟨rfl, rfl⟩
      · have I := Lib.hid (RY.out r d hd)
        have E : R = false := by rw [IS.out, HE.out, h0]; rfl
        subst E
        clear h0 hd
        go_wp2_with fail
        refine (I.out _).mono ?_
        rintro e w' ⟨rfl, rfl⟩
        go_wp2
        go_ret
        exact ⟨rfl, rfl⟩
end Go.Proofs.YtmpdoiilakjmbaaDoor
