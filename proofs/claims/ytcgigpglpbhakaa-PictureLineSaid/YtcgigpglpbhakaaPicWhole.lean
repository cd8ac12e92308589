/- picture.Whole: all lines. Conditions: a memory of 256 bytes. -/
import Derived.Test.YtcgigpglpbhakaaRows
import Derived.Test.YtcgigpglpbhakaaPicDrawn
set_option linter.unusedVariables false
set_option linter.unusedSimpArgs false
namespace Go.Mq
def whF (xs : List Int) : Nat → List Go.Value
  | 0 => []
  | k + 1 => whF xs k ++ (lnC xs k 16).toList
theorem whF_len (xs : List Int) : ∀ k, (whF xs k).length = k * 16
  | 0 => rfl
  | k + 1 => by
    have := lnC_size xs k 16
    simp [whF, whF_len xs k, this]; omega
end Go.Mq
namespace Go.Proofs.Ytcgigpglpbhakaa
open Go.RowKit Go.Mq
set_option maxHeartbeats 1000000
set_option maxRecDepth 100000
theorem infoA : (Try.prog.info? 24).map (fun i => (i.zero, i.size, i.bytes)) = some (some (.agg #[.int .u8 0, .int .u8 0, .int .u8 0, .int .u8 0, .int .u8 0, .int .u8 0, .int .u8 0, .int .u8 0, .int .u8 0, .int .u8 0, .int .u8 0, .int .u8 0, .int .u8 0, .int .u8 0, .int .u8 0, .int .u8 0]), 16, 16) := by kernel_rfl
theorem bs16 (a0 a1 a2 a3 a4 a5 a6 a7 a8 a9 b0 b1 b2 b3 b4 b5 : Value) (w : World) : (Instr.buildSlice 68 1 #[(0, .agg #[a0, a1, a2, a3, a4, a5, a6, a7, a8, a9, b0, b1, b2, b3, b4, b5])]).run Try.prog w = .ok (.slice (some ⟨w.heap.size, 0, none⟩) 1 1) (w.alloc (.cells #[a0, a1, a2, a3, a4, a5, a6, a7, a8, a9, b0, b1, b2, b3, b4, b5] 24)) := by kernel_rfl
theorem bsX (X : Array Value) (h : X.size = 16) (w : World) : (Instr.buildSlice 68 1 #[(0, .agg X)]).run Try.prog w = .ok (.slice (some ⟨w.heap.size, 0, none⟩) 1 1) (w.alloc (.cells X 24)) := by
  obtain ⟨l⟩ := X
  match l, h with
  | [a0, a1, a2, a3, a4, a5, a6, a7, a8, a9, b0, b1, b2, b3, b4, b5], _ => exact bs16 a0 a1 a2 a3 a4 a5 a6 a7 a8 a9 b0 b1 b2 b3 b4 b5 w
theorem wpList_bs {ops : Array Oper} {rest : List Oper} {o : Oper} {a : Act} {w : World} {Q : Exit → Act → World → Prop} (hgd : o.guard = none) (x : Operand) (ho : o.op = .buildSlice 68 1 #[(0, x)]) (X : Array Value) (hX : X.size = 16) (hx : a.eval x = .agg X)
    (h : wpList Try.prog ops Q rest (a.put o.dst (.slice (some ⟨w.heap.size, 0, none⟩) 1 1)) (w.alloc (.cells X 24))) : wpList Try.prog ops Q (o :: rest) a w := by
  refine wpList_plain hgd fun K hK => ?_
  unfold Oper.wp execOp
  simp only [ho, List.map_toArray, List.map_cons, List.map_nil, hx, bsX X hX, Sem.run_bind, Sem.run_pure, Result.andThen_ok]
  exact hK _ _ h
theorem whole_any (xs : List Int) (v : Value) (w : World) (h : Vid w v xs) :
    Calls Try.prog 33 #[v] w fun e w' => ∃ u, e = .returned (.tuple #[u, .int .i64 0]) ∧ w'.ownsRow w.heap.size 24 16 u 8 (whF xs 8) ∧ Below w.heap.size w w' := by
  have HV := Lib.hid h
  obtain ⟨i0, hi, hz0, hz1, hz2⟩ := info_parts infoA
  have HI := Lib.hid (And.intro hi (And.intro hz0 (And.intro hz1 hz2)))
  clear hi hz0 hz1 hz2 h
  go_enter Try.func33, Try.ntmps33
  go_wp2
  go_loopw [4, 8] (fun l i wr => ∃ k : Nat, k ≤ 8 ∧ i = .int .i64 k ∧ Below w.heap.size w wr ∧ Hid (wr.ownsRow w.heap.size 24 16 l k (whF xs k))) (fun _ i _ => (8 - intOf i).toNat)
  case atStart => exact ⟨0, by omega, rfl, Below.refl _ _, Lib.hid ⟨rfl, Or.inl ⟨rfl, rfl⟩⟩⟩
  case round =>
    obtain ⟨k, hk, rfl, hbr, KO⟩ := hrel
    by_cases hk8 : k < 8
    · obtain ⟨ao, cp, rfl⟩ := own_shape KO.out
      have hki : (k : Int) < 8 := by omega
      have LL := Lib.hid (line_any xs v (k : Int) wr (HV.out.below hbr) (by omega) (by omega))
      have hwh : whF xs (k + 1) = whF xs k ++ (lnC xs k 16).toList := rfl
      have sX := lnC_size xs k 16
      have oX : Hid ((lnC xs k 16).all (·.oneCell') = true) := Lib.hid (by simp [lnC, Value.oneCell'])
      obtain ⟨X, hX⟩ : ∃ X, X = lnC xs k 16 := ⟨_, rfl⟩
      rw [← hX] at LL hwh sX oX
      have HW := Lib.hid hwh
      have NL : Hid (X.toList.length = 1 * 16) := Lib.hid (by simpa using sX)
      have NA : Hid (∀ w4 : World, ∀ j u, X.toList[j]? = some u → (w4.alloc (.cells X 24)).cell? ((⟨w4.heap.size, 0, none⟩ : Addr).add j) = some u) := Lib.hid (fun w4 j u hj => by
        have e1 : (⟨w4.heap.size, 0, none⟩ : Addr).add j = ⟨w4.heap.size, j, none⟩ := by
          by_cases h0 : j = 0
          · subst h0; rfl
          · simp [Addr.add, h0]
        rw [e1, (Blk.new w4 X 24).cell]
        simpa using hj)
      have NO : Hid (∀ u ∈ X.toList, u.oneCell' = true) := Lib.hid (fun u hu => by
        have := oX.out
        rw [Array.all_eq_true'] at this
        exact this u (by simpa using hu))
      clear hX hwh
      go_wp2_with fail
      refine LL.out.mono ?_
      rintro e w3 ⟨rfl, hb3⟩
      have KO3 := Lib.hid (own_below KO.out hb3)
      have hbr3 : Below w.heap.size w w3 := below_then hbr hb3
      clear KO hb3 hbr LL
      have K4 : ∀ w4 : World, Put w3.heap.size (w3.alloc (.cells #[.int .u8 0, .int .u8 0, .int .u8 0, .int .u8 0, .int .u8 0, .int .u8 0, .int .u8 0, .int .u8 0, .int .u8 0, .int .u8 0, .int .u8 0, .int .u8 0, .int .u8 0, .int .u8 0, .int .u8 0, .int .u8 0] 24)) w4 → w4.ownsRow w.heap.size 24 16 (.slice ao k cp) k (whF xs k) ∧ Below w.heap.size w w4 := fun w4 hp => ⟨own_made KO3.out hp, below_put (below_alloc hbr3 _) hp hbr3.size⟩
      have KK := Lib.hid K4
      clear K4
      go_wp2_with (first
        | (refine wpList_storeW rfl 24 (.tmp 6) (.tmp 15) rfl (w3.heap.size) X rfl rfl 24 _ (Blk.new _ _ _) (by rw [sX]; kernel_rfl) (by rw [sX]; rfl) oX.out ?_; intro w4 hp4 KX4)
        | (refine wpList_loadW rfl 24 (.tmp 6) rfl (w3.heap.size) rfl 24 X KX4.out _ Try.underlying24 rfl (by rw [sX]; kernel_rfl) ?_)
        | (refine wpList_bs rfl (.tmp 21) rfl X sX rfl ?_)
        | (at_builtin; refine wpList_append_own _ rfl (.tmp 20) (.tmp 22) 68 rfl (w.heap.size) 24 i0 (.agg #[.int .u8 0, .int .u8 0, .int .u8 0, .int .u8 0, .int .u8 0, .int .u8 0, .int .u8 0, .int .u8 0, .int .u8 0, .int .u8 0, .int .u8 0, .int .u8 0, .int .u8 0, .int .u8 0, .int .u8 0, .int .u8 0]) 16 16 Try.underlying68 HI.out.1 HI.out.2.1 HI.out.2.2.1 HI.out.2.2.2 rfl (by decide) _ _ _ rfl ((KK.out _ hp4).1.alloc _) ⟨w4.heap.size, 0, none⟩ 1 1 X.toList rfl NL.out (NA.out w4) NO.out (by unfold maxLen; omega) (by omega) (by have := (KK.out _ hp4).2.size; simp; omega) ?_)
        | fail)
      intro v' w5 hown hgrow _
      have hb5 : Below w.heap.size w w5 := below_grown (below_alloc (KK.out _ hp4).2 _) (by have := (KK.out _ hp4).2.size; simp; omega) hgrow ((KK.out _ hp4).1.alloc _) (Nat.le_refl _)
      obtain ⟨ao', cp', rfl⟩ := own_shape hown
      have KO5 := Lib.hid hown
      clear hown hgrow
      go_wp2
      go_roundw
      case rel => exact ⟨k + 1, by omega, by go_num, hb5, Lib.hid (by rw [HW.out]; exact KO5.out)⟩
      case measure => simp [intOf]; omega
    · have hk' : k = 8 := by omega
      subst hk'
      obtain ⟨ao, cp, rfl⟩ := own_shape KO.out
      go_wp2
      refine bodyPost_ret (v := .tuple #[.slice ao 8 cp, .int .i64 0]) (by simp [results, Try.results33, go_sem]) rfl ⟨_, rfl, KO.out, hbr⟩
end Go.Proofs.Ytcgigpglpbhakaa
