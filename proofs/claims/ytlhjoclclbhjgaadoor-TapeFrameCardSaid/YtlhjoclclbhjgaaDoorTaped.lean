/- The closed fact on buttons. Conditions: the library's variables hold what they were laid with. -/
import Derived.Test.YtlhjoclclbhjgaaDoorTapePrs
import Derived.Test.YtlhjoclclbhjgaaDoorSlEqIn
namespace Go.Mq
open Go
def S0 : List UInt8 := [49, 48, 32, 49, 32, 117, 46, 46, 46, 46, 46, 46, 116, 10]
def L0 : List Inp := [⟨10, 1, 129⟩]
theorem itoa10 : Lib.itoa 10 = [49, 48] := by
  have : Lib.decDigits 10 = [49, 48] := by
    rw [Lib.decDigits, dif_neg (by decide), Lib.decDigits, dif_pos (by decide)]
    decide
  show (if (10 : Int) < 0 then _ else Lib.decDigits (10 : Int).toNat) = _
  rw [if_neg (by decide)]
  exact this
theorem itoa1 : Lib.itoa 1 = [49] := by
  have : Lib.decDigits 1 = [49] := by
    rw [Lib.decDigits, dif_pos (by decide)]
    decide
  show (if (1 : Int) < 0 then _ else Lib.decDigits (1 : Int).toNat) = _
  rw [if_neg (by decide)]
  exact this
theorem item0 : item [49, 48, 32, 49, 32, 117, 46, 46, 46, 46, 46, 46, 116] = some ⟨10, 1, 129⟩ := by
  unfold item
  rw [show sepBy 32 [49, 48, 32, 49, 32, 117, 46, 46, 46, 46, 46, 46, 116] = [[49, 48], [49], [117, 46, 46, 46, 46, 46, 46, 116]] by decide]
  simp only
  rw [show wholeZ [49, 48] = some 10 by
      unfold wholeZ
      rw [show Lib.atoiAll [49, 48] = .ok 10 by decide]
      simp only
      rw [if_pos itoa10],
    show wholeZ [49] = some 1 by
      unfold wholeZ
      rw [show Lib.atoiAll [49] = .ok 1 by decide]
      simp only
      rw [if_pos itoa1],
    show ofBtn [117, 46, 46, 46, 46, 46, 46, 116] = some 129 by decide]
  rfl
theorem parse0 : parseV S0 = .inr L0 := by
  unfold parseV
  rw [show S0 = [49, 48, 32, 49, 32, 117, 46, 46, 46, 46, 46, 46, 116] ++ 10 :: [] from rfl, parse_good 0 [] _ [] (by decide) _ item0, parse_nil]
  rfl
theorem print0 : printP L0 = S0 := by
  show lineP ⟨10, 1, 129⟩ ++ [] = _
  unfold lineP
  simp only
  rw [itoa10, itoa1]
  decide
end Go.Mq
namespace Go.Proofs.YtlhjoclclbhjgaaDoor
open Go.RowKit Go.Mq
set_option linter.unusedVariables false
set_option linter.unusedSimpArgs false
set_option maxHeartbeats 1000000
set_option maxRecDepth 100000
theorem parse_s0 (w : World) (hL : Lk w) : Calls Tryd.prog 21 #[.string ⟨#[49, 48, 32, 49, 32, 117, 46, 46, 46, 46, 46, 46, 116, 10]⟩] w fun e w' => (∃ v, e = .returned (.tuple #[v, .int .i64 0, .int .i64 0]) ∧ InpsAt w' v L0) ∧ Below w.heap.size w w' := by
  refine (parse_any ⟨S0.toArray⟩ w hL (by decide)).mono ?_
  rintro e w' ⟨he, hb⟩
  refine ⟨?_, hb⟩
  unfold ParseEnd at he
  rw [show (⟨S0.toArray⟩ : ByteArray).data.toList = S0 from rfl, parse0] at he
  simp only at he
  rw [if_pos (show chkI L0 0 = 0 by decide)] at he
  obtain ⟨v, h1, h2, h3⟩ := he
  exact ⟨v, h1, own_inps h2 h3⟩
theorem print_s0 (v : Value) (w : World) (hL : Lk w) (h : InpsAt w v L0) : Calls Tryd.prog 13 #[v] w fun e w' => e = .returned (.tuple #[.string ⟨#[49, 48, 32, 49, 32, 117, 46, 46, 46, 46, 46, 46, 116, 10]⟩, .int .i64 0]) ∧ Below w.heap.size w w' := by
  have := print_yes v L0 w hL h (by decide)
  rw [print0] at this
  exact this
theorem taped_any (w : World) (hL : Lk w) : Calls Tryd.prog 16 #[] w fun e w' => e = .returned (.bool true) ∧ Below w.heap.size w w' := by
  have PS := Lib.hid (parse_s0 w hL)
  have PP := Lib.hid print_s0
  have EQ := Lib.hid inpEq_same
  have HL := Lib.hid hL
  clear hL
  go_enter Tryd.func16, Tryd.ntmps16
  go_wp2_with fail
  refine (PS.out).mono ?_
  rintro e w1 ⟨⟨v, rfl, hv⟩, hb1⟩
  have HV := Lib.hid hv
  clear hv
  go_wp2_with fail
  refine (PP.out v w1 (HL.out.below hb1) HV.out).mono ?_
  rintro e w2 ⟨rfl, hb2⟩
  have HV2 := Lib.hid (HV.out.below hb2)
  have hs1 := hb1.size
  go_wp2_with fail
  refine (EQ.out v _ L0 _ (HV2.out.below (below_alloc (Below.refl _ _) _)) ?_ (by decide)).mono ?_
  · exact ⟨some ⟨w2.heap.size, 0, none⟩, 1, rfl, by decide, by decide, by intro x hx; simp [L0] at hx; subst hx; exact ⟨(by unfold I64; decide : I64 10), (by unfold I64; decide : I64 1), (by unfold U8; decide : U8 129)⟩, fun _ => ⟨w2.heap.size, 0, rfl, by simp, fun i hi => by
      have : i = 0 := by simp [L0] at hi; omega
      subst this
      exact ⟨(Blk.new w2 _ _).cell 0, (Blk.new w2 _ _).cell 1, (Blk.new w2 _ _).cell 2⟩⟩⟩
  rintro e w3 ⟨rfl, hb3⟩
  have hbb : Below w.heap.size w w3 := below_then (below_alloc (below_then hb1 hb2) _) hb3
  go_wp2
  go_ret
  exact ⟨rfl, hbb⟩
end Go.Proofs.YtlhjoclclbhjgaaDoor
