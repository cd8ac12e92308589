/- The law TapeBack answers true for every input. Conditions: what was pressed lies in memory; the library's variables hold what they were laid with. -/
import Derived.Test.YtlhjoclclbhjgaaDoorTaped
import Derived.Test.YtlhjoclclbhjgaaDoorBackPure
namespace Go.Proofs.YtlhjoclclbhjgaaDoor.tapeBack
open Go.RowKit Go.Mq
set_option linter.unusedVariables false
set_option linter.unusedSimpArgs false
set_option maxHeartbeats 2000000
set_option maxRecDepth 100000
theorem parse_xs (xs : List Inp) (hz : chkI xs 0 = 0) (hok : ∀ x ∈ xs, x.Ok) (hl : (printP xs).length ≤ 4000) (w : World) (hL : Lk w) : Calls Tryd.prog 21 #[.string ⟨(printP xs).toArray⟩] w fun e w' => (∃ v, e = .returned (.tuple #[v, .int .i64 0, .int .i64 0]) ∧ InpsAt w' v xs) ∧ Below w.heap.size w w' := by
  refine (parse_any ⟨(printP xs).toArray⟩ w hL (by rw [Lib.size_eq]; simpa using hl)).mono ?_
  rintro e w' ⟨he, hb⟩
  refine ⟨?_, hb⟩
  unfold ParseEnd at he
  rw [show (⟨(printP xs).toArray⟩ : ByteArray).data.toList = printP xs by simp, parse_back xs hz hok] at he
  simp only at he
  rw [if_pos hz] at he
  obtain ⟨v, h1, h2, h3⟩ := he
  exact ⟨v, h1, own_inps h2 h3⟩
theorem of_back (n : Nat) (hn : n < 256) (w : World) : Calls Tryd.prog 14 #[.string ⟨(btn n).toArray⟩] w fun e w' => e = .returned (.tuple #[.int .u8 n, .int .i64 0]) ∧ Below w.heap.size w w' := of_some (btn n) n (of_btn n hn) w
theorem walk (v : Value) (xs : List Inp) (a : Int) (w : World) (h : InpsAt w v xs) (ha : U8 a) (hL : Lk w) :
    Calls Tryd.prog 4 #[v, .int .u8 a] w fun e w' => e = .returned (.bool true) ∧ Below w.heap.size w w' := by
  obtain ⟨n, rfl⟩ : ∃ n : Nat, a = n := ⟨a.toNat, by unfold U8 at ha; omega⟩
  have hn : n < 256 := by unfold U8 at ha; omega
  have BB := Lib.hid (buttons_any n ha)
  rw [Int.toNat_natCast] at BB
  have OB := Lib.hid (of_back n hn)
  have TP := Lib.hid taped_any
  have HL := Lib.hid hL
  have H := Lib.hid h
  obtain ⟨ad, cap, hv, -, -, hok, -⟩ := h
  have HOK := Lib.hid hok
  clear hL ha hn hv hok
  by_cases hz : chkI xs 0 = 0
  · have PR := Lib.hid (fun W (hb : Below w.heap.size w W) => print_yes v xs W (HL.out.below hb) (H.out.below hb) hz)
    obtain ⟨Q, hQ⟩ : ∃ Q, Q = printP xs := ⟨_, rfl⟩
    by_cases hl : (printP xs).length ≤ 4000
    · have PX := Lib.hid (parse_xs xs hz HOK.out hl)
      have EQ := Lib.hid (fun v2 W h1 h2 => inpEq_same v v2 xs W h1 h2 (by have := hz; unfold chkI at this; split at this <;> omega))
      rw [← hQ] at PR PX hl
      have hl' : ¬ ((4000 : Int) < (Q.length : Int)) := by omega
      clear hQ hz hl
      go_enter Tryd.func4, Tryd.ntmps4
      go_wp2_with fail
      refine (BB.out w).mono ?_
      rintro e w1 ⟨rfl, hb1⟩
      go_wp2_with fail
      refine (OB.out w1).mono ?_
      rintro e w2 ⟨rfl, hb2⟩
      have hbb2 : Below w.heap.size w w2 := below_then hb1 hb2
      go_wp2_with fail
      refine (PR.out w2 hbb2).mono ?_
      rintro e w3 ⟨rfl, hb3⟩
      have hbb3 : Below w.heap.size w w3 := below_then hbb2 hb3
      go_wp2_with fail
      refine (TP.out w3 (HL.out.below hbb3)).mono ?_
      rintro e w4 ⟨rfl, hb4⟩
      have hbb4 : Below w.heap.size w w4 := below_then hbb3 hb4
      clear hb1 hb2 hb3 hb4 hbb2 hbb3
      go_wp2_with fail
      refine (PX.out w4 (HL.out.below hbb4)).mono ?_
      rintro e w5 ⟨⟨v2, rfl, hv2⟩, hb5⟩
      have hbb5 : Below w.heap.size w w5 := below_then hbb4 hb5
      have HV := Lib.hid hv2
      clear hv2 hb5 hbb4
      go_wp2_with fail
      refine (EQ.out v2 w5 (H.out.below hbb5) HV.out).mono ?_
      rintro e w6 ⟨rfl, hb6⟩
      have hbb6 : Below w.heap.size w w6 := below_then hbb5 hb6
      go_wp2
      go_ret
      exact ⟨rfl, hbb6⟩
    · rw [← hQ] at PR hl
      have hl' : (4000 : Int) < (Q.length : Int) := by omega
      clear hQ hz hl
      go_enter Tryd.func4, Tryd.ntmps4
      go_wp2_with fail
      refine (BB.out w).mono ?_
      rintro e w1 ⟨rfl, hb1⟩
      go_wp2_with fail
      refine (OB.out w1).mono ?_
      rintro e w2 ⟨rfl, hb2⟩
      have hbb2 : Below w.heap.size w w2 := below_then hb1 hb2
      go_wp2_with fail
      refine (PR.out w2 hbb2).mono ?_
      rintro e w3 ⟨rfl, hb3⟩
      have hbb3 : Below w.heap.size w w3 := below_then hbb2 hb3
      go_wp2_with fail
      refine (TP.out w3 (HL.out.below hbb3)).mono ?_
      rintro e w4 ⟨rfl, hb4⟩
      have hbb4 : Below w.heap.size w w4 := below_then hbb3 hb4
      clear hb1 hb2 hb3 hb4 hbb2 hbb3
      go_wp2
      go_ret
      exact ⟨rfl, hbb4⟩
  · have PR := Lib.hid (fun W (hb : Below w.heap.size w W) => print_no v xs W (H.out.below hb) hz)
    have hz1 : (chkI xs 0 != 0) = true := by simpa using hz
    obtain ⟨Z, hZ⟩ : ∃ Z, Z = chkI xs 0 := ⟨_, rfl⟩
    rw [← hZ] at PR hz1
    replace hZ := Lib.hid hZ
    clear hz
    go_enter Tryd.func4, Tryd.ntmps4
    go_wp2_with fail
    refine (BB.out w).mono ?_
    rintro e w1 ⟨rfl, hb1⟩
    go_wp2_with fail
    refine (OB.out w1).mono ?_
    rintro e w2 ⟨rfl, hb2⟩
    have hbb2 : Below w.heap.size w w2 := below_then hb1 hb2
    go_wp2_with fail
    refine (PR.out w2 hbb2).mono ?_
    rintro e w3 ⟨rfl, hb3⟩
    have hbb3 : Below w.heap.size w w3 := below_then hbb2 hb3
    go_wp2_with fail
    refine (TP.out w3 (HL.out.below hbb3)).mono ?_
    rintro e w4 ⟨rfl, hb4⟩
    have hbb4 : Below w.heap.size w w4 := below_then hbb3 hb4
    clear hb1 hb2 hb3 hb4 hbb2 hbb3
    go_wp2
    go_ret
    exact ⟨rfl, hbb4⟩
end Go.Proofs.YtlhjoclclbhjgaaDoor.tapeBack
