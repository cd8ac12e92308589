/- The library's number and string texts, in the words of my walks. Conditions: the library's variables hold what they were laid with; texts of bounded length. -/
import Derived.Test.YtmpdoiilakjmbaaDoorSepPure
import Derived.Test.YtmpdoiilakjmbaaDoorDoorF
import Derived.Test.YtmpdoiilakjmbaaDoorShelf
import Derived.Lib.ParseIntBTie
import Derived.Lib.AtoiErrMem
namespace Go.Proofs.YtmpdoiilakjmbaaDoor
open Go.RowKit Go.Mq
set_option linter.unusedVariables false
def gMax : Nat := 0
abbrev Lk (w : World) : Prop := Lw Tryd.prog 0 w
theorem below_grow (w : World) (k : Nat) (os : Array Obj) : Below w.heap.size w (Sort.grow (w.drewN k) os) :=
  ⟨rfl, rfl, rfl, by simp [Sort.grow], fun i hi => by simp [Sort.grow, Array.getElem?_append_left, hi]⟩
theorem itoa_any (n : Int) (hn : I64 n) (w : World) (hL : Lk w) : Calls Tryd.prog 28 #[.int .i64 n] w fun e w' => e = .returned (.string ⟨(Lib.itoa n).toArray⟩) ∧ Below w.heap.size w w' := by
  refine (Tryd.strconv_Itoa n hn.1 hn.2 w hL.pow).mono ?_
  rintro e w' ⟨rfl, k, os, rfl⟩
  exact ⟨rfl, below_grow w k os⟩
theorem atoi_yes (s : ByteArray) (hs : s.size ≤ 281474976710656) (v : Int) (h : Lib.atoiAll s.data.toList = .ok v) (w : World) : Calls Tryd.prog 86 #[.string s] w fun e w' => e = .returned (.tuple #[.int .i64 v, .nilIface]) ∧ Below w.heap.size w w' := by
  refine (Tryd.strconv_Atoi_ok s (by omega) v h w).mono ?_
  rintro e w' ⟨rfl, hw⟩
  refine ⟨rfl, ?_⟩
  rcases hw with rfl | ⟨t, rfl⟩
  · exact Below.refl _ _
  · exact Lib.bytesWorld_below _ _ _
theorem atoi_no (s : ByteArray) (hs : s.size ≤ 281474976710656) (h : ∀ v, Lib.atoiAll s.data.toList ≠ .ok v) (w : World) (hL : Lk w) : Calls Tryd.prog 86 #[.string s] w fun e w' => (∃ (n : Int) (N : Nat), e = .returned (.tuple #[.int .i64 n, .iface 143 (.pointer (some ⟨N, 0, none⟩))])) ∧ Below w.heap.size w w' := by
  obtain ⟨t2, p2, h2⟩ := hL.syn
  obtain ⟨t3, p3, h3⟩ := hL.rng
  cases hq : Lib.atoiAll s.data.toList with
  | ok v => exact absurd hq (h v)
  | range =>
    refine (Tryd.strconv_Atoi_range_var s hs hq t3 p3 w h3).mono ?_
    rintro e w' ⟨N, rfl, -, -, hb⟩
    exact ⟨⟨_, N, rfl⟩, hb⟩
  | _ =>
    refine (Tryd.strconv_Atoi_syntax_var s hs hq t2 p2 w h2).mono ?_
    rintro e w' ⟨N, rfl, -, -, hb⟩
    exact ⟨⟨_, N, rfl⟩, hb⟩
theorem parseint_yes (s : ByteArray) (hs : s.size ≤ 281474976710656) (v : Int) (h : Lib.atoiAll s.data.toList = .ok v) (w : World) : Calls Tryd.prog 40 #[.string s, .int .i64 10, .int .i64 64] w fun e w' => e = .returned (.tuple #[.int .i64 v, .nilIface]) ∧ Below w.heap.size w w' := by
  refine (Tryd.strconv_ParseInt_10_at64_ok s (by omega) v (by rw [Lib.parseIntB_64]; exact h) w).mono ?_
  rintro e w' ⟨rfl, hw⟩
  refine ⟨rfl, ?_⟩
  rcases hw with rfl | ⟨t, rfl⟩
  · exact Below.refl _ _
  · exact Lib.bytesWorld_below _ _ _
theorem parseint_no (s : ByteArray) (hs : s.size ≤ 281474976710656) (h : ∀ v, Lib.atoiAll s.data.toList ≠ .ok v) (w : World) (hL : Lk w) : Calls Tryd.prog 40 #[.string s, .int .i64 10, .int .i64 64] w fun e w' => (∃ (n : Int) (N : Nat), e = .returned (.tuple #[.int .i64 n, .iface 143 (.pointer (some ⟨N, 0, none⟩))]) ∧ I64 n) ∧ Below w.heap.size w w' := by
  obtain ⟨t2, p2, h2⟩ := hL.syn
  obtain ⟨t3, p3, h3⟩ := hL.rng
  cases hq : Lib.atoiAll s.data.toList with
  | ok v => exact absurd hq (h v)
  | range =>
    refine (Tryd.strconv_ParseInt_10_at64_range_var s hs (by rw [Lib.parseIntB_64]; exact hq) t3 p3 w h3).mono ?_
    rintro e w' ⟨N, rfl, -, -, hb⟩
    refine ⟨⟨_, N, rfl, ?_⟩, hb⟩
    rw [Lib.intSat_64]
    unfold Lib.atoiSat I64
    split <;> omega
  | _ =>
    refine (Tryd.strconv_ParseInt_10_at64_syntax_var s hs (by rw [Lib.parseIntB_64]; exact hq) t2 p2 w h2).mono ?_
    rintro e w' ⟨N, rfl, -, -, hb⟩
    exact ⟨⟨_, N, rfl, by unfold I64; omega⟩, hb⟩
def strV (l : List UInt8) : Value := .string ⟨l.toArray⟩
theorem splitB_sep (s : ByteArray) (c : UInt8) : (Lib.splitB ⟨#[c]⟩ 0 (Lib.countB s ⟨#[c]⟩) s).map Value.string = (sepBy c s.data.toList).map strV := by
  have h := Lib.splitB_data ⟨#[c]⟩ 0 (Lib.countB s ⟨#[c]⟩) s
  have h2 : Lib.splitK [c] 0 (Lib.countB s ⟨#[c]⟩) s.data.toList = sepBy c s.data.toList := split_all c _
  rw [show (⟨#[c]⟩ : ByteArray).data.toList = [c] from rfl, h2] at h
  rw [← h, List.map_map]
  refine List.map_congr_left fun x _ => ?_
  show Value.string x = Value.string ⟨x.data.toList.toArray⟩
  rw [Array.toArray_toList]
theorem split_any (s : ByteArray) (hs : s.size < 4294967281) (c : UInt8) (w : World) (hL : Lk w) : Calls Tryd.prog 34 #[.string s, .string ⟨#[c]⟩] w fun e w' =>
    e = .returned (.slice (some ⟨w.heap.size, 0, none⟩) (sepBy c s.data.toList).length (sepBy c s.data.toList).length) ∧ w' = w.alloc (.cells ((sepBy c s.data.toList).map strV).toArray 9) := by
  obtain ⟨m, hm⟩ := hL.mx
  refine (Tryd.strings_Split s ⟨#[c]⟩ m w hs hm (Nat.le_refl 1)).mono ?_
  rintro e w' ⟨rfl, rfl⟩
  have hl := congrArg List.length (splitB_sep s c)
  rw [List.length_map, List.length_map, Lib.splitB_all ⟨#[c]⟩ (Nat.le_refl 1) 0 _ s rfl] at hl
  rw [← hl, splitB_sep]
  exact ⟨rfl, rfl⟩
theorem cut_any (s : ByteArray) (hs : s.size < 4294967281) (c : UInt8) (w : World) (hL : Lk w) : Calls Tryd.prog 59 #[.string s, .string ⟨#[c]⟩] w fun e w' =>
    e = .returned (.tuple #[strV (Lib.cut s.data.toList [c]).1, strV (Lib.cut s.data.toList [c]).2.1, .bool (Lib.cut s.data.toList [c]).2.2]) ∧ Below w.heap.size w w' := by
  obtain ⟨m, hm⟩ := hL.mx
  refine (Tryd.strings_Cut s ⟨#[c]⟩ m w hs hm).mono ?_
  rintro e w' ⟨rfl, n, rfl⟩
  exact ⟨rfl, ((Drew.refl w).drewN n).below _⟩
end Go.Proofs.YtmpdoiilakjmbaaDoor
