/- The library's cutting and splitting, as the assembler calls them. Conditions: the library's variables hold what they were laid with; texts of at most 4000 bytes. -/
import Derived.Test.YtmpdoiilakjmbaaDoorAsmMap
namespace Go.Proofs.YtmpdoiilakjmbaaDoor
open Go.RowKit Go.Mq
set_option linter.unusedVariables false
set_option linter.unusedSimpArgs false
set_option maxHeartbeats 1000000
theorem suf_eq (l : List UInt8) : Lib.hasSuffix l [58] = decide (l.getLast? = some 58) := by
  rcases List.eq_nil_or_concat l with rfl | ⟨r, c, rfl⟩
  · rfl
  · rw [Bool.eq_iff_iff]
    simp [Lib.hasSuffix, List.isSuffixOf]
    exact eq_comm
theorem cutsuf_y (l : List UInt8) (hl : l.length ≤ 4000) (h : l.getLast? = some 58) (w : World) : Calls Tryd.prog 56 #[.string ⟨l.toArray⟩, .string ⟨#[58]⟩] w fun e w' => e = .returned (.tuple #[.string ⟨l.dropLast.toArray⟩, .bool true]) ∧ w' = w := by
  have := Tryd.strings_CutSuffix ⟨l.toArray⟩ ⟨#[58]⟩ w (by rw [Lib.size_eq]; simp; omega)
  rw [show (⟨l.toArray⟩ : ByteArray).data.toList = l by simp, show (⟨#[58]⟩ : ByteArray).data.toList = [58] from rfl, suf_eq, decide_eq_true h] at this
  rw [show Lib.trimSuffix l [58] = l.dropLast by unfold Lib.trimSuffix; rw [suf_eq, decide_eq_true h, if_pos rfl, List.dropLast_eq_take]; rfl] at this
  exact this
theorem cutsuf_n (l : List UInt8) (hl : l.length ≤ 4000) (h : ¬ l.getLast? = some 58) (w : World) : Calls Tryd.prog 56 #[.string ⟨l.toArray⟩, .string ⟨#[58]⟩] w fun e w' => e = .returned (.tuple #[.string ⟨l.toArray⟩, .bool false]) ∧ w' = w := by
  have := Tryd.strings_CutSuffix ⟨l.toArray⟩ ⟨#[58]⟩ w (by rw [Lib.size_eq]; simp; omega)
  rw [show (⟨l.toArray⟩ : ByteArray).data.toList = l by simp, show (⟨#[58]⟩ : ByteArray).data.toList = [58] from rfl, suf_eq, decide_eq_false h] at this
  rw [show Lib.trimSuffix l [58] = l by unfold Lib.trimSuffix; rw [suf_eq, decide_eq_false h, if_neg (by simp)]] at this
  exact this
theorem cut32 (l : List UInt8) (hl : l.length ≤ 4000) (w : World) (hL : Lk w) : Calls Tryd.prog 59 #[.string ⟨l.toArray⟩, .string ⟨#[32]⟩] w fun e w' => e = .returned (.tuple #[.string ⟨(Lib.cut l [32]).1.toArray⟩, .string ⟨(Lib.cut l [32]).2.1.toArray⟩, .bool (Lib.cut l [32]).2.2]) ∧ Below w.heap.size w w' := by
  have := cut_any ⟨l.toArray⟩ (by rw [Lib.size_eq]; simp; omega) 32 w hL
  rw [show (⟨l.toArray⟩ : ByteArray).data.toList = l by simp] at this
  exact this
theorem splitK_len (sep : List UInt8) (hs : 1 ≤ sep.length) : ∀ (n : Nat) (s : List UInt8), ∀ a ∈ Lib.splitK sep 0 n s, a.length ≤ s.length
  | 0, s, a, h => by simp [Lib.splitK] at h; subst h; exact Nat.le_refl _
  | n + 1, s, a, h => by
    unfold Lib.splitK at h
    split at h
    · simp at h; subst h; exact Nat.le_refl _
    · simp only [List.mem_cons] at h
      rcases h with rfl | h
      · simp only [List.length_take]; omega
      · have := splitK_len sep hs n _ a h
        simp only [List.length_drop] at this
        omega
theorem args_len (r : List UInt8) : ∀ a ∈ argsF r, a.length ≤ r.length := fun a h => by
  unfold argsF at h
  split at h
  · cases h
  · exact splitK_len _ (by decide) _ _ a h
theorem cut_len (l : List UInt8) : (Lib.cut l [32]).1.length ≤ l.length ∧ (Lib.cut l [32]).2.1.length ≤ l.length := by
  by_cases h : (32 : UInt8) ∈ l
  · rcases index1_cases l 32 with ⟨_, h2⟩ | ⟨a, b, rfl, h2, _⟩
    · exact absurd h h2
    · rw [cut_hit 32 a b h2]
      simp
      omega
  · rw [cut_miss 32 l h]
    simp
theorem splitB_two (s : List UInt8) : (Lib.splitB ⟨#[44, 32]⟩ 0 (Lib.countB ⟨s.toArray⟩ ⟨#[44, 32]⟩) ⟨s.toArray⟩).map Value.string = (Lib.splitK [44, 32] 0 (Lib.count s [44, 32]) s).map strV := by
  have h := Lib.splitB_data ⟨#[44, 32]⟩ 0 (Lib.countB ⟨s.toArray⟩ ⟨#[44, 32]⟩) ⟨s.toArray⟩
  rw [show (⟨s.toArray⟩ : ByteArray).data.toList = s by simp] at h
  have h2 : Lib.splitK (⟨#[44, 32]⟩ : ByteArray).data.toList 0 (Lib.countB ⟨s.toArray⟩ ⟨#[44, 32]⟩) s = Lib.splitK [44, 32] 0 (Lib.count s [44, 32]) s := by
    show Lib.splitK [44, 32] 0 (Lib.count (⟨s.toArray⟩ : ByteArray).data.toList [44, 32]) s = _
    simp
  rw [h2] at h
  rw [← h, List.map_map]
  refine List.map_congr_left fun x _ => ?_
  show Value.string x = Value.string ⟨x.data.toList.toArray⟩
  rw [Array.toArray_toList]
theorem split2 (r : List UInt8) (hr : r.length ≤ 4000) (h0 : r ≠ []) (w : World) (hL : Lk w) : Calls Tryd.prog 34 #[.string ⟨r.toArray⟩, .string ⟨#[44, 32]⟩] w fun e w' =>
    e = .returned (.slice (some ⟨w.heap.size, 0, none⟩) (argsF r).length (argsF r).length) ∧ w' = w.alloc (.cells ((argsF r).map strV).toArray 9) := by
  obtain ⟨m, hm⟩ := hL.mx
  refine (Tryd.strings_Split ⟨r.toArray⟩ ⟨#[44, 32]⟩ m w (by rw [Lib.size_eq]; simp; omega) hm (by decide)).mono ?_
  rintro e w' ⟨rfl, rfl⟩
  have hl := congrArg List.length (splitB_two r)
  rw [List.length_map, List.length_map, Lib.splitB_all ⟨#[44, 32]⟩ (by decide) 0 _ ⟨r.toArray⟩ rfl] at hl
  have e : argsF r = Lib.splitK [44, 32] 0 (Lib.count r [44, 32]) r := by unfold argsF; rw [if_neg h0]
  rw [e, ← hl, splitB_two]
  exact ⟨rfl, rfl⟩
end Go.Proofs.YtmpdoiilakjmbaaDoor
