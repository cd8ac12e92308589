/- The lines of a text counted: bytes.Count at one byte. Conditions: the bytes lie in memory. -/
import Derived.Test.YtmpdoiilakjmbaaDoorBase
import Derived.Test.YtmpdoiilakjmbaaDoorRows
import Derived.Test.YtmpdoiilakjmbaaDoorBase2
import Derived.Laws.IdiomStrings
import Derived.Lib.Bytes
import Derived.Lib.SlBytesConst
import Derived.Test.YtmpdoiilakjmbaaDoorShelf
namespace Go.Proofs.YtmpdoiilakjmbaaDoor
open Go.RowKit Go.Mq
set_option linter.unusedVariables false
set_option linter.unusedSimpArgs false
set_option maxHeartbeats 2000000
set_option maxRecDepth 100000
theorem cnt_any (h : List UInt8) (b c b2 d : Nat) (W : World) (hc : ∀ i, i < h.length → W.cell? ⟨b, i, none⟩ = some (.int .u8 ((h.map (fun b => (b.toNat : Int))).getD i 0))) (hc2 : W.cell? ⟨b2, 0, none⟩ = some (.int .u8 10)) :
    Calls Tryd.prog 9 #[.slice (some ⟨b, 0, none⟩) h.length c, .slice (some ⟨b2, 0, none⟩) 1 d] W fun e w' => e = .returned (.int .i64 (h.count 10 : Nat)) ∧ w' = W := by
  have := Tryd.bytes_Count_one b 0 h.length c b2 0 d (h.map (fun b => (b.toNat : Int))) 10 W (by simp) (fun i hi => by rw [Nat.zero_add]; exact hc i hi) hc2
  have e : Lib.bytesOf (h.map (fun b => (b.toNat : Int))) = h := by
    unfold Lib.bytesOf
    rw [List.map_map]
    conv => rhs; rw [← List.map_id h]
    exact List.map_congr_left (fun a _ => by simp)
  rw [e] at this
  exact this
theorem cell_r2 (W : World) (cs : Array Value) (t : TypeId) (f : Nat × Nat) (n i : Nat) (hn : n = W.heap.size) : (W.alloc (.cells cs t f)).cell? ⟨n, i, none⟩ = cs[i]? := by
  subst hn
  have h := (MapKept.heap_alloc W (.cells cs t f)).1
  simp only [World.cell?]
  rw [h]
  rfl
theorem cell_r3 (W : World) (o : Obj) (n i : Nat) (hn : n < W.heap.size) : (W.alloc o).cell? ⟨n, i, none⟩ = W.cell? ⟨n, i, none⟩ := by
  simp only [World.cell?]
  rw [(MapKept.heap_alloc W o).2 n hn]
theorem conv_ten (w : World) (o : Obj) : (convert 22 22 (.slice (some ⟨w.heap.size + 1, 0, none⟩) 1 1)).run Tryd.prog (((w.alloc o).alloc (.cells #[.int .u8 10] 5)).drew) = .ok (.slice (some ⟨w.heap.size + 1, 0, none⟩) 1 1) (((w.alloc o).alloc (.cells #[.int .u8 10] 5 (1, 2))).drew) := by
  have h := Lib.run_convert_bytes_const (P := Tryd.prog) (w.drew.alloc o) 22 5 #[.int .u8 10] 1 1 Tryd.underlying22 Tryd.underlying5
  have hs : (w.drew.alloc o).heap.size = w.heap.size + 1 := by
    show (w.heap.push o).size = _
    simp
  rw [hs] at h
  exact h
theorem cnt_all (h : List UInt8) (w : World) (cap : Nat) (f : Nat × Nat) (d : Nat) : Calls Tryd.prog 9 #[.slice (some ⟨w.heap.size, 0, none⟩) h.length d, .slice (some ⟨w.heap.size + 1, 0, none⟩) 1 1] (((w.alloc (.cells (bytesRow ⟨h.toArray⟩ cap) 5 f)).alloc (.cells #[.int .u8 10] 5 (1, 2))).drew) fun e w' => e = .returned (.int .i64 (h.count 10 : Nat)) ∧ w' = (((w.alloc (.cells (bytesRow ⟨h.toArray⟩ cap) 5 f)).alloc (.cells #[.int .u8 10] 5 (1, 2))).drew) := by
  refine cnt_any h _ _ _ _ _ (fun i hi => ?_) ?_
  · show ((w.alloc (.cells (bytesRow ⟨h.toArray⟩ cap) 5 f)).alloc (.cells #[.int .u8 10] 5 (1, 2))).cell? ⟨w.heap.size, i, none⟩ = _
    rw [cell_r3 _ _ _ _ (by simp), cell_r2 _ _ _ _ _ _ rfl, bytesRow_at _ _ i (by simpa using hi)]
    simp [List.getD_eq_getElem?_getD, List.getElem?_map, List.getElem?_eq_getElem hi]
  · show ((w.alloc (.cells (bytesRow ⟨h.toArray⟩ cap) 5 f)).alloc (.cells #[.int .u8 10] 5 (1, 2))).cell? ⟨w.heap.size + 1, 0, none⟩ = _
    rw [cell_r2 _ _ _ _ _ _ (by simp)]
    rfl
end Go.Proofs.YtmpdoiilakjmbaaDoor
