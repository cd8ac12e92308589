/- Any port, by the program and by the document, in one form. Conditions: the fields are words, bytes, truths. -/
import Derived.Test.YtimccpmdgfneoaaTonePutA
import Derived.Test.YtimccpmdgfneoaaTonePutB
import Derived.Test.YtimccpmdgfneoaaTonePutC
import Derived.Test.YtimccpmdgfneoaaBxPure
namespace Go.Proofs.Ytimccpmdgfneoaa
open Go.RowKit Go.Mq
set_option linter.unusedVariables false
set_option linter.unusedSimpArgs false
set_option maxHeartbeats 1000000
set_option maxRecDepth 100000
theorem putAll_any (s : Sd) (hs : s.In) (k b : Int) (h0 : 0 ≤ k) (h1 : k < 24) (hb : U8 b) (w : World) :
    Calls Try.prog 58 #[.agg #[.int .u16 s.a.pd, .int .u16 s.a.ct, .int .u8 s.a.ld, .bool s.a.hi, .int .u16 s.a.nz, .int .u16 s.b.pd, .int .u16 s.b.ct, .int .u8 s.b.ld, .bool s.b.hi, .int .u16 s.b.nz, .int .u16 s.c.pd, .int .u16 s.c.ct, .int .u8 s.c.ld, .bool s.c.hi, .int .u16 s.c.nz, .int .i64 s.wt], .int .i64 k, .int .u8 b] w fun e w' => e = .returned (.tuple #[.agg #[.int .u16 ((putS s k b).a).pd, .int .u16 ((putS s k b).a).ct, .int .u8 ((putS s k b).a).ld, .bool ((putS s k b).a).hi, .int .u16 ((putS s k b).a).nz, .int .u16 ((putS s k b).b).pd, .int .u16 ((putS s k b).b).ct, .int .u8 ((putS s k b).b).ld, .bool ((putS s k b).b).hi, .int .u16 ((putS s k b).b).nz, .int .u16 ((putS s k b).c).pd, .int .u16 ((putS s k b).c).ct, .int .u8 ((putS s k b).c).ld, .bool ((putS s k b).c).hi, .int .u16 ((putS s k b).c).nz, .int .i64 (putS s k b).wt], .int .i64 0]) ∧ Below w.heap.size w w' := by
  rcases (by omega : k = 0 ∨ k = 1 ∨ k = 2 ∨ k = 3 ∨ k = 4 ∨ k = 5 ∨ k = 6 ∨ k = 7 ∨ k = 8 ∨ k = 9 ∨ k = 10 ∨ k = 11 ∨ k = 12 ∨ k = 13 ∨ k = 14 ∨ k = 15 ∨ k = 16 ∨ k = 17 ∨ k = 18 ∨ k = 19 ∨ k = 20 ∨ k = 21 ∨ k = 22 ∨ k = 23) with rfl | rfl | rfl | rfl | rfl | rfl | rfl | rfl | rfl | rfl | rfl | rfl | rfl | rfl | rfl | rfl | rfl | rfl | rfl | rfl | rfl | rfl | rfl | rfl
  · exact puta_0 s hs b hb w
  · exact puta_1 s hs b hb w
  · exact puta_2 s hs b hb w
  · exact puta_3 s hs b hb w
  · exact puta_4 s hs b hb w
  · exact puta_5 s hs b hb w
  · exact puta_6 s hs b hb w
  · exact puta_7 s hs b hb w
  · exact puta_8 s hs b hb w
  · exact puta_9 s hs b hb w
  · exact puta_10 s hs b hb w
  · exact puta_11 s hs b hb w
  · exact puta_12 s hs b hb w
  · exact puta_13 s hs b hb w
  · exact puta_14 s hs b hb w
  · exact puta_15 s hs b hb w
  · exact puta_16 s hs b hb w
  · exact puta_17 s hs b hb w
  · exact puta_18 s hs b hb w
  · exact puta_19 s hs b hb w
  · exact puta_20 s hs b hb w
  · exact puta_21 s hs b hb w
  · exact puta_22 s hs b hb w
  · exact puta_23 s hs b hb w
theorem refputAll_any (s : Sd) (hs : s.In) (k b : Int) (h0 : 0 ≤ k) (h1 : k < 24) (hb : U8 b) (w : World) :
    Calls Try.prog 43 #[.agg #[.int .u16 s.a.pd, .int .u16 s.a.ct, .int .u8 s.a.ld, .bool s.a.hi, .int .u16 s.a.nz, .int .u16 s.b.pd, .int .u16 s.b.ct, .int .u8 s.b.ld, .bool s.b.hi, .int .u16 s.b.nz, .int .u16 s.c.pd, .int .u16 s.c.ct, .int .u8 s.c.ld, .bool s.c.hi, .int .u16 s.c.nz, .int .i64 s.wt], .int .i64 k, .int .u8 b] w fun e w' => e = .returned (.agg #[.int .u16 ((putS s k b).a).pd, .int .u16 ((putS s k b).a).ct, .int .u8 ((putS s k b).a).ld, .bool ((putS s k b).a).hi, .int .u16 ((putS s k b).a).nz, .int .u16 ((putS s k b).b).pd, .int .u16 ((putS s k b).b).ct, .int .u8 ((putS s k b).b).ld, .bool ((putS s k b).b).hi, .int .u16 ((putS s k b).b).nz, .int .u16 ((putS s k b).c).pd, .int .u16 ((putS s k b).c).ct, .int .u8 ((putS s k b).c).ld, .bool ((putS s k b).c).hi, .int .u16 ((putS s k b).c).nz, .int .i64 (putS s k b).wt]) ∧ Below w.heap.size w w' := by
  rcases (by omega : k = 0 ∨ k = 1 ∨ k = 2 ∨ k = 3 ∨ k = 4 ∨ k = 5 ∨ k = 6 ∨ k = 7 ∨ k = 8 ∨ k = 9 ∨ k = 10 ∨ k = 11 ∨ k = 12 ∨ k = 13 ∨ k = 14 ∨ k = 15 ∨ k = 16 ∨ k = 17 ∨ k = 18 ∨ k = 19 ∨ k = 20 ∨ k = 21 ∨ k = 22 ∨ k = 23) with rfl | rfl | rfl | rfl | rfl | rfl | rfl | rfl | rfl | rfl | rfl | rfl | rfl | rfl | rfl | rfl | rfl | rfl | rfl | rfl | rfl | rfl | rfl | rfl
  · exact putb_0 s hs b hb w
  · exact putb_1 s hs b hb w
  · exact putb_2 s hs b hb w
  · exact putb_3 s hs b hb w
  · exact putb_4 s hs b hb w
  · exact putb_5 s hs b hb w
  · exact putb_6 s hs b hb w
  · exact putb_7 s hs b hb w
  · exact putb_8 s hs b hb w
  · exact putb_9 s hs b hb w
  · exact putb_10 s hs b hb w
  · exact putb_11 s hs b hb w
  · exact putb_12 s hs b hb w
  · exact putb_13 s hs b hb w
  · exact putb_14 s hs b hb w
  · exact putb_15 s hs b hb w
  · exact putb_16 s hs b hb w
  · exact putb_17 s hs b hb w
  · exact putb_18 s hs b hb w
  · exact putb_19 s hs b hb w
  · exact putb_20 s hs b hb w
  · exact putb_21 s hs b hb w
  · exact putb_22 s hs b hb w
  · exact putb_23 s hs b hb w
end Go.Proofs.Ytimccpmdgfneoaa
