/- Any port, by the program and by the document, in one form. Conditions: the fields are words, bytes, truths. -/
import Derived.Test.YtmppkjkmocecmaaGreatDoorSq
import Derived.Test.YtmppkjkmocecmaaGreatDoorP22
import Derived.Test.YtmppkjkmocecmaaGreatDoorP21
import Derived.Test.YtmppkjkmocecmaaGreatDoorP09
namespace Go.Proofs.YtmppkjkmocecmaaGreatDoor
open Go.RowKit Go.Mq
set_option linter.unusedVariables false
set_option linter.unusedSimpArgs false
set_option maxHeartbeats 1000000
set_option maxRecDepth 100000
theorem putAll_any (s : Sd) (hs : s.In) (k b : Int) (h0 : 0 ≤ k) (h1 : k < 24) (hb : U8 b) (w : World) :
  Calls Tryz.prog 110 #[.agg #[.int .u16 s.a.pd, .int .u16 s.a.ct, .int .u8 s.a.ld, .bool s.a.hi, .int .u16 s.a.nz, .int .u16 s.b.pd, .int .u16 s.b.ct, .int .u8 s.b.ld, .bool s.b.hi, .int .u16 s.b.nz, .int .u16 s.c.pd, .int .u16 s.c.ct, .int .u8 s.c.ld, .bool s.c.hi, .int .u16 s.c.nz, .int .i64 s.wt], .int .i64 k, .int .u8 b] w fun e w' => e = .returned (.tuple #[.agg #[.int .u16 ((putS s k b).a).pd, .int .u16 ((putS s k b).a).ct, .int .u8 ((putS s k b).a).ld, .bool ((putS s k b).a).hi, .int .u16 ((putS s k b).a).nz, .int .u16 ((putS s k b).b).pd, .int .u16 ((putS s k b).b).ct, .int .u8 ((putS s k b).b).ld, .bool ((putS s k b).b).hi, .int .u16 ((putS s k b).b).nz, .int .u16 ((putS s k b).c).pd, .int .u16 ((putS s k b).c).ct, .int .u8 ((putS s k b).c).ld, .bool ((putS s k b).c).hi, .int .u16 ((putS s k b).c).nz, .int .i64 (putS s k b).wt], .int .i64 0]) ∧ Below w.heap.size w w' := by
 exact putg s hs b hb (k / 8).toNat kO k (k % 8) kO kO w
end Go.Proofs.YtmppkjkmocecmaaGreatDoor
