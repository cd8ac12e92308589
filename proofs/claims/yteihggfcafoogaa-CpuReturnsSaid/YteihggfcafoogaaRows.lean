/-
  No cell of these rows narrows 'for every input' (looked for: loops, veiled, ifaces, maps, wideKeys, modest, calm, conditions, laid).
  DERIVED. THE GIVEN ROWS OF THIS SEAT. 3 by the template 'for every input the law returns true; each argument reads behind the call as it read before'; 0 by the template 'total and deterministic' (their statements: YteihggfcafoogaaTotals.lean).
  GIVEN WITH THE SEED: the statements are not yours to turn. If you find one false, say at which input.
  Laid BY PROGRAM, IN A SANDBOX (cutbox-rows.mjs): the forced cells as the released guide's own fill.sh prints them over the translation 48757e4adc2b5b99… (all of the seat's roots in one cut). By AI agents, Wed Nov 11 2026. No macro, syntax, notation, axiom, sorry.
-/
import Derived.Test.YteihggfcafoogaaChecked
import GoSem.Claim
import GoSem.ClaimJoined
import GoSem.ClaimMapViews
import Derived.JoinedTies
import Derived.KernelRfl
namespace Go.Proofs.Yteihggfcafoogaa
/- THE CELL 'sum', in the pinned program and in every row, IS THE sha256 OF THE DUMP (.gsa) THAT YteihggfcafoogaaProg.lean LOADS. Nothing in Lean hashes anything: it is a label: what it is worth is what the hold of that sum in a sandbox is worth. -/
noncomputable def Try.pinned : Pinned := { name := "yteihggfcafoogaa", sum := "48757e4adc2b5b99743082dbd79d71dbc30ce6eb560435e93a680d2bbab9fcae", checked := Try.checked }
namespace Rows
def none {H : Type} : Left H := { results := [], args := [] }

/-- 'marqueelaw.CpuOn': WHATEVER THE INPUT: true; the input reads as it did. -/
def cpuOnSpec : ChangeSpec := { name := "cpuOn", fn := fun _ => fun
  | [d1, d2, d3] => { results := [.lit (.bool true)], args := [d1, d2, d3] }
  | _ => none }
def cpuOnRow : OpenClaim := { program := "yteihggfcafoogaa", sum := "48757e4adc2b5b99743082dbd79d71dbc30ce6eb560435e93a680d2bbab9fcae", func := "marquee/marqueelaw.CpuOn", spec := "cpuOn", unfollowed := true, recurses := true, apart := false }
def CpuOnSaid : Prop := cpuOnRow.holds Try.pinned (OpenSpec.ofChange cpuOnSpec)

/-- ITS FALSE NEIGHBOUR: 'it returns false'. Refute it at one input. -/
def cpuOnWrong : ChangeSpec := { name := "cpuOn", fn := fun _ => fun
  | [d1, d2, d3] => { results := [.lit (.bool false)], args := [d1, d2, d3] }
  | _ => none }
def CpuOnWrongFalsely : Prop := cpuOnRow.holds Try.pinned (OpenSpec.ofChange cpuOnWrong)

/-- 'marqueelaw.CpuReturns': WHATEVER THE INPUT: true; the input reads as it did. -/
def cpuReturnsSpec : ChangeSpec := { name := "cpuReturns", fn := fun _ => fun
  | [d1, d2] => { results := [.lit (.bool true)], args := [d1, d2] }
  | _ => none }
def cpuReturnsRow : OpenClaim := { program := "yteihggfcafoogaa", sum := "48757e4adc2b5b99743082dbd79d71dbc30ce6eb560435e93a680d2bbab9fcae", func := "marquee/marqueelaw.CpuReturns", spec := "cpuReturns", unfollowed := true, recurses := true, apart := false }
def CpuReturnsSaid : Prop := cpuReturnsRow.holds Try.pinned (OpenSpec.ofChange cpuReturnsSpec)

/-- ITS FALSE NEIGHBOUR: 'it returns false'. Refute it at one input. -/
def cpuReturnsWrong : ChangeSpec := { name := "cpuReturns", fn := fun _ => fun
  | [d1, d2] => { results := [.lit (.bool false)], args := [d1, d2] }
  | _ => none }
def CpuReturnsWrongFalsely : Prop := cpuReturnsRow.holds Try.pinned (OpenSpec.ofChange cpuReturnsWrong)

/-- 'marqueelaw.CpuQuiet': WHATEVER THE INPUT: true; the input reads as it did. -/
def cpuQuietSpec : ChangeSpec := { name := "cpuQuiet", fn := fun _ => fun
  | [d1, d2, d3] => { results := [.lit (.bool true)], args := [d1, d2, d3] }
  | _ => none }
def cpuQuietRow : OpenClaim := { program := "yteihggfcafoogaa", sum := "48757e4adc2b5b99743082dbd79d71dbc30ce6eb560435e93a680d2bbab9fcae", func := "marquee/marqueelaw.CpuQuiet", spec := "cpuQuiet", unfollowed := true, recurses := true, apart := false }
def CpuQuietSaid : Prop := cpuQuietRow.holds Try.pinned (OpenSpec.ofChange cpuQuietSpec)

/-- ITS FALSE NEIGHBOUR: 'it returns false'. Refute it at one input. -/
def cpuQuietWrong : ChangeSpec := { name := "cpuQuiet", fn := fun _ => fun
  | [d1, d2, d3] => { results := [.lit (.bool false)], args := [d1, d2, d3] }
  | _ => none }
def CpuQuietWrongFalsely : Prop := cpuQuietRow.holds Try.pinned (OpenSpec.ofChange cpuQuietWrong)

/- THE SECOND FORM. 'bulk': how many values and letters a reading holds, each counted each time it is reached (what is shared counts as often as it is met; a slice's spare places count too). A statement '..UptoSaid' is the law's where the arguments, and the package variables that the reading takes, are together of bulk at most 1048576: NARROWER than '..Said'. Prove '..Said' where nothing that the law and all that it calls make is longer than what came in: it says more and counts as full. Else prove '..UptoSaid'. A law counts once. -/
mutual
def uptoBulk {H : Type} : DataW H → Nat
  | .lit (.string bytes) => bytes.length + 1
  | .lit _ => 1
  | .nil => 1
  | .ptr d => uptoBulk d + 1
  | .slice elems spare => uptoBulkAll elems + uptoBulkAll spare + 1
  | .agg parts => uptoBulkAll parts + 1
  | .iface _ d => uptoBulk d + 1
  | .map entries => uptoBulkEntries entries + 1
  | .held _ => 1
def uptoBulkAll {H : Type} : List (DataW H) → Nat
  | [] => 0
  | d :: r => uptoBulk d + uptoBulkAll r
def uptoBulkEntries {H : Type} : List (Lit × DataW H) → Nat
  | [] => 0
  | x :: r => uptoBulkEntry x + uptoBulkEntries r
def uptoBulkEntry {H : Type} : Lit × DataW H → Nat
  | (.string bytes, d) => bytes.length + uptoBulk d + 1
  | (_, d) => uptoBulk d + 1
 end
def uptoSmall : (H : Type) → List (DataW H) → Bool := fun _ ds => decide (uptoBulkAll ds ≤ 1048576)
def OpenSpec.upto (s : _root_.Go.ChangeSpec) : _root_.Go.OpenSpec := { _root_.Go.OpenSpec.ofChange s with cond := some uptoSmall }

/-- 'marqueelaw.CpuOn', WHERE WHAT IT READS IS OF BULK AT MOST 1048576: true; the input reads as it did. -/
def cpuOnUptoRow : OpenClaim := { program := "yteihggfcafoogaa", sum := "48757e4adc2b5b99743082dbd79d71dbc30ce6eb560435e93a680d2bbab9fcae", func := "marquee/marqueelaw.CpuOn", spec := "cpuOn", unfollowed := true, recurses := true, apart := false, narrowed := true }
def CpuOnUptoSaid : Prop := cpuOnUptoRow.holds Try.pinned (OpenSpec.upto cpuOnSpec)

/-- 'marqueelaw.CpuReturns', WHERE WHAT IT READS IS OF BULK AT MOST 1048576: true; the input reads as it did. -/
def cpuReturnsUptoRow : OpenClaim := { program := "yteihggfcafoogaa", sum := "48757e4adc2b5b99743082dbd79d71dbc30ce6eb560435e93a680d2bbab9fcae", func := "marquee/marqueelaw.CpuReturns", spec := "cpuReturns", unfollowed := true, recurses := true, apart := false, narrowed := true }
def CpuReturnsUptoSaid : Prop := cpuReturnsUptoRow.holds Try.pinned (OpenSpec.upto cpuReturnsSpec)

/-- 'marqueelaw.CpuQuiet', WHERE WHAT IT READS IS OF BULK AT MOST 1048576: true; the input reads as it did. -/
def cpuQuietUptoRow : OpenClaim := { program := "yteihggfcafoogaa", sum := "48757e4adc2b5b99743082dbd79d71dbc30ce6eb560435e93a680d2bbab9fcae", func := "marquee/marqueelaw.CpuQuiet", spec := "cpuQuiet", unfollowed := true, recurses := true, apart := false, narrowed := true }
def CpuQuietUptoSaid : Prop := cpuQuietUptoRow.holds Try.pinned (OpenSpec.upto cpuQuietSpec)

end Rows
end Go.Proofs.Yteihggfcafoogaa
