/-
  No cell of these rows narrows 'for every input' (looked for: loops, veiled, ifaces, maps, wideKeys, modest, calm, conditions, laid).
  DERIVED. THE GIVEN ROWS OF THIS SEAT. 5 by the template 'for every input the law returns true; each argument reads behind the call as it read before'; 0 by the template 'total and deterministic' (their statements: YtimccpmdgfneoaaTotals.lean).
  GIVEN WITH THE SEED: the statements are not yours to turn. If you find one false, say at which input.
  Laid BY PROGRAM, IN A SANDBOX (cutbox-rows.mjs): the forced cells as the released guide's own fill.sh prints them over the translation bea2d43a515f2460… (all of the seat's roots in one cut). By AI agents, Wed Nov 11 2026. No macro, syntax, notation, axiom, sorry.
-/
import Derived.Test.YtimccpmdgfneoaaChecked
import GoSem.Claim
import GoSem.ClaimJoined
import GoSem.ClaimMapViews
import Derived.JoinedTies
import Derived.KernelRfl
namespace Go.Proofs.Ytimccpmdgfneoaa
/- THE CELL 'sum', in the pinned program and in every row, IS THE sha256 OF THE DUMP (.gsa) THAT YtimccpmdgfneoaaProg.lean LOADS. Nothing in Lean hashes anything: it is a label: what it is worth is what the hold of that sum in a sandbox is worth. -/
noncomputable def Try.pinned : Pinned := { name := "ytimccpmdgfneoaa", sum := "bea2d43a515f24602516d14e08efff09b7197cc7685252879a89b518e8cb876d", checked := Try.checked }
namespace Rows
def none {H : Type} : Left H := { results := [], args := [] }

/-- 'marqueelaw.BusNew': WHATEVER THE INPUT: true; the input reads as it did. -/
def busNewSpec : ChangeSpec := { name := "busNew", fn := fun _ => fun
  | [d1, d2, d3] => { results := [.lit (.bool true)], args := [d1, d2, d3] }
  | _ => none }
def busNewRow : OpenClaim := { program := "ytimccpmdgfneoaa", sum := "bea2d43a515f24602516d14e08efff09b7197cc7685252879a89b518e8cb876d", func := "marquee/marqueelaw.BusNew", spec := "busNew", unfollowed := true, recurses := true, apart := false }
def BusNewSaid : Prop := busNewRow.holds Try.pinned (OpenSpec.ofChange busNewSpec)

/-- ITS FALSE NEIGHBOUR: 'it returns false'. Refute it at one input. -/
def busNewWrong : ChangeSpec := { name := "busNew", fn := fun _ => fun
  | [d1, d2, d3] => { results := [.lit (.bool false)], args := [d1, d2, d3] }
  | _ => none }
def BusNewWrongFalsely : Prop := busNewRow.holds Try.pinned (OpenSpec.ofChange busNewWrong)

/-- 'marqueelaw.BusReads': WHATEVER THE INPUT: true; the input reads as it did. -/
def busReadsSpec : ChangeSpec := { name := "busReads", fn := fun _ => fun
  | [d1, d2, d3, d4] => { results := [.lit (.bool true)], args := [d1, d2, d3, d4] }
  | _ => none }
def busReadsRow : OpenClaim := { program := "ytimccpmdgfneoaa", sum := "bea2d43a515f24602516d14e08efff09b7197cc7685252879a89b518e8cb876d", func := "marquee/marqueelaw.BusReads", spec := "busReads", unfollowed := true, recurses := true, apart := false }
def BusReadsSaid : Prop := busReadsRow.holds Try.pinned (OpenSpec.ofChange busReadsSpec)

/-- ITS FALSE NEIGHBOUR: 'it returns false'. Refute it at one input. -/
def busReadsWrong : ChangeSpec := { name := "busReads", fn := fun _ => fun
  | [d1, d2, d3, d4] => { results := [.lit (.bool false)], args := [d1, d2, d3, d4] }
  | _ => none }
def BusReadsWrongFalsely : Prop := busReadsRow.holds Try.pinned (OpenSpec.ofChange busReadsWrong)

/-- 'marqueelaw.BusGranted': WHATEVER THE INPUT: true; the input reads as it did. -/
def busGrantedSpec : ChangeSpec := { name := "busGranted", fn := fun _ => fun
  | [d1, d2, d3] => { results := [.lit (.bool true)], args := [d1, d2, d3] }
  | _ => none }
def busGrantedRow : OpenClaim := { program := "ytimccpmdgfneoaa", sum := "bea2d43a515f24602516d14e08efff09b7197cc7685252879a89b518e8cb876d", func := "marquee/marqueelaw.BusGranted", spec := "busGranted", unfollowed := true, recurses := true, apart := false }
def BusGrantedSaid : Prop := busGrantedRow.holds Try.pinned (OpenSpec.ofChange busGrantedSpec)

/-- ITS FALSE NEIGHBOUR: 'it returns false'. Refute it at one input. -/
def busGrantedWrong : ChangeSpec := { name := "busGranted", fn := fun _ => fun
  | [d1, d2, d3] => { results := [.lit (.bool false)], args := [d1, d2, d3] }
  | _ => none }
def BusGrantedWrongFalsely : Prop := busGrantedRow.holds Try.pinned (OpenSpec.ofChange busGrantedWrong)

/-- 'marqueelaw.BusBack': WHATEVER THE INPUT: true; the input reads as it did. -/
def busBackSpec : ChangeSpec := { name := "busBack", fn := fun _ => fun
  | [d1, d2, d3] => { results := [.lit (.bool true)], args := [d1, d2, d3] }
  | _ => none }
def busBackRow : OpenClaim := { program := "ytimccpmdgfneoaa", sum := "bea2d43a515f24602516d14e08efff09b7197cc7685252879a89b518e8cb876d", func := "marquee/marqueelaw.BusBack", spec := "busBack", unfollowed := true, recurses := true, apart := false }
def BusBackSaid : Prop := busBackRow.holds Try.pinned (OpenSpec.ofChange busBackSpec)

/-- ITS FALSE NEIGHBOUR: 'it returns false'. Refute it at one input. -/
def busBackWrong : ChangeSpec := { name := "busBack", fn := fun _ => fun
  | [d1, d2, d3] => { results := [.lit (.bool false)], args := [d1, d2, d3] }
  | _ => none }
def BusBackWrongFalsely : Prop := busBackRow.holds Try.pinned (OpenSpec.ofChange busBackWrong)

/-- 'marqueelaw.BusProgram': WHATEVER THE INPUT: true; the input reads as it did. -/
def busProgramSpec : ChangeSpec := { name := "busProgram", fn := fun _ => fun
  | [d1, d2, d3, d4] => { results := [.lit (.bool true)], args := [d1, d2, d3, d4] }
  | _ => none }
def busProgramRow : OpenClaim := { program := "ytimccpmdgfneoaa", sum := "bea2d43a515f24602516d14e08efff09b7197cc7685252879a89b518e8cb876d", func := "marquee/marqueelaw.BusProgram", spec := "busProgram", unfollowed := true, recurses := true, apart := false }
def BusProgramSaid : Prop := busProgramRow.holds Try.pinned (OpenSpec.ofChange busProgramSpec)

/-- ITS FALSE NEIGHBOUR: 'it returns false'. Refute it at one input. -/
def busProgramWrong : ChangeSpec := { name := "busProgram", fn := fun _ => fun
  | [d1, d2, d3, d4] => { results := [.lit (.bool false)], args := [d1, d2, d3, d4] }
  | _ => none }
def BusProgramWrongFalsely : Prop := busProgramRow.holds Try.pinned (OpenSpec.ofChange busProgramWrong)

/- THE SECOND FORM. 'bulk': how many values and letters a reading holds, each counted each time it is reached (what is shared counts as often as it is met; a slice's spare places count too). A statement '..UptoSaid' is the law's where the arguments, and the package variables that the reading takes, are together of bulk at most 1048576: NARROWER than '..Said'. Prove '..Said' where nothing that the law and all that it calls make is longer than what came in: it says more and counts as full. Else prove '..UptoSaid'. A law counts once. -/
mutual
def uptoBulk {H : Type} : DataW H → Nat
  | .lit (.string bytes) => bytes.length + 1
  | .lit _ => 1
  | .nil => 1
  | .ptr d => uptoBulk d + 1
  | .slice elems spare => uptoBulkAll elems + uptoBulkAll spare + 1
  | .agg parts => uptoBulkAll parts + 1
  | .iface _ d => uptoBulk d + 1
  | .map entries => uptoBulkEntries entries + 1
  | .held _ => 1
def uptoBulkAll {H : Type} : List (DataW H) → Nat
  | [] => 0
  | d :: r => uptoBulk d + uptoBulkAll r
def uptoBulkEntries {H : Type} : List (Lit × DataW H) → Nat
  | [] => 0
  | x :: r => uptoBulkEntry x + uptoBulkEntries r
def uptoBulkEntry {H : Type} : Lit × DataW H → Nat
  | (.string bytes, d) => bytes.length + uptoBulk d + 1
  | (_, d) => uptoBulk d + 1
 end
def uptoSmall : (H : Type) → List (DataW H) → Bool := fun _ ds => decide (uptoBulkAll ds ≤ 1048576)
def OpenSpec.upto (s : _root_.Go.ChangeSpec) : _root_.Go.OpenSpec := { _root_.Go.OpenSpec.ofChange s with cond := some uptoSmall }

/-- 'marqueelaw.BusNew', WHERE WHAT IT READS IS OF BULK AT MOST 1048576: true; the input reads as it did. -/
def busNewUptoRow : OpenClaim := { program := "ytimccpmdgfneoaa", sum := "bea2d43a515f24602516d14e08efff09b7197cc7685252879a89b518e8cb876d", func := "marquee/marqueelaw.BusNew", spec := "busNew", unfollowed := true, recurses := true, apart := false, narrowed := true }
def BusNewUptoSaid : Prop := busNewUptoRow.holds Try.pinned (OpenSpec.upto busNewSpec)

/-- 'marqueelaw.BusReads', WHERE WHAT IT READS IS OF BULK AT MOST 1048576: true; the input reads as it did. -/
def busReadsUptoRow : OpenClaim := { program := "ytimccpmdgfneoaa", sum := "bea2d43a515f24602516d14e08efff09b7197cc7685252879a89b518e8cb876d", func := "marquee/marqueelaw.BusReads", spec := "busReads", unfollowed := true, recurses := true, apart := false, narrowed := true }
def BusReadsUptoSaid : Prop := busReadsUptoRow.holds Try.pinned (OpenSpec.upto busReadsSpec)

/-- 'marqueelaw.BusGranted', WHERE WHAT IT READS IS OF BULK AT MOST 1048576: true; the input reads as it did. -/
def busGrantedUptoRow : OpenClaim := { program := "ytimccpmdgfneoaa", sum := "bea2d43a515f24602516d14e08efff09b7197cc7685252879a89b518e8cb876d", func := "marquee/marqueelaw.BusGranted", spec := "busGranted", unfollowed := true, recurses := true, apart := false, narrowed := true }
def BusGrantedUptoSaid : Prop := busGrantedUptoRow.holds Try.pinned (OpenSpec.upto busGrantedSpec)

/-- 'marqueelaw.BusBack', WHERE WHAT IT READS IS OF BULK AT MOST 1048576: true; the input reads as it did. -/
def busBackUptoRow : OpenClaim := { program := "ytimccpmdgfneoaa", sum := "bea2d43a515f24602516d14e08efff09b7197cc7685252879a89b518e8cb876d", func := "marquee/marqueelaw.BusBack", spec := "busBack", unfollowed := true, recurses := true, apart := false, narrowed := true }
def BusBackUptoSaid : Prop := busBackUptoRow.holds Try.pinned (OpenSpec.upto busBackSpec)

/-- 'marqueelaw.BusProgram', WHERE WHAT IT READS IS OF BULK AT MOST 1048576: true; the input reads as it did. -/
def busProgramUptoRow : OpenClaim := { program := "ytimccpmdgfneoaa", sum := "bea2d43a515f24602516d14e08efff09b7197cc7685252879a89b518e8cb876d", func := "marquee/marqueelaw.BusProgram", spec := "busProgram", unfollowed := true, recurses := true, apart := false, narrowed := true }
def BusProgramUptoSaid : Prop := busProgramUptoRow.holds Try.pinned (OpenSpec.upto busProgramSpec)

end Rows
end Go.Proofs.Ytimccpmdgfneoaa
