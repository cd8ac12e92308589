/-
  No cell of these rows narrows 'for every input' (looked for: loops, veiled, ifaces, maps, wideKeys, modest, calm, conditions, laid).
  DERIVED. THE GIVEN ROWS OF THIS SEAT. 12 by the template 'for every input the law returns true; each argument reads behind the call as it read before'; 0 by the template 'total and deterministic' (their statements: YtegilgnpkcjhpaaTotals.lean).
  GIVEN WITH THE SEED: the statements are not yours to turn. If you find one false, say at which input.
  Laid BY PROGRAM, IN A SANDBOX (cutbox-rows.mjs): the forced cells as the released guide's own fill.sh prints them over the translation 9ae5ea1a282b383e… (all of the seat's roots in one cut). By AI agents, Wed Nov 11 2026. No macro, syntax, notation, axiom, sorry.
-/
import Derived.Test.YtegilgnpkcjhpaaChecked
import GoSem.Claim
import GoSem.ClaimJoined
import GoSem.ClaimMapViews
import Derived.JoinedTies
import Derived.KernelRfl
namespace Go.Proofs.Ytegilgnpkcjhpaa
/- THE CELL 'sum', in the pinned program and in every row, IS THE sha256 OF THE DUMP (.gsa) THAT YtegilgnpkcjhpaaProg.lean LOADS. Nothing in Lean hashes anything: it is a label: what it is worth is what the hold of that sum in a sandbox is worth. -/
noncomputable def Try.pinned : Pinned := { name := "ytegilgnpkcjhpaa", sum := "9ae5ea1a282b383efcdaf652fd0c1d6aa891ff50b90cc88d695167d82038362d", checked := Try.checked }
namespace Rows
def none {H : Type} : Left H := { results := [], args := [] }

/-- 'marqueelaw.WordTurns': WHATEVER THE INPUT: true; the input reads as it did. -/
def wordTurnsSpec : ChangeSpec := { name := "wordTurns", fn := fun _ => fun
  | [d1, d2] => { results := [.lit (.bool true)], args := [d1, d2] }
  | _ => none }
def wordTurnsRow : OpenClaim := { program := "ytegilgnpkcjhpaa", sum := "9ae5ea1a282b383efcdaf652fd0c1d6aa891ff50b90cc88d695167d82038362d", func := "marquee/marqueelaw.WordTurns", spec := "wordTurns", apart := false }
def WordTurnsSaid : Prop := wordTurnsRow.holds Try.pinned (OpenSpec.ofChange wordTurnsSpec)

/-- ITS FALSE NEIGHBOUR: 'it returns false'. Refute it at one input. -/
def wordTurnsWrong : ChangeSpec := { name := "wordTurns", fn := fun _ => fun
  | [d1, d2] => { results := [.lit (.bool false)], args := [d1, d2] }
  | _ => none }
def WordTurnsWrongFalsely : Prop := wordTurnsRow.holds Try.pinned (OpenSpec.ofChange wordTurnsWrong)

/-- 'marqueelaw.WordSigned': WHATEVER THE INPUT: true; the input reads as it did. -/
def wordSignedSpec : ChangeSpec := { name := "wordSigned", fn := fun _ => fun
  | [d1, d2, d3, d4] => { results := [.lit (.bool true)], args := [d1, d2, d3, d4] }
  | _ => none }
def wordSignedRow : OpenClaim := { program := "ytegilgnpkcjhpaa", sum := "9ae5ea1a282b383efcdaf652fd0c1d6aa891ff50b90cc88d695167d82038362d", func := "marquee/marqueelaw.WordSigned", spec := "wordSigned", apart := false }
def WordSignedSaid : Prop := wordSignedRow.holds Try.pinned (OpenSpec.ofChange wordSignedSpec)

/-- ITS FALSE NEIGHBOUR: 'it returns false'. Refute it at one input. -/
def wordSignedWrong : ChangeSpec := { name := "wordSigned", fn := fun _ => fun
  | [d1, d2, d3, d4] => { results := [.lit (.bool false)], args := [d1, d2, d3, d4] }
  | _ => none }
def WordSignedWrongFalsely : Prop := wordSignedRow.holds Try.pinned (OpenSpec.ofChange wordSignedWrong)

/-- 'marqueelaw.TimerParts': WHATEVER THE INPUT: true; the input reads as it did. -/
def timerPartsSpec : ChangeSpec := { name := "timerParts", fn := fun _ => fun
  | [d1, d2, d3] => { results := [.lit (.bool true)], args := [d1, d2, d3] }
  | _ => none }
def timerPartsRow : OpenClaim := { program := "ytegilgnpkcjhpaa", sum := "9ae5ea1a282b383efcdaf652fd0c1d6aa891ff50b90cc88d695167d82038362d", func := "marquee/marqueelaw.TimerParts", spec := "timerParts", unfollowed := true, recurses := true, apart := false }
def TimerPartsSaid : Prop := timerPartsRow.holds Try.pinned (OpenSpec.ofChange timerPartsSpec)

/-- ITS FALSE NEIGHBOUR: 'it returns false'. Refute it at one input. -/
def timerPartsWrong : ChangeSpec := { name := "timerParts", fn := fun _ => fun
  | [d1, d2, d3] => { results := [.lit (.bool false)], args := [d1, d2, d3] }
  | _ => none }
def TimerPartsWrongFalsely : Prop := timerPartsRow.holds Try.pinned (OpenSpec.ofChange timerPartsWrong)

/-- 'marqueelaw.TimerRings': WHATEVER THE INPUT: true; the input reads as it did. -/
def timerRingsSpec : ChangeSpec := { name := "timerRings", fn := fun _ => fun
  | [d1, d2] => { results := [.lit (.bool true)], args := [d1, d2] }
  | _ => none }
def timerRingsRow : OpenClaim := { program := "ytegilgnpkcjhpaa", sum := "9ae5ea1a282b383efcdaf652fd0c1d6aa891ff50b90cc88d695167d82038362d", func := "marquee/marqueelaw.TimerRings", spec := "timerRings", unfollowed := true, recurses := true, apart := false }
def TimerRingsSaid : Prop := timerRingsRow.holds Try.pinned (OpenSpec.ofChange timerRingsSpec)

/-- ITS FALSE NEIGHBOUR: 'it returns false'. Refute it at one input. -/
def timerRingsWrong : ChangeSpec := { name := "timerRings", fn := fun _ => fun
  | [d1, d2] => { results := [.lit (.bool false)], args := [d1, d2] }
  | _ => none }
def TimerRingsWrongFalsely : Prop := timerRingsRow.holds Try.pinned (OpenSpec.ofChange timerRingsWrong)

/-- 'marqueelaw.WordSums': WHATEVER THE INPUT: true; the input reads as it did. -/
def wordSumsSpec : ChangeSpec := { name := "wordSums", fn := fun _ => fun
  | [d1, d2, d3] => { results := [.lit (.bool true)], args := [d1, d2, d3] }
  | _ => none }
def wordSumsRow : OpenClaim := { program := "ytegilgnpkcjhpaa", sum := "9ae5ea1a282b383efcdaf652fd0c1d6aa891ff50b90cc88d695167d82038362d", func := "marquee/marqueelaw.WordSums", spec := "wordSums", unfollowed := true, recurses := true, apart := false }
def WordSumsSaid : Prop := wordSumsRow.holds Try.pinned (OpenSpec.ofChange wordSumsSpec)

/-- ITS FALSE NEIGHBOUR: 'it returns false'. Refute it at one input. -/
def wordSumsWrong : ChangeSpec := { name := "wordSums", fn := fun _ => fun
  | [d1, d2, d3] => { results := [.lit (.bool false)], args := [d1, d2, d3] }
  | _ => none }
def WordSumsWrongFalsely : Prop := wordSumsRow.holds Try.pinned (OpenSpec.ofChange wordSumsWrong)

/-- 'marqueelaw.PadSays': WHATEVER THE INPUT: true; the input reads as it did. -/
def padSaysSpec : ChangeSpec := { name := "padSays", fn := fun _ => fun
  | [d1, d2, d3] => { results := [.lit (.bool true)], args := [d1, d2, d3] }
  | _ => none }
def padSaysRow : OpenClaim := { program := "ytegilgnpkcjhpaa", sum := "9ae5ea1a282b383efcdaf652fd0c1d6aa891ff50b90cc88d695167d82038362d", func := "marquee/marqueelaw.PadSays", spec := "padSays", apart := false }
def PadSaysSaid : Prop := padSaysRow.holds Try.pinned (OpenSpec.ofChange padSaysSpec)

/-- ITS FALSE NEIGHBOUR: 'it returns false'. Refute it at one input. -/
def padSaysWrong : ChangeSpec := { name := "padSays", fn := fun _ => fun
  | [d1, d2, d3] => { results := [.lit (.bool false)], args := [d1, d2, d3] }
  | _ => none }
def PadSaysWrongFalsely : Prop := padSaysRow.holds Try.pinned (OpenSpec.ofChange padSaysWrong)

/-- 'marqueelaw.PadTells': WHATEVER THE INPUT: true; the input reads as it did. -/
def padTellsSpec : ChangeSpec := { name := "padTells", fn := fun _ => fun
  | [d1, d2, d3] => { results := [.lit (.bool true)], args := [d1, d2, d3] }
  | _ => none }
def padTellsRow : OpenClaim := { program := "ytegilgnpkcjhpaa", sum := "9ae5ea1a282b383efcdaf652fd0c1d6aa891ff50b90cc88d695167d82038362d", func := "marquee/marqueelaw.PadTells", spec := "padTells", apart := false }
def PadTellsSaid : Prop := padTellsRow.holds Try.pinned (OpenSpec.ofChange padTellsSpec)

/-- ITS FALSE NEIGHBOUR: 'it returns false'. Refute it at one input. -/
def padTellsWrong : ChangeSpec := { name := "padTells", fn := fun _ => fun
  | [d1, d2, d3] => { results := [.lit (.bool false)], args := [d1, d2, d3] }
  | _ => none }
def PadTellsWrongFalsely : Prop := padTellsRow.holds Try.pinned (OpenSpec.ofChange padTellsWrong)

/-- 'marqueelaw.BeamParts': WHATEVER THE INPUT: true; the input reads as it did. -/
def beamPartsSpec : ChangeSpec := { name := "beamParts", fn := fun _ => fun
  | [d1, d2, d3] => { results := [.lit (.bool true)], args := [d1, d2, d3] }
  | _ => none }
def beamPartsRow : OpenClaim := { program := "ytegilgnpkcjhpaa", sum := "9ae5ea1a282b383efcdaf652fd0c1d6aa891ff50b90cc88d695167d82038362d", func := "marquee/marqueelaw.BeamParts", spec := "beamParts", unfollowed := true, recurses := true, apart := false }
def BeamPartsSaid : Prop := beamPartsRow.holds Try.pinned (OpenSpec.ofChange beamPartsSpec)

/-- ITS FALSE NEIGHBOUR: 'it returns false'. Refute it at one input. -/
def beamPartsWrong : ChangeSpec := { name := "beamParts", fn := fun _ => fun
  | [d1, d2, d3] => { results := [.lit (.bool false)], args := [d1, d2, d3] }
  | _ => none }
def BeamPartsWrongFalsely : Prop := beamPartsRow.holds Try.pinned (OpenSpec.ofChange beamPartsWrong)

/-- 'marqueelaw.WordFlags': WHATEVER THE INPUT: true; the input reads as it did. -/
def wordFlagsSpec : ChangeSpec := { name := "wordFlags", fn := fun _ => fun
  | [d1, d2, d3] => { results := [.lit (.bool true)], args := [d1, d2, d3] }
  | _ => none }
def wordFlagsRow : OpenClaim := { program := "ytegilgnpkcjhpaa", sum := "9ae5ea1a282b383efcdaf652fd0c1d6aa891ff50b90cc88d695167d82038362d", func := "marquee/marqueelaw.WordFlags", spec := "wordFlags", unfollowed := true, recurses := true, apart := false }
def WordFlagsSaid : Prop := wordFlagsRow.holds Try.pinned (OpenSpec.ofChange wordFlagsSpec)

/-- ITS FALSE NEIGHBOUR: 'it returns false'. Refute it at one input. -/
def wordFlagsWrong : ChangeSpec := { name := "wordFlags", fn := fun _ => fun
  | [d1, d2, d3] => { results := [.lit (.bool false)], args := [d1, d2, d3] }
  | _ => none }
def WordFlagsWrongFalsely : Prop := wordFlagsRow.holds Try.pinned (OpenSpec.ofChange wordFlagsWrong)

/-- 'marqueelaw.TimerRuns': WHATEVER THE INPUT: true; the input reads as it did. -/
def timerRunsSpec : ChangeSpec := { name := "timerRuns", fn := fun _ => fun
  | [d1, d2, d3] => { results := [.lit (.bool true)], args := [d1, d2, d3] }
  | _ => none }
def timerRunsRow : OpenClaim := { program := "ytegilgnpkcjhpaa", sum := "9ae5ea1a282b383efcdaf652fd0c1d6aa891ff50b90cc88d695167d82038362d", func := "marquee/marqueelaw.TimerRuns", spec := "timerRuns", unfollowed := true, recurses := true, apart := false }
def TimerRunsSaid : Prop := timerRunsRow.holds Try.pinned (OpenSpec.ofChange timerRunsSpec)

/-- ITS FALSE NEIGHBOUR: 'it returns false'. Refute it at one input. -/
def timerRunsWrong : ChangeSpec := { name := "timerRuns", fn := fun _ => fun
  | [d1, d2, d3] => { results := [.lit (.bool false)], args := [d1, d2, d3] }
  | _ => none }
def TimerRunsWrongFalsely : Prop := timerRunsRow.holds Try.pinned (OpenSpec.ofChange timerRunsWrong)

/-- 'marqueelaw.WordBack': WHATEVER THE INPUT: true; the input reads as it did. -/
def wordBackSpec : ChangeSpec := { name := "wordBack", fn := fun _ => fun
  | [d1, d2, d3] => { results := [.lit (.bool true)], args := [d1, d2, d3] }
  | _ => none }
def wordBackRow : OpenClaim := { program := "ytegilgnpkcjhpaa", sum := "9ae5ea1a282b383efcdaf652fd0c1d6aa891ff50b90cc88d695167d82038362d", func := "marquee/marqueelaw.WordBack", spec := "wordBack", apart := false }
def WordBackSaid : Prop := wordBackRow.holds Try.pinned (OpenSpec.ofChange wordBackSpec)

/-- ITS FALSE NEIGHBOUR: 'it returns false'. Refute it at one input. -/
def wordBackWrong : ChangeSpec := { name := "wordBack", fn := fun _ => fun
  | [d1, d2, d3] => { results := [.lit (.bool false)], args := [d1, d2, d3] }
  | _ => none }
def WordBackWrongFalsely : Prop := wordBackRow.holds Try.pinned (OpenSpec.ofChange wordBackWrong)

/-- 'marqueelaw.BeamRuns': WHATEVER THE INPUT: true; the input reads as it did. -/
def beamRunsSpec : ChangeSpec := { name := "beamRuns", fn := fun _ => fun
  | [d1, d2] => { results := [.lit (.bool true)], args := [d1, d2] }
  | _ => none }
def beamRunsRow : OpenClaim := { program := "ytegilgnpkcjhpaa", sum := "9ae5ea1a282b383efcdaf652fd0c1d6aa891ff50b90cc88d695167d82038362d", func := "marquee/marqueelaw.BeamRuns", spec := "beamRuns", unfollowed := true, recurses := true, apart := false }
def BeamRunsSaid : Prop := beamRunsRow.holds Try.pinned (OpenSpec.ofChange beamRunsSpec)

/-- ITS FALSE NEIGHBOUR: 'it returns false'. Refute it at one input. -/
def beamRunsWrong : ChangeSpec := { name := "beamRuns", fn := fun _ => fun
  | [d1, d2] => { results := [.lit (.bool false)], args := [d1, d2] }
  | _ => none }
def BeamRunsWrongFalsely : Prop := beamRunsRow.holds Try.pinned (OpenSpec.ofChange beamRunsWrong)

/- THE SECOND FORM. 'bulk': how many values and letters a reading holds, each counted each time it is reached (what is shared counts as often as it is met; a slice's spare places count too). A statement '..UptoSaid' is the law's where the arguments, and the package variables that the reading takes, are together of bulk at most 1048576: NARROWER than '..Said'. Prove '..Said' where nothing that the law and all that it calls make is longer than what came in: it says more and counts as full. Else prove '..UptoSaid'. A law counts once. -/
mutual
def uptoBulk {H : Type} : DataW H → Nat
  | .lit (.string bytes) => bytes.length + 1
  | .lit _ => 1
  | .nil => 1
  | .ptr d => uptoBulk d + 1
  | .slice elems spare => uptoBulkAll elems + uptoBulkAll spare + 1
  | .agg parts => uptoBulkAll parts + 1
  | .iface _ d => uptoBulk d + 1
  | .map entries => uptoBulkEntries entries + 1
  | .held _ => 1
def uptoBulkAll {H : Type} : List (DataW H) → Nat
  | [] => 0
  | d :: r => uptoBulk d + uptoBulkAll r
def uptoBulkEntries {H : Type} : List (Lit × DataW H) → Nat
  | [] => 0
  | x :: r => uptoBulkEntry x + uptoBulkEntries r
def uptoBulkEntry {H : Type} : Lit × DataW H → Nat
  | (.string bytes, d) => bytes.length + uptoBulk d + 1
  | (_, d) => uptoBulk d + 1
 end
def uptoSmall : (H : Type) → List (DataW H) → Bool := fun _ ds => decide (uptoBulkAll ds ≤ 1048576)
def OpenSpec.upto (s : _root_.Go.ChangeSpec) : _root_.Go.OpenSpec := { _root_.Go.OpenSpec.ofChange s with cond := some uptoSmall }

/-- 'marqueelaw.WordTurns', WHERE WHAT IT READS IS OF BULK AT MOST 1048576: true; the input reads as it did. -/
def wordTurnsUptoRow : OpenClaim := { program := "ytegilgnpkcjhpaa", sum := "9ae5ea1a282b383efcdaf652fd0c1d6aa891ff50b90cc88d695167d82038362d", func := "marquee/marqueelaw.WordTurns", spec := "wordTurns", apart := false, narrowed := true }
def WordTurnsUptoSaid : Prop := wordTurnsUptoRow.holds Try.pinned (OpenSpec.upto wordTurnsSpec)

/-- 'marqueelaw.WordSigned', WHERE WHAT IT READS IS OF BULK AT MOST 1048576: true; the input reads as it did. -/
def wordSignedUptoRow : OpenClaim := { program := "ytegilgnpkcjhpaa", sum := "9ae5ea1a282b383efcdaf652fd0c1d6aa891ff50b90cc88d695167d82038362d", func := "marquee/marqueelaw.WordSigned", spec := "wordSigned", apart := false, narrowed := true }
def WordSignedUptoSaid : Prop := wordSignedUptoRow.holds Try.pinned (OpenSpec.upto wordSignedSpec)

/-- 'marqueelaw.TimerParts', WHERE WHAT IT READS IS OF BULK AT MOST 1048576: true; the input reads as it did. -/
def timerPartsUptoRow : OpenClaim := { program := "ytegilgnpkcjhpaa", sum := "9ae5ea1a282b383efcdaf652fd0c1d6aa891ff50b90cc88d695167d82038362d", func := "marquee/marqueelaw.TimerParts", spec := "timerParts", unfollowed := true, recurses := true, apart := false, narrowed := true }
def TimerPartsUptoSaid : Prop := timerPartsUptoRow.holds Try.pinned (OpenSpec.upto timerPartsSpec)

/-- 'marqueelaw.TimerRings', WHERE WHAT IT READS IS OF BULK AT MOST 1048576: true; the input reads as it did. -/
def timerRingsUptoRow : OpenClaim := { program := "ytegilgnpkcjhpaa", sum := "9ae5ea1a282b383efcdaf652fd0c1d6aa891ff50b90cc88d695167d82038362d", func := "marquee/marqueelaw.TimerRings", spec := "timerRings", unfollowed := true, recurses := true, apart := false, narrowed := true }
def TimerRingsUptoSaid : Prop := timerRingsUptoRow.holds Try.pinned (OpenSpec.upto timerRingsSpec)

/-- 'marqueelaw.WordSums', WHERE WHAT IT READS IS OF BULK AT MOST 1048576: true; the input reads as it did. -/
def wordSumsUptoRow : OpenClaim := { program := "ytegilgnpkcjhpaa", sum := "9ae5ea1a282b383efcdaf652fd0c1d6aa891ff50b90cc88d695167d82038362d", func := "marquee/marqueelaw.WordSums", spec := "wordSums", unfollowed := true, recurses := true, apart := false, narrowed := true }
def WordSumsUptoSaid : Prop := wordSumsUptoRow.holds Try.pinned (OpenSpec.upto wordSumsSpec)

/-- 'marqueelaw.PadSays', WHERE WHAT IT READS IS OF BULK AT MOST 1048576: true; the input reads as it did. -/
def padSaysUptoRow : OpenClaim := { program := "ytegilgnpkcjhpaa", sum := "9ae5ea1a282b383efcdaf652fd0c1d6aa891ff50b90cc88d695167d82038362d", func := "marquee/marqueelaw.PadSays", spec := "padSays", apart := false, narrowed := true }
def PadSaysUptoSaid : Prop := padSaysUptoRow.holds Try.pinned (OpenSpec.upto padSaysSpec)

/-- 'marqueelaw.PadTells', WHERE WHAT IT READS IS OF BULK AT MOST 1048576: true; the input reads as it did. -/
def padTellsUptoRow : OpenClaim := { program := "ytegilgnpkcjhpaa", sum := "9ae5ea1a282b383efcdaf652fd0c1d6aa891ff50b90cc88d695167d82038362d", func := "marquee/marqueelaw.PadTells", spec := "padTells", apart := false, narrowed := true }
def PadTellsUptoSaid : Prop := padTellsUptoRow.holds Try.pinned (OpenSpec.upto padTellsSpec)

/-- 'marqueelaw.BeamParts', WHERE WHAT IT READS IS OF BULK AT MOST 1048576: true; the input reads as it did. -/
def beamPartsUptoRow : OpenClaim := { program := "ytegilgnpkcjhpaa", sum := "9ae5ea1a282b383efcdaf652fd0c1d6aa891ff50b90cc88d695167d82038362d", func := "marquee/marqueelaw.BeamParts", spec := "beamParts", unfollowed := true, recurses := true, apart := false, narrowed := true }
def BeamPartsUptoSaid : Prop := beamPartsUptoRow.holds Try.pinned (OpenSpec.upto beamPartsSpec)

/-- 'marqueelaw.WordFlags', WHERE WHAT IT READS IS OF BULK AT MOST 1048576: true; the input reads as it did. -/
def wordFlagsUptoRow : OpenClaim := { program := "ytegilgnpkcjhpaa", sum := "9ae5ea1a282b383efcdaf652fd0c1d6aa891ff50b90cc88d695167d82038362d", func := "marquee/marqueelaw.WordFlags", spec := "wordFlags", unfollowed := true, recurses := true, apart := false, narrowed := true }
def WordFlagsUptoSaid : Prop := wordFlagsUptoRow.holds Try.pinned (OpenSpec.upto wordFlagsSpec)

/-- 'marqueelaw.TimerRuns', WHERE WHAT IT READS IS OF BULK AT MOST 1048576: true; the input reads as it did. -/
def timerRunsUptoRow : OpenClaim := { program := "ytegilgnpkcjhpaa", sum := "9ae5ea1a282b383efcdaf652fd0c1d6aa891ff50b90cc88d695167d82038362d", func := "marquee/marqueelaw.TimerRuns", spec := "timerRuns", unfollowed := true, recurses := true, apart := false, narrowed := true }
def TimerRunsUptoSaid : Prop := timerRunsUptoRow.holds Try.pinned (OpenSpec.upto timerRunsSpec)

/-- 'marqueelaw.WordBack', WHERE WHAT IT READS IS OF BULK AT MOST 1048576: true; the input reads as it did. -/
def wordBackUptoRow : OpenClaim := { program := "ytegilgnpkcjhpaa", sum := "9ae5ea1a282b383efcdaf652fd0c1d6aa891ff50b90cc88d695167d82038362d", func := "marquee/marqueelaw.WordBack", spec := "wordBack", apart := false, narrowed := true }
def WordBackUptoSaid : Prop := wordBackUptoRow.holds Try.pinned (OpenSpec.upto wordBackSpec)

/-- 'marqueelaw.BeamRuns', WHERE WHAT IT READS IS OF BULK AT MOST 1048576: true; the input reads as it did. -/
def beamRunsUptoRow : OpenClaim := { program := "ytegilgnpkcjhpaa", sum := "9ae5ea1a282b383efcdaf652fd0c1d6aa891ff50b90cc88d695167d82038362d", func := "marquee/marqueelaw.BeamRuns", spec := "beamRuns", unfollowed := true, recurses := true, apart := false, narrowed := true }
def BeamRunsUptoSaid : Prop := beamRunsUptoRow.holds Try.pinned (OpenSpec.upto beamRunsSpec)

end Rows
end Go.Proofs.Ytegilgnpkcjhpaa
