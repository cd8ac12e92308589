/-
  No cell of these rows narrows 'for every input' (looked for: loops, veiled, ifaces, maps, wideKeys, modest, calm, conditions, laid).
  DERIVED. THE GIVEN ROWS OF THIS SEAT. 8 by the template 'for every input the law returns true; each argument reads behind the call as it read before'; 0 by the template 'total and deterministic' (their statements: YtcgigpglpbhakaaTotals.lean).
  GIVEN WITH THE SEED: the statements are not yours to turn. If you find one false, say at which input.
  Laid BY PROGRAM, IN A SANDBOX (cutbox-rows.mjs): the forced cells as the released guide's own fill.sh prints them over the translation 78f20122c8080df3… (all of the seat's roots in one cut). By AI agents, Wed Nov 11 2026. No macro, syntax, notation, axiom, sorry.
-/
import Derived.Test.YtcgigpglpbhakaaChecked
import GoSem.Claim
import GoSem.ClaimJoined
import GoSem.ClaimMapViews
import Derived.JoinedTies
import Derived.KernelRfl
namespace Go.Proofs.Ytcgigpglpbhakaa
/- THE CELL 'sum', in the pinned program and in every row, IS THE sha256 OF THE DUMP (.gsa) THAT YtcgigpglpbhakaaProg.lean LOADS. Nothing in Lean hashes anything: it is a label: what it is worth is what the hold of that sum in a sandbox is worth. -/
noncomputable def Try.pinned : Pinned := { name := "ytcgigpglpbhakaa", sum := "78f20122c8080df3faf2c1ae28d5469aa2b4891a7dc58464beea2f866ccb8da3", checked := Try.checked }
namespace Rows
def none {H : Type} : Left H := { results := [], args := [] }

/-- 'marqueelaw.PictureBehind': WHATEVER THE INPUT: true; the input reads as it did. -/
def pictureBehindSpec : ChangeSpec := { name := "pictureBehind", fn := fun _ => fun
  | [d1, d2] => { results := [.lit (.bool true)], args := [d1, d2] }
  | _ => none }
def pictureBehindRow : OpenClaim := { program := "ytcgigpglpbhakaa", sum := "78f20122c8080df3faf2c1ae28d5469aa2b4891a7dc58464beea2f866ccb8da3", func := "marquee/marqueelaw.PictureBehind", spec := "pictureBehind", apart := false }
def PictureBehindSaid : Prop := pictureBehindRow.holds Try.pinned (OpenSpec.ofChange pictureBehindSpec)

/-- ITS FALSE NEIGHBOUR: 'it returns false'. Refute it at one input. -/
def pictureBehindWrong : ChangeSpec := { name := "pictureBehind", fn := fun _ => fun
  | [d1, d2] => { results := [.lit (.bool false)], args := [d1, d2] }
  | _ => none }
def PictureBehindWrongFalsely : Prop := pictureBehindRow.holds Try.pinned (OpenSpec.ofChange pictureBehindWrong)

/-- 'marqueelaw.PictureMoves': WHATEVER THE INPUT: true; the input reads as it did. -/
def pictureMovesSpec : ChangeSpec := { name := "pictureMoves", fn := fun _ => fun
  | [d1, d2, d3] => { results := [.lit (.bool true)], args := [d1, d2, d3] }
  | _ => none }
def pictureMovesRow : OpenClaim := { program := "ytcgigpglpbhakaa", sum := "78f20122c8080df3faf2c1ae28d5469aa2b4891a7dc58464beea2f866ccb8da3", func := "marquee/marqueelaw.PictureMoves", spec := "pictureMoves", apart := false }
def PictureMovesSaid : Prop := pictureMovesRow.holds Try.pinned (OpenSpec.ofChange pictureMovesSpec)

/-- ITS FALSE NEIGHBOUR: 'it returns false'. Refute it at one input. -/
def pictureMovesWrong : ChangeSpec := { name := "pictureMoves", fn := fun _ => fun
  | [d1, d2, d3] => { results := [.lit (.bool false)], args := [d1, d2, d3] }
  | _ => none }
def PictureMovesWrongFalsely : Prop := pictureMovesRow.holds Try.pinned (OpenSpec.ofChange pictureMovesWrong)

/-- 'marqueelaw.ToneRuns': WHATEVER THE INPUT: true; the input reads as it did. -/
def toneRunsSpec : ChangeSpec := { name := "toneRuns", fn := fun _ => fun
  | [d1, d2, d3] => { results := [.lit (.bool true)], args := [d1, d2, d3] }
  | _ => none }
def toneRunsRow : OpenClaim := { program := "ytcgigpglpbhakaa", sum := "78f20122c8080df3faf2c1ae28d5469aa2b4891a7dc58464beea2f866ccb8da3", func := "marquee/marqueelaw.ToneRuns", spec := "toneRuns", apart := false }
def ToneRunsSaid : Prop := toneRunsRow.holds Try.pinned (OpenSpec.ofChange toneRunsSpec)

/-- ITS FALSE NEIGHBOUR: 'it returns false'. Refute it at one input. -/
def toneRunsWrong : ChangeSpec := { name := "toneRuns", fn := fun _ => fun
  | [d1, d2, d3] => { results := [.lit (.bool false)], args := [d1, d2, d3] }
  | _ => none }
def ToneRunsWrongFalsely : Prop := toneRunsRow.holds Try.pinned (OpenSpec.ofChange toneRunsWrong)

/-- 'marqueelaw.ToneSilent': WHATEVER THE INPUT: true; the input reads as it did. -/
def toneSilentSpec : ChangeSpec := { name := "toneSilent", fn := fun _ => fun
  | [d1, d2] => { results := [.lit (.bool true)], args := [d1, d2] }
  | _ => none }
def toneSilentRow : OpenClaim := { program := "ytcgigpglpbhakaa", sum := "78f20122c8080df3faf2c1ae28d5469aa2b4891a7dc58464beea2f866ccb8da3", func := "marquee/marqueelaw.ToneSilent", spec := "toneSilent", unfollowed := true, recurses := true, apart := false }
def ToneSilentSaid : Prop := toneSilentRow.holds Try.pinned (OpenSpec.ofChange toneSilentSpec)

/-- ITS FALSE NEIGHBOUR: 'it returns false'. Refute it at one input. -/
def toneSilentWrong : ChangeSpec := { name := "toneSilent", fn := fun _ => fun
  | [d1, d2] => { results := [.lit (.bool false)], args := [d1, d2] }
  | _ => none }
def ToneSilentWrongFalsely : Prop := toneSilentRow.holds Try.pinned (OpenSpec.ofChange toneSilentWrong)

/-- 'marqueelaw.OrderBack': WHATEVER THE INPUT: true; the input reads as it did. -/
def orderBackSpec : ChangeSpec := { name := "orderBack", fn := fun _ => fun
  | [d1, d2, d3] => { results := [.lit (.bool true)], args := [d1, d2, d3] }
  | _ => none }
def orderBackRow : OpenClaim := { program := "ytcgigpglpbhakaa", sum := "78f20122c8080df3faf2c1ae28d5469aa2b4891a7dc58464beea2f866ccb8da3", func := "marquee/marqueelaw.OrderBack", spec := "orderBack", unfollowed := true, recurses := true, apart := false }
def OrderBackSaid : Prop := orderBackRow.holds Try.pinned (OpenSpec.ofChange orderBackSpec)

/-- ITS FALSE NEIGHBOUR: 'it returns false'. Refute it at one input. -/
def orderBackWrong : ChangeSpec := { name := "orderBack", fn := fun _ => fun
  | [d1, d2, d3] => { results := [.lit (.bool false)], args := [d1, d2, d3] }
  | _ => none }
def OrderBackWrongFalsely : Prop := orderBackRow.holds Try.pinned (OpenSpec.ofChange orderBackWrong)

/-- 'marqueelaw.TonePut': WHATEVER THE INPUT: true; the input reads as it did. -/
def tonePutSpec : ChangeSpec := { name := "tonePut", fn := fun _ => fun
  | [d1, d2, d3] => { results := [.lit (.bool true)], args := [d1, d2, d3] }
  | _ => none }
def tonePutRow : OpenClaim := { program := "ytcgigpglpbhakaa", sum := "78f20122c8080df3faf2c1ae28d5469aa2b4891a7dc58464beea2f866ccb8da3", func := "marquee/marqueelaw.TonePut", spec := "tonePut", unfollowed := true, recurses := true, apart := false }
def TonePutSaid : Prop := tonePutRow.holds Try.pinned (OpenSpec.ofChange tonePutSpec)

/-- ITS FALSE NEIGHBOUR: 'it returns false'. Refute it at one input. -/
def tonePutWrong : ChangeSpec := { name := "tonePut", fn := fun _ => fun
  | [d1, d2, d3] => { results := [.lit (.bool false)], args := [d1, d2, d3] }
  | _ => none }
def TonePutWrongFalsely : Prop := tonePutRow.holds Try.pinned (OpenSpec.ofChange tonePutWrong)

/-- 'marqueelaw.ToneParts': WHATEVER THE INPUT: true; the input reads as it did. -/
def tonePartsSpec : ChangeSpec := { name := "toneParts", fn := fun _ => fun
  | [d1, d2, d3] => { results := [.lit (.bool true)], args := [d1, d2, d3] }
  | _ => none }
def tonePartsRow : OpenClaim := { program := "ytcgigpglpbhakaa", sum := "78f20122c8080df3faf2c1ae28d5469aa2b4891a7dc58464beea2f866ccb8da3", func := "marquee/marqueelaw.ToneParts", spec := "toneParts", apart := false }
def TonePartsSaid : Prop := tonePartsRow.holds Try.pinned (OpenSpec.ofChange tonePartsSpec)

/-- ITS FALSE NEIGHBOUR: 'it returns false'. Refute it at one input. -/
def tonePartsWrong : ChangeSpec := { name := "toneParts", fn := fun _ => fun
  | [d1, d2, d3] => { results := [.lit (.bool false)], args := [d1, d2, d3] }
  | _ => none }
def TonePartsWrongFalsely : Prop := tonePartsRow.holds Try.pinned (OpenSpec.ofChange tonePartsWrong)

/-- 'marqueelaw.PictureLine': WHATEVER THE INPUT: true; the input reads as it did. -/
def pictureLineSpec : ChangeSpec := { name := "pictureLine", fn := fun _ => fun
  | [d1, d2] => { results := [.lit (.bool true)], args := [d1, d2] }
  | _ => none }
def pictureLineRow : OpenClaim := { program := "ytcgigpglpbhakaa", sum := "78f20122c8080df3faf2c1ae28d5469aa2b4891a7dc58464beea2f866ccb8da3", func := "marquee/marqueelaw.PictureLine", spec := "pictureLine", apart := false }
def PictureLineSaid : Prop := pictureLineRow.holds Try.pinned (OpenSpec.ofChange pictureLineSpec)

/-- ITS FALSE NEIGHBOUR: 'it returns false'. Refute it at one input. -/
def pictureLineWrong : ChangeSpec := { name := "pictureLine", fn := fun _ => fun
  | [d1, d2] => { results := [.lit (.bool false)], args := [d1, d2] }
  | _ => none }
def PictureLineWrongFalsely : Prop := pictureLineRow.holds Try.pinned (OpenSpec.ofChange pictureLineWrong)

/- THE SECOND FORM. 'bulk': how many values and letters a reading holds, each counted each time it is reached (what is shared counts as often as it is met; a slice's spare places count too). A statement '..UptoSaid' is the law's where the arguments, and the package variables that the reading takes, are together of bulk at most 1048576: NARROWER than '..Said'. Prove '..Said' where nothing that the law and all that it calls make is longer than what came in: it says more and counts as full. Else prove '..UptoSaid'. A law counts once. -/
mutual
def uptoBulk {H : Type} : DataW H → Nat
  | .lit (.string bytes) => bytes.length + 1
  | .lit _ => 1
  | .nil => 1
  | .ptr d => uptoBulk d + 1
  | .slice elems spare => uptoBulkAll elems + uptoBulkAll spare + 1
  | .agg parts => uptoBulkAll parts + 1
  | .iface _ d => uptoBulk d + 1
  | .map entries => uptoBulkEntries entries + 1
  | .held _ => 1
def uptoBulkAll {H : Type} : List (DataW H) → Nat
  | [] => 0
  | d :: r => uptoBulk d + uptoBulkAll r
def uptoBulkEntries {H : Type} : List (Lit × DataW H) → Nat
  | [] => 0
  | x :: r => uptoBulkEntry x + uptoBulkEntries r
def uptoBulkEntry {H : Type} : Lit × DataW H → Nat
  | (.string bytes, d) => bytes.length + uptoBulk d + 1
  | (_, d) => uptoBulk d + 1
 end
def uptoSmall : (H : Type) → List (DataW H) → Bool := fun _ ds => decide (uptoBulkAll ds ≤ 1048576)
def OpenSpec.upto (s : _root_.Go.ChangeSpec) : _root_.Go.OpenSpec := { _root_.Go.OpenSpec.ofChange s with cond := some uptoSmall }

/-- 'marqueelaw.PictureBehind', WHERE WHAT IT READS IS OF BULK AT MOST 1048576: true; the input reads as it did. -/
def pictureBehindUptoRow : OpenClaim := { program := "ytcgigpglpbhakaa", sum := "78f20122c8080df3faf2c1ae28d5469aa2b4891a7dc58464beea2f866ccb8da3", func := "marquee/marqueelaw.PictureBehind", spec := "pictureBehind", apart := false, narrowed := true }
def PictureBehindUptoSaid : Prop := pictureBehindUptoRow.holds Try.pinned (OpenSpec.upto pictureBehindSpec)

/-- 'marqueelaw.PictureMoves', WHERE WHAT IT READS IS OF BULK AT MOST 1048576: true; the input reads as it did. -/
def pictureMovesUptoRow : OpenClaim := { program := "ytcgigpglpbhakaa", sum := "78f20122c8080df3faf2c1ae28d5469aa2b4891a7dc58464beea2f866ccb8da3", func := "marquee/marqueelaw.PictureMoves", spec := "pictureMoves", apart := false, narrowed := true }
def PictureMovesUptoSaid : Prop := pictureMovesUptoRow.holds Try.pinned (OpenSpec.upto pictureMovesSpec)

/-- 'marqueelaw.ToneRuns', WHERE WHAT IT READS IS OF BULK AT MOST 1048576: true; the input reads as it did. -/
def toneRunsUptoRow : OpenClaim := { program := "ytcgigpglpbhakaa", sum := "78f20122c8080df3faf2c1ae28d5469aa2b4891a7dc58464beea2f866ccb8da3", func := "marquee/marqueelaw.ToneRuns", spec := "toneRuns", apart := false, narrowed := true }
def ToneRunsUptoSaid : Prop := toneRunsUptoRow.holds Try.pinned (OpenSpec.upto toneRunsSpec)

/-- 'marqueelaw.ToneSilent', WHERE WHAT IT READS IS OF BULK AT MOST 1048576: true; the input reads as it did. -/
def toneSilentUptoRow : OpenClaim := { program := "ytcgigpglpbhakaa", sum := "78f20122c8080df3faf2c1ae28d5469aa2b4891a7dc58464beea2f866ccb8da3", func := "marquee/marqueelaw.ToneSilent", spec := "toneSilent", unfollowed := true, recurses := true, apart := false, narrowed := true }
def ToneSilentUptoSaid : Prop := toneSilentUptoRow.holds Try.pinned (OpenSpec.upto toneSilentSpec)

/-- 'marqueelaw.OrderBack', WHERE WHAT IT READS IS OF BULK AT MOST 1048576: true; the input reads as it did. -/
def orderBackUptoRow : OpenClaim := { program := "ytcgigpglpbhakaa", sum := "78f20122c8080df3faf2c1ae28d5469aa2b4891a7dc58464beea2f866ccb8da3", func := "marquee/marqueelaw.OrderBack", spec := "orderBack", unfollowed := true, recurses := true, apart := false, narrowed := true }
def OrderBackUptoSaid : Prop := orderBackUptoRow.holds Try.pinned (OpenSpec.upto orderBackSpec)

/-- 'marqueelaw.TonePut', WHERE WHAT IT READS IS OF BULK AT MOST 1048576: true; the input reads as it did. -/
def tonePutUptoRow : OpenClaim := { program := "ytcgigpglpbhakaa", sum := "78f20122c8080df3faf2c1ae28d5469aa2b4891a7dc58464beea2f866ccb8da3", func := "marquee/marqueelaw.TonePut", spec := "tonePut", unfollowed := true, recurses := true, apart := false, narrowed := true }
def TonePutUptoSaid : Prop := tonePutUptoRow.holds Try.pinned (OpenSpec.upto tonePutSpec)

/-- 'marqueelaw.ToneParts', WHERE WHAT IT READS IS OF BULK AT MOST 1048576: true; the input reads as it did. -/
def tonePartsUptoRow : OpenClaim := { program := "ytcgigpglpbhakaa", sum := "78f20122c8080df3faf2c1ae28d5469aa2b4891a7dc58464beea2f866ccb8da3", func := "marquee/marqueelaw.ToneParts", spec := "toneParts", apart := false, narrowed := true }
def TonePartsUptoSaid : Prop := tonePartsUptoRow.holds Try.pinned (OpenSpec.upto tonePartsSpec)

/-- 'marqueelaw.PictureLine', WHERE WHAT IT READS IS OF BULK AT MOST 1048576: true; the input reads as it did. -/
def pictureLineUptoRow : OpenClaim := { program := "ytcgigpglpbhakaa", sum := "78f20122c8080df3faf2c1ae28d5469aa2b4891a7dc58464beea2f866ccb8da3", func := "marquee/marqueelaw.PictureLine", spec := "pictureLine", apart := false, narrowed := true }
def PictureLineUptoSaid : Prop := pictureLineUptoRow.holds Try.pinned (OpenSpec.upto pictureLineSpec)

end Rows
end Go.Proofs.Ytcgigpglpbhakaa
