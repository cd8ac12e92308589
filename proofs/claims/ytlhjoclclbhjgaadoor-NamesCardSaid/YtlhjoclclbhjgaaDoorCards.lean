/-
  DERIVED. GIVEN WITH THE SEED: THE CARDS: each row of YtlhjoclclbhjgaaDoorRows.lean that lists a variable, with what it lists TIED to the program's text (the seventh form; the later family's looks); each row that meets fmt, with fmt's text TOLD by the authors' own Lean function (tested against real Go, not proved from fmt's source: count such statements apart). THE CARD IS WHAT COUNTS. Prove the row's statement (the work); the ties are given (YtlhjoclclbhjgaaDoorTie.lean); close each card by the builder's one call (the guide's Derived/Test/ToyasCard.lean, 'card_holds'). Laid BY PROGRAM, IN A SANDBOX (cutbox-door.mjs). By AI agents, Wed Nov 11 2026. No macro, syntax, notation, axiom, sorry.
-/
import Derived.Test.YtlhjoclclbhjgaaDoorRows
import GoSem.ClaimSeven
namespace Go.Proofs.YtlhjoclclbhjgaaDoor
namespace Rows

/-- THE TIED CARD OF 'marqueelaw.TapePrint'. -/
def tapePrintCard : Claim7 := { stood := { row := tapePrintRow, standIns := [], harness := (true, "60ec81a96b3b4413c83c6f25b5af2c4f9e20de9698b24c2f8da63759cd1c7ebd"), looks := true }, kinds := [], alts := [], laidByText := true, laidKinds := [.data, .data, .data, .data, .sentinel, .sentinel, .pinned], laidTests := true, laidLooks := .later }
def TapePrintCardSaid : Prop := Claim7.holds Tryd.pinned (.plain (OpenSpec.ofChange tapePrintSpec)) tapePrintCard

/-- THE TIED CARD OF 'marqueelaw.TapeBack'. -/
def tapeBackCard : Claim7 := { stood := { row := tapeBackRow, standIns := [], harness := (true, "60ec81a96b3b4413c83c6f25b5af2c4f9e20de9698b24c2f8da63759cd1c7ebd"), looks := true }, kinds := [], alts := [], laidByText := true, laidKinds := [.data, .data, .data, .data, .sentinel, .sentinel, .pinned], laidTests := true, laidLooks := .later }
def TapeBackCardSaid : Prop := Claim7.holds Tryd.pinned (.plain (OpenSpec.ofChange tapeBackSpec)) tapeBackCard

/-- THE TIED CARD OF 'marqueelaw.TapeParse'. -/
def tapeParseCard : Claim7 := { stood := { row := tapeParseRow, standIns := [], harness := (true, "60ec81a96b3b4413c83c6f25b5af2c4f9e20de9698b24c2f8da63759cd1c7ebd"), looks := true }, kinds := [], alts := [], laidByText := true, laidKinds := [.data, .data, .data, .data, .sentinel, .sentinel, .pinned], laidTests := true, laidLooks := .later }
def TapeParseCardSaid : Prop := Claim7.holds Tryd.pinned (.plain (OpenSpec.ofChange tapeParseSpec)) tapeParseCard

/-- THE TIED CARD OF 'marqueelaw.TapeFrame'. -/
def tapeFrameCard : Claim7 := { stood := { row := tapeFrameRow, standIns := [], harness := (true, "60ec81a96b3b4413c83c6f25b5af2c4f9e20de9698b24c2f8da63759cd1c7ebd"), looks := true }, kinds := [], alts := [], laidByText := true, laidKinds := [.data, .data, .data, .data, .sentinel, .sentinel, .pinned], laidTests := true, laidLooks := .later }
def TapeFrameCardSaid : Prop := Claim7.holds Tryd.pinned (.plain (OpenSpec.ofChange tapeFrameSpec)) tapeFrameCard

/-- THE TIED CARD OF 'marqueelaw.OrderRead'. -/
def orderReadCard : Claim7 := { stood := { row := orderReadRow, standIns := [], harness := (true, "60ec81a96b3b4413c83c6f25b5af2c4f9e20de9698b24c2f8da63759cd1c7ebd"), looks := true }, kinds := [], alts := [], laidByText := true, laidKinds := [.data, .data, .data, .data, .sentinel, .sentinel, .listed, .data, .pinned], laidTests := true, laidLooks := .later }
def OrderReadCardSaid : Prop := Claim7.holds Tryd.pinned (.plain (OpenSpec.ofChange orderReadSpec)) orderReadCard

/-- THE TIED CARD OF 'marqueelaw.Names'. -/
def namesCard : Claim7 := { stood := { row := namesRow, standIns := [], harness := (true, "60ec81a96b3b4413c83c6f25b5af2c4f9e20de9698b24c2f8da63759cd1c7ebd"), looks := true }, kinds := [], alts := [], laidByText := true, laidKinds := [.data, .data, .data, .data, .sentinel, .sentinel, .listed, .data, .pinned], laidTests := true, laidLooks := .later }
def NamesCardSaid : Prop := Claim7.holds Tryd.pinned (.plain (OpenSpec.ofChange namesSpec)) namesCard

/-- THE TIED CARD OF 'marqueelaw.AsmBack'. -/
def asmBackCard : Claim7 := { stood := { row := asmBackRow, standIns := [], harness := (true, "60ec81a96b3b4413c83c6f25b5af2c4f9e20de9698b24c2f8da63759cd1c7ebd"), looks := true }, kinds := [], alts := [], laidByText := true, laidKinds := [.data, .data, .data, .data, .sentinel, .sentinel, .pinned], laidTests := true, laidLooks := .later }
def AsmBackCardSaid : Prop := Claim7.holds Tryd.pinned (.plain (OpenSpec.ofChange asmBackSpec)) asmBackCard

/-- THE TIED CARD OF 'marqueelaw.OrderWords'. -/
def orderWordsCard : Claim7 := { stood := { row := orderWordsRow, standIns := [], harness := (true, "60ec81a96b3b4413c83c6f25b5af2c4f9e20de9698b24c2f8da63759cd1c7ebd"), looks := true }, kinds := [], alts := [], laidByText := true, laidKinds := [.data, .data, .data, .data, .sentinel, .sentinel, .listed, .data, .pinned], laidTests := true, laidLooks := .later }
def OrderWordsCardSaid : Prop := Claim7.holds Tryd.pinned (.plain (OpenSpec.ofChange orderWordsSpec)) orderWordsCard

/-- THE TIED CARD OF 'marqueelaw.AsmJoins'. -/
def asmJoinsCard : Claim7 := { stood := { row := asmJoinsRow, standIns := [], harness := (true, "60ec81a96b3b4413c83c6f25b5af2c4f9e20de9698b24c2f8da63759cd1c7ebd"), looks := true }, kinds := [], alts := [], laidByText := true, laidKinds := [.data, .data, .data, .data, .sentinel, .sentinel, .pinned], laidTests := true, laidLooks := .later }
def AsmJoinsCardSaid : Prop := Claim7.holds Tryd.pinned (.plain (OpenSpec.ofChange asmJoinsSpec)) asmJoinsCard

/-- THE TIED CARD OF 'marqueelaw.AsmList'. -/
def asmListCard : Claim7 := { stood := { row := asmListRow, standIns := [], harness := (true, "60ec81a96b3b4413c83c6f25b5af2c4f9e20de9698b24c2f8da63759cd1c7ebd"), looks := true }, kinds := [], alts := [], laidByText := true, laidKinds := [.data, .data, .data, .data, .sentinel, .sentinel, .listed, .data, .pinned], laidTests := true, laidLooks := .later }
def AsmListCardSaid : Prop := Claim7.holds Tryd.pinned (.plain (OpenSpec.ofChange asmListSpec)) asmListCard

/-- THE SECOND FORM's CARD OF 'marqueelaw.TapePrint'. -/
def tapePrintUptoCard : Claim7 := { stood := { row := tapePrintUptoRow, standIns := [], harness := (true, "60ec81a96b3b4413c83c6f25b5af2c4f9e20de9698b24c2f8da63759cd1c7ebd"), looks := true }, kinds := [], alts := [], laidByText := true, laidKinds := [.data, .data, .data, .data, .sentinel, .sentinel, .pinned], laidTests := true, laidLooks := .later }
def TapePrintUptoCardSaid : Prop := Claim7.holds Tryd.pinned (.plain (OpenSpec.upto tapePrintSpec)) tapePrintUptoCard

/-- THE SECOND FORM's CARD OF 'marqueelaw.TapeBack'. -/
def tapeBackUptoCard : Claim7 := { stood := { row := tapeBackUptoRow, standIns := [], harness := (true, "60ec81a96b3b4413c83c6f25b5af2c4f9e20de9698b24c2f8da63759cd1c7ebd"), looks := true }, kinds := [], alts := [], laidByText := true, laidKinds := [.data, .data, .data, .data, .sentinel, .sentinel, .pinned], laidTests := true, laidLooks := .later }
def TapeBackUptoCardSaid : Prop := Claim7.holds Tryd.pinned (.plain (OpenSpec.upto tapeBackSpec)) tapeBackUptoCard

/-- THE SECOND FORM's CARD OF 'marqueelaw.TapeParse'. -/
def tapeParseUptoCard : Claim7 := { stood := { row := tapeParseUptoRow, standIns := [], harness := (true, "60ec81a96b3b4413c83c6f25b5af2c4f9e20de9698b24c2f8da63759cd1c7ebd"), looks := true }, kinds := [], alts := [], laidByText := true, laidKinds := [.data, .data, .data, .data, .sentinel, .sentinel, .pinned], laidTests := true, laidLooks := .later }
def TapeParseUptoCardSaid : Prop := Claim7.holds Tryd.pinned (.plain (OpenSpec.upto tapeParseSpec)) tapeParseUptoCard

/-- THE SECOND FORM's CARD OF 'marqueelaw.TapeFrame'. -/
def tapeFrameUptoCard : Claim7 := { stood := { row := tapeFrameUptoRow, standIns := [], harness := (true, "60ec81a96b3b4413c83c6f25b5af2c4f9e20de9698b24c2f8da63759cd1c7ebd"), looks := true }, kinds := [], alts := [], laidByText := true, laidKinds := [.data, .data, .data, .data, .sentinel, .sentinel, .pinned], laidTests := true, laidLooks := .later }
def TapeFrameUptoCardSaid : Prop := Claim7.holds Tryd.pinned (.plain (OpenSpec.upto tapeFrameSpec)) tapeFrameUptoCard

/-- THE SECOND FORM's CARD OF 'marqueelaw.OrderRead'. -/
def orderReadUptoCard : Claim7 := { stood := { row := orderReadUptoRow, standIns := [], harness := (true, "60ec81a96b3b4413c83c6f25b5af2c4f9e20de9698b24c2f8da63759cd1c7ebd"), looks := true }, kinds := [], alts := [], laidByText := true, laidKinds := [.data, .data, .data, .data, .sentinel, .sentinel, .listed, .data, .pinned], laidTests := true, laidLooks := .later }
def OrderReadUptoCardSaid : Prop := Claim7.holds Tryd.pinned (.plain (OpenSpec.upto orderReadSpec)) orderReadUptoCard

/-- THE SECOND FORM's CARD OF 'marqueelaw.Names'. -/
def namesUptoCard : Claim7 := { stood := { row := namesUptoRow, standIns := [], harness := (true, "60ec81a96b3b4413c83c6f25b5af2c4f9e20de9698b24c2f8da63759cd1c7ebd"), looks := true }, kinds := [], alts := [], laidByText := true, laidKinds := [.data, .data, .data, .data, .sentinel, .sentinel, .listed, .data, .pinned], laidTests := true, laidLooks := .later }
def NamesUptoCardSaid : Prop := Claim7.holds Tryd.pinned (.plain (OpenSpec.upto namesSpec)) namesUptoCard

/-- THE SECOND FORM's CARD OF 'marqueelaw.AsmBack'. -/
def asmBackUptoCard : Claim7 := { stood := { row := asmBackUptoRow, standIns := [], harness := (true, "60ec81a96b3b4413c83c6f25b5af2c4f9e20de9698b24c2f8da63759cd1c7ebd"), looks := true }, kinds := [], alts := [], laidByText := true, laidKinds := [.data, .data, .data, .data, .sentinel, .sentinel, .pinned], laidTests := true, laidLooks := .later }
def AsmBackUptoCardSaid : Prop := Claim7.holds Tryd.pinned (.plain (OpenSpec.upto asmBackSpec)) asmBackUptoCard

/-- THE SECOND FORM's CARD OF 'marqueelaw.OrderWords'. -/
def orderWordsUptoCard : Claim7 := { stood := { row := orderWordsUptoRow, standIns := [], harness := (true, "60ec81a96b3b4413c83c6f25b5af2c4f9e20de9698b24c2f8da63759cd1c7ebd"), looks := true }, kinds := [], alts := [], laidByText := true, laidKinds := [.data, .data, .data, .data, .sentinel, .sentinel, .listed, .data, .pinned], laidTests := true, laidLooks := .later }
def OrderWordsUptoCardSaid : Prop := Claim7.holds Tryd.pinned (.plain (OpenSpec.upto orderWordsSpec)) orderWordsUptoCard

/-- THE SECOND FORM's CARD OF 'marqueelaw.AsmJoins'. -/
def asmJoinsUptoCard : Claim7 := { stood := { row := asmJoinsUptoRow, standIns := [], harness := (true, "60ec81a96b3b4413c83c6f25b5af2c4f9e20de9698b24c2f8da63759cd1c7ebd"), looks := true }, kinds := [], alts := [], laidByText := true, laidKinds := [.data, .data, .data, .data, .sentinel, .sentinel, .pinned], laidTests := true, laidLooks := .later }
def AsmJoinsUptoCardSaid : Prop := Claim7.holds Tryd.pinned (.plain (OpenSpec.upto asmJoinsSpec)) asmJoinsUptoCard

/-- THE SECOND FORM's CARD OF 'marqueelaw.AsmList'. -/
def asmListUptoCard : Claim7 := { stood := { row := asmListUptoRow, standIns := [], harness := (true, "60ec81a96b3b4413c83c6f25b5af2c4f9e20de9698b24c2f8da63759cd1c7ebd"), looks := true }, kinds := [], alts := [], laidByText := true, laidKinds := [.data, .data, .data, .data, .sentinel, .sentinel, .listed, .data, .pinned], laidTests := true, laidLooks := .later }
def AsmListUptoCardSaid : Prop := Claim7.holds Tryd.pinned (.plain (OpenSpec.upto asmListSpec)) asmListUptoCard
end Rows
end Go.Proofs.YtlhjoclclbhjgaaDoor
