/-
  DERIVED. GIVEN WITH THE SEED: THE CARDS: each row of YtmpdoiilakjmbaaDoorRows.lean that lists a variable, with what it lists TIED to the program's text (the seventh form; the later family's looks); each row that meets fmt, with fmt's text TOLD by the authors' own Lean function (tested against real Go, not proved from fmt's source: count such statements apart). THE CARD IS WHAT COUNTS. Prove the row's statement (the work); the ties are given (YtmpdoiilakjmbaaDoorTie.lean); close each card by the builder's one call (the guide's Derived/Test/ToyasCard.lean, 'card_holds'). Laid BY PROGRAM, IN A SANDBOX (cutbox-door.mjs). By AI agents, Wed Nov 11 2026. No macro, syntax, notation, axiom, sorry.
-/
import Derived.Test.YtmpdoiilakjmbaaDoorRows
import GoSem.ClaimSeven
namespace Go.Proofs.YtmpdoiilakjmbaaDoor
namespace Rows

/-- THE TIED CARD OF 'marqueelaw.AsmBack'. -/
def asmBackCard : Claim7 := { stood := { row := asmBackRow, standIns := [], harness := (true, "3170f9bf6cd3f023471a86bcd1d61b9d704f0c3713df6a7f2c2c1ff04a6e4aeb"), looks := true }, kinds := [], alts := [], laidByText := true, laidKinds := [.data, .data, .data, .data, .sentinel, .sentinel, .pinned], laidTests := true, laidLooks := .later }
def AsmBackCardSaid : Prop := Claim7.holds Tryd.pinned (.plain (OpenSpec.ofChange asmBackSpec)) asmBackCard

/-- THE TIED CARD OF 'marqueelaw.OrderWords'. -/
def orderWordsCard : Claim7 := { stood := { row := orderWordsRow, standIns := [], harness := (true, "3170f9bf6cd3f023471a86bcd1d61b9d704f0c3713df6a7f2c2c1ff04a6e4aeb"), looks := true }, kinds := [], alts := [], laidByText := true, laidKinds := [.data, .data, .data, .data, .sentinel, .sentinel, .listed, .data, .pinned], laidTests := true, laidLooks := .later }
def OrderWordsCardSaid : Prop := Claim7.holds Tryd.pinned (.plain (OpenSpec.ofChange orderWordsSpec)) orderWordsCard

/-- THE TIED CARD OF 'marqueelaw.AsmJoins'. -/
def asmJoinsCard : Claim7 := { stood := { row := asmJoinsRow, standIns := [], harness := (true, "3170f9bf6cd3f023471a86bcd1d61b9d704f0c3713df6a7f2c2c1ff04a6e4aeb"), looks := true }, kinds := [], alts := [], laidByText := true, laidKinds := [.data, .data, .data, .data, .sentinel, .sentinel, .pinned], laidTests := true, laidLooks := .later }
def AsmJoinsCardSaid : Prop := Claim7.holds Tryd.pinned (.plain (OpenSpec.ofChange asmJoinsSpec)) asmJoinsCard

/-- THE TIED CARD OF 'marqueelaw.AsmList'. -/
def asmListCard : Claim7 := { stood := { row := asmListRow, standIns := [], harness := (true, "3170f9bf6cd3f023471a86bcd1d61b9d704f0c3713df6a7f2c2c1ff04a6e4aeb"), looks := true }, kinds := [], alts := [], laidByText := true, laidKinds := [.data, .data, .data, .data, .sentinel, .sentinel, .listed, .data, .pinned], laidTests := true, laidLooks := .later }
def AsmListCardSaid : Prop := Claim7.holds Tryd.pinned (.plain (OpenSpec.ofChange asmListSpec)) asmListCard

/-- THE SECOND FORM's CARD OF 'marqueelaw.AsmBack'. -/
def asmBackUptoCard : Claim7 := { stood := { row := asmBackUptoRow, standIns := [], harness := (true, "3170f9bf6cd3f023471a86bcd1d61b9d704f0c3713df6a7f2c2c1ff04a6e4aeb"), looks := true }, kinds := [], alts := [], laidByText := true, laidKinds := [.data, .data, .data, .data, .sentinel, .sentinel, .pinned], laidTests := true, laidLooks := .later }
def AsmBackUptoCardSaid : Prop := Claim7.holds Tryd.pinned (.plain (OpenSpec.upto asmBackSpec)) asmBackUptoCard

/-- THE SECOND FORM's CARD OF 'marqueelaw.OrderWords'. -/
def orderWordsUptoCard : Claim7 := { stood := { row := orderWordsUptoRow, standIns := [], harness := (true, "3170f9bf6cd3f023471a86bcd1d61b9d704f0c3713df6a7f2c2c1ff04a6e4aeb"), looks := true }, kinds := [], alts := [], laidByText := true, laidKinds := [.data, .data, .data, .data, .sentinel, .sentinel, .listed, .data, .pinned], laidTests := true, laidLooks := .later }
def OrderWordsUptoCardSaid : Prop := Claim7.holds Tryd.pinned (.plain (OpenSpec.upto orderWordsSpec)) orderWordsUptoCard

/-- THE SECOND FORM's CARD OF 'marqueelaw.AsmJoins'. -/
def asmJoinsUptoCard : Claim7 := { stood := { row := asmJoinsUptoRow, standIns := [], harness := (true, "3170f9bf6cd3f023471a86bcd1d61b9d704f0c3713df6a7f2c2c1ff04a6e4aeb"), looks := true }, kinds := [], alts := [], laidByText := true, laidKinds := [.data, .data, .data, .data, .sentinel, .sentinel, .pinned], laidTests := true, laidLooks := .later }
def AsmJoinsUptoCardSaid : Prop := Claim7.holds Tryd.pinned (.plain (OpenSpec.upto asmJoinsSpec)) asmJoinsUptoCard

/-- THE SECOND FORM's CARD OF 'marqueelaw.AsmList'. -/
def asmListUptoCard : Claim7 := { stood := { row := asmListUptoRow, standIns := [], harness := (true, "3170f9bf6cd3f023471a86bcd1d61b9d704f0c3713df6a7f2c2c1ff04a6e4aeb"), looks := true }, kinds := [], alts := [], laidByText := true, laidKinds := [.data, .data, .data, .data, .sentinel, .sentinel, .listed, .data, .pinned], laidTests := true, laidLooks := .later }
def AsmListUptoCardSaid : Prop := Claim7.holds Tryd.pinned (.plain (OpenSpec.upto asmListSpec)) asmListUptoCard
end Rows
end Go.Proofs.YtmpdoiilakjmbaaDoor
