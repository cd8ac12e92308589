/-
  DERIVED. GIVEN WITH THE SEED: THE CARDS: each row of YtkoocfcnfolkhaaGreatDoorRows.lean that lists a variable, with what it lists TIED to the program's text (the seventh form; the later family's looks); each row that meets fmt, with fmt's text TOLD by the authors' own Lean function (tested against real Go, not proved from fmt's source: count such statements apart). THE CARD IS WHAT COUNTS. Prove the row's statement (the work); the ties are given (YtkoocfcnfolkhaaGreatDoorTie.lean); close each card by the builder's one call (the guide's Derived/Test/ToyasCard.lean, 'card_holds'). Laid BY PROGRAM, IN A SANDBOX (cutbox-door.mjs). By AI agents, Wed Nov 11 2026. No macro, syntax, notation, axiom, sorry.
-/
import Derived.Test.YtkoocfcnfolkhaaGreatDoorRows
import GoSem.ClaimSeven
namespace Go.Proofs.YtkoocfcnfolkhaaGreatDoor
namespace Rows

/-- THE TIED CARD OF 'marqueelaw.TapeCounts'. -/
def tapeCountsCard : Claim7 := { stood := { row := tapeCountsRow, standIns := [], harness := (true, "edcebf71a0e6f1a35f116efe19ce363abf81219c97b2b28f8458ac3bbf1366f5"), looks := true }, kinds := [], alts := [], laidByText := true, laidKinds := [.data, .data, .data, .data, .sentinel, .sentinel, .pinned], laidTests := true, laidLooks := .later }
def TapeCountsCardSaid : Prop := Claim7.holds Tryz.pinned (.plain (OpenSpec.ofChange tapeCountsSpec)) tapeCountsCard

/-- THE TIED CARD OF 'marqueelaw.CatchLock'. -/
def catchLockCard : Claim7 := { stood := { row := catchLockRow, standIns := [], harness := (true, "edcebf71a0e6f1a35f116efe19ce363abf81219c97b2b28f8458ac3bbf1366f5"), looks := true }, kinds := [], alts := [], laidByText := true, laidKinds := [.data, .data, .data, .data, .sentinel, .sentinel, .pinned], laidTests := true, laidLooks := .later }
def CatchLockCardSaid : Prop := Claim7.holds Tryz.pinned (.plain (OpenSpec.ofChange catchLockSpec)) catchLockCard

/-- THE TIED CARD OF 'marqueelaw.CatchParts'. -/
def catchPartsCard : Claim7 := { stood := { row := catchPartsRow, standIns := [], harness := (true, "edcebf71a0e6f1a35f116efe19ce363abf81219c97b2b28f8458ac3bbf1366f5"), looks := true }, kinds := [], alts := [], laidByText := true, laidKinds := [.data, .data, .data, .data, .sentinel, .sentinel, .pinned], laidTests := true, laidLooks := .later }
def CatchPartsCardSaid : Prop := Claim7.holds Tryz.pinned (.plain (OpenSpec.ofChange catchPartsSpec)) catchPartsCard

/-- THE SECOND FORM's CARD OF 'marqueelaw.TapeCounts'. -/
def tapeCountsUptoCard : Claim7 := { stood := { row := tapeCountsUptoRow, standIns := [], harness := (true, "edcebf71a0e6f1a35f116efe19ce363abf81219c97b2b28f8458ac3bbf1366f5"), looks := true }, kinds := [], alts := [], laidByText := true, laidKinds := [.data, .data, .data, .data, .sentinel, .sentinel, .pinned], laidTests := true, laidLooks := .later }
def TapeCountsUptoCardSaid : Prop := Claim7.holds Tryz.pinned (.plain (OpenSpec.upto tapeCountsSpec)) tapeCountsUptoCard

/-- THE SECOND FORM's CARD OF 'marqueelaw.CatchLock'. -/
def catchLockUptoCard : Claim7 := { stood := { row := catchLockUptoRow, standIns := [], harness := (true, "edcebf71a0e6f1a35f116efe19ce363abf81219c97b2b28f8458ac3bbf1366f5"), looks := true }, kinds := [], alts := [], laidByText := true, laidKinds := [.data, .data, .data, .data, .sentinel, .sentinel, .pinned], laidTests := true, laidLooks := .later }
def CatchLockUptoCardSaid : Prop := Claim7.holds Tryz.pinned (.plain (OpenSpec.upto catchLockSpec)) catchLockUptoCard

/-- THE SECOND FORM's CARD OF 'marqueelaw.CatchParts'. -/
def catchPartsUptoCard : Claim7 := { stood := { row := catchPartsUptoRow, standIns := [], harness := (true, "edcebf71a0e6f1a35f116efe19ce363abf81219c97b2b28f8458ac3bbf1366f5"), looks := true }, kinds := [], alts := [], laidByText := true, laidKinds := [.data, .data, .data, .data, .sentinel, .sentinel, .pinned], laidTests := true, laidLooks := .later }
def CatchPartsUptoCardSaid : Prop := Claim7.holds Tryz.pinned (.plain (OpenSpec.upto catchPartsSpec)) catchPartsUptoCard
end Rows
end Go.Proofs.YtkoocfcnfolkhaaGreatDoor
