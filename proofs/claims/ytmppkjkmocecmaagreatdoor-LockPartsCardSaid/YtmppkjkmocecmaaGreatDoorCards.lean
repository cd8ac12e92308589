/-
  DERIVED. GIVEN WITH THE SEED: THE CARDS: each row of YtmppkjkmocecmaaGreatDoorRows.lean that lists a variable, with what it lists TIED to the program's text (the seventh form; the later family's looks); each row that meets fmt, with fmt's text TOLD by the authors' own Lean function (tested against real Go, not proved from fmt's source: count such statements apart). THE CARD IS WHAT COUNTS. Prove the row's statement (the work); the ties are given (YtmppkjkmocecmaaGreatDoorTie.lean); close each card by the builder's one call (the guide's Derived/Test/ToyasCard.lean, 'card_holds'). Laid BY PROGRAM, IN A SANDBOX (cutbox-door.mjs). By AI agents, Wed Nov 11 2026. No macro, syntax, notation, axiom, sorry.
-/
import Derived.Test.YtmppkjkmocecmaaGreatDoorRows
import GoSem.ClaimSeven
namespace Go.Proofs.YtmppkjkmocecmaaGreatDoor
namespace Rows

/-- THE TIED CARD OF 'marqueelaw.LockHeld'. -/
def lockHeldCard : Claim7 := { stood := { row := lockHeldRow, standIns := [], harness := (true, "414e58f151fc6effe3d05d17077bfaecb5840071b99a7d58ca304393f8f269bb"), looks := true }, kinds := [], alts := [], laidByText := true, laidKinds := [.data, .data, .data, .data, .sentinel, .sentinel, .pinned], laidTests := true, laidLooks := .later }
def LockHeldCardSaid : Prop := Claim7.holds Tryz.pinned (.plain (OpenSpec.ofChange lockHeldSpec)) lockHeldCard

/-- THE TIED CARD OF 'marqueelaw.LockCounts'. -/
def lockCountsCard : Claim7 := { stood := { row := lockCountsRow, standIns := [], harness := (true, "414e58f151fc6effe3d05d17077bfaecb5840071b99a7d58ca304393f8f269bb"), looks := true }, kinds := [], alts := [], laidByText := true, laidKinds := [.data, .data, .data, .data, .sentinel, .sentinel, .pinned], laidTests := true, laidLooks := .later }
def LockCountsCardSaid : Prop := Claim7.holds Tryz.pinned (.plain (OpenSpec.ofChange lockCountsSpec)) lockCountsCard

/-- THE TIED CARD OF 'marqueelaw.LockParts'. -/
def lockPartsCard : Claim7 := { stood := { row := lockPartsRow, standIns := [], harness := (true, "414e58f151fc6effe3d05d17077bfaecb5840071b99a7d58ca304393f8f269bb"), looks := true }, kinds := [], alts := [], laidByText := true, laidKinds := [.data, .data, .data, .data, .sentinel, .sentinel, .pinned], laidTests := true, laidLooks := .later }
def LockPartsCardSaid : Prop := Claim7.holds Tryz.pinned (.plain (OpenSpec.ofChange lockPartsSpec)) lockPartsCard

/-- THE TIED CARD OF 'marqueelaw.CatchLock'. -/
def catchLockCard : Claim7 := { stood := { row := catchLockRow, standIns := [], harness := (true, "414e58f151fc6effe3d05d17077bfaecb5840071b99a7d58ca304393f8f269bb"), looks := true }, kinds := [], alts := [], laidByText := true, laidKinds := [.data, .data, .data, .data, .sentinel, .sentinel, .pinned], laidTests := true, laidLooks := .later }
def CatchLockCardSaid : Prop := Claim7.holds Tryz.pinned (.plain (OpenSpec.ofChange catchLockSpec)) catchLockCard

/-- THE TIED CARD OF 'marqueelaw.CatchParts'. -/
def catchPartsCard : Claim7 := { stood := { row := catchPartsRow, standIns := [], harness := (true, "414e58f151fc6effe3d05d17077bfaecb5840071b99a7d58ca304393f8f269bb"), looks := true }, kinds := [], alts := [], laidByText := true, laidKinds := [.data, .data, .data, .data, .sentinel, .sentinel, .pinned], laidTests := true, laidLooks := .later }
def CatchPartsCardSaid : Prop := Claim7.holds Tryz.pinned (.plain (OpenSpec.ofChange catchPartsSpec)) catchPartsCard

/-- THE SECOND FORM's CARD OF 'marqueelaw.LockHeld'. -/
def lockHeldUptoCard : Claim7 := { stood := { row := lockHeldUptoRow, standIns := [], harness := (true, "414e58f151fc6effe3d05d17077bfaecb5840071b99a7d58ca304393f8f269bb"), looks := true }, kinds := [], alts := [], laidByText := true, laidKinds := [.data, .data, .data, .data, .sentinel, .sentinel, .pinned], laidTests := true, laidLooks := .later }
def LockHeldUptoCardSaid : Prop := Claim7.holds Tryz.pinned (.plain (OpenSpec.upto lockHeldSpec)) lockHeldUptoCard

/-- THE SECOND FORM's CARD OF 'marqueelaw.LockCounts'. -/
def lockCountsUptoCard : Claim7 := { stood := { row := lockCountsUptoRow, standIns := [], harness := (true, "414e58f151fc6effe3d05d17077bfaecb5840071b99a7d58ca304393f8f269bb"), looks := true }, kinds := [], alts := [], laidByText := true, laidKinds := [.data, .data, .data, .data, .sentinel, .sentinel, .pinned], laidTests := true, laidLooks := .later }
def LockCountsUptoCardSaid : Prop := Claim7.holds Tryz.pinned (.plain (OpenSpec.upto lockCountsSpec)) lockCountsUptoCard

/-- THE SECOND FORM's CARD OF 'marqueelaw.LockParts'. -/
def lockPartsUptoCard : Claim7 := { stood := { row := lockPartsUptoRow, standIns := [], harness := (true, "414e58f151fc6effe3d05d17077bfaecb5840071b99a7d58ca304393f8f269bb"), looks := true }, kinds := [], alts := [], laidByText := true, laidKinds := [.data, .data, .data, .data, .sentinel, .sentinel, .pinned], laidTests := true, laidLooks := .later }
def LockPartsUptoCardSaid : Prop := Claim7.holds Tryz.pinned (.plain (OpenSpec.upto lockPartsSpec)) lockPartsUptoCard

/-- THE SECOND FORM's CARD OF 'marqueelaw.CatchLock'. -/
def catchLockUptoCard : Claim7 := { stood := { row := catchLockUptoRow, standIns := [], harness := (true, "414e58f151fc6effe3d05d17077bfaecb5840071b99a7d58ca304393f8f269bb"), looks := true }, kinds := [], alts := [], laidByText := true, laidKinds := [.data, .data, .data, .data, .sentinel, .sentinel, .pinned], laidTests := true, laidLooks := .later }
def CatchLockUptoCardSaid : Prop := Claim7.holds Tryz.pinned (.plain (OpenSpec.upto catchLockSpec)) catchLockUptoCard

/-- THE SECOND FORM's CARD OF 'marqueelaw.CatchParts'. -/
def catchPartsUptoCard : Claim7 := { stood := { row := catchPartsUptoRow, standIns := [], harness := (true, "414e58f151fc6effe3d05d17077bfaecb5840071b99a7d58ca304393f8f269bb"), looks := true }, kinds := [], alts := [], laidByText := true, laidKinds := [.data, .data, .data, .data, .sentinel, .sentinel, .pinned], laidTests := true, laidLooks := .later }
def CatchPartsUptoCardSaid : Prop := Claim7.holds Tryz.pinned (.plain (OpenSpec.upto catchPartsSpec)) catchPartsUptoCard
end Rows
end Go.Proofs.YtmppkjkmocecmaaGreatDoor
