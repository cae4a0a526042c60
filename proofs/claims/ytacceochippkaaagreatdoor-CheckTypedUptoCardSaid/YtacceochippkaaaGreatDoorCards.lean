/-
  DERIVED. GIVEN WITH THE SEED: THE CARDS: each row of YtacceochippkaaaGreatDoorRows.lean that lists a variable, with what it lists TIED to the program's text (the seventh form; the later family's looks); each row that meets fmt, with fmt's text TOLD by the authors' own Lean function (tested against real Go, not proved from fmt's source: count such statements apart). THE CARD IS WHAT COUNTS. Prove the row's statement (the work); the ties are given (YtacceochippkaaaGreatDoorTie.lean); close each card by the builder's one call (the guide's Derived/Test/ToyasCard.lean, 'card_holds'). Laid BY PROGRAM, IN A SANDBOX (cutbox-door.mjs). By AI agents, Wed Nov 11 2026. No macro, syntax, notation, axiom, sorry.
-/
import Derived.Test.YtacceochippkaaaGreatDoorRows
import GoSem.ClaimSeven
namespace Go.Proofs.YtacceochippkaaaGreatDoor
namespace Rows

/-- THE TIED CARD OF 'unisonlaw13.CheckTyped'. -/
def checkTypedCard : Claim7 := { stood := { row := checkTypedRow, standIns := [], harness := (true, "d6b050194e9c9df061ce1faf6e0c107df51240511c139a1255689d24caed6245"), looks := true }, kinds := [], alts := [], laidByText := true, laidKinds := [.data, .data, .data, .data, .sentinel, .sentinel, .pinned, .pinned], laidTests := true, laidLooks := .later }
def CheckTypedCardSaid : Prop := Claim7.holds Tryz.pinned (.plain (OpenSpec.ofChange checkTypedSpec)) checkTypedCard

/-- THE TIED CARD OF 'unisonlaw13.CheckRight'. -/
def checkRightCard : Claim7 := { stood := { row := checkRightRow, standIns := [], harness := (true, "d6b050194e9c9df061ce1faf6e0c107df51240511c139a1255689d24caed6245"), looks := true }, kinds := [], alts := [], laidByText := true, laidKinds := [.data, .data, .data, .data, .sentinel, .sentinel, .pinned, .pinned], laidTests := true, laidLooks := .later }
def CheckRightCardSaid : Prop := Claim7.holds Tryz.pinned (.plain (OpenSpec.ofChange checkRightSpec)) checkRightCard

/-- THE TIED CARD OF 'unisonlaw13.CheckRenames'. -/
def checkRenamesCard : Claim7 := { stood := { row := checkRenamesRow, standIns := [], harness := (true, "d6b050194e9c9df061ce1faf6e0c107df51240511c139a1255689d24caed6245"), looks := true }, kinds := [], alts := [], laidByText := true, laidKinds := [.data, .data, .data, .data, .sentinel, .sentinel, .pinned, .pinned], laidTests := true, laidLooks := .later }
def CheckRenamesCardSaid : Prop := Claim7.holds Tryz.pinned (.plain (OpenSpec.ofChange checkRenamesSpec)) checkRenamesCard

/-- THE TIED CARD OF 'unisonlaw13.CheckForms'. -/
def checkFormsCard : Claim7 := { stood := { row := checkFormsRow, standIns := [], harness := (true, "d6b050194e9c9df061ce1faf6e0c107df51240511c139a1255689d24caed6245"), looks := true }, kinds := [], alts := [], laidByText := true, laidKinds := [.data, .data, .data, .data, .sentinel, .sentinel, .pinned, .pinned], laidTests := true, laidLooks := .later }
def CheckFormsCardSaid : Prop := Claim7.holds Tryz.pinned (.plain (OpenSpec.ofChange checkFormsSpec)) checkFormsCard

/-- THE SECOND FORM's CARD OF 'unisonlaw13.CheckTyped'. -/
def checkTypedUptoCard : Claim7 := { stood := { row := checkTypedUptoRow, standIns := [], harness := (true, "d6b050194e9c9df061ce1faf6e0c107df51240511c139a1255689d24caed6245"), looks := true }, kinds := [], alts := [], laidByText := true, laidKinds := [.data, .data, .data, .data, .sentinel, .sentinel, .pinned, .pinned], laidTests := true, laidLooks := .later }
def CheckTypedUptoCardSaid : Prop := Claim7.holds Tryz.pinned (.plain (OpenSpec.upto checkTypedSpec)) checkTypedUptoCard

/-- THE SECOND FORM's CARD OF 'unisonlaw13.CheckRight'. -/
def checkRightUptoCard : Claim7 := { stood := { row := checkRightUptoRow, standIns := [], harness := (true, "d6b050194e9c9df061ce1faf6e0c107df51240511c139a1255689d24caed6245"), looks := true }, kinds := [], alts := [], laidByText := true, laidKinds := [.data, .data, .data, .data, .sentinel, .sentinel, .pinned, .pinned], laidTests := true, laidLooks := .later }
def CheckRightUptoCardSaid : Prop := Claim7.holds Tryz.pinned (.plain (OpenSpec.upto checkRightSpec)) checkRightUptoCard

/-- THE SECOND FORM's CARD OF 'unisonlaw13.CheckRenames'. -/
def checkRenamesUptoCard : Claim7 := { stood := { row := checkRenamesUptoRow, standIns := [], harness := (true, "d6b050194e9c9df061ce1faf6e0c107df51240511c139a1255689d24caed6245"), looks := true }, kinds := [], alts := [], laidByText := true, laidKinds := [.data, .data, .data, .data, .sentinel, .sentinel, .pinned, .pinned], laidTests := true, laidLooks := .later }
def CheckRenamesUptoCardSaid : Prop := Claim7.holds Tryz.pinned (.plain (OpenSpec.upto checkRenamesSpec)) checkRenamesUptoCard

/-- THE SECOND FORM's CARD OF 'unisonlaw13.CheckForms'. -/
def checkFormsUptoCard : Claim7 := { stood := { row := checkFormsUptoRow, standIns := [], harness := (true, "d6b050194e9c9df061ce1faf6e0c107df51240511c139a1255689d24caed6245"), looks := true }, kinds := [], alts := [], laidByText := true, laidKinds := [.data, .data, .data, .data, .sentinel, .sentinel, .pinned, .pinned], laidTests := true, laidLooks := .later }
def CheckFormsUptoCardSaid : Prop := Claim7.holds Tryz.pinned (.plain (OpenSpec.upto checkFormsSpec)) checkFormsUptoCard
end Rows
end Go.Proofs.YtacceochippkaaaGreatDoor
