/-
  DERIVED. GIVEN WITH THE SEED: THE CARDS: each row of YtmddopocbbnhlaaGreatDoorRows.lean that lists a variable, with what it lists TIED to the program's text (the seventh form; the later family's looks); each row that meets fmt, with fmt's text TOLD by the authors' own Lean function (tested against real Go, not proved from fmt's source: count such statements apart). THE CARD IS WHAT COUNTS. Prove the row's statement (the work); the ties are given (YtmddopocbbnhlaaGreatDoorTie.lean); close each card by the builder's one call (the guide's Derived/Test/ToyasCard.lean, 'card_holds'). Laid BY PROGRAM, IN A SANDBOX (cutbox-door.mjs). By AI agents, Wed Nov 11 2026. No macro, syntax, notation, axiom, sorry.
-/
import Derived.Test.YtmddopocbbnhlaaGreatDoorRows
import GoSem.ClaimSeven
namespace Go.Proofs.YtmddopocbbnhlaaGreatDoor
namespace Rows

/-- THE TIED CARD OF 'unisonlaw14.DenoteStates'. -/
def denoteStatesCard : Claim7 := { stood := { row := denoteStatesRow, standIns := [], harness := (true, "7c6fa2171ab0bd2f94dbae950da9bd83196292c547ae373b2fa84278b4d1576b"), looks := true }, kinds := [], alts := [], laidByText := true, laidKinds := [.data, .data, .data, .data, .sentinel, .sentinel, .pinned, .pinned], laidTests := true, laidLooks := .later }
def DenoteStatesCardSaid : Prop := Claim7.holds Tryz.pinned (.plain (OpenSpec.ofChange denoteStatesSpec)) denoteStatesCard

/-- THE SECOND FORM's CARD OF 'unisonlaw14.DenoteStates'. -/
def denoteStatesUptoCard : Claim7 := { stood := { row := denoteStatesUptoRow, standIns := [], harness := (true, "7c6fa2171ab0bd2f94dbae950da9bd83196292c547ae373b2fa84278b4d1576b"), looks := true }, kinds := [], alts := [], laidByText := true, laidKinds := [.data, .data, .data, .data, .sentinel, .sentinel, .pinned, .pinned], laidTests := true, laidLooks := .later }
def DenoteStatesUptoCardSaid : Prop := Claim7.holds Tryz.pinned (.plain (OpenSpec.upto denoteStatesSpec)) denoteStatesUptoCard
end Rows
end Go.Proofs.YtmddopocbbnhlaaGreatDoor
