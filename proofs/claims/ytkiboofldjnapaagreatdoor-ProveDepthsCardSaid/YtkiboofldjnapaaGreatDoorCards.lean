/-
  DERIVED. GIVEN WITH THE SEED: THE CARDS: each row of YtkiboofldjnapaaGreatDoorRows.lean that lists a variable, with what it lists TIED to the program's text (the seventh form; the later family's looks); each row that meets fmt, with fmt's text TOLD by the authors' own Lean function (tested against real Go, not proved from fmt's source: count such statements apart). THE CARD IS WHAT COUNTS. Prove the row's statement (the work); the ties are given (YtkiboofldjnapaaGreatDoorTie.lean); close each card by the builder's one call (the guide's Derived/Test/ToyasCard.lean, 'card_holds'). Laid BY PROGRAM, IN A SANDBOX (cutbox-door.mjs). By AI agents, Wed Nov 11 2026. No macro, syntax, notation, axiom, sorry.
-/
import Derived.Test.YtkiboofldjnapaaGreatDoorRows
import GoSem.ClaimSeven
namespace Go.Proofs.YtkiboofldjnapaaGreatDoor
namespace Rows

/-- THE TIED CARD OF 'mandatelaw15.ProveDepths'. -/
def proveDepthsCard : Claim7 := { stood := { row := proveDepthsRow, standIns := [], harness := (true, "69afbc3496bc77e3909973e73878520fcc31e6c29e2db10f9f9b92ab99a42fb5"), looks := true }, kinds := [], alts := [], laidByText := true, laidKinds := [.data, .data, .handle, .pinned], laidTests := true, laidLooks := .later }
def ProveDepthsCardSaid : Prop := Claim7.holds Tryz.pinned (.plain (OpenSpec.ofChange proveDepthsSpec)) proveDepthsCard

/-- THE SECOND FORM's CARD OF 'mandatelaw15.ProveDepths'. -/
def proveDepthsUptoCard : Claim7 := { stood := { row := proveDepthsUptoRow, standIns := [], harness := (true, "69afbc3496bc77e3909973e73878520fcc31e6c29e2db10f9f9b92ab99a42fb5"), looks := true }, kinds := [], alts := [], laidByText := true, laidKinds := [.data, .data, .handle, .pinned], laidTests := true, laidLooks := .later }
def ProveDepthsUptoCardSaid : Prop := Claim7.holds Tryz.pinned (.plain (OpenSpec.upto proveDepthsSpec)) proveDepthsUptoCard
end Rows
end Go.Proofs.YtkiboofldjnapaaGreatDoor
