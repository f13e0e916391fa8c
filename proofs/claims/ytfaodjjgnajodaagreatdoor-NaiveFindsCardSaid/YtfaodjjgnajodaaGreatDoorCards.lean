/-
  DERIVED. GIVEN WITH THE SEED: THE CARDS: each row of YtfaodjjgnajodaaGreatDoorRows.lean that lists a variable, with what it lists TIED to the program's text (the seventh form; the later family's looks); each row that meets fmt, with fmt's text TOLD by the authors' own Lean function (tested against real Go, not proved from fmt's source: count such statements apart). THE CARD IS WHAT COUNTS. Prove the row's statement (the work); the ties are given (YtfaodjjgnajodaaGreatDoorTie.lean); close each card by the builder's one call (the guide's Derived/Test/ToyasCard.lean, 'card_holds'). Laid BY PROGRAM, IN A SANDBOX (cutbox-door.mjs). By AI agents, Wed Nov 11 2026. No macro, syntax, notation, axiom, sorry.
-/
import Derived.Test.YtfaodjjgnajodaaGreatDoorRows
import GoSem.ClaimSeven
namespace Go.Proofs.YtfaodjjgnajodaaGreatDoor
namespace Rows

/-- THE TIED CARD OF 'mandatelaw11.NaiveFinds'. -/
def naiveFindsCard : Claim7 := { stood := { row := naiveFindsRow, standIns := [], harness := (true, "82b87b9594d5a2f175d2a26467ebd441b97b17264049be157b30a1b32e8a6d08"), looks := true }, kinds := [], alts := [], laidByText := true, laidKinds := [.data, .data, .handle, .pinned], laidTests := true, laidLooks := .later }
def NaiveFindsCardSaid : Prop := Claim7.holds Tryz.pinned (.plain (OpenSpec.ofChange naiveFindsSpec)) naiveFindsCard

/-- THE SECOND FORM's CARD OF 'mandatelaw11.NaiveFinds'. -/
def naiveFindsUptoCard : Claim7 := { stood := { row := naiveFindsUptoRow, standIns := [], harness := (true, "82b87b9594d5a2f175d2a26467ebd441b97b17264049be157b30a1b32e8a6d08"), looks := true }, kinds := [], alts := [], laidByText := true, laidKinds := [.data, .data, .handle, .pinned], laidTests := true, laidLooks := .later }
def NaiveFindsUptoCardSaid : Prop := Claim7.holds Tryz.pinned (.plain (OpenSpec.upto naiveFindsSpec)) naiveFindsUptoCard
end Rows
end Go.Proofs.YtfaodjjgnajodaaGreatDoor
