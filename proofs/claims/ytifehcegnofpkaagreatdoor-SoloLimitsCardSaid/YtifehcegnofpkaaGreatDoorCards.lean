/-
  DERIVED. GIVEN WITH THE SEED: THE CARDS: each row of YtifehcegnofpkaaGreatDoorRows.lean that lists a variable, with what it lists TIED to the program's text (the seventh form; the later family's looks); each row that meets fmt, with fmt's text TOLD by the authors' own Lean function (tested against real Go, not proved from fmt's source: count such statements apart). THE CARD IS WHAT COUNTS. Prove the row's statement (the work); the ties are given (YtifehcegnofpkaaGreatDoorTie.lean); close each card by the builder's one call (the guide's Derived/Test/ToyasCard.lean, 'card_holds'). Laid BY PROGRAM, IN A SANDBOX (cutbox-door.mjs). By AI agents, Wed Nov 11 2026. No macro, syntax, notation, axiom, sorry.
-/
import Derived.Test.YtifehcegnofpkaaGreatDoorRows
import GoSem.ClaimSeven
namespace Go.Proofs.YtifehcegnofpkaaGreatDoor
namespace Rows

/-- THE TIED CARD OF 'ctrielaw29.SoloLimits'. -/
def soloLimitsCard : Claim7 := { stood := { row := soloLimitsRow, standIns := [], harness := (true, "740562002061882b844f225138c6dc72e93cdb5d4a1cab9960ed6f5c3eb4e940"), looks := true }, kinds := [], alts := [], laidByText := true, laidKinds := [.data], laidTests := true, laidLooks := .later }
def SoloLimitsCardSaid : Prop := Claim7.holds Tryz.pinned (.plain (OpenSpec.ofChange soloLimitsSpec)) soloLimitsCard

/-- THE SECOND FORM's CARD OF 'ctrielaw29.SoloLimits'. -/
def soloLimitsUptoCard : Claim7 := { stood := { row := soloLimitsUptoRow, standIns := [], harness := (true, "740562002061882b844f225138c6dc72e93cdb5d4a1cab9960ed6f5c3eb4e940"), looks := true }, kinds := [], alts := [], laidByText := true, laidKinds := [.data], laidTests := true, laidLooks := .later }
def SoloLimitsUptoCardSaid : Prop := Claim7.holds Tryz.pinned (.plain (OpenSpec.upto soloLimitsSpec)) soloLimitsUptoCard
end Rows
end Go.Proofs.YtifehcegnofpkaaGreatDoor
