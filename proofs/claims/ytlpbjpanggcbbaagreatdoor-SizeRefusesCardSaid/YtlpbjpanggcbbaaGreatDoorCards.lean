/-
  DERIVED. GIVEN WITH THE SEED: THE CARDS: each row of YtlpbjpanggcbbaaGreatDoorRows.lean that lists a variable, with what it lists TIED to the program's text (the seventh form; the later family's looks); each row that meets fmt, with fmt's text TOLD by the authors' own Lean function (tested against real Go, not proved from fmt's source: count such statements apart). THE CARD IS WHAT COUNTS. Prove the row's statement (the work); the ties are given (YtlpbjpanggcbbaaGreatDoorTie.lean); close each card by the builder's one call (the guide's Derived/Test/ToyasCard.lean, 'card_holds'). Laid BY PROGRAM, IN A SANDBOX (cutbox-door.mjs). By AI agents, Wed Nov 11 2026. No macro, syntax, notation, axiom, sorry.
-/
import Derived.Test.YtlpbjpanggcbbaaGreatDoorRows
import GoSem.ClaimSeven
namespace Go.Proofs.YtlpbjpanggcbbaaGreatDoor
namespace Rows

/-- THE TIED CARD OF 'ctrielaw21.WalkRefuses'. -/
def walkRefusesCard : Claim7 := { stood := { row := walkRefusesRow, standIns := [], harness := (true, "17972c1f69bc38d07d567a9ffe6d0a36add422bbc0c9aa5842b621c0bdd0c51d"), looks := true }, kinds := [], alts := [], laidByText := true, laidKinds := [.data], laidTests := true, laidLooks := .later }
def WalkRefusesCardSaid : Prop := Claim7.holds Tryz.pinned (.plain (OpenSpec.ofChange walkRefusesSpec)) walkRefusesCard

/-- THE TIED CARD OF 'ctrielaw22.SizeRefuses'. -/
def sizeRefusesCard : Claim7 := { stood := { row := sizeRefusesRow, standIns := [], harness := (true, "17972c1f69bc38d07d567a9ffe6d0a36add422bbc0c9aa5842b621c0bdd0c51d"), looks := true }, kinds := [], alts := [], laidByText := true, laidKinds := [.data], laidTests := true, laidLooks := .later }
def SizeRefusesCardSaid : Prop := Claim7.holds Tryz.pinned (.plain (OpenSpec.ofChange sizeRefusesSpec)) sizeRefusesCard

/-- THE TIED CARD OF 'ctrielaw21.WalkExact'. -/
def walkExactCard : Claim7 := { stood := { row := walkExactRow, standIns := [], harness := (true, "17972c1f69bc38d07d567a9ffe6d0a36add422bbc0c9aa5842b621c0bdd0c51d"), looks := true }, kinds := [], alts := [], laidByText := true, laidKinds := [.data], laidTests := true, laidLooks := .later }
def WalkExactCardSaid : Prop := Claim7.holds Tryz.pinned (.plain (OpenSpec.ofChange walkExactSpec)) walkExactCard

/-- THE TIED CARD OF 'ctrielaw22.SizeExact'. -/
def sizeExactCard : Claim7 := { stood := { row := sizeExactRow, standIns := [], harness := (true, "17972c1f69bc38d07d567a9ffe6d0a36add422bbc0c9aa5842b621c0bdd0c51d"), looks := true }, kinds := [], alts := [], laidByText := true, laidKinds := [.data], laidTests := true, laidLooks := .later }
def SizeExactCardSaid : Prop := Claim7.holds Tryz.pinned (.plain (OpenSpec.ofChange sizeExactSpec)) sizeExactCard

/-- THE SECOND FORM's CARD OF 'ctrielaw21.WalkRefuses'. -/
def walkRefusesUptoCard : Claim7 := { stood := { row := walkRefusesUptoRow, standIns := [], harness := (true, "17972c1f69bc38d07d567a9ffe6d0a36add422bbc0c9aa5842b621c0bdd0c51d"), looks := true }, kinds := [], alts := [], laidByText := true, laidKinds := [.data], laidTests := true, laidLooks := .later }
def WalkRefusesUptoCardSaid : Prop := Claim7.holds Tryz.pinned (.plain (OpenSpec.upto walkRefusesSpec)) walkRefusesUptoCard

/-- THE SECOND FORM's CARD OF 'ctrielaw22.SizeRefuses'. -/
def sizeRefusesUptoCard : Claim7 := { stood := { row := sizeRefusesUptoRow, standIns := [], harness := (true, "17972c1f69bc38d07d567a9ffe6d0a36add422bbc0c9aa5842b621c0bdd0c51d"), looks := true }, kinds := [], alts := [], laidByText := true, laidKinds := [.data], laidTests := true, laidLooks := .later }
def SizeRefusesUptoCardSaid : Prop := Claim7.holds Tryz.pinned (.plain (OpenSpec.upto sizeRefusesSpec)) sizeRefusesUptoCard

/-- THE SECOND FORM's CARD OF 'ctrielaw21.WalkExact'. -/
def walkExactUptoCard : Claim7 := { stood := { row := walkExactUptoRow, standIns := [], harness := (true, "17972c1f69bc38d07d567a9ffe6d0a36add422bbc0c9aa5842b621c0bdd0c51d"), looks := true }, kinds := [], alts := [], laidByText := true, laidKinds := [.data], laidTests := true, laidLooks := .later }
def WalkExactUptoCardSaid : Prop := Claim7.holds Tryz.pinned (.plain (OpenSpec.upto walkExactSpec)) walkExactUptoCard

/-- THE SECOND FORM's CARD OF 'ctrielaw22.SizeExact'. -/
def sizeExactUptoCard : Claim7 := { stood := { row := sizeExactUptoRow, standIns := [], harness := (true, "17972c1f69bc38d07d567a9ffe6d0a36add422bbc0c9aa5842b621c0bdd0c51d"), looks := true }, kinds := [], alts := [], laidByText := true, laidKinds := [.data], laidTests := true, laidLooks := .later }
def SizeExactUptoCardSaid : Prop := Claim7.holds Tryz.pinned (.plain (OpenSpec.upto sizeExactSpec)) sizeExactUptoCard
end Rows
end Go.Proofs.YtlpbjpanggcbbaaGreatDoor
