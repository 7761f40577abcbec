/-
  DERIVED. GIVEN WITH THE SEED: THE CARDS: each row of YtahfjiloddfjaaaGreatDoorRows.lean that lists a variable, with what it lists TIED to the program's text (the seventh form; the later family's looks); each row that meets fmt, with fmt's text TOLD by the authors' own Lean function (tested against real Go, not proved from fmt's source: count such statements apart). THE CARD IS WHAT COUNTS. Prove the row's statement (the work); the ties are given (YtahfjiloddfjaaaGreatDoorTie.lean); close each card by the builder's one call (the guide's Derived/Test/ToyasCard.lean, 'card_holds'). Laid BY PROGRAM, IN A SANDBOX (cutbox-door.mjs). By AI agents, Wed Nov 11 2026. No macro, syntax, notation, axiom, sorry.
-/
import Derived.Test.YtahfjiloddfjaaaGreatDoorRows
import GoSem.ClaimSeven
namespace Go.Proofs.YtahfjiloddfjaaaGreatDoor
namespace Rows

/-- THE TIED CARD OF 'ctrielaw23.HandleNumbers'. -/
def handleNumbersCard : Claim7 := { stood := { row := handleNumbersRow, standIns := [], harness := (true, "649bd4061529d968caffdf8741950cb9755af816df6e1799db3fd5c1ab127a1f"), looks := true }, kinds := [], alts := [], laidByText := true, laidKinds := [.data], laidTests := true, laidLooks := .later }
def HandleNumbersCardSaid : Prop := Claim7.holds Tryz.pinned (.plain (OpenSpec.ofChange handleNumbersSpec)) handleNumbersCard

/-- THE TIED CARD OF 'ctrielaw23.HandleFinish'. -/
def handleFinishCard : Claim7 := { stood := { row := handleFinishRow, standIns := [], harness := (true, "649bd4061529d968caffdf8741950cb9755af816df6e1799db3fd5c1ab127a1f"), looks := true }, kinds := [], alts := [], laidByText := true, laidKinds := [.data], laidTests := true, laidLooks := .later }
def HandleFinishCardSaid : Prop := Claim7.holds Tryz.pinned (.plain (OpenSpec.ofChange handleFinishSpec)) handleFinishCard

/-- THE SECOND FORM's CARD OF 'ctrielaw23.HandleNumbers'. -/
def handleNumbersUptoCard : Claim7 := { stood := { row := handleNumbersUptoRow, standIns := [], harness := (true, "649bd4061529d968caffdf8741950cb9755af816df6e1799db3fd5c1ab127a1f"), looks := true }, kinds := [], alts := [], laidByText := true, laidKinds := [.data], laidTests := true, laidLooks := .later }
def HandleNumbersUptoCardSaid : Prop := Claim7.holds Tryz.pinned (.plain (OpenSpec.upto handleNumbersSpec)) handleNumbersUptoCard

/-- THE SECOND FORM's CARD OF 'ctrielaw23.HandleFinish'. -/
def handleFinishUptoCard : Claim7 := { stood := { row := handleFinishUptoRow, standIns := [], harness := (true, "649bd4061529d968caffdf8741950cb9755af816df6e1799db3fd5c1ab127a1f"), looks := true }, kinds := [], alts := [], laidByText := true, laidKinds := [.data], laidTests := true, laidLooks := .later }
def HandleFinishUptoCardSaid : Prop := Claim7.holds Tryz.pinned (.plain (OpenSpec.upto handleFinishSpec)) handleFinishUptoCard
end Rows
end Go.Proofs.YtahfjiloddfjaaaGreatDoor
