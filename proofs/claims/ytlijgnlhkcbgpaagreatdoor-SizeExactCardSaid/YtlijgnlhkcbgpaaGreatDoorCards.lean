/-
  DERIVED. GIVEN WITH THE SEED: THE CARDS: each row of YtlijgnlhkcbgpaaGreatDoorRows.lean that lists a variable, with what it lists TIED to the program's text (the seventh form; the later family's looks); each row that meets fmt, with fmt's text TOLD by the authors' own Lean function (tested against real Go, not proved from fmt's source: count such statements apart). THE CARD IS WHAT COUNTS. Prove the row's statement (the work); the ties are given (YtlijgnlhkcbgpaaGreatDoorTie.lean); close each card by the builder's one call (the guide's Derived/Test/ToyasCard.lean, 'card_holds'). Laid BY PROGRAM, IN A SANDBOX (cutbox-door.mjs). By AI agents, Wed Nov 11 2026. No macro, syntax, notation, axiom, sorry.
-/
import Derived.Test.YtlijgnlhkcbgpaaGreatDoorRows
import GoSem.ClaimSeven
namespace Go.Proofs.YtlijgnlhkcbgpaaGreatDoor
namespace Rows

/-- THE TIED CARD OF 'ctrielaw21.WalkExact'. -/
def walkExactCard : Claim7 := { stood := { row := walkExactRow, standIns := [], harness := (true, "287d71a84689238def20c90dfeddef91dae8ef6a45239b79be3b2d4ef2827177"), looks := true }, kinds := [], alts := [], laidByText := true, laidKinds := [.data], laidTests := true, laidLooks := .later }
def WalkExactCardSaid : Prop := Claim7.holds Tryz.pinned (.plain (OpenSpec.ofChange walkExactSpec)) walkExactCard

/-- THE TIED CARD OF 'ctrielaw22.SizeExact'. -/
def sizeExactCard : Claim7 := { stood := { row := sizeExactRow, standIns := [], harness := (true, "287d71a84689238def20c90dfeddef91dae8ef6a45239b79be3b2d4ef2827177"), looks := true }, kinds := [], alts := [], laidByText := true, laidKinds := [.data], laidTests := true, laidLooks := .later }
def SizeExactCardSaid : Prop := Claim7.holds Tryz.pinned (.plain (OpenSpec.ofChange sizeExactSpec)) sizeExactCard

/-- THE SECOND FORM's CARD OF 'ctrielaw21.WalkExact'. -/
def walkExactUptoCard : Claim7 := { stood := { row := walkExactUptoRow, standIns := [], harness := (true, "287d71a84689238def20c90dfeddef91dae8ef6a45239b79be3b2d4ef2827177"), looks := true }, kinds := [], alts := [], laidByText := true, laidKinds := [.data], laidTests := true, laidLooks := .later }
def WalkExactUptoCardSaid : Prop := Claim7.holds Tryz.pinned (.plain (OpenSpec.upto walkExactSpec)) walkExactUptoCard

/-- THE SECOND FORM's CARD OF 'ctrielaw22.SizeExact'. -/
def sizeExactUptoCard : Claim7 := { stood := { row := sizeExactUptoRow, standIns := [], harness := (true, "287d71a84689238def20c90dfeddef91dae8ef6a45239b79be3b2d4ef2827177"), looks := true }, kinds := [], alts := [], laidByText := true, laidKinds := [.data], laidTests := true, laidLooks := .later }
def SizeExactUptoCardSaid : Prop := Claim7.holds Tryz.pinned (.plain (OpenSpec.upto sizeExactSpec)) sizeExactUptoCard
end Rows
end Go.Proofs.YtlijgnlhkcbgpaaGreatDoor
