/-
  DERIVED. GIVEN WITH THE SEED: THE CARDS: each row of YtldmkoabkiphoaaDoorRows.lean that lists a variable, with what it lists TIED to the program's text (the seventh form; the later family's looks); each row that meets fmt, with fmt's text TOLD by the authors' own Lean function (tested against real Go, not proved from fmt's source: count such statements apart). THE CARD IS WHAT COUNTS. Prove the row's statement (the work); the ties are given (YtldmkoabkiphoaaDoorTie.lean); close each card by the builder's one call (the guide's Derived/Test/ToyasCard.lean, 'card_holds'). Laid BY PROGRAM, IN A SANDBOX (cutbox-door.mjs). By AI agents, Wed Nov 11 2026. No macro, syntax, notation, axiom, sorry.
-/
import Derived.Test.YtldmkoabkiphoaaDoorRows
import GoSem.ClaimSeven
namespace Go.Proofs.YtldmkoabkiphoaaDoor
namespace Rows

/-- THE TIED CARD OF 'ctrielaw02.BitmapCounts'. -/
def bitmapCountsCard : Claim7 := { stood := { row := bitmapCountsRow, standIns := [], harness := (true, "2ccf4a8e238538cf5ac3d76d25c338e7043addcc969034d1dc611419ae489614"), looks := false }, kinds := [], alts := [], laidByText := true, laidKinds := [.data], laidTests := true, laidLooks := .later }
def BitmapCountsCardSaid : Prop := Claim7.holds Tryd.pinned (.plain (OpenSpec.ofChange bitmapCountsSpec)) bitmapCountsCard

/-- THE TIED CARD OF 'ctrielaw02.BitmapSplits'. -/
def bitmapSplitsCard : Claim7 := { stood := { row := bitmapSplitsRow, standIns := [], harness := (true, "2ccf4a8e238538cf5ac3d76d25c338e7043addcc969034d1dc611419ae489614"), looks := false }, kinds := [], alts := [], laidByText := true, laidKinds := [.data], laidTests := true, laidLooks := .later }
def BitmapSplitsCardSaid : Prop := Claim7.holds Tryd.pinned (.plain (OpenSpec.ofChange bitmapSplitsSpec)) bitmapSplitsCard

/-- THE TIED CARD OF 'ctrielaw02.BitmapChanges'. -/
def bitmapChangesCard : Claim7 := { stood := { row := bitmapChangesRow, standIns := [], harness := (true, "2ccf4a8e238538cf5ac3d76d25c338e7043addcc969034d1dc611419ae489614"), looks := false }, kinds := [], alts := [], laidByText := true, laidKinds := [.data], laidTests := true, laidLooks := .later }
def BitmapChangesCardSaid : Prop := Claim7.holds Tryd.pinned (.plain (OpenSpec.ofChange bitmapChangesSpec)) bitmapChangesCard

/-- THE TIED CARD OF 'ctrielaw02.BitmapPositions'. -/
def bitmapPositionsCard : Claim7 := { stood := { row := bitmapPositionsRow, standIns := [], harness := (true, "2ccf4a8e238538cf5ac3d76d25c338e7043addcc969034d1dc611419ae489614"), looks := false }, kinds := [], alts := [], laidByText := true, laidKinds := [.data], laidTests := true, laidLooks := .later }
def BitmapPositionsCardSaid : Prop := Claim7.holds Tryd.pinned (.plain (OpenSpec.ofChange bitmapPositionsSpec)) bitmapPositionsCard

/-- THE TIED CARD OF 'ctrielaw02.BitmapExact'. -/
def bitmapExactCard : Claim7 := { stood := { row := bitmapExactRow, standIns := [], harness := (true, "2ccf4a8e238538cf5ac3d76d25c338e7043addcc969034d1dc611419ae489614"), looks := false }, kinds := [], alts := [], laidByText := true, laidKinds := [.data], laidTests := true, laidLooks := .later }
def BitmapExactCardSaid : Prop := Claim7.holds Tryd.pinned (.plain (OpenSpec.ofChange bitmapExactSpec)) bitmapExactCard

/-- THE SECOND FORM's CARD OF 'ctrielaw02.BitmapCounts'. -/
def bitmapCountsUptoCard : Claim7 := { stood := { row := bitmapCountsUptoRow, standIns := [], harness := (true, "2ccf4a8e238538cf5ac3d76d25c338e7043addcc969034d1dc611419ae489614"), looks := false }, kinds := [], alts := [], laidByText := true, laidKinds := [.data], laidTests := true, laidLooks := .later }
def BitmapCountsUptoCardSaid : Prop := Claim7.holds Tryd.pinned (.plain (OpenSpec.upto bitmapCountsSpec)) bitmapCountsUptoCard

/-- THE SECOND FORM's CARD OF 'ctrielaw02.BitmapSplits'. -/
def bitmapSplitsUptoCard : Claim7 := { stood := { row := bitmapSplitsUptoRow, standIns := [], harness := (true, "2ccf4a8e238538cf5ac3d76d25c338e7043addcc969034d1dc611419ae489614"), looks := false }, kinds := [], alts := [], laidByText := true, laidKinds := [.data], laidTests := true, laidLooks := .later }
def BitmapSplitsUptoCardSaid : Prop := Claim7.holds Tryd.pinned (.plain (OpenSpec.upto bitmapSplitsSpec)) bitmapSplitsUptoCard

/-- THE SECOND FORM's CARD OF 'ctrielaw02.BitmapChanges'. -/
def bitmapChangesUptoCard : Claim7 := { stood := { row := bitmapChangesUptoRow, standIns := [], harness := (true, "2ccf4a8e238538cf5ac3d76d25c338e7043addcc969034d1dc611419ae489614"), looks := false }, kinds := [], alts := [], laidByText := true, laidKinds := [.data], laidTests := true, laidLooks := .later }
def BitmapChangesUptoCardSaid : Prop := Claim7.holds Tryd.pinned (.plain (OpenSpec.upto bitmapChangesSpec)) bitmapChangesUptoCard

/-- THE SECOND FORM's CARD OF 'ctrielaw02.BitmapPositions'. -/
def bitmapPositionsUptoCard : Claim7 := { stood := { row := bitmapPositionsUptoRow, standIns := [], harness := (true, "2ccf4a8e238538cf5ac3d76d25c338e7043addcc969034d1dc611419ae489614"), looks := false }, kinds := [], alts := [], laidByText := true, laidKinds := [.data], laidTests := true, laidLooks := .later }
def BitmapPositionsUptoCardSaid : Prop := Claim7.holds Tryd.pinned (.plain (OpenSpec.upto bitmapPositionsSpec)) bitmapPositionsUptoCard

/-- THE SECOND FORM's CARD OF 'ctrielaw02.BitmapExact'. -/
def bitmapExactUptoCard : Claim7 := { stood := { row := bitmapExactUptoRow, standIns := [], harness := (true, "2ccf4a8e238538cf5ac3d76d25c338e7043addcc969034d1dc611419ae489614"), looks := false }, kinds := [], alts := [], laidByText := true, laidKinds := [.data], laidTests := true, laidLooks := .later }
def BitmapExactUptoCardSaid : Prop := Claim7.holds Tryd.pinned (.plain (OpenSpec.upto bitmapExactSpec)) bitmapExactUptoCard
end Rows
end Go.Proofs.YtldmkoabkiphoaaDoor
