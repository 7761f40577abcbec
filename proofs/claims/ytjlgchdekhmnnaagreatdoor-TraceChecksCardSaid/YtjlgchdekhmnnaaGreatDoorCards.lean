/-
  DERIVED. GIVEN WITH THE SEED: THE CARDS: each row of YtjlgchdekhmnnaaGreatDoorRows.lean that lists a variable, with what it lists TIED to the program's text (the seventh form; the later family's looks); each row that meets fmt, with fmt's text TOLD by the authors' own Lean function (tested against real Go, not proved from fmt's source: count such statements apart). THE CARD IS WHAT COUNTS. Prove the row's statement (the work); the ties are given (YtjlgchdekhmnnaaGreatDoorTie.lean); close each card by the builder's one call (the guide's Derived/Test/ToyasCard.lean, 'card_holds'). Laid BY PROGRAM, IN A SANDBOX (cutbox-door.mjs). By AI agents, Wed Nov 11 2026. No macro, syntax, notation, axiom, sorry.
-/
import Derived.Test.YtjlgchdekhmnnaaGreatDoorRows
import GoSem.ClaimSeven
namespace Go.Proofs.YtjlgchdekhmnnaaGreatDoor
namespace Rows

/-- THE TIED CARD OF 'ctrielaw23.HandleThreads'. -/
def handleThreadsCard : Claim7 := { stood := { row := handleThreadsRow, standIns := [], harness := (true, "694633718740e492d2d97b6b92bcda35d52d365d930c78a40e392f73690138b4"), looks := true }, kinds := [], alts := [], laidByText := true, laidKinds := [.data], laidTests := true, laidLooks := .later }
def HandleThreadsCardSaid : Prop := Claim7.holds Tryz.pinned (.plain (OpenSpec.ofChange handleThreadsSpec)) handleThreadsCard

/-- THE TIED CARD OF 'ctrielaw25.SchedNodes'. -/
def schedNodesCard : Claim7 := { stood := { row := schedNodesRow, standIns := [], harness := (true, "694633718740e492d2d97b6b92bcda35d52d365d930c78a40e392f73690138b4"), looks := true }, kinds := [], alts := [], laidByText := true, laidKinds := [.data], laidTests := true, laidLooks := .later }
def SchedNodesCardSaid : Prop := Claim7.holds Tryz.pinned (.plain (OpenSpec.ofChange schedNodesSpec)) schedNodesCard

/-- THE TIED CARD OF 'ctrielaw25.SchedSkips'. -/
def schedSkipsCard : Claim7 := { stood := { row := schedSkipsRow, standIns := [], harness := (true, "694633718740e492d2d97b6b92bcda35d52d365d930c78a40e392f73690138b4"), looks := true }, kinds := [], alts := [], laidByText := true, laidKinds := [.data], laidTests := true, laidLooks := .later }
def SchedSkipsCardSaid : Prop := Claim7.holds Tryz.pinned (.plain (OpenSpec.ofChange schedSkipsSpec)) schedSkipsCard

/-- THE TIED CARD OF 'ctrielaw30.TraceChecks'. -/
def traceChecksCard : Claim7 := { stood := { row := traceChecksRow, standIns := [], harness := (true, "694633718740e492d2d97b6b92bcda35d52d365d930c78a40e392f73690138b4"), looks := true }, kinds := [], alts := [], laidByText := true, laidKinds := [.data], laidTests := true, laidLooks := .later }
def TraceChecksCardSaid : Prop := Claim7.holds Tryz.pinned (.plain (OpenSpec.ofChange traceChecksSpec)) traceChecksCard

/-- THE TIED CARD OF 'ctrielaw30.TraceSelects'. -/
def traceSelectsCard : Claim7 := { stood := { row := traceSelectsRow, standIns := [], harness := (true, "694633718740e492d2d97b6b92bcda35d52d365d930c78a40e392f73690138b4"), looks := true }, kinds := [], alts := [], laidByText := true, laidKinds := [.data], laidTests := true, laidLooks := .later }
def TraceSelectsCardSaid : Prop := Claim7.holds Tryz.pinned (.plain (OpenSpec.ofChange traceSelectsSpec)) traceSelectsCard

/-- THE TIED CARD OF 'ctrielaw29.SoloSums'. -/
def soloSumsCard : Claim7 := { stood := { row := soloSumsRow, standIns := [], harness := (true, "694633718740e492d2d97b6b92bcda35d52d365d930c78a40e392f73690138b4"), looks := true }, kinds := [], alts := [], laidByText := true, laidKinds := [.data], laidTests := true, laidLooks := .later }
def SoloSumsCardSaid : Prop := Claim7.holds Tryz.pinned (.plain (OpenSpec.ofChange soloSumsSpec)) soloSumsCard

/-- THE SECOND FORM's CARD OF 'ctrielaw23.HandleThreads'. -/
def handleThreadsUptoCard : Claim7 := { stood := { row := handleThreadsUptoRow, standIns := [], harness := (true, "694633718740e492d2d97b6b92bcda35d52d365d930c78a40e392f73690138b4"), looks := true }, kinds := [], alts := [], laidByText := true, laidKinds := [.data], laidTests := true, laidLooks := .later }
def HandleThreadsUptoCardSaid : Prop := Claim7.holds Tryz.pinned (.plain (OpenSpec.upto handleThreadsSpec)) handleThreadsUptoCard

/-- THE SECOND FORM's CARD OF 'ctrielaw25.SchedNodes'. -/
def schedNodesUptoCard : Claim7 := { stood := { row := schedNodesUptoRow, standIns := [], harness := (true, "694633718740e492d2d97b6b92bcda35d52d365d930c78a40e392f73690138b4"), looks := true }, kinds := [], alts := [], laidByText := true, laidKinds := [.data], laidTests := true, laidLooks := .later }
def SchedNodesUptoCardSaid : Prop := Claim7.holds Tryz.pinned (.plain (OpenSpec.upto schedNodesSpec)) schedNodesUptoCard

/-- THE SECOND FORM's CARD OF 'ctrielaw25.SchedSkips'. -/
def schedSkipsUptoCard : Claim7 := { stood := { row := schedSkipsUptoRow, standIns := [], harness := (true, "694633718740e492d2d97b6b92bcda35d52d365d930c78a40e392f73690138b4"), looks := true }, kinds := [], alts := [], laidByText := true, laidKinds := [.data], laidTests := true, laidLooks := .later }
def SchedSkipsUptoCardSaid : Prop := Claim7.holds Tryz.pinned (.plain (OpenSpec.upto schedSkipsSpec)) schedSkipsUptoCard

/-- THE SECOND FORM's CARD OF 'ctrielaw30.TraceChecks'. -/
def traceChecksUptoCard : Claim7 := { stood := { row := traceChecksUptoRow, standIns := [], harness := (true, "694633718740e492d2d97b6b92bcda35d52d365d930c78a40e392f73690138b4"), looks := true }, kinds := [], alts := [], laidByText := true, laidKinds := [.data], laidTests := true, laidLooks := .later }
def TraceChecksUptoCardSaid : Prop := Claim7.holds Tryz.pinned (.plain (OpenSpec.upto traceChecksSpec)) traceChecksUptoCard

/-- THE SECOND FORM's CARD OF 'ctrielaw30.TraceSelects'. -/
def traceSelectsUptoCard : Claim7 := { stood := { row := traceSelectsUptoRow, standIns := [], harness := (true, "694633718740e492d2d97b6b92bcda35d52d365d930c78a40e392f73690138b4"), looks := true }, kinds := [], alts := [], laidByText := true, laidKinds := [.data], laidTests := true, laidLooks := .later }
def TraceSelectsUptoCardSaid : Prop := Claim7.holds Tryz.pinned (.plain (OpenSpec.upto traceSelectsSpec)) traceSelectsUptoCard

/-- THE SECOND FORM's CARD OF 'ctrielaw29.SoloSums'. -/
def soloSumsUptoCard : Claim7 := { stood := { row := soloSumsUptoRow, standIns := [], harness := (true, "694633718740e492d2d97b6b92bcda35d52d365d930c78a40e392f73690138b4"), looks := true }, kinds := [], alts := [], laidByText := true, laidKinds := [.data], laidTests := true, laidLooks := .later }
def SoloSumsUptoCardSaid : Prop := Claim7.holds Tryz.pinned (.plain (OpenSpec.upto soloSumsSpec)) soloSumsUptoCard
end Rows
end Go.Proofs.YtjlgchdekhmnnaaGreatDoor
