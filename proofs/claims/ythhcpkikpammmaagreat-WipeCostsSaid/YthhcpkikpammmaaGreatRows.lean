/-
  No cell of these rows narrows 'for every input' (looked for: loops, veiled, ifaces, maps, wideKeys, modest, calm, conditions, laid).
  DERIVED. THE GIVEN ROWS OF THIS SEAT. 3 by the template 'for every input the law returns true; each argument reads behind the call as it read before'; 0 by the template 'total and deterministic' (their statements: YthhcpkikpammmaaGreatTotals.lean).
  GIVEN WITH THE SEED: the statements are not yours to turn. If you find one false, say at which input.
  Laid BY PROGRAM, IN A SANDBOX (cutbox-rows.mjs): the forced cells as the released guide's own fill.sh prints them over the translation dea0313e979ed089… (all of the seat's roots in one cut). By AI agents, Wed Nov 11 2026. No macro, syntax, notation, axiom, sorry.
-/
import Derived.Test.YthhcpkikpammmaaGreatChecked
import GoSem.Claim
import GoSem.ClaimJoined
import GoSem.ClaimMapViews
import Derived.JoinedTies
import Derived.KernelRfl
namespace Go.Proofs.YthhcpkikpammmaaGreat
/- THE CELL 'sum', in the pinned program and in every row, IS THE sha256 OF THE DUMP (.gsa) THAT YthhcpkikpammmaaGreatProg.lean LOADS. Nothing in Lean hashes anything: it is a label: what it is worth is what the hold of that sum in a sandbox is worth. -/
noncomputable def Tryz.pinned : Pinned := { name := "ythhcpkikpammmaagreat", sum := "dea0313e979ed089cfe967a598376e9374871b0823b734a16a47849b864b3ba9", checked := Tryz.checked }
namespace Rows
def none {H : Type} : Left H := { results := [], args := [] }

/-- 'ctrielaw20.WipeCosts': WHATEVER THE INPUT: true; the input reads as it did. -/
def wipeCostsSpec : ChangeSpec := { name := "wipeCosts", fn := fun _ => fun
  | [d1, d2] => { results := [.lit (.bool true)], args := [d1, d2] }
  | _ => none }
def wipeCostsRow : OpenClaim := { program := "ythhcpkikpammmaagreat", sum := "dea0313e979ed089cfe967a598376e9374871b0823b734a16a47849b864b3ba9", func := "ctrie/ctrielaw20.WipeCosts", spec := "wipeCosts", unfollowed := true, recurses := true, apart := false }
def WipeCostsSaid : Prop := wipeCostsRow.holds Tryz.pinned (OpenSpec.ofChange wipeCostsSpec)

/-- ITS FALSE NEIGHBOUR: 'it returns false'. Refute it at one input. -/
def wipeCostsWrong : ChangeSpec := { name := "wipeCosts", fn := fun _ => fun
  | [d1, d2] => { results := [.lit (.bool false)], args := [d1, d2] }
  | _ => none }
def WipeCostsWrongFalsely : Prop := wipeCostsRow.holds Tryz.pinned (OpenSpec.ofChange wipeCostsWrong)

/-- 'ctrielaw19.SnapGenerations': WHATEVER THE INPUT: true; the input reads as it did. -/
def snapGenerationsSpec : ChangeSpec := { name := "snapGenerations", fn := fun _ => fun
  | [d] => { results := [.lit (.bool true)], args := [d] }
  | _ => none }
def snapGenerationsRow : OpenClaim := { program := "ythhcpkikpammmaagreat", sum := "dea0313e979ed089cfe967a598376e9374871b0823b734a16a47849b864b3ba9", func := "ctrie/ctrielaw19.SnapGenerations", spec := "snapGenerations", unfollowed := true, recurses := true, apart := false }
def SnapGenerationsSaid : Prop := snapGenerationsRow.holds Tryz.pinned (OpenSpec.ofChange snapGenerationsSpec)

/-- ITS FALSE NEIGHBOUR: 'it returns false'. Refute it at one input. -/
def snapGenerationsWrong : ChangeSpec := { name := "snapGenerations", fn := fun _ => fun
  | [d] => { results := [.lit (.bool false)], args := [d] }
  | _ => none }
def SnapGenerationsWrongFalsely : Prop := snapGenerationsRow.holds Tryz.pinned (OpenSpec.ofChange snapGenerationsWrong)

/-- 'ctrielaw19.SnapCosts': WHATEVER THE INPUT: true; the input reads as it did. -/
def snapCostsSpec : ChangeSpec := { name := "snapCosts", fn := fun _ => fun
  | [d1, d2, d3] => { results := [.lit (.bool true)], args := [d1, d2, d3] }
  | _ => none }
def snapCostsRow : OpenClaim := { program := "ythhcpkikpammmaagreat", sum := "dea0313e979ed089cfe967a598376e9374871b0823b734a16a47849b864b3ba9", func := "ctrie/ctrielaw19.SnapCosts", spec := "snapCosts", inPlace := ["internal/bytealg.abigen_runtime_cmpstring"], unfollowed := true, recurses := true, apart := false }
def SnapCostsSaid : Prop := snapCostsRow.holds Tryz.pinned (OpenSpec.ofChange snapCostsSpec)

/-- ITS FALSE NEIGHBOUR: 'it returns false'. Refute it at one input. -/
def snapCostsWrong : ChangeSpec := { name := "snapCosts", fn := fun _ => fun
  | [d1, d2, d3] => { results := [.lit (.bool false)], args := [d1, d2, d3] }
  | _ => none }
def SnapCostsWrongFalsely : Prop := snapCostsRow.holds Tryz.pinned (OpenSpec.ofChange snapCostsWrong)

/- THE SECOND FORM. 'bulk': how many values and letters a reading holds, each counted each time it is reached (what is shared counts as often as it is met; a slice's spare places count too). A statement '..UptoSaid' is the law's where the arguments, and the package variables that the reading takes, are together of bulk at most 1048576: NARROWER than '..Said'. Prove '..Said' where nothing that the law and all that it calls make is longer than what came in: it says more and counts as full. Else prove '..UptoSaid'. A law counts once. -/
mutual
def uptoBulk {H : Type} : DataW H → Nat
  | .lit (.string bytes) => bytes.length + 1
  | .lit _ => 1
  | .nil => 1
  | .ptr d => uptoBulk d + 1
  | .slice elems spare => uptoBulkAll elems + uptoBulkAll spare + 1
  | .agg parts => uptoBulkAll parts + 1
  | .iface _ d => uptoBulk d + 1
  | .map entries => uptoBulkEntries entries + 1
  | .held _ => 1
def uptoBulkAll {H : Type} : List (DataW H) → Nat
  | [] => 0
  | d :: r => uptoBulk d + uptoBulkAll r
def uptoBulkEntries {H : Type} : List (Lit × DataW H) → Nat
  | [] => 0
  | x :: r => uptoBulkEntry x + uptoBulkEntries r
def uptoBulkEntry {H : Type} : Lit × DataW H → Nat
  | (.string bytes, d) => bytes.length + uptoBulk d + 1
  | (_, d) => uptoBulk d + 1
 end
def uptoSmall : (H : Type) → List (DataW H) → Bool := fun _ ds => decide (uptoBulkAll ds ≤ 1048576)
def OpenSpec.upto (s : _root_.Go.ChangeSpec) : _root_.Go.OpenSpec := { _root_.Go.OpenSpec.ofChange s with cond := some uptoSmall }

/-- 'ctrielaw20.WipeCosts', WHERE WHAT IT READS IS OF BULK AT MOST 1048576: true; the input reads as it did. -/
def wipeCostsUptoRow : OpenClaim := { program := "ythhcpkikpammmaagreat", sum := "dea0313e979ed089cfe967a598376e9374871b0823b734a16a47849b864b3ba9", func := "ctrie/ctrielaw20.WipeCosts", spec := "wipeCosts", unfollowed := true, recurses := true, apart := false, narrowed := true }
def WipeCostsUptoSaid : Prop := wipeCostsUptoRow.holds Tryz.pinned (OpenSpec.upto wipeCostsSpec)

/-- 'ctrielaw19.SnapGenerations', WHERE WHAT IT READS IS OF BULK AT MOST 1048576: true; the input reads as it did. -/
def snapGenerationsUptoRow : OpenClaim := { program := "ythhcpkikpammmaagreat", sum := "dea0313e979ed089cfe967a598376e9374871b0823b734a16a47849b864b3ba9", func := "ctrie/ctrielaw19.SnapGenerations", spec := "snapGenerations", unfollowed := true, recurses := true, apart := false, narrowed := true }
def SnapGenerationsUptoSaid : Prop := snapGenerationsUptoRow.holds Tryz.pinned (OpenSpec.upto snapGenerationsSpec)

/-- 'ctrielaw19.SnapCosts', WHERE WHAT IT READS IS OF BULK AT MOST 1048576: true; the input reads as it did. -/
def snapCostsUptoRow : OpenClaim := { program := "ythhcpkikpammmaagreat", sum := "dea0313e979ed089cfe967a598376e9374871b0823b734a16a47849b864b3ba9", func := "ctrie/ctrielaw19.SnapCosts", spec := "snapCosts", inPlace := ["internal/bytealg.abigen_runtime_cmpstring"], unfollowed := true, recurses := true, apart := false, narrowed := true }
def SnapCostsUptoSaid : Prop := snapCostsUptoRow.holds Tryz.pinned (OpenSpec.upto snapCostsSpec)

end Rows
end Go.Proofs.YthhcpkikpammmaaGreat
