/-
  No cell of these rows narrows 'for every input' (looked for: loops, veiled, ifaces, maps, wideKeys, modest, calm, conditions, laid).
  DERIVED. THE GIVEN ROWS OF THIS SEAT. 3 by the template 'for every input the law returns true; each argument reads behind the call as it read before'; 0 by the template 'total and deterministic' (their statements: YtnhdmcipglnkfaaGreatTotals.lean).
  GIVEN WITH THE SEED: the statements are not yours to turn. If you find one false, say at which input.
  Laid BY PROGRAM, IN A SANDBOX (cutbox-rows.mjs): the forced cells as the released guide's own fill.sh prints them over the translation ab50d6a6ea63581b… (all of the seat's roots in one cut). By AI agents, Wed Nov 11 2026. No macro, syntax, notation, axiom, sorry.
-/
import Derived.Test.YtnhdmcipglnkfaaGreatChecked
import GoSem.Claim
import GoSem.ClaimJoined
import GoSem.ClaimMapViews
import Derived.JoinedTies
import Derived.KernelRfl
namespace Go.Proofs.YtnhdmcipglnkfaaGreat
/- THE CELL 'sum', in the pinned program and in every row, IS THE sha256 OF THE DUMP (.gsa) THAT YtnhdmcipglnkfaaGreatProg.lean LOADS. Nothing in Lean hashes anything: it is a label: what it is worth is what the hold of that sum in a sandbox is worth. -/
noncomputable def Tryz.pinned : Pinned := { name := "ytnhdmcipglnkfaagreat", sum := "ab50d6a6ea63581b03c39f08e775a2d6f6af462188d8580912e2ae16de211c15", checked := Tryz.checked }
namespace Rows
def none {H : Type} : Left H := { results := [], args := [] }

/-- 'ctrielaw19.SnapGenerations': WHATEVER THE INPUT: true; the input reads as it did. -/
def snapGenerationsSpec : ChangeSpec := { name := "snapGenerations", fn := fun _ => fun
  | [d] => { results := [.lit (.bool true)], args := [d] }
  | _ => none }
def snapGenerationsRow : OpenClaim := { program := "ytnhdmcipglnkfaagreat", sum := "ab50d6a6ea63581b03c39f08e775a2d6f6af462188d8580912e2ae16de211c15", func := "ctrie/ctrielaw19.SnapGenerations", spec := "snapGenerations", unfollowed := true, recurses := true, apart := false }
def SnapGenerationsSaid : Prop := snapGenerationsRow.holds Tryz.pinned (OpenSpec.ofChange snapGenerationsSpec)

/-- ITS FALSE NEIGHBOUR: 'it returns false'. Refute it at one input. -/
def snapGenerationsWrong : ChangeSpec := { name := "snapGenerations", fn := fun _ => fun
  | [d] => { results := [.lit (.bool false)], args := [d] }
  | _ => none }
def SnapGenerationsWrongFalsely : Prop := snapGenerationsRow.holds Tryz.pinned (OpenSpec.ofChange snapGenerationsWrong)

/-- 'ctrielaw18.DropCleans': WHATEVER THE INPUT: true; the input reads as it did. -/
def dropCleansSpec : ChangeSpec := { name := "dropCleans", fn := fun _ => fun
  | [d1, d2] => { results := [.lit (.bool true)], args := [d1, d2] }
  | _ => none }
def dropCleansRow : OpenClaim := { program := "ytnhdmcipglnkfaagreat", sum := "ab50d6a6ea63581b03c39f08e775a2d6f6af462188d8580912e2ae16de211c15", func := "ctrie/ctrielaw18.DropCleans", spec := "dropCleans", inPlace := ["internal/bytealg.abigen_runtime_cmpstring"], unfollowed := true, recurses := true, apart := false }
def DropCleansSaid : Prop := dropCleansRow.holds Tryz.pinned (OpenSpec.ofChange dropCleansSpec)

/-- ITS FALSE NEIGHBOUR: 'it returns false'. Refute it at one input. -/
def dropCleansWrong : ChangeSpec := { name := "dropCleans", fn := fun _ => fun
  | [d1, d2] => { results := [.lit (.bool false)], args := [d1, d2] }
  | _ => none }
def DropCleansWrongFalsely : Prop := dropCleansRow.holds Tryz.pinned (OpenSpec.ofChange dropCleansWrong)

/-- 'ctrielaw17.PutCosts': WHATEVER THE INPUT: true; the input reads as it did. -/
def putCostsSpec : ChangeSpec := { name := "putCosts", fn := fun _ => fun
  | [d1, d2] => { results := [.lit (.bool true)], args := [d1, d2] }
  | _ => none }
def putCostsRow : OpenClaim := { program := "ytnhdmcipglnkfaagreat", sum := "ab50d6a6ea63581b03c39f08e775a2d6f6af462188d8580912e2ae16de211c15", func := "ctrie/ctrielaw17.PutCosts", spec := "putCosts", inPlace := ["internal/bytealg.abigen_runtime_cmpstring"], unfollowed := true, recurses := true, apart := false }
def PutCostsSaid : Prop := putCostsRow.holds Tryz.pinned (OpenSpec.ofChange putCostsSpec)

/-- ITS FALSE NEIGHBOUR: 'it returns false'. Refute it at one input. -/
def putCostsWrong : ChangeSpec := { name := "putCosts", fn := fun _ => fun
  | [d1, d2] => { results := [.lit (.bool false)], args := [d1, d2] }
  | _ => none }
def PutCostsWrongFalsely : Prop := putCostsRow.holds Tryz.pinned (OpenSpec.ofChange putCostsWrong)

/- THE SECOND FORM. 'bulk': how many values and letters a reading holds, each counted each time it is reached (what is shared counts as often as it is met; a slice's spare places count too). A statement '..UptoSaid' is the law's where the arguments, and the package variables that the reading takes, are together of bulk at most 1048576: NARROWER than '..Said'. Prove '..Said' where nothing that the law and all that it calls make is longer than what came in: it says more and counts as full. Else prove '..UptoSaid'. A law counts once. -/
mutual
def uptoBulk {H : Type} : DataW H → Nat
  | .lit (.string bytes) => bytes.length + 1
  | .lit _ => 1
  | .nil => 1
  | .ptr d => uptoBulk d + 1
  | .slice elems spare => uptoBulkAll elems + uptoBulkAll spare + 1
  | .agg parts => uptoBulkAll parts + 1
  | .iface _ d => uptoBulk d + 1
  | .map entries => uptoBulkEntries entries + 1
  | .held _ => 1
def uptoBulkAll {H : Type} : List (DataW H) → Nat
  | [] => 0
  | d :: r => uptoBulk d + uptoBulkAll r
def uptoBulkEntries {H : Type} : List (Lit × DataW H) → Nat
  | [] => 0
  | x :: r => uptoBulkEntry x + uptoBulkEntries r
def uptoBulkEntry {H : Type} : Lit × DataW H → Nat
  | (.string bytes, d) => bytes.length + uptoBulk d + 1
  | (_, d) => uptoBulk d + 1
 end
def uptoSmall : (H : Type) → List (DataW H) → Bool := fun _ ds => decide (uptoBulkAll ds ≤ 1048576)
def OpenSpec.upto (s : _root_.Go.ChangeSpec) : _root_.Go.OpenSpec := { _root_.Go.OpenSpec.ofChange s with cond := some uptoSmall }

/-- 'ctrielaw19.SnapGenerations', WHERE WHAT IT READS IS OF BULK AT MOST 1048576: true; the input reads as it did. -/
def snapGenerationsUptoRow : OpenClaim := { program := "ytnhdmcipglnkfaagreat", sum := "ab50d6a6ea63581b03c39f08e775a2d6f6af462188d8580912e2ae16de211c15", func := "ctrie/ctrielaw19.SnapGenerations", spec := "snapGenerations", unfollowed := true, recurses := true, apart := false, narrowed := true }
def SnapGenerationsUptoSaid : Prop := snapGenerationsUptoRow.holds Tryz.pinned (OpenSpec.upto snapGenerationsSpec)

/-- 'ctrielaw18.DropCleans', WHERE WHAT IT READS IS OF BULK AT MOST 1048576: true; the input reads as it did. -/
def dropCleansUptoRow : OpenClaim := { program := "ytnhdmcipglnkfaagreat", sum := "ab50d6a6ea63581b03c39f08e775a2d6f6af462188d8580912e2ae16de211c15", func := "ctrie/ctrielaw18.DropCleans", spec := "dropCleans", inPlace := ["internal/bytealg.abigen_runtime_cmpstring"], unfollowed := true, recurses := true, apart := false, narrowed := true }
def DropCleansUptoSaid : Prop := dropCleansUptoRow.holds Tryz.pinned (OpenSpec.upto dropCleansSpec)

/-- 'ctrielaw17.PutCosts', WHERE WHAT IT READS IS OF BULK AT MOST 1048576: true; the input reads as it did. -/
def putCostsUptoRow : OpenClaim := { program := "ytnhdmcipglnkfaagreat", sum := "ab50d6a6ea63581b03c39f08e775a2d6f6af462188d8580912e2ae16de211c15", func := "ctrie/ctrielaw17.PutCosts", spec := "putCosts", inPlace := ["internal/bytealg.abigen_runtime_cmpstring"], unfollowed := true, recurses := true, apart := false, narrowed := true }
def PutCostsUptoSaid : Prop := putCostsUptoRow.holds Tryz.pinned (OpenSpec.upto putCostsSpec)

end Rows
end Go.Proofs.YtnhdmcipglnkfaaGreat
