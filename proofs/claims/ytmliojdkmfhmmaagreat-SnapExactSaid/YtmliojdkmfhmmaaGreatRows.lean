/-
  No cell of these rows narrows 'for every input' (looked for: loops, veiled, ifaces, maps, wideKeys, modest, calm, conditions, laid).
  DERIVED. THE GIVEN ROWS OF THIS SEAT. 8 by the template 'for every input the law returns true; each argument reads behind the call as it read before'; 0 by the template 'total and deterministic' (their statements: YtmliojdkmfhmmaaGreatTotals.lean).
  GIVEN WITH THE SEED: the statements are not yours to turn. If you find one false, say at which input.
  Laid BY PROGRAM, IN A SANDBOX (cutbox-rows.mjs): the forced cells as the released guide's own fill.sh prints them over the translation 24b9ac4af62850e0… (all of the seat's roots in one cut). By AI agents, Wed Nov 11 2026. No macro, syntax, notation, axiom, sorry.
-/
import Derived.Test.YtmliojdkmfhmmaaGreatChecked
import GoSem.Claim
import GoSem.ClaimJoined
import GoSem.ClaimMapViews
import Derived.JoinedTies
import Derived.KernelRfl
namespace Go.Proofs.YtmliojdkmfhmmaaGreat
/- THE CELL 'sum', in the pinned program and in every row, IS THE sha256 OF THE DUMP (.gsa) THAT YtmliojdkmfhmmaaGreatProg.lean LOADS. Nothing in Lean hashes anything: it is a label: what it is worth is what the hold of that sum in a sandbox is worth. -/
noncomputable def Tryz.pinned : Pinned := { name := "ytmliojdkmfhmmaagreat", sum := "24b9ac4af62850e03fe1af72a01139e723198568f874da37e710e3f4e8a2668b", checked := Tryz.checked }
namespace Rows
def none {H : Type} : Left H := { results := [], args := [] }

/-- 'ctrielaw20.WipeExact': WHATEVER THE INPUT: true; the input reads as it did. -/
def wipeExactSpec : ChangeSpec := { name := "wipeExact", fn := fun _ => fun
  | [d1, d2] => { results := [.lit (.bool true)], args := [d1, d2] }
  | _ => none }
def wipeExactRow : OpenClaim := { program := "ytmliojdkmfhmmaagreat", sum := "24b9ac4af62850e03fe1af72a01139e723198568f874da37e710e3f4e8a2668b", func := "ctrie/ctrielaw20.WipeExact", spec := "wipeExact", unfollowed := true, recurses := true, apart := false }
def WipeExactSaid : Prop := wipeExactRow.holds Tryz.pinned (OpenSpec.ofChange wipeExactSpec)

/-- ITS FALSE NEIGHBOUR: 'it returns false'. Refute it at one input. -/
def wipeExactWrong : ChangeSpec := { name := "wipeExact", fn := fun _ => fun
  | [d1, d2] => { results := [.lit (.bool false)], args := [d1, d2] }
  | _ => none }
def WipeExactWrongFalsely : Prop := wipeExactRow.holds Tryz.pinned (OpenSpec.ofChange wipeExactWrong)

/-- 'ctrielaw20.WipeCosts': WHATEVER THE INPUT: true; the input reads as it did. -/
def wipeCostsSpec : ChangeSpec := { name := "wipeCosts", fn := fun _ => fun
  | [d1, d2] => { results := [.lit (.bool true)], args := [d1, d2] }
  | _ => none }
def wipeCostsRow : OpenClaim := { program := "ytmliojdkmfhmmaagreat", sum := "24b9ac4af62850e03fe1af72a01139e723198568f874da37e710e3f4e8a2668b", func := "ctrie/ctrielaw20.WipeCosts", spec := "wipeCosts", unfollowed := true, recurses := true, apart := false }
def WipeCostsSaid : Prop := wipeCostsRow.holds Tryz.pinned (OpenSpec.ofChange wipeCostsSpec)

/-- ITS FALSE NEIGHBOUR: 'it returns false'. Refute it at one input. -/
def wipeCostsWrong : ChangeSpec := { name := "wipeCosts", fn := fun _ => fun
  | [d1, d2] => { results := [.lit (.bool false)], args := [d1, d2] }
  | _ => none }
def WipeCostsWrongFalsely : Prop := wipeCostsRow.holds Tryz.pinned (OpenSpec.ofChange wipeCostsWrong)

/-- 'ctrielaw20.WipeClears': WHATEVER THE INPUT: true; the input reads as it did. -/
def wipeClearsSpec : ChangeSpec := { name := "wipeClears", fn := fun _ => fun
  | [d1, d2] => { results := [.lit (.bool true)], args := [d1, d2] }
  | _ => none }
def wipeClearsRow : OpenClaim := { program := "ytmliojdkmfhmmaagreat", sum := "24b9ac4af62850e03fe1af72a01139e723198568f874da37e710e3f4e8a2668b", func := "ctrie/ctrielaw20.WipeClears", spec := "wipeClears", unfollowed := true, recurses := true, apart := false }
def WipeClearsSaid : Prop := wipeClearsRow.holds Tryz.pinned (OpenSpec.ofChange wipeClearsSpec)

/-- ITS FALSE NEIGHBOUR: 'it returns false'. Refute it at one input. -/
def wipeClearsWrong : ChangeSpec := { name := "wipeClears", fn := fun _ => fun
  | [d1, d2] => { results := [.lit (.bool false)], args := [d1, d2] }
  | _ => none }
def WipeClearsWrongFalsely : Prop := wipeClearsRow.holds Tryz.pinned (OpenSpec.ofChange wipeClearsWrong)

/-- 'ctrielaw19.SnapGenerations': WHATEVER THE INPUT: true; the input reads as it did. -/
def snapGenerationsSpec : ChangeSpec := { name := "snapGenerations", fn := fun _ => fun
  | [d] => { results := [.lit (.bool true)], args := [d] }
  | _ => none }
def snapGenerationsRow : OpenClaim := { program := "ytmliojdkmfhmmaagreat", sum := "24b9ac4af62850e03fe1af72a01139e723198568f874da37e710e3f4e8a2668b", func := "ctrie/ctrielaw19.SnapGenerations", spec := "snapGenerations", unfollowed := true, recurses := true, apart := false }
def SnapGenerationsSaid : Prop := snapGenerationsRow.holds Tryz.pinned (OpenSpec.ofChange snapGenerationsSpec)

/-- ITS FALSE NEIGHBOUR: 'it returns false'. Refute it at one input. -/
def snapGenerationsWrong : ChangeSpec := { name := "snapGenerations", fn := fun _ => fun
  | [d] => { results := [.lit (.bool false)], args := [d] }
  | _ => none }
def SnapGenerationsWrongFalsely : Prop := snapGenerationsRow.holds Tryz.pinned (OpenSpec.ofChange snapGenerationsWrong)

/-- 'ctrielaw18.DropExact': WHATEVER THE INPUT: true; the input reads as it did. -/
def dropExactSpec : ChangeSpec := { name := "dropExact", fn := fun _ => fun
  | [d1, d2, d3, d4] => { results := [.lit (.bool true)], args := [d1, d2, d3, d4] }
  | _ => none }
def dropExactRow : OpenClaim := { program := "ytmliojdkmfhmmaagreat", sum := "24b9ac4af62850e03fe1af72a01139e723198568f874da37e710e3f4e8a2668b", func := "ctrie/ctrielaw18.DropExact", spec := "dropExact", inPlace := ["internal/bytealg.abigen_runtime_cmpstring"], unfollowed := true, recurses := true, apart := false }
def DropExactSaid : Prop := dropExactRow.holds Tryz.pinned (OpenSpec.ofChange dropExactSpec)

/-- ITS FALSE NEIGHBOUR: 'it returns false'. Refute it at one input. -/
def dropExactWrong : ChangeSpec := { name := "dropExact", fn := fun _ => fun
  | [d1, d2, d3, d4] => { results := [.lit (.bool false)], args := [d1, d2, d3, d4] }
  | _ => none }
def DropExactWrongFalsely : Prop := dropExactRow.holds Tryz.pinned (OpenSpec.ofChange dropExactWrong)

/-- 'ctrielaw17.PutExact': WHATEVER THE INPUT: true; the input reads as it did. -/
def putExactSpec : ChangeSpec := { name := "putExact", fn := fun _ => fun
  | [d1, d2, d3, d4, d5] => { results := [.lit (.bool true)], args := [d1, d2, d3, d4, d5] }
  | _ => none }
def putExactRow : OpenClaim := { program := "ytmliojdkmfhmmaagreat", sum := "24b9ac4af62850e03fe1af72a01139e723198568f874da37e710e3f4e8a2668b", func := "ctrie/ctrielaw17.PutExact", spec := "putExact", inPlace := ["internal/bytealg.abigen_runtime_cmpstring"], unfollowed := true, recurses := true, apart := false }
def PutExactSaid : Prop := putExactRow.holds Tryz.pinned (OpenSpec.ofChange putExactSpec)

/-- ITS FALSE NEIGHBOUR: 'it returns false'. Refute it at one input. -/
def putExactWrong : ChangeSpec := { name := "putExact", fn := fun _ => fun
  | [d1, d2, d3, d4, d5] => { results := [.lit (.bool false)], args := [d1, d2, d3, d4, d5] }
  | _ => none }
def PutExactWrongFalsely : Prop := putExactRow.holds Tryz.pinned (OpenSpec.ofChange putExactWrong)

/-- 'ctrielaw19.SnapExact': WHATEVER THE INPUT: true; the input reads as it did. -/
def snapExactSpec : ChangeSpec := { name := "snapExact", fn := fun _ => fun
  | [d1, d2, d3] => { results := [.lit (.bool true)], args := [d1, d2, d3] }
  | _ => none }
def snapExactRow : OpenClaim := { program := "ytmliojdkmfhmmaagreat", sum := "24b9ac4af62850e03fe1af72a01139e723198568f874da37e710e3f4e8a2668b", func := "ctrie/ctrielaw19.SnapExact", spec := "snapExact", inPlace := ["internal/bytealg.abigen_runtime_cmpstring"], unfollowed := true, recurses := true, apart := false }
def SnapExactSaid : Prop := snapExactRow.holds Tryz.pinned (OpenSpec.ofChange snapExactSpec)

/-- ITS FALSE NEIGHBOUR: 'it returns false'. Refute it at one input. -/
def snapExactWrong : ChangeSpec := { name := "snapExact", fn := fun _ => fun
  | [d1, d2, d3] => { results := [.lit (.bool false)], args := [d1, d2, d3] }
  | _ => none }
def SnapExactWrongFalsely : Prop := snapExactRow.holds Tryz.pinned (OpenSpec.ofChange snapExactWrong)

/-- 'ctrielaw20.WipeTogether': WHATEVER THE INPUT: true; the input reads as it did. -/
def wipeTogetherSpec : ChangeSpec := { name := "wipeTogether", fn := fun _ => fun
  | [d1, d2, d3] => { results := [.lit (.bool true)], args := [d1, d2, d3] }
  | _ => none }
def wipeTogetherRow : OpenClaim := { program := "ytmliojdkmfhmmaagreat", sum := "24b9ac4af62850e03fe1af72a01139e723198568f874da37e710e3f4e8a2668b", func := "ctrie/ctrielaw20.WipeTogether", spec := "wipeTogether", inPlace := ["internal/bytealg.abigen_runtime_cmpstring"], unfollowed := true, recurses := true, apart := false }
def WipeTogetherSaid : Prop := wipeTogetherRow.holds Tryz.pinned (OpenSpec.ofChange wipeTogetherSpec)

/-- ITS FALSE NEIGHBOUR: 'it returns false'. Refute it at one input. -/
def wipeTogetherWrong : ChangeSpec := { name := "wipeTogether", fn := fun _ => fun
  | [d1, d2, d3] => { results := [.lit (.bool false)], args := [d1, d2, d3] }
  | _ => none }
def WipeTogetherWrongFalsely : Prop := wipeTogetherRow.holds Tryz.pinned (OpenSpec.ofChange wipeTogetherWrong)

/- THE SECOND FORM. 'bulk': how many values and letters a reading holds, each counted each time it is reached (what is shared counts as often as it is met; a slice's spare places count too). A statement '..UptoSaid' is the law's where the arguments, and the package variables that the reading takes, are together of bulk at most 1048576: NARROWER than '..Said'. Prove '..Said' where nothing that the law and all that it calls make is longer than what came in: it says more and counts as full. Else prove '..UptoSaid'. A law counts once. -/
mutual
def uptoBulk {H : Type} : DataW H → Nat
  | .lit (.string bytes) => bytes.length + 1
  | .lit _ => 1
  | .nil => 1
  | .ptr d => uptoBulk d + 1
  | .slice elems spare => uptoBulkAll elems + uptoBulkAll spare + 1
  | .agg parts => uptoBulkAll parts + 1
  | .iface _ d => uptoBulk d + 1
  | .map entries => uptoBulkEntries entries + 1
  | .held _ => 1
def uptoBulkAll {H : Type} : List (DataW H) → Nat
  | [] => 0
  | d :: r => uptoBulk d + uptoBulkAll r
def uptoBulkEntries {H : Type} : List (Lit × DataW H) → Nat
  | [] => 0
  | x :: r => uptoBulkEntry x + uptoBulkEntries r
def uptoBulkEntry {H : Type} : Lit × DataW H → Nat
  | (.string bytes, d) => bytes.length + uptoBulk d + 1
  | (_, d) => uptoBulk d + 1
 end
def uptoSmall : (H : Type) → List (DataW H) → Bool := fun _ ds => decide (uptoBulkAll ds ≤ 1048576)
def OpenSpec.upto (s : _root_.Go.ChangeSpec) : _root_.Go.OpenSpec := { _root_.Go.OpenSpec.ofChange s with cond := some uptoSmall }

/-- 'ctrielaw20.WipeExact', WHERE WHAT IT READS IS OF BULK AT MOST 1048576: true; the input reads as it did. -/
def wipeExactUptoRow : OpenClaim := { program := "ytmliojdkmfhmmaagreat", sum := "24b9ac4af62850e03fe1af72a01139e723198568f874da37e710e3f4e8a2668b", func := "ctrie/ctrielaw20.WipeExact", spec := "wipeExact", unfollowed := true, recurses := true, apart := false, narrowed := true }
def WipeExactUptoSaid : Prop := wipeExactUptoRow.holds Tryz.pinned (OpenSpec.upto wipeExactSpec)

/-- 'ctrielaw20.WipeCosts', WHERE WHAT IT READS IS OF BULK AT MOST 1048576: true; the input reads as it did. -/
def wipeCostsUptoRow : OpenClaim := { program := "ytmliojdkmfhmmaagreat", sum := "24b9ac4af62850e03fe1af72a01139e723198568f874da37e710e3f4e8a2668b", func := "ctrie/ctrielaw20.WipeCosts", spec := "wipeCosts", unfollowed := true, recurses := true, apart := false, narrowed := true }
def WipeCostsUptoSaid : Prop := wipeCostsUptoRow.holds Tryz.pinned (OpenSpec.upto wipeCostsSpec)

/-- 'ctrielaw20.WipeClears', WHERE WHAT IT READS IS OF BULK AT MOST 1048576: true; the input reads as it did. -/
def wipeClearsUptoRow : OpenClaim := { program := "ytmliojdkmfhmmaagreat", sum := "24b9ac4af62850e03fe1af72a01139e723198568f874da37e710e3f4e8a2668b", func := "ctrie/ctrielaw20.WipeClears", spec := "wipeClears", unfollowed := true, recurses := true, apart := false, narrowed := true }
def WipeClearsUptoSaid : Prop := wipeClearsUptoRow.holds Tryz.pinned (OpenSpec.upto wipeClearsSpec)

/-- 'ctrielaw19.SnapGenerations', WHERE WHAT IT READS IS OF BULK AT MOST 1048576: true; the input reads as it did. -/
def snapGenerationsUptoRow : OpenClaim := { program := "ytmliojdkmfhmmaagreat", sum := "24b9ac4af62850e03fe1af72a01139e723198568f874da37e710e3f4e8a2668b", func := "ctrie/ctrielaw19.SnapGenerations", spec := "snapGenerations", unfollowed := true, recurses := true, apart := false, narrowed := true }
def SnapGenerationsUptoSaid : Prop := snapGenerationsUptoRow.holds Tryz.pinned (OpenSpec.upto snapGenerationsSpec)

/-- 'ctrielaw18.DropExact', WHERE WHAT IT READS IS OF BULK AT MOST 1048576: true; the input reads as it did. -/
def dropExactUptoRow : OpenClaim := { program := "ytmliojdkmfhmmaagreat", sum := "24b9ac4af62850e03fe1af72a01139e723198568f874da37e710e3f4e8a2668b", func := "ctrie/ctrielaw18.DropExact", spec := "dropExact", inPlace := ["internal/bytealg.abigen_runtime_cmpstring"], unfollowed := true, recurses := true, apart := false, narrowed := true }
def DropExactUptoSaid : Prop := dropExactUptoRow.holds Tryz.pinned (OpenSpec.upto dropExactSpec)

/-- 'ctrielaw17.PutExact', WHERE WHAT IT READS IS OF BULK AT MOST 1048576: true; the input reads as it did. -/
def putExactUptoRow : OpenClaim := { program := "ytmliojdkmfhmmaagreat", sum := "24b9ac4af62850e03fe1af72a01139e723198568f874da37e710e3f4e8a2668b", func := "ctrie/ctrielaw17.PutExact", spec := "putExact", inPlace := ["internal/bytealg.abigen_runtime_cmpstring"], unfollowed := true, recurses := true, apart := false, narrowed := true }
def PutExactUptoSaid : Prop := putExactUptoRow.holds Tryz.pinned (OpenSpec.upto putExactSpec)

/-- 'ctrielaw19.SnapExact', WHERE WHAT IT READS IS OF BULK AT MOST 1048576: true; the input reads as it did. -/
def snapExactUptoRow : OpenClaim := { program := "ytmliojdkmfhmmaagreat", sum := "24b9ac4af62850e03fe1af72a01139e723198568f874da37e710e3f4e8a2668b", func := "ctrie/ctrielaw19.SnapExact", spec := "snapExact", inPlace := ["internal/bytealg.abigen_runtime_cmpstring"], unfollowed := true, recurses := true, apart := false, narrowed := true }
def SnapExactUptoSaid : Prop := snapExactUptoRow.holds Tryz.pinned (OpenSpec.upto snapExactSpec)

/-- 'ctrielaw20.WipeTogether', WHERE WHAT IT READS IS OF BULK AT MOST 1048576: true; the input reads as it did. -/
def wipeTogetherUptoRow : OpenClaim := { program := "ytmliojdkmfhmmaagreat", sum := "24b9ac4af62850e03fe1af72a01139e723198568f874da37e710e3f4e8a2668b", func := "ctrie/ctrielaw20.WipeTogether", spec := "wipeTogether", inPlace := ["internal/bytealg.abigen_runtime_cmpstring"], unfollowed := true, recurses := true, apart := false, narrowed := true }
def WipeTogetherUptoSaid : Prop := wipeTogetherUptoRow.holds Tryz.pinned (OpenSpec.upto wipeTogetherSpec)

end Rows
end Go.Proofs.YtmliojdkmfhmmaaGreat
