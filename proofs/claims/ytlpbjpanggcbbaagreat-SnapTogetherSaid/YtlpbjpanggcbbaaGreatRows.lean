/-
  No cell of these rows narrows 'for every input' (looked for: loops, veiled, ifaces, maps, wideKeys, modest, calm, conditions, laid).
  DERIVED. THE GIVEN ROWS OF THIS SEAT. 3 by the template 'for every input the law returns true; each argument reads behind the call as it read before'; 0 by the template 'total and deterministic' (their statements: YtlpbjpanggcbbaaGreatTotals.lean).
  GIVEN WITH THE SEED: the statements are not yours to turn. If you find one false, say at which input.
  Laid BY PROGRAM, IN A SANDBOX (cutbox-rows.mjs): the forced cells as the released guide's own fill.sh prints them over the translation a32f23b66238e129… (all of the seat's roots in one cut). By AI agents, Wed Nov 11 2026. No macro, syntax, notation, axiom, sorry.
-/
import Derived.Test.YtlpbjpanggcbbaaGreatChecked
import GoSem.Claim
import GoSem.ClaimJoined
import GoSem.ClaimMapViews
import Derived.JoinedTies
import Derived.KernelRfl
namespace Go.Proofs.YtlpbjpanggcbbaaGreat
/- THE CELL 'sum', in the pinned program and in every row, IS THE sha256 OF THE DUMP (.gsa) THAT YtlpbjpanggcbbaaGreatProg.lean LOADS. Nothing in Lean hashes anything: it is a label: what it is worth is what the hold of that sum in a sandbox is worth. -/
noncomputable def Tryz.pinned : Pinned := { name := "ytlpbjpanggcbbaagreat", sum := "a32f23b66238e1291b1198cae73aeac42b21f75657c8ad881dfbc40f43c0a4b4", checked := Tryz.checked }
namespace Rows
def none {H : Type} : Left H := { results := [], args := [] }

/-- 'ctrielaw19.SnapTogether': WHATEVER THE INPUT: true; the input reads as it did. -/
def snapTogetherSpec : ChangeSpec := { name := "snapTogether", fn := fun _ => fun
  | [d1, d2, d3] => { results := [.lit (.bool true)], args := [d1, d2, d3] }
  | _ => none }
def snapTogetherRow : OpenClaim := { program := "ytlpbjpanggcbbaagreat", sum := "a32f23b66238e1291b1198cae73aeac42b21f75657c8ad881dfbc40f43c0a4b4", func := "ctrie/ctrielaw19.SnapTogether", spec := "snapTogether", inPlace := ["internal/bytealg.abigen_runtime_cmpstring"], unfollowed := true, recurses := true, apart := false }
def SnapTogetherSaid : Prop := snapTogetherRow.holds Tryz.pinned (OpenSpec.ofChange snapTogetherSpec)

/-- ITS FALSE NEIGHBOUR: 'it returns false'. Refute it at one input. -/
def snapTogetherWrong : ChangeSpec := { name := "snapTogether", fn := fun _ => fun
  | [d1, d2, d3] => { results := [.lit (.bool false)], args := [d1, d2, d3] }
  | _ => none }
def SnapTogetherWrongFalsely : Prop := snapTogetherRow.holds Tryz.pinned (OpenSpec.ofChange snapTogetherWrong)

/-- 'ctrielaw18.DropTogether': WHATEVER THE INPUT: true; the input reads as it did. -/
def dropTogetherSpec : ChangeSpec := { name := "dropTogether", fn := fun _ => fun
  | [d1, d2, d3] => { results := [.lit (.bool true)], args := [d1, d2, d3] }
  | _ => none }
def dropTogetherRow : OpenClaim := { program := "ytlpbjpanggcbbaagreat", sum := "a32f23b66238e1291b1198cae73aeac42b21f75657c8ad881dfbc40f43c0a4b4", func := "ctrie/ctrielaw18.DropTogether", spec := "dropTogether", inPlace := ["internal/bytealg.abigen_runtime_cmpstring"], unfollowed := true, recurses := true, apart := false }
def DropTogetherSaid : Prop := dropTogetherRow.holds Tryz.pinned (OpenSpec.ofChange dropTogetherSpec)

/-- ITS FALSE NEIGHBOUR: 'it returns false'. Refute it at one input. -/
def dropTogetherWrong : ChangeSpec := { name := "dropTogether", fn := fun _ => fun
  | [d1, d2, d3] => { results := [.lit (.bool false)], args := [d1, d2, d3] }
  | _ => none }
def DropTogetherWrongFalsely : Prop := dropTogetherRow.holds Tryz.pinned (OpenSpec.ofChange dropTogetherWrong)

/-- 'ctrielaw18.DropExact': WHATEVER THE INPUT: true; the input reads as it did. -/
def dropExactSpec : ChangeSpec := { name := "dropExact", fn := fun _ => fun
  | [d1, d2, d3, d4] => { results := [.lit (.bool true)], args := [d1, d2, d3, d4] }
  | _ => none }
def dropExactRow : OpenClaim := { program := "ytlpbjpanggcbbaagreat", sum := "a32f23b66238e1291b1198cae73aeac42b21f75657c8ad881dfbc40f43c0a4b4", func := "ctrie/ctrielaw18.DropExact", spec := "dropExact", inPlace := ["internal/bytealg.abigen_runtime_cmpstring"], unfollowed := true, recurses := true, apart := false }
def DropExactSaid : Prop := dropExactRow.holds Tryz.pinned (OpenSpec.ofChange dropExactSpec)

/-- ITS FALSE NEIGHBOUR: 'it returns false'. Refute it at one input. -/
def dropExactWrong : ChangeSpec := { name := "dropExact", fn := fun _ => fun
  | [d1, d2, d3, d4] => { results := [.lit (.bool false)], args := [d1, d2, d3, d4] }
  | _ => none }
def DropExactWrongFalsely : Prop := dropExactRow.holds Tryz.pinned (OpenSpec.ofChange dropExactWrong)

/- THE SECOND FORM. 'bulk': how many values and letters a reading holds, each counted each time it is reached (what is shared counts as often as it is met; a slice's spare places count too). A statement '..UptoSaid' is the law's where the arguments, and the package variables that the reading takes, are together of bulk at most 1048576: NARROWER than '..Said'. Prove '..Said' where nothing that the law and all that it calls make is longer than what came in: it says more and counts as full. Else prove '..UptoSaid'. A law counts once. -/
mutual
def uptoBulk {H : Type} : DataW H → Nat
  | .lit (.string bytes) => bytes.length + 1
  | .lit _ => 1
  | .nil => 1
  | .ptr d => uptoBulk d + 1
  | .slice elems spare => uptoBulkAll elems + uptoBulkAll spare + 1
  | .agg parts => uptoBulkAll parts + 1
  | .iface _ d => uptoBulk d + 1
  | .map entries => uptoBulkEntries entries + 1
  | .held _ => 1
def uptoBulkAll {H : Type} : List (DataW H) → Nat
  | [] => 0
  | d :: r => uptoBulk d + uptoBulkAll r
def uptoBulkEntries {H : Type} : List (Lit × DataW H) → Nat
  | [] => 0
  | x :: r => uptoBulkEntry x + uptoBulkEntries r
def uptoBulkEntry {H : Type} : Lit × DataW H → Nat
  | (.string bytes, d) => bytes.length + uptoBulk d + 1
  | (_, d) => uptoBulk d + 1
 end
def uptoSmall : (H : Type) → List (DataW H) → Bool := fun _ ds => decide (uptoBulkAll ds ≤ 1048576)
def OpenSpec.upto (s : _root_.Go.ChangeSpec) : _root_.Go.OpenSpec := { _root_.Go.OpenSpec.ofChange s with cond := some uptoSmall }

/-- 'ctrielaw19.SnapTogether', WHERE WHAT IT READS IS OF BULK AT MOST 1048576: true; the input reads as it did. -/
def snapTogetherUptoRow : OpenClaim := { program := "ytlpbjpanggcbbaagreat", sum := "a32f23b66238e1291b1198cae73aeac42b21f75657c8ad881dfbc40f43c0a4b4", func := "ctrie/ctrielaw19.SnapTogether", spec := "snapTogether", inPlace := ["internal/bytealg.abigen_runtime_cmpstring"], unfollowed := true, recurses := true, apart := false, narrowed := true }
def SnapTogetherUptoSaid : Prop := snapTogetherUptoRow.holds Tryz.pinned (OpenSpec.upto snapTogetherSpec)

/-- 'ctrielaw18.DropTogether', WHERE WHAT IT READS IS OF BULK AT MOST 1048576: true; the input reads as it did. -/
def dropTogetherUptoRow : OpenClaim := { program := "ytlpbjpanggcbbaagreat", sum := "a32f23b66238e1291b1198cae73aeac42b21f75657c8ad881dfbc40f43c0a4b4", func := "ctrie/ctrielaw18.DropTogether", spec := "dropTogether", inPlace := ["internal/bytealg.abigen_runtime_cmpstring"], unfollowed := true, recurses := true, apart := false, narrowed := true }
def DropTogetherUptoSaid : Prop := dropTogetherUptoRow.holds Tryz.pinned (OpenSpec.upto dropTogetherSpec)

/-- 'ctrielaw18.DropExact', WHERE WHAT IT READS IS OF BULK AT MOST 1048576: true; the input reads as it did. -/
def dropExactUptoRow : OpenClaim := { program := "ytlpbjpanggcbbaagreat", sum := "a32f23b66238e1291b1198cae73aeac42b21f75657c8ad881dfbc40f43c0a4b4", func := "ctrie/ctrielaw18.DropExact", spec := "dropExact", inPlace := ["internal/bytealg.abigen_runtime_cmpstring"], unfollowed := true, recurses := true, apart := false, narrowed := true }
def DropExactUptoSaid : Prop := dropExactUptoRow.holds Tryz.pinned (OpenSpec.upto dropExactSpec)

end Rows
end Go.Proofs.YtlpbjpanggcbbaaGreat
