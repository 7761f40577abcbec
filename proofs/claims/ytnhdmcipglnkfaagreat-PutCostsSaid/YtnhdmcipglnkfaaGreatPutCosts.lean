/-
  The statement PutCosts holds of the given program: for every input it returns true and leaves its arguments as9 they were.
-/
import Derived.Test.YtnhdmcipglnkfaaGreatRows
import Derived.Test.YtnhdmcipglnkfaaGreatW05
import Derived.Test.YtnhdmcipglnkfaaGreatW53
import Derived.WalkKit
import Derived.ProofKit
import Derived.OpenShut
import Derived.Deep.DeepHandedRow
import Derived.Lib.LaidTab
open Go.E Go.Q9
namespace Go.Proofs.YtnhdmcipglnkfaaGreat.putCosts
open Go.ChangeShapes Go.WideShapes Go.ChangeAt Go.RowKit
set_option linter.unusedVariables false

theorem own : ownKnob Tryz.prog.godebug = none := by kernel_rfl

theorem laidOut : laidOutB Tryz.prog = true := by kernel_rfl
theorem cellsI : Tryz.prog.cellsOf 3 = 1 := by kernel_rfl

set_option maxRecDepth 100000 in
theorem contract (H : Type) (enc : TypeId × Value → H) (W : World) (base : Nat) (args : Array Value) (ds gs : List (DataW H)) (before : List MemPlace)
    (KB : ∀ (j : Nat) t v, Tryz.f5.params[j]? = some t → args[j]? = some v → Value.okWide Tryz.prog W .any base t v)
    (hW : DataW.Whole enc Tryz.prog Tryz.f5.params.toList Rows.putCostsSpec.vars false W args.toList ds gs before) (hL : laidMetH Tryz.prog Rows.putCostsRow.laid W) :
    Calls Tryz.prog 5 args W fun e W' => ∃ v, e = .returned v ∧ Rows.putCostsSpec.post enc Tryz.prog Tryz.f5 false true false false W args v W' := by
  have hW' := hW
  obtain ⟨p, q, hA0, hV, rfl, hfz, P6⟩ := hW
  have hA : DataW.TrodAll enc Tryz.prog W 0 (fun _ => true) true Tryz.f5.params.toList args.toList ds p := hA0
  rw [Tryz.params5] at hA KB
  obtain ⟨v0, vs0, d0, ds0, p0, q0, aKp, rfl, rfl, h0, r0⟩ := trodAll_cons hA
  obtain ⟨v1, vs1, d1, ds1, p1, q1, rfl, rfl, rfl, h1, r1⟩ := trodAll_cons r0
  obtain ⟨rfl, rfl, rfl⟩ := trodAll_nil r1
  obtain rfl : args = #[v0, v1] := Array.toList_inj.1 aKp
  obtain ⟨rfl, rfl⟩ := trodVars_none hV
  have aS6 : ∀ x ∈ p0, x.block < W.heap.size := by
    obtain ⟨n, hn⟩ := h0
    exact DataW.trod_lt n _ _ _ hn
  obtain ⟨l0, pp0, cc0, rfl, hr0⟩ := On Tryz.underlying22 Tryz.underlying3 cellsI (KB 0 22 v0 rfl rfl) h0
  have aRt : ∀ x ∈ p1, x.block < W.heap.size := by
    obtain ⟨n, hn⟩ := h1
    exact DataW.trod_lt n _ _ _ hn
  obtain ⟨l1, pp1, cc1, rfl, Yx⟩ := On Tryz.underlying22 Tryz.underlying3 cellsI (KB 1 22 v1 rfl rfl) h1
  have hS0 := SH.frz W
  have Hz := QX hS0 Go.E.a0 Yx
  have Ln := QX Hz Go.E.a1 hr0
  clear hA0
  simp only [List.append_nil] at hW'
  refine (CB l0 pp0 cc0 l1 pp1 cc1 Ln).mono fun e W' ⟨he, hS⟩ => ?_
  have hg := hS.dO Go.E.a0
  subst he
  exact ⟨_, rfl, _, _, _, [], _, [], hW', trodAll_cons_mk (shut_bool Tryz.underlying4 _) trodAll_mk0, (trodAll_cons_mk (Below.trod laidOut (by kernel_rfl) (of_decide_eq_true (by kernel_rfl)) h0 hg aS6) (trodAll_cons_mk (Below.trod laidOut (by kernel_rfl) (of_decide_eq_true (by kernel_rfl)) h1 hg aRt) trodAll_mk0)), rfl, hg.frame _, fun h => by cases h⟩

/-- A world for the witness: the settled one. -/
noncomputable def laidWorld (os : Os) : World := World.holding Tryz.prog os ⟨#[], #[], []⟩
theorem laid_met (os : Os) : laidMet Tryz.prog Rows.putCostsRow.laid ((laidWorld os).forCall (fun _ _ => 0) ⟨#[], #[.slice none 0 0, .slice none 0 0], []⟩).memory :=
  laidMet_of_run' 8 (by kernel_rfl) (by kernel_rfl)
theorem reads (os : Os) {H : Type} (enc : TypeId × Value → H) : ∃ places, DataW.whole enc Tryz.prog ((laidWorld os).forCall (fun _ _ => 0) ⟨#[], #[.slice none 0 0, .slice none 0 0], []⟩).memory Tryz.f5.params.toList Rows.putCostsSpec.vars false #[.slice none 0 0, .slice none 0 0].toList 8 = some ([.nil, .nil], [], places) :=
  ⟨[], by kernel_rfl⟩

set_option maxRecDepth 100000 in
theorem lifted (os : Os) (started : os.Started) (H : Type) (enc : TypeId × Value → H) (F : Stop.Interp) :
    ReturnsInHanded {} Tryz.checked os 5 .any ((OpenSpec.ofChange Rows.putCostsSpec).preRow enc Tryz.prog Tryz.f5 Rows.putCostsRow.domain false Rows.putCostsRow.laid) (((OpenSpec.ofChange Rows.putCostsSpec).at F).post enc Tryz.prog Tryz.f5 false true false false) := by
  obtain ⟨places, hx⟩ := reads os enc
  refine returnsInHanded_of_row (C := Tryz.checked) (s := OpenSpec.ofChange Rows.putCostsSpec) own started (by kernel_rfl) Tryz.func5
    (witness_row_at (enc := enc) (C := Tryz.checked) false (laidWorld os) #[.slice none 0 0, .slice none 0 0] rfl (by kernel_rfl) (by kernel_rfl) (by kernel_rfl)
      (OpenSpec.preRow_of_cond 8 hx (by kernel_rfl) (fun k hk => by cases hk) (by kernel_rfl) (laid_met os))) ?_
  intro W base args ds gs before KB hW _ _ _ hL _ _
  exact contract H enc W base args ds gs before KB hW hL

theorem k_in : (Rows.putCostsRow.inPlace == Tryz.prog.inPlace 5) = true := by kernel_rfl
theorem k_un : (Rows.putCostsRow.unfollowed == Tryz.prog.unfollowed 5) = true := by kernel_rfl
theorem k_re : (Rows.putCostsRow.recurses == Tryz.prog.recurses 5) = true := by kernel_rfl
theorem k_na : (Rows.putCostsRow.named == Tryz.prog.varsNamed 5) = true := by kernel_rfl
theorem closed : joinedFacts Tryz.prog 5 Tryz.f5 Rows.putCostsSpec Rows.putCostsRow = true := by unfold joinedFacts; rw [k_in, k_un, k_re, k_na]; kernel_rfl
set_option maxRecDepth 100000 in
theorem said : Rows.PutCostsSaid :=
  OpenClaim.holds_of_cond 5 Tryz.f5 rfl rfl rfl rfl rfl rfl rfl ⟨rfl, rfl, rfl, rfl, rfl⟩ rfl rfl rfl rfl rfl (by kernel_rfl) Tryz.func5 closed
    (of_decide_eq_true (by kernel_rfl)) (by unfold Func.isWrapper; first | (rw [if_pos (by decide +kernel)]; kernel_rfl) | (rw [if_neg (by decide +kernel)]; exact ⟨rfl, rfl⟩))
    (fun os started H enc _ F => by rw [OpenClaim.pre_eq_preRow]; exact lifted os started H enc F)

#print axioms said
end Go.Proofs.YtnhdmcipglnkfaaGreat.putCosts
