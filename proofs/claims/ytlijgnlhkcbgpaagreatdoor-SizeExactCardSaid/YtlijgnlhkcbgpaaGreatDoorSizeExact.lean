/-
  The statement SizeExact holds of the given program: for every input it returns true and leaves its arguments as9 they were. Condition: the table math/bits.deBruijn64tab holds what the program's text lays (the card ties it).
-/
import Derived.Test.YtlijgnlhkcbgpaaGreatDoorCards
import Derived.Test.YtlijgnlhkcbgpaaGreatDoorTie
import Derived.Test.YtlijgnlhkcbgpaaGreatDoorW09
import Derived.Test.YtlijgnlhkcbgpaaGreatDoorW47
import Derived.WalkKit
import Derived.ProofKit
import Derived.OpenShut
import Derived.Deep.DeepHandedRow
import Derived.Lib.LaidTab
open Go.E Go.Q9
namespace Go.Proofs.YtlijgnlhkcbgpaaGreatDoor.sizeExact
open Go.ChangeShapes Go.WideShapes Go.ChangeAt Go.RowKit
set_option linter.unusedVariables false

theorem own : ownKnob Tryz.prog.godebug = none := by kernel_rfl
theorem gTab : Tryz.prog.globalNamed "math/bits.deBruijn64tab" = some 0 := by kernel_rfl
theorem gTabType : (Tryz.prog.globals[0]?).map (·.type) = some 221 := by kernel_rfl
theorem cellsTab : Tryz.prog.cellsOf 221 = 64 := by kernel_rfl
theorem cellsByte : Tryz.prog.cellsOf 5 = 1 := by kernel_rfl

def tabInts : List Int := [0, 1, 56, 2, 57, 49, 28, 3, 61, 58, 42, 50, 38, 29, 17, 4, 62, 47, 59, 36, 45, 43, 51, 22, 53, 39, 33, 30, 24, 18, 12, 5, 63, 55, 48, 27, 60, 41, 37, 16, 46, 35, 44, 21, 52, 32, 23, 11, 54, 26, 40, 15, 34, 20, 31, 10, 25, 14, 19, 9, 13, 8, 7, 6]


theorem tabInts_at : ∀ j, j < 64 → tabInts.getD j 0 = ((Lib.deBruijn64tab.getD j 0 : Nat) : Int) := by decide
theorem table {W : World} (h : laidMetH Tryz.prog Rows.sizeExactRow.laid W) : Lib.TabIs Tryz.prog W "math/bits.deBruijn64tab" .u8 tabInts :=
  Lib.tabIs_of_head (rest := []) gTab gTabType Tryz.underlying221 Tryz.underlying5 cellsByte cellsTab h
theorem tabAt {W : World} (h : laidMetH Tryz.prog Rows.sizeExactRow.laid W) : pX W := by
  intro j hj
  have hl : Lib.deBruijn64tab.length = 64 := rfl
  have ht : tabInts.length = 64 := rfl
  have := (table h).cell gTab j (by omega)
  rw [this, tabInts_at j (by omega)]

theorem laidOut : laidOutB Tryz.prog = true := by kernel_rfl
theorem cellsI : Tryz.prog.cellsOf 3 = 1 := by kernel_rfl

set_option maxRecDepth 100000 in
theorem contract (H : Type) (enc : TypeId × Value → H) (W : World) (base : Nat) (args : Array Value) (ds gs : List (DataW H)) (before : List MemPlace)
    (hval : ∀ (j : Nat) t v, Tryz.f4.params[j]? = some t → args[j]? = some v → Value.okWide Tryz.prog W .any base t v)
    (hW : DataW.Whole enc Tryz.prog Tryz.f4.params.toList Rows.sizeExactSpec.vars false W args.toList ds gs before) (hL : laidMetH Tryz.prog Rows.sizeExactRow.laid W) :
    Calls Tryz.prog 4 args W fun e W' => ∃ v, e = .returned v ∧ Rows.sizeExactSpec.post enc Tryz.prog Tryz.f4 false true false false W args v W' := by
  have hW' := hW
  obtain ⟨p, q, hA0, hV, rfl, hfz, hnd⟩ := hW
  have hA : DataW.TrodAll enc Tryz.prog W 0 (fun _ => true) true Tryz.f4.params.toList args.toList ds p := hA0
  rw [Tryz.params4] at hA hval
  obtain ⟨v0, vs0, d0, ds0, p0, q0, hargs, rfl, rfl, h0, r0⟩ := trodAll_cons hA
  obtain ⟨rfl, rfl, rfl⟩ := trodAll_nil r0
  obtain rfl : args = #[v0] := Array.toList_inj.1 hargs
  obtain ⟨rfl, rfl⟩ := trodVars_none hV
  have hlt0 : ∀ x ∈ p0, x.block < W.heap.size := by
    obtain ⟨n, hn⟩ := h0
    exact DataW.trod_lt n _ _ _ hn
  obtain ⟨l0, pp0, cc0, rfl, hr0⟩ := zB Tryz.underlying22 Tryz.underlying3 cellsI (hval 0 22 v0 rfl rfl) h0
  have hSf := SH.ZT W
  have hS0 := X7 hSf Go.E.a0 (tabAt hL)
  have hS1 := Qk hS0 Go.E.a1 hr0
  clear hA0
  simp only [List.append_nil] at hW'
  refine (AZ l0 pp0 cc0 hS1).mono fun e W' ⟨he, hS⟩ => ?_
  have hg := hS.dC Go.E.a1
  subst he
  exact ⟨_, rfl, _, _, _, [], _, [], hW', trodAll_cons_mk (shut_bool Tryz.underlying4 _) trodAll_mk0, (trodAll_cons_mk (Below.trod laidOut (by kernel_rfl) (of_decide_eq_true (by kernel_rfl)) h0 hg hlt0) trodAll_mk0), rfl, hg.frame _, fun h => by cases h⟩

/-- A world for the witness: the settled one, the table holding what its initialiser lays. -/
noncomputable def laidWorld (os : Os) : World :=
  { World.holding Tryz.prog os ⟨#[], #[], []⟩ with heap := (World.holding Tryz.prog os ⟨#[], #[], []⟩).heap.modify 0 fun
      | .cells _ t frozen => .cells (tabInts.map fun n => Value.int .u8 n).toArray t frozen
      | o => o }
theorem laid_met (os : Os) : laidMet Tryz.prog Rows.sizeExactRow.laid ((laidWorld os).forCall (fun _ _ => 0) ⟨#[], #[.slice none 0 0], []⟩).memory :=
  laidMet_of_run' 8 (by kernel_rfl) (by kernel_rfl)
theorem reads (os : Os) {H : Type} (enc : TypeId × Value → H) : ∃ places, DataW.whole enc Tryz.prog ((laidWorld os).forCall (fun _ _ => 0) ⟨#[], #[.slice none 0 0], []⟩).memory Tryz.f4.params.toList Rows.sizeExactSpec.vars false #[.slice none 0 0].toList 8 = some ([.nil], [], places) :=
  ⟨[], by kernel_rfl⟩

set_option maxRecDepth 100000 in
theorem lifted (os : Os) (started : os.Started) (H : Type) (enc : TypeId × Value → H) (F : Stop.Interp) :
    ReturnsInHanded {} Tryz.checked os 4 .any ((OpenSpec.ofChange Rows.sizeExactSpec).preRow enc Tryz.prog Tryz.f4 Rows.sizeExactRow.domain false Rows.sizeExactRow.laid) (((OpenSpec.ofChange Rows.sizeExactSpec).at F).post enc Tryz.prog Tryz.f4 false true false false) := by
  obtain ⟨places, hx⟩ := reads os enc
  refine returnsInHanded_of_row (C := Tryz.checked) (s := OpenSpec.ofChange Rows.sizeExactSpec) own started (by kernel_rfl) Tryz.func4
    (witness_row_at (enc := enc) (C := Tryz.checked) false (laidWorld os) #[.slice none 0 0] rfl (by kernel_rfl) (by kernel_rfl) (by kernel_rfl)
      (OpenSpec.preRow_of_cond 8 hx (by kernel_rfl) (fun k hk => by cases hk) (by kernel_rfl) (laid_met os))) ?_
  intro W base args ds gs before hval hW _ _ _ hL _ _
  exact contract H enc W base args ds gs before hval hW hL

theorem k_in : (Rows.sizeExactRow.inPlace == Tryz.prog.inPlace 4) = true := by kernel_rfl
theorem k_un : (Rows.sizeExactRow.unfollowed == Tryz.prog.unfollowed 4) = true := by kernel_rfl
theorem k_re : (Rows.sizeExactRow.recurses == Tryz.prog.recurses 4) = true := by kernel_rfl
theorem k_na : (Rows.sizeExactRow.named == Tryz.prog.varsNamed 4) = true := by kernel_rfl
theorem closed : joinedFacts Tryz.prog 4 Tryz.f4 Rows.sizeExactSpec Rows.sizeExactRow = true := by unfold joinedFacts; rw [k_in, k_un, k_re, k_na]; kernel_rfl
set_option maxRecDepth 100000 in
theorem said : Rows.SizeExactSaid :=
  OpenClaim.holds_of_cond 4 Tryz.f4 rfl rfl rfl rfl rfl rfl rfl ⟨rfl, rfl, rfl, rfl, rfl⟩ rfl rfl rfl rfl rfl (by kernel_rfl) Tryz.func4 closed
    (of_decide_eq_true (by kernel_rfl)) (by unfold Func.isWrapper; first | (rw [if_pos (by decide +kernel)]; kernel_rfl) | (rw [if_neg (by decide +kernel)]; exact ⟨rfl, rfl⟩))
    (fun os started H enc _ F => by rw [OpenClaim.pre_eq_preRow]; exact lifted os started H enc F)

theorem plain (f : FuncId) (fn : Func) (hf : Tryz.pinned.checked.prog.funcNamed "ctrie/ctrielaw22.SizeExact" = some f) (hfn : Tryz.pinned.checked.prog.funcs[f]? = some fn) :
    true = Tryz.pinned.checked.prog.looks [] ∧ ∀ (j : Nat) t, fn.params[j]? = some t → Tryz.pinned.checked.prog.wantsStandIn t = false := by
  obtain rfl : f = 4 := Option.some.inj ((show Tryz.prog.funcNamed "ctrie/ctrielaw22.SizeExact" = some 4 by kernel_rfl).symm.trans hf) |>.symm
  obtain rfl : fn = Tryz.f4 := (Option.some.inj (Tryz.func4.symm.trans hfn)).symm
  refine ⟨by kernel_rfl, fun j t ht => ?_⟩
  rw [Tryz.params4] at ht
  have hm := Array.mem_of_getElem? ht
  have hw : ∀ u, u ∈ (#[22] : Array TypeId) → Tryz.prog.wantsStandIn u = false := by
    intro u hu
    simp only [List.mem_toArray, List.mem_cons, List.not_mem_nil, or_false] at hu
    subst hu; kernel_rfl
  exact hw t hm

/-- The card. -/
theorem card : Rows.SizeExactCardSaid :=
  Claim7.holds_tied_plain_at .later [] _ _ _ _ said (fun _ h => by cases h) (by kernel_rfl) (fun _ h => by cases h) sizeExact_row_tie rfl ⟨rfl, rfl⟩ (by kernel_rfl) rfl plain (by kernel_rfl)
#print axioms card
end Go.Proofs.YtlijgnlhkcbgpaaGreatDoor.sizeExact
