/- The walks of task.Result, Run. -/
import Derived.Test.YtifehcegnofpkaaGreatDoorTaskR
namespace Go.Proofs.YtifehcegnofpkaaGreatDoor
open Go.RowKit
set_option linter.unusedVariables false

def zeroRes : Array Value := #[.int .i64 0, .bool false, .int .u64 0, .string ⟨#[]⟩, .int .i64 0, .int .i64 0, .int .i64 0, .bool false]
def Code.result : Ct.Code → Ct.Result
  | .done r => r
  | _ => {}

theorem resCells_one (r : Ct.Result) : (resCells r).toArray.all (·.oneCell') = true := by
  apply all_one
  intro v hv
  simp only [resCells, List.mem_cons, List.not_mem_nil, or_false] at hv
  rcases hv with rfl | rfl | rfl | rfl | rfl | rfl | rfl | rfl <;> rfl

theorem TaskBlk.res {w : World} {tb : Nat} {sv : Value} {r : Ct.Result} {n : Nat} {busy : Bool} (h : TaskBlk w tb sv (doneCells r) n busy) : w.rangeAt tb 7 (resCells r) := fun j v hv => by
  have hj := (List.getElem?_eq_some_iff.1 hv).1
  have h8 : (resCells r).length = 8 := rfl
  have := h.code (6 + j) (by omega)
  rw [show 7 + j = 1 + (6 + j) by omega, this, doneCells, List.getElem?_append_right (by simp), ← hv]
  congr 1
  simp

set_option maxRecDepth 100000 in
set_option maxHeartbeats 400000 in
theorem result_done (w : World) (tb : Nat) (g : Ghost) (r : Ct.Result) (n : Nat) (h : TaskAt g w tb (.done r) n) :
    Calls Tryz.prog 28 #[.pointer (some ⟨tb, 0, none⟩)] w (RetCells w (resCells r)) := by
  obtain ⟨⟨cs, hT, hC⟩, _, _⟩ := h
  have hdn := done_any (w.alloc (.cells zeroRes 74)) tb g cs n false (.done r) ⟨heap_alloc_of hT.at_ _, hT.len⟩ hC
  have ecs : cs = doneCells r := hC
  subst ecs
  have HD := Lib.hid hdn
  have HRG : Hid ((w.alloc (.cells zeroRes 74)).rangeAt tb 7 (resCells r)) := TaskBlk.res ⟨heap_alloc_of hT.at_ _, hT.len⟩
  have HA := Lib.hid (heap_alloc_at w (.cells zeroRes 74))
  have HB := Lib.hid (below_result w zeroRes (resCells r).toArray 74)
  have HL : Hid ((Tryz.prog.info? 74).map (·.size) = some (resCells r).length) := info_Result_size
  clear hT hC hdn
  go_enter Tryz.func28, Tryz.ntmps28
  go_wp2_with (first
    | (go_at_call 26; refine HD.out.mono ?_; rintro e w' ⟨rfl, rfl⟩)
    | (refine wpList_load_mid rfl 74 (.tmp 10) rfl tb 7 rfl (resCells r) _ HRG.out Tryz.underlying74 rfl HL.out ?_)
    | (refine wpList_store_row rfl 74 (.tmp 2) (.tmp 11) rfl w.heap.size (resCells r).toArray rfl rfl 74 zeroRes HA.out info_Result_size rfl (resCells_one r) ?_))
  refine bodyPost_ret (v := .agg (resCells r).toArray) (results_cell_row Tryz.results28 _ _ w.heap.size 74 _ (0, 0) _ rfl (setRow_heap _ w.heap.size _ _ _ _ HA.out) Tryz.underlying74 rfl info_Result_size) rfl ?_
  exact ⟨rfl, HB.out⟩

/-- What holds of a run behind k rounds. -/
structure RunRel (tb : Nat) (g : Ghost) (w : World) (c0 : Ct.Code) (s0 : Ct.St) (n most : Nat) (v : Value) (W : World) (k : Nat) (c : Ct.Code) (s : Ct.St) (vn vc : Value) (N : Nat → Prop) : Prop where
  v : v = .int .i64 (k : Nat)
  le : k ≤ most
  arena : ArenaAt ⟨g.a, vn, vc, N⟩ W s
  step : StepT tb g w ⟨g.a, vn, vc, N⟩ W
  task : TaskAt ⟨g.a, vn, vc, N⟩ W tb c (n + k)
  eq : Ct.runC most c0 s0 = (k + (Ct.runC (most - k) c s).1, (Ct.runC (most - k) c s).2)
  wt : c.wt
  rank : c.rank ≤ 60
  fin : Fin (60001 + 11 * (most - k)) s

def RunLoop (tb : Nat) (g : Ghost) (w : World) (c0 : Ct.Code) (s0 : Ct.St) (n most : Nat) (v : Value) (W : World) : Prop :=
  ∃ k c s vn vc N, RunRel tb g w c0 s0 n most v W k c s vn vc N

def RunRes (tb : Nat) (g : Ghost) (w : World) (r : Nat × Ct.Code × Ct.St) (n : Nat) (e : Ending) (w' : World) : Prop :=
  TaskRes tb g w (.int .i64 (r.1 : Nat)) r.2 (n + r.1) e w'

end Go.Proofs.YtifehcegnofpkaaGreatDoor
