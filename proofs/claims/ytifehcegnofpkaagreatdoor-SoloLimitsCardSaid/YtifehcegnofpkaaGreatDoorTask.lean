/- The walks of task.Done, Load, CAS. -/
import Derived.Test.YtifehcegnofpkaaGreatDoorAlloc
import Derived.Test.YtifehcegnofpkaaGreatDoorKRep
namespace Go.Proofs.YtifehcegnofpkaaGreatDoor
open Go.RowKit

theorem info_Code_size : (Tryz.prog.info? 100).map (·.size) = some 14 := by kernel_rfl
theorem info_Result_size : (Tryz.prog.info? 74).map (·.size) = some 8 := by kernel_rfl

/-- The cells of the zero code. -/
def zeroCode : Array Value := #[.int .i64 0, .int .i64 0, .int .i64 0, .int .i64 0, .nilFunc, .nilFunc, .int .i64 0, .bool false, .int .u64 0, .string ⟨#[]⟩, .int .i64 0, .int .i64 0, .int .i64 0, .bool false]
theorem zero_doneCells : (doneCells {}).toArray = zeroCode := rfl

theorem resCells_eq (r : Ct.Result) : doneCells r = [.int .i64 0, .int .i64 0, .int .i64 0, .int .i64 0, .nilFunc, .nilFunc, .int .i64 r.err, .bool r.found, .int .u64 (r.value : Nat), .string r.key, .int .i64 r.count, .int .i64 r.ref, .int .i64 r.trie.root, .bool r.trie.readOnly] := rfl

/-- A call that returns cells, and changes nothing that was there. -/
def RetCells (w : World) (cs : List Value) (e : Ending) (w' : World) : Prop := e = .returned (.agg cs.toArray) ∧ Below w.heap.size w w'

theorem all_one {cs : List Value} (h : ∀ v ∈ cs, v.oneCell' = true) : cs.toArray.all (·.oneCell') = true := by simpa using h

theorem loadCells_one (c : Int) (f : Value) (hf : f.oneCell' = true) : (loadCells c f).toArray.all (·.oneCell') = true := by
  apply all_one
  intro v hv
  simp only [loadCells, resCells, List.cons_append, List.nil_append, List.mem_cons, List.not_mem_nil, or_false] at hv
  rcases hv with rfl | rfl | rfl | rfl | rfl | rfl | rfl | rfl | rfl | rfl | rfl | rfl | rfl | rfl <;> first | rfl | exact hf
theorem casCells_one (c old new : Int) (f : Value) (hf : f.oneCell' = true) : (casCells c old new f).toArray.all (·.oneCell') = true := by
  apply all_one
  intro v hv
  simp only [casCells, resCells, List.cons_append, List.nil_append, List.mem_cons, List.not_mem_nil, or_false] at hv
  rcases hv with rfl | rfl | rfl | rfl | rfl | rfl | rfl | rfl | rfl | rfl | rfl | rfl | rfl | rfl <;> first | rfl | exact hf
theorem doneCells_one (r : Ct.Result) : (doneCells r).toArray.all (·.oneCell') = true := all_one (CodeRep.one (sv := .nilFunc) (N := fun _ => False) (w := default) (c := .done r) rfl)

set_option maxRecDepth 100000 in
theorem taskLoad_any (c : Int) (f : Value) (w : World) (hf : ∃ n caps, f = .func (.func n) #[] caps) :
    Calls Tryz.prog 69 #[.int .i64 c, f] w (RetCells w (loadCells c f)) := by
  obtain ⟨n, caps, rfl⟩ := hf
  have HA := Lib.hid (heap_alloc_at w (.cells zeroCode 100))
  have HB := Lib.hid (below_result w zeroCode (loadCells c (.func (.func n) #[] caps)).toArray 100)
  have HO := loadCells_one c (.func (.func n) #[] caps) rfl
  have HO' := Lib.hid HO
  clear HO
  go_enter Tryz.func69, Tryz.ntmps69
  go_wp2_with (refine wpList_store_row rfl 100 (.tmp 4) (.tmp 8) rfl w.heap.size (loadCells c (.func (.func n) #[] caps)).toArray rfl rfl 100 zeroCode HA.out info_Code_size rfl HO'.out ?_)
  refine bodyPost_ret (v := .agg (loadCells c (.func (.func n) #[] caps)).toArray) (results_cell_row Tryz.results69 _ _ w.heap.size 100 _ (0, 0) _ rfl (setRow_heap _ w.heap.size _ _ _ _ HA.out) Tryz.underlying100 rfl info_Code_size) rfl ?_
  exact ⟨rfl, HB.out⟩

set_option maxRecDepth 100000 in
theorem taskCas_any (c old new : Int) (f : Value) (w : World) (hf : ∃ n caps, f = .func (.func n) #[] caps) :
    Calls Tryz.prog 122 #[.int .i64 c, .int .i64 old, .int .i64 new, f] w (RetCells w (casCells c old new f)) := by
  obtain ⟨n, caps, rfl⟩ := hf
  have HA := Lib.hid (heap_alloc_at w (.cells zeroCode 100))
  have HB := Lib.hid (below_result w zeroCode (casCells c old new (.func (.func n) #[] caps)).toArray 100)
  have HO := casCells_one c old new (.func (.func n) #[] caps) rfl
  have HO' := Lib.hid HO
  clear HO
  go_enter Tryz.func122, Tryz.ntmps122
  go_wp2_with (refine wpList_store_row rfl 100 (.tmp 8) (.tmp 14) rfl w.heap.size (casCells c old new (.func (.func n) #[] caps)).toArray rfl rfl 100 zeroCode HA.out info_Code_size rfl HO'.out ?_)
  refine bodyPost_ret (v := .agg (casCells c old new (.func (.func n) #[] caps)).toArray) (results_cell_row Tryz.results122 _ _ w.heap.size 100 _ (0, 0) _ rfl (setRow_heap _ w.heap.size _ _ _ _ HA.out) Tryz.underlying100 rfl info_Code_size) rfl ?_
  exact ⟨rfl, HB.out⟩

set_option maxRecDepth 100000 in
theorem taskDone_any (r : Ct.Result) (w : World) :
    Calls Tryz.prog 41 #[.agg (resCells r).toArray] w (RetCells w (doneCells r)) := by
  have HA0 := Lib.hid (heap_alloc_at w (.cells (resCells r).toArray 74))
  have ha : ((w.alloc (.cells (resCells r).toArray 74)).alloc (.cells zeroCode 100)).heap[w.heap.size + 1]? = some (.cells zeroCode 100) := by
    have := heap_alloc_at (w.alloc (.cells (resCells r).toArray 74)) (.cells zeroCode 100)
    simpa using this
  have HA := Lib.hid ha
  have HR := Lib.hid (heap_alloc_of HA0.out (.cells zeroCode 100))
  have HB : Below w.heap.size w (((w.alloc (.cells (resCells r).toArray 74)).alloc (.cells zeroCode 100)).setRow (w.heap.size + 1) (doneCells r).toArray) :=
    (((Below.refl _ _).alloc (Nat.le_refl _) _).alloc (by simp) _).trans ((Keep.setRow _ (w.heap.size + 1) _ (F := fun k => k = w.heap.size + 1) rfl).toBelow _ (by simp; omega) (fun k hk => by omega))
  have HB' := Lib.hid HB
  have HO1 := Lib.hid (doneCells_one r)
  clear HB ha
  show Calls Tryz.prog 41 #[.agg #[.int .i64 r.err, .bool r.found, .int .u64 (r.value : Nat), .string r.key, .int .i64 r.count, .int .i64 r.ref, .int .i64 r.trie.root, .bool r.trie.readOnly]] w _
  go_enter Tryz.func41, Tryz.ntmps41
  go_wp2_with (first
    | (refine wpList_load_row rfl 74 (.tmp 1) rfl w.heap.size rfl 74 #[.int .i64 r.err, .bool r.found, .int .u64 (r.value : Nat), .string r.key, .int .i64 r.count, .int .i64 r.ref, .int .i64 r.trie.root, .bool r.trie.readOnly] (0, 0) _ HR.out Tryz.underlying74 rfl info_Result_size ?_)
    | (refine wpList_store_row rfl 100 (.tmp 2) (.tmp 4) rfl (w.heap.size + 1) (doneCells r).toArray rfl rfl 100 zeroCode HA.out info_Code_size rfl HO1.out ?_))
  refine bodyPost_ret (v := .agg (doneCells r).toArray) (results_cell_row Tryz.results41 _ _ (w.heap.size + 1) 100 _ (0, 0) _ rfl (setRow_heap _ (w.heap.size + 1) _ _ _ _ HA.out) Tryz.underlying100 rfl info_Code_size) rfl ?_
  exact ⟨rfl, HB'.out⟩
end Go.Proofs.YtifehcegnofpkaaGreatDoor
