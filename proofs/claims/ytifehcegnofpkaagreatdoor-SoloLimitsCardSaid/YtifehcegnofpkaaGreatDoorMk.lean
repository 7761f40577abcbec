/- The walks of package node's makers and of Main. -/
import Derived.Test.YtifehcegnofpkaaGreatDoorArenaNode
namespace Go.Proofs.YtifehcegnofpkaaGreatDoor
open Go.RowKit

set_option maxRecDepth 100000 in
theorem mkEmpty  (w : World) :
    Calls Tryz.prog 56 #[] w (CopyNode w { kind := 3 }) := by
  have HA := Lib.hid (heap_alloc_at w (.cells zeroNode 131))
  have HB := Lib.hid (below_result w zeroNode (nodeCells { kind := 3 } (.slice none 0 0) (.slice none 0 0)).toArray 131)
  go_enter Tryz.func56, Tryz.ntmps56
  go_wp2_with (refine wpList_store_row rfl 131 (.tmp 0) (.tmp 1) rfl w.heap.size (nodeCells { kind := 3 } (.slice none 0 0) (.slice none 0 0)).toArray rfl rfl 131 zeroNode HA.out info_Node_size rfl (bare_one { kind := 3 }) ?_)
  refine bodyPost_ret (v := .agg (nodeCells { kind := 3 } (.slice none 0 0) (.slice none 0 0)).toArray) (results_cell_row Tryz.results56 _ _ w.heap.size 131 _ (0, 0) _ rfl (setRow_heap _ w.heap.size _ _ _ _ HA.out) Tryz.underlying131 rfl info_Node_size) rfl ?_
  exact copyNode_bare (n := { kind := 3 }) HB.out rfl rfl

set_option maxRecDepth 100000 in
theorem mkInner (gen : Int) (w : World) :
    Calls Tryz.prog 89 #[.int .i64 gen] w (CopyNode w { kind := 2, gen := gen }) := by
  have HA := Lib.hid (heap_alloc_at w (.cells zeroNode 131))
  have HB := Lib.hid (below_result w zeroNode (nodeCells { kind := 2, gen := gen } (.slice none 0 0) (.slice none 0 0)).toArray 131)
  go_enter Tryz.func89, Tryz.ntmps89
  go_wp2_with (refine wpList_store_row rfl 131 (.tmp 2) (.tmp 4) rfl w.heap.size (nodeCells { kind := 2, gen := gen } (.slice none 0 0) (.slice none 0 0)).toArray rfl rfl 131 zeroNode HA.out info_Node_size rfl (bare_one { kind := 2, gen := gen }) ?_)
  refine bodyPost_ret (v := .agg (nodeCells { kind := 2, gen := gen } (.slice none 0 0) (.slice none 0 0)).toArray) (results_cell_row Tryz.results89 _ _ w.heap.size 131 _ (0, 0) _ rfl (setRow_heap _ w.heap.size _ _ _ _ HA.out) Tryz.underlying131 rfl info_Node_size) rfl ?_
  exact copyNode_bare (n := { kind := 2, gen := gen }) HB.out rfl rfl

set_option maxRecDepth 100000 in
theorem mkDesc (o x n : Int) (w : World) :
    Calls Tryz.prog 139 #[.int .i64 o, .int .i64 x, .int .i64 n] w (CopyNode w { kind := 8, old := o, expected := x, new := n }) := by
  have HA := Lib.hid (heap_alloc_at w (.cells zeroNode 131))
  have HB := Lib.hid (below_result w zeroNode (nodeCells { kind := 8, old := o, expected := x, new := n } (.slice none 0 0) (.slice none 0 0)).toArray 131)
  go_enter Tryz.func139, Tryz.ntmps139
  go_wp2_with (refine wpList_store_row rfl 131 (.tmp 6) (.tmp 10) rfl w.heap.size (nodeCells { kind := 8, old := o, expected := x, new := n } (.slice none 0 0) (.slice none 0 0)).toArray rfl rfl 131 zeroNode HA.out info_Node_size rfl (bare_one { kind := 8, old := o, expected := x, new := n }) ?_)
  refine bodyPost_ret (v := .agg (nodeCells { kind := 8, old := o, expected := x, new := n } (.slice none 0 0) (.slice none 0 0)).toArray) (results_cell_row Tryz.results139 _ _ w.heap.size 131 _ (0, 0) _ rfl (setRow_heap _ w.heap.size _ _ _ _ HA.out) Tryz.underlying131 rfl info_Node_size) rfl ?_
  exact copyNode_bare (n := { kind := 8, old := o, expected := x, new := n }) HB.out rfl rfl

set_option maxRecDepth 100000 in
theorem mkFailed (o : Int) (w : World) :
    Calls Tryz.prog 164 #[.int .i64 o] w (CopyNode w { kind := 7, old := o }) := by
  have HA := Lib.hid (heap_alloc_at w (.cells zeroNode 131))
  have HB := Lib.hid (below_result w zeroNode (nodeCells { kind := 7, old := o } (.slice none 0 0) (.slice none 0 0)).toArray 131)
  go_enter Tryz.func164, Tryz.ntmps164
  go_wp2_with (refine wpList_store_row rfl 131 (.tmp 2) (.tmp 4) rfl w.heap.size (nodeCells { kind := 7, old := o } (.slice none 0 0) (.slice none 0 0)).toArray rfl rfl 131 zeroNode HA.out info_Node_size rfl (bare_one { kind := 7, old := o }) ?_)
  refine bodyPost_ret (v := .agg (nodeCells { kind := 7, old := o } (.slice none 0 0) (.slice none 0 0)).toArray) (results_cell_row Tryz.results164 _ _ w.heap.size 131 _ (0, 0) _ rfl (setRow_heap _ w.heap.size _ _ _ _ HA.out) Tryz.underlying131 rfl info_Node_size) rfl ?_
  exact copyNode_bare (n := { kind := 7, old := o }) HB.out rfl rfl

set_option maxRecDepth 100000 in
theorem main_any (n : Ct.Node) (bv pv : Value) (w : World) :
    Calls Tryz.prog 132 #[.agg (nodeCells n bv pv).toArray] w fun e w' => e = .returned (.bool n.isMain) ∧ Below w.heap.size w w' := by
  have hB := (Below.refl w.heap.size w).alloc (Nat.le_refl _) (.cells (nodeCells n bv pv).toArray 131)
  have HB := Lib.hid hB
  clear hB
  unfold nodeCells at *
  by_cases h3 : n.kind = 3
  · have Hv := Lib.hid (show n.isMain = true by unfold Ct.Node.isMain; simp [h3])
    have q : (n.kind == 3) = true := by simp [h3]
    clear h3
    go_enter Tryz.func132, Tryz.ntmps132
    go_wp2_with fail
    go_ret
    exact ⟨by rw [Hv.out]; rfl, HB.out⟩
  · by_cases h5 : n.kind = 5
    · have Hv := Lib.hid (show n.isMain = true by unfold Ct.Node.isMain; simp [h5])
      have q3 : (n.kind == 3) = false := by simp [h3]
      have q : (n.kind == 5) = true := by simp [h5]
      clear h3 h5
      go_enter Tryz.func132, Tryz.ntmps132
      go_wp2_with fail
      go_ret
      exact ⟨by rw [Hv.out]; rfl, HB.out⟩
    · by_cases h6 : n.kind = 6
      · have Hv := Lib.hid (show n.isMain = true by unfold Ct.Node.isMain; simp [h6])
        have q3 : (n.kind == 3) = false := by simp [h3]
        have q5 : (n.kind == 5) = false := by simp [h5]
        have q : (n.kind == 6) = true := by simp [h6]
        clear h3 h5 h6
        go_enter Tryz.func132, Tryz.ntmps132
        go_wp2_with fail
        go_ret
        exact ⟨by rw [Hv.out]; rfl, HB.out⟩
      · have Hv := Lib.hid (show n.isMain = false by unfold Ct.Node.isMain; simp [h3, h5, h6])
        have q3 : (n.kind == 3) = false := by simp [h3]
        have q5 : (n.kind == 5) = false := by simp [h5]
        have q : (n.kind == 6) = false := by simp [h6]
        clear h3 h5 h6
        go_enter Tryz.func132, Tryz.ntmps132
        go_wp2_with fail
        go_ret
        exact ⟨by rw [Hv.out]; rfl, HB.out⟩
end Go.Proofs.YtifehcegnofpkaaGreatDoor