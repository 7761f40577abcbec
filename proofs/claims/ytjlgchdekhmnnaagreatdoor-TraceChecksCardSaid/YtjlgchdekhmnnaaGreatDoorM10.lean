/- Parts of a proof: Complete. -/
import Derived.Test.YtjlgchdekhmnnaaGreatDoorM08
section
namespace Go.Proofs.YtjlgchdekhmnnaaGreatDoor
open Go.RowKit
set_option linter.unusedVariables false
variable {O : Nat → Prop}
theorem wp_world {P : Program} {ops : Array Oper} {Q : Exit → Act → World → Prop} {rest : List Oper} {a : Act} {w W : World} (h : w = W) (hc : wpList P ops Q rest a W) : wpList P ops Q rest a w := h ▸ hc
set_option maxRecDepth 100000 in
set_option maxHeartbeats 600000 in
theorem complete_yes (g : Ghost) (w : World) (s : Ct.St) (t : Ct.Trie) (v st : Int) (th : Ct.K) (f : Value) (h : ArenaO O g w s) (hr : s.Room) (hs : Ct.Short s) (hf : KRep g.sv g.N O w f th) (hst : st = 1) :
    Calls Tryz.prog 141 #[.agg (opCells g.sv t), .int .i64 v, .int .i64 st, f] w (RetCode O g w (Ct.completeC Ct.stOps t v st th s)) := by
  obtain ⟨fn, ff, caps, rfl⟩ := hf.func
  have hNW := (((News.nil w).alloc (.cells (opCells g.sv t) 181)).alloc (.cells #[.func (.func fn) ff caps] 112)).alloc (.cells zeroCode 115)
  obtain ⟨W, hW⟩ : ∃ W, ((w.alloc (.cells (opCells g.sv t) 181)).alloc (.cells #[.func (.func fn) ff caps] 112)).alloc (.cells zeroCode 115) = W := ⟨_, rfl⟩
  rw [hW] at hNW
  have HN := Lib.hid hNW; have HWW := Lib.hid hW
  have hfin : Ct.completeC Ct.stOps t v st th s = (.cas t.root v (s.node v).new (.complete1 (s.node v).new th), s) := by unfold Ct.completeC; rw [if_pos hst]; rfl
  have q1 : (st == 1) = true := by simp [hst]
  have HFIN := Lib.hid hfin
  have H := Lib.hid h; have HF := Lib.hid hf
  have HND := Lib.hid (with_world hW (node_any g W s v (h.below hNW.below) hr hs))
  have hmf := hmfG
  have hmN := meth_Node
  clear h hf hNW hW hfin hst
  unfold opCells Ghost.sv
  go_enter Tryz.func141, Tryz.ntmps141
  go_wp2_with fail
  refine HND.out.mono ?_
  rintro e w1 ⟨cs, rfl, ⟨bv, pv, rfl, hrf, hpr⟩, hb1⟩
  have B1 := Lib.hid hb1
  have HO1 := Lib.hid (nodeCells_one (s.node v) bv pv hrf.one hpr.one)
  generalize s.node v = n at HFIN HO1 ⊢
  have HA1 := Lib.hid (heap_alloc_at w1 (.cells zeroNode 136))
  clear hb1 hrf hpr HND
  go_wp2_with (refine wpList_store_row rfl 136 (.tmp 9) (.tmp 14) rfl w1.heap.size (nodeCells n bv pv).toArray rfl rfl 136 zeroNode HA1.out info_Node_size rfl HO1.out ?_; go_must (obtain ⟨W1, hW1⟩ : ∃ W1, W1 = (w1.alloc (.cells zeroNode 136)).setRow w1.heap.size (nodeCells n bv pv).toArray := ⟨_, rfl⟩; refine wp_world hW1.symm ?_; have x1 : NodeBlk W1 w1.heap.size n bv pv := (by rw [hW1]; exact setRow_heap _ w1.heap.size _ _ _ _ HA1.out); have y1 : Below w1.heap.size w1 W1 := (by rw [hW1]; exact below_result w1 _ _ _); have s1 : W1.heap.size = w1.heap.size + 1 := (by rw [hW1]; simp [World.setRow]); have c10 := x1.cell 10; have c12 := x1.cell 12; simp only [nodeCells, List.getElem?_cons_zero, List.getElem?_cons_succ] at c10 c12; have z0 : W1.heap[w.heap.size]? = some (.cells (opCells g.sv t) 181) := seen_below (seen_below (HN.out.at_ 0 _ rfl) B1.out) y1; have d1 : ∀ o, (W1.alloc o).cell? ⟨w.heap.size, 1, none⟩ = some (.int .i64 t.root) := (fun o => by rw [cell_at (heap_alloc_of z0 o)]; rfl); have e12 : ∀ o, (W1.alloc o).cell? ⟨w1.heap.size, 12, none⟩ = some (.int .i64 n.new) := (fun o => by rw [cell_at (heap_alloc_of x1 o)]; rfl); have Y1 := Lib.hid y1; have S1 := Lib.hid s1; clear hW1 x1 y1 s1 z0))
  rw [S1.out]
  refine (taskCas_any _ _ _ _ _ ⟨_, _, _, rfl⟩).mono ?_
  rintro e w2 ⟨rfl, hb2⟩
  have B2 := Lib.hid hb2
  have BA := Lib.hid ((Below.refl W1.heap.size W1).alloc (Nat.le_refl _) (.cells #[.int .i64 n.new] 40))
  have X4 := Lib.hid (seen_below (seen_below (seen_below (seen_below (HN.out.at_ 2 _ rfl) B1.out) Y1.out) BA.out) hb2)
  clear hb2
  go_wp2_with (refine wpList_store_row rfl 115 (.tmp 8) (.tmp 27) rfl (w.heap.size + 2) (casCells t.root v n.new (.func (.func 171) #[] #[ptr (w.heap.size + 1), ptr (w1.heap.size + 1)])).toArray rfl rfl 115 zeroCode X4.out info_Code_size rfl (casCells_one _ _ _ _ rfl) ?_)
  refine bodyPost_ret (v := .agg (casCells t.root v n.new (.func (.func 171) #[] #[ptr (w.heap.size + 1), ptr (w1.heap.size + 1)])).toArray) (results_cell_row Tryz.results141 _ _ (w.heap.size + 2) 115 _ (0, 0) _ rfl (setRow_heap _ (w.heap.size + 2) _ _ _ _ X4.out) Tryz.underlying115 rfl info_Code_size) rfl ?_
  have z := HN.out.size
  simp at z
  have z1 := B1.out.size
  have z2 := Y1.out.size
  have z3 := BA.out.size
  have z4 := S1.out
  have hB1 := below_then HN.out.below HN.out.below.size B1.out
  have hB2 := below_then hB1 hB1.size Y1.out
  have hB3 := below_then hB2 hB2.size BA.out
  have hB := below_setRow' (below_then hB3 hB3.size B2.out) (c := w.heap.size + 2) (by omega) (casCells t.root v n.new (.func (.func 171) #[] #[ptr (w.heap.size + 1), ptr (w1.heap.size + 1)])).toArray
  rw [HFIN.out]
  refine ⟨_, g, O, rfl, H.out.below hB, (Step.below hB).toO, fun _ h => .inl h, ⟨_, rfl, ⟨_, _, rfl, ⟨_, blk_new H.out.toArenaAt (by omega) (seen_setRow (seen_below (seen_below (seen_below (seen_below (HN.out.at_ 1 _ rfl) B1.out) Y1.out) BA.out) B2.out) (by omega)), krep_below HF.out hB⟩, blk_new H.out.toArenaAt (by omega) (seen_setRow (seen_below (heap_alloc_at' W1 _ _ (by omega)) B2.out) (by omega))⟩⟩⟩
set_option maxRecDepth 100000 in
set_option maxHeartbeats 600000 in
theorem complete_no (g : Ghost) (w : World) (s : Ct.St) (t : Ct.Trie) (v st : Int) (th : Ct.K) (f : Value) (h : ArenaO O g w s) (hr : s.Room) (hs : Ct.Short s) (hf : KRep g.sv g.N O w f th) (hst : st ≠ 1) :
    Calls Tryz.prog 141 #[.agg (opCells g.sv t), .int .i64 v, .int .i64 st, f] w (RetCode O g w (Ct.completeC Ct.stOps t v st th s)) := by
  obtain ⟨fn, ff, caps, rfl⟩ := hf.func
  have hNW := (((News.nil w).alloc (.cells (opCells g.sv t) 181)).alloc (.cells #[.func (.func fn) ff caps] 112)).alloc (.cells zeroCode 115)
  obtain ⟨W, hW⟩ : ∃ W, ((w.alloc (.cells (opCells g.sv t) 181)).alloc (.cells #[.func (.func fn) ff caps] 112)).alloc (.cells zeroCode 115) = W := ⟨_, rfl⟩
  rw [hW] at hNW
  have HN := Lib.hid hNW; have HWW := Lib.hid hW
  have hfin : Ct.completeC Ct.stOps t v st th s = (.cas t.root v (s.node v).old (.complete1 (s.node v).old th), s) := by unfold Ct.completeC; rw [if_neg hst]; rfl
  have q1 : (st == 1) = false := by simp [hst]
  have HFIN := Lib.hid hfin
  have H := Lib.hid h; have HF := Lib.hid hf
  have HND := Lib.hid (with_world hW (node_any g W s v (h.below hNW.below) hr hs))
  have hmf := hmfG
  have hmN := meth_Node
  clear h hf hNW hW hfin hst
  unfold opCells Ghost.sv
  go_enter Tryz.func141, Tryz.ntmps141
  go_wp2_with fail
  refine HND.out.mono ?_
  rintro e w1 ⟨cs, rfl, ⟨bv, pv, rfl, hrf, hpr⟩, hb1⟩
  have B1 := Lib.hid hb1
  have HO1 := Lib.hid (nodeCells_one (s.node v) bv pv hrf.one hpr.one)
  generalize s.node v = n at HFIN HO1 ⊢
  have HA1 := Lib.hid (heap_alloc_at w1 (.cells zeroNode 136))
  clear hb1 hrf hpr HND
  go_wp2_with (refine wpList_store_row rfl 136 (.tmp 9) (.tmp 14) rfl w1.heap.size (nodeCells n bv pv).toArray rfl rfl 136 zeroNode HA1.out info_Node_size rfl HO1.out ?_; go_must (obtain ⟨W1, hW1⟩ : ∃ W1, W1 = (w1.alloc (.cells zeroNode 136)).setRow w1.heap.size (nodeCells n bv pv).toArray := ⟨_, rfl⟩; refine wp_world hW1.symm ?_; have x1 : NodeBlk W1 w1.heap.size n bv pv := (by rw [hW1]; exact setRow_heap _ w1.heap.size _ _ _ _ HA1.out); have y1 : Below w1.heap.size w1 W1 := (by rw [hW1]; exact below_result w1 _ _ _); have s1 : W1.heap.size = w1.heap.size + 1 := (by rw [hW1]; simp [World.setRow]); have c10 := x1.cell 10; have c12 := x1.cell 12; simp only [nodeCells, List.getElem?_cons_zero, List.getElem?_cons_succ] at c10 c12; have z0 : W1.heap[w.heap.size]? = some (.cells (opCells g.sv t) 181) := seen_below (seen_below (HN.out.at_ 0 _ rfl) B1.out) y1; have d1 : ∀ o, (W1.alloc o).cell? ⟨w.heap.size, 1, none⟩ = some (.int .i64 t.root) := (fun o => by rw [cell_at (heap_alloc_of z0 o)]; rfl); have e12 : ∀ o, (W1.alloc o).cell? ⟨w1.heap.size, 12, none⟩ = some (.int .i64 n.new) := (fun o => by rw [cell_at (heap_alloc_of x1 o)]; rfl); have Y1 := Lib.hid y1; have S1 := Lib.hid s1; clear hW1 x1 y1 s1 z0))
  rw [S1.out]
  refine (taskCas_any _ _ _ _ _ ⟨_, _, _, rfl⟩).mono ?_
  rintro e w2 ⟨rfl, hb2⟩
  have B2 := Lib.hid hb2
  have BA := Lib.hid ((Below.refl W1.heap.size W1).alloc (Nat.le_refl _) (.cells #[.int .i64 n.old] 40))
  have X4 := Lib.hid (seen_below (seen_below (seen_below (seen_below (HN.out.at_ 2 _ rfl) B1.out) Y1.out) BA.out) hb2)
  clear hb2
  go_wp2_with (refine wpList_store_row rfl 115 (.tmp 8) (.tmp 27) rfl (w.heap.size + 2) (casCells t.root v n.old (.func (.func 171) #[] #[ptr (w.heap.size + 1), ptr (w1.heap.size + 1)])).toArray rfl rfl 115 zeroCode X4.out info_Code_size rfl (casCells_one _ _ _ _ rfl) ?_)
  refine bodyPost_ret (v := .agg (casCells t.root v n.old (.func (.func 171) #[] #[ptr (w.heap.size + 1), ptr (w1.heap.size + 1)])).toArray) (results_cell_row Tryz.results141 _ _ (w.heap.size + 2) 115 _ (0, 0) _ rfl (setRow_heap _ (w.heap.size + 2) _ _ _ _ X4.out) Tryz.underlying115 rfl info_Code_size) rfl ?_
  have z := HN.out.size
  simp at z
  have z1 := B1.out.size
  have z2 := Y1.out.size
  have z3 := BA.out.size
  have z4 := S1.out
  have hB1 := below_then HN.out.below HN.out.below.size B1.out
  have hB2 := below_then hB1 hB1.size Y1.out
  have hB3 := below_then hB2 hB2.size BA.out
  have hB := below_setRow' (below_then hB3 hB3.size B2.out) (c := w.heap.size + 2) (by omega) (casCells t.root v n.old (.func (.func 171) #[] #[ptr (w.heap.size + 1), ptr (w1.heap.size + 1)])).toArray
  rw [HFIN.out]
  refine ⟨_, g, O, rfl, H.out.below hB, (Step.below hB).toO, fun _ h => .inl h, ⟨_, rfl, ⟨_, _, rfl, ⟨_, blk_new H.out.toArenaAt (by omega) (seen_setRow (seen_below (seen_below (seen_below (seen_below (HN.out.at_ 1 _ rfl) B1.out) Y1.out) BA.out) B2.out) (by omega)), krep_below HF.out hB⟩, blk_new H.out.toArenaAt (by omega) (seen_setRow (seen_below (heap_alloc_at' W1 _ _ (by omega)) B2.out) (by omega))⟩⟩⟩
theorem complete_any (g : Ghost) (w : World) (s : Ct.St) (t : Ct.Trie) (v st : Int) (th : Ct.K) (f : Value) (h : ArenaO O g w s) (hr : s.Room) (hs : Ct.Short s) (hf : KRep g.sv g.N O w f th) :
    Calls Tryz.prog 141 #[.agg (opCells g.sv t), .int .i64 v, .int .i64 st, f] w (RetCode O g w (Ct.completeC Ct.stOps t v st th s)) := by
  by_cases hst : st = 1
  · exact complete_yes g w s t v st th f h hr hs hf hst
  · exact complete_no g w s t v st th f h hr hs hf hst
end Go.Proofs.YtjlgchdekhmnnaaGreatDoor
end
