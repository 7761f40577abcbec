/- The walks of gcas.Op's root, root.Help, root.decide. -/
import Derived.Test.YtifehcegnofpkaaGreatDoorGcas2
namespace Go.Proofs.YtifehcegnofpkaaGreatDoor
open Go.RowKit


set_option maxRecDepth 100000 in
set_option maxHeartbeats 400000 in
theorem root_any (g : Ghost) (w : World) (s : Ct.St) (t : Ct.Trie) (th : Ct.K) (f : Value) (h : ArenaAt g w s) (hf : KRep g.sv g.N w f th) :
    Calls Tryz.prog 137 #[.agg (opCells g.sv t), f] w (RetCode g w (Ct.rootC t th s)) := by
  obtain ⟨fn, caps, rfl⟩ := hf.func
  have hNW := (((News.nil w).alloc (.cells (opCells g.sv t) 138)).alloc (.cells #[.func (.func fn) #[] caps] 97)).alloc (.cells zeroCode 100)
  obtain ⟨W, hW⟩ : ∃ W, ((w.alloc (.cells (opCells g.sv t) 138)).alloc (.cells #[.func (.func fn) #[] caps] 97)).alloc (.cells zeroCode 100) = W := ⟨_, rfl⟩
  rw [hW] at hNW
  have HN := Lib.hid hNW; have HWW := Lib.hid hW
  unfold opCells Ghost.sv
  have H := Lib.hid h; have HF := Lib.hid hf
  have hmf : ∀ (fn : Fn) (first cap : Array Value) (w : World), (Instr.makeFunc fn first cap).run Tryz.prog w = .ok (.func fn first cap) w := fun _ _ _ _ => rfl
  clear h hf hNW hW
  go_enter Tryz.func137, Tryz.ntmps137
  go_wp2_with fail
  refine (with_world HWW.out (taskLoad_any _ _ _ ⟨_, _, rfl⟩)).mono ?_
  rintro e w2 ⟨rfl, hb2⟩
  have B2 := Lib.hid hb2
  have X4 := Lib.hid (seen_below (HN.out.at_ 2 _ rfl) hb2)
  clear hb2
  go_wp2_with (refine wpList_store_row rfl 100 (.tmp 4) (.tmp 9) rfl (w.heap.size + 2) (loadCells t.root (.func (.func 165) #[] #[ptr w.heap.size, ptr (w.heap.size + 1)])).toArray rfl rfl 100 zeroCode X4.out info_Code_size rfl (loadCells_one _ _ rfl) ?_)
  refine bodyPost_ret (v := .agg (loadCells t.root (.func (.func 165) #[] #[ptr w.heap.size, ptr (w.heap.size + 1)])).toArray) (results_cell_row Tryz.results137 _ _ (w.heap.size + 2) 100 _ (0, 0) _ rfl (setRow_heap _ (w.heap.size + 2) _ _ _ _ X4.out) Tryz.underlying100 rfl info_Code_size) rfl ?_
  have z := HN.out.size
  simp at z
  have hB := below_setRow' (below_then HN.out.below HN.out.below.size B2.out) (c := w.heap.size + 2) (by omega) (loadCells t.root (.func (.func 165) #[] #[ptr w.heap.size, ptr (w.heap.size + 1)])).toArray
  refine ⟨_, g, rfl, H.out.below hB, Step.below hB, ?_⟩
  refine ⟨_, rfl, ⟨_, _, rfl, blk_new H.out (by omega) (seen_setRow (seen_below (HN.out.at_ 0 _ rfl) B2.out) (by omega)), ⟨_, blk_new H.out (by omega) (seen_setRow (seen_below (HN.out.at_ 1 _ rfl) B2.out) (by omega)), krep_below HF.out hB⟩⟩⟩


set_option maxRecDepth 100000 in
set_option maxHeartbeats 400000 in
theorem help_any (g : Ghost) (w : World) (s : Ct.St) (t : Ct.Trie) (th : Ct.K) (f : Value) (h : ArenaAt g w s) (hf : KRep g.sv g.N w f th) :
    Calls Tryz.prog 65 #[.agg (opCells g.sv t), f] w (RetCode g w (Ct.helpC t th s)) := by
  obtain ⟨fn, caps, rfl⟩ := hf.func
  have hNW := (((News.nil w).alloc (.cells (opCells g.sv t) 138)).alloc (.cells #[.func (.func fn) #[] caps] 97)).alloc (.cells zeroCode 100)
  obtain ⟨W, hW⟩ : ∃ W, ((w.alloc (.cells (opCells g.sv t) 138)).alloc (.cells #[.func (.func fn) #[] caps] 97)).alloc (.cells zeroCode 100) = W := ⟨_, rfl⟩
  rw [hW] at hNW
  have HN := Lib.hid hNW; have HWW := Lib.hid hW
  unfold opCells Ghost.sv
  have H := Lib.hid h; have HF := Lib.hid hf
  have hmf : ∀ (fn : Fn) (first cap : Array Value) (w : World), (Instr.makeFunc fn first cap).run Tryz.prog w = .ok (.func fn first cap) w := fun _ _ _ _ => rfl
  clear h hf hNW hW
  go_enter Tryz.func65, Tryz.ntmps65
  go_wp2_with fail
  refine (with_world HWW.out (taskLoad_any _ _ _ ⟨_, _, rfl⟩)).mono ?_
  rintro e w2 ⟨rfl, hb2⟩
  have B2 := Lib.hid hb2
  have X4 := Lib.hid (seen_below (HN.out.at_ 2 _ rfl) hb2)
  clear hb2
  go_wp2_with (refine wpList_store_row rfl 100 (.tmp 4) (.tmp 9) rfl (w.heap.size + 2) (loadCells t.root (.func (.func 93) #[] #[ptr w.heap.size, ptr (w.heap.size + 1)])).toArray rfl rfl 100 zeroCode X4.out info_Code_size rfl (loadCells_one _ _ rfl) ?_)
  refine bodyPost_ret (v := .agg (loadCells t.root (.func (.func 93) #[] #[ptr w.heap.size, ptr (w.heap.size + 1)])).toArray) (results_cell_row Tryz.results65 _ _ (w.heap.size + 2) 100 _ (0, 0) _ rfl (setRow_heap _ (w.heap.size + 2) _ _ _ _ X4.out) Tryz.underlying100 rfl info_Code_size) rfl ?_
  have z := HN.out.size
  simp at z
  have hB := below_setRow' (below_then HN.out.below HN.out.below.size B2.out) (c := w.heap.size + 2) (by omega) (loadCells t.root (.func (.func 93) #[] #[ptr w.heap.size, ptr (w.heap.size + 1)])).toArray
  refine ⟨_, g, rfl, H.out.below hB, Step.below hB, ?_⟩
  refine ⟨_, rfl, ⟨_, _, rfl, blk_new H.out (by omega) (seen_setRow (seen_below (HN.out.at_ 0 _ rfl) B2.out) (by omega)), ⟨_, blk_new H.out (by omega) (seen_setRow (seen_below (HN.out.at_ 1 _ rfl) B2.out) (by omega)), krep_below HF.out hB⟩⟩⟩


/-- What a call leaves, seen from an earlier world. -/
theorem RetCode.from {g : Ghost} {w W : World} {c : Ct.Code × Ct.St} {e : Ending} {w' : World} (h : RetCode g W c e w') (hb : Below w.heap.size w W) : RetCode g w c e w' := by
  obtain ⟨cs, g', e1, e2, e3, e4⟩ := h
  exact ⟨cs, g', e1, e2, (Step.below hb).trans e3, e4⟩
end Go.Proofs.YtifehcegnofpkaaGreatDoor