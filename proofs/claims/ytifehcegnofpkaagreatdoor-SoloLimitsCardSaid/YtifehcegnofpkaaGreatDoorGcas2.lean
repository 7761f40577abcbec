/- The walks of gcas.Op's settle, back, decide, root. -/
import Derived.Test.YtifehcegnofpkaaGreatDoorGcas
namespace Go.Proofs.YtifehcegnofpkaaGreatDoor
open Go.RowKit

/-- New blocks: what lies in them; what was there is as it was. -/
structure News (w W : World) (os : List Obj) : Prop where
  below : Below w.heap.size w W
  size : W.heap.size = w.heap.size + os.length
  at_ : ∀ j o, os[j]? = some o → W.heap[w.heap.size + j]? = some o
theorem News.nil (w : World) : News w w [] := ⟨Below.refl _ _, rfl, fun j o h => by simp at h⟩
theorem News.alloc {w W : World} {os : List Obj} (h : News w W os) (o : Obj) : News w (W.alloc o) (os ++ [o]) := by
  refine ⟨h.below.alloc h.below.size o, by have := h.size; simp; omega, fun j u hj => ?_⟩
  by_cases hl : j < os.length
  · rw [List.getElem?_append_left hl] at hj
    exact heap_alloc_of (h.at_ j u hj) o
  · rw [List.getElem?_append_right (by omega)] at hj
    have hj0 : j = os.length := by
      have := (List.getElem?_eq_some_iff.1 hj).1
      simp at this; omega
    subst hj0
    simp at hj
    subst hj
    exact heap_alloc_at' W o _ (by rw [h.size])

set_option maxRecDepth 100000 in
set_option maxHeartbeats 400000 in
theorem settle_any (g : Ghost) (w : World) (s : Ct.St) (t : Ct.Trie) (i m : Int) (th : Ct.K) (f : Value) (h : ArenaAt g w s) (hr : s.Room) (hs : Ct.Short s) (hf : KRep g.sv g.N w f th) :
    Calls Tryz.prog 107 #[.agg (opCells g.sv t), .int .i64 i, .int .i64 m, f] w (RetCode g w (Ct.settleC Ct.stOps t i m th s)) := by
  obtain ⟨fn, caps, rfl⟩ := hf.func
  have hNW := ((((((News.nil w).alloc (.cells (opCells g.sv t) 138)).alloc (.cells #[.int .i64 i] 46)).alloc (.cells #[.int .i64 m] 46)).alloc (.cells #[.func (.func fn) #[] caps] 97)).alloc (.cells zeroCode 100))
  obtain ⟨W, hW⟩ : ∃ W, ((((w.alloc (.cells (opCells g.sv t) 138)).alloc (.cells #[.int .i64 i] 46)).alloc (.cells #[.int .i64 m] 46)).alloc (.cells #[.func (.func fn) #[] caps] 97)).alloc (.cells zeroCode 100) = W := ⟨_, rfl⟩
  rw [hW] at hNW
  have HN := Lib.hid hNW; have HWW := Lib.hid hW
  unfold opCells Ghost.sv
  have H := Lib.hid h; have HF := Lib.hid hf
  have hmf : ∀ (fn : Fn) (first cap : Array Value) (w : World), (Instr.makeFunc fn first cap).run Tryz.prog w = .ok (.func fn first cap) w := fun _ _ _ _ => rfl
  have hmN := meth_Node
  clear h hf hNW hW
  go_enter Tryz.func107, Tryz.ntmps107
  go_wp2_with fail
  refine (with_world HWW.out (node_any g W s m (H.out.below HN.out.below) hr hs)).mono ?_
  rintro e w1 ⟨cs, rfl, ⟨bv, pv, rfl, _, _⟩, hb1⟩
  have B1 := Lib.hid hb1
  have EN := Lib.hid (show Ct.stOps.node m s = s.node m from rfl)
  generalize s.node m = n at EN ⊢
  have hf9 := field_prev n bv pv
  clear hb1
  go_wp2_with fail
  refine (taskLoad_any _ _ _ ⟨_, _, rfl⟩).mono ?_
  rintro e w2 ⟨rfl, hb2⟩
  have B2 := Lib.hid hb2
  have BA := Lib.hid ((Below.refl w1.heap.size w1).alloc (Nat.le_refl _) (.cells #[.int .i64 n.prev] 45))
  have X4 := Lib.hid (seen_below (seen_below (seen_below (HN.out.at_ 4 _ rfl) B1.out) BA.out) hb2)
  clear hb2
  go_wp2_with (refine wpList_store_row rfl 100 (.tmp 8) (.tmp 17) rfl (w.heap.size + 4) (loadCells n.prev (.func (.func 131) #[] #[ptr (w.heap.size + 3), ptr (w.heap.size + 2), ptr w.heap.size, ptr (w.heap.size + 1), ptr w1.heap.size])).toArray rfl rfl 100 zeroCode X4.out info_Code_size rfl (loadCells_one _ _ rfl) ?_)
  refine bodyPost_ret (v := .agg (loadCells n.prev (.func (.func 131) #[] #[ptr (w.heap.size + 3), ptr (w.heap.size + 2), ptr w.heap.size, ptr (w.heap.size + 1), ptr w1.heap.size])).toArray) (results_cell_row Tryz.results107 _ _ (w.heap.size + 4) 100 _ (0, 0) _ rfl (setRow_heap _ (w.heap.size + 4) _ _ _ _ X4.out) Tryz.underlying100 rfl info_Code_size) rfl ?_
  have z := HN.out.size
  simp at z
  have z1 := B1.out.size
  have z2 := BA.out.size
  have hB1 := below_then HN.out.below HN.out.below.size B1.out
  have hB := below_setRow' (below_then (below_then hB1 hB1.size BA.out) (by omega) B2.out) (c := w.heap.size + 4) (by omega) (loadCells n.prev (.func (.func 131) #[] #[ptr (w.heap.size + 3), ptr (w.heap.size + 2), ptr w.heap.size, ptr (w.heap.size + 1), ptr w1.heap.size])).toArray
  refine ⟨_, g, rfl, H.out.below hB, Step.below hB, ?_⟩
  unfold Ct.settleC
  rw [EN.out]
  have sees : ∀ j o, j < 4 → (_ : List Obj)[j]? = some o → _ := fun j o hj ho => seen_setRow (seen_below (seen_below (seen_below (HN.out.at_ j o ho) B1.out) BA.out) B2.out) (show w.heap.size + j ≠ w.heap.size + 4 by omega) (cs := (loadCells n.prev (.func (.func 131) #[] #[ptr (w.heap.size + 3), ptr (w.heap.size + 2), ptr w.heap.size, ptr (w.heap.size + 1), ptr w1.heap.size])).toArray)
  refine ⟨_, rfl, ⟨_, _, _, _, _, rfl, ⟨_, blk_new H.out (by omega) (sees 3 _ (by decide) rfl), krep_below HF.out hB⟩, blk_new H.out (by omega) (sees 2 _ (by decide) rfl), blk_new H.out (by omega) (sees 0 _ (by decide) rfl), blk_new H.out (by omega) (sees 1 _ (by decide) rfl), blk_new H.out (by omega) (seen_setRow (seen_below (heap_alloc_at w1 _) B2.out) (by omega))⟩⟩
end Go.Proofs.YtifehcegnofpkaaGreatDoor
