/- The walk of node.Clone. -/
import Derived.Test.YtifehcegnofpkaaGreatDoorNode
import Derived.Deep.MidRow
namespace Go.Proofs.YtifehcegnofpkaaGreatDoor
open Go.RowKit

/-- A call returns a node whose lists lie in new memory. -/
def CopyNode (w : World) (n : Ct.Node) (e : Ending) (w' : World) : Prop := ∃ cs, e = .returned (.agg cs.toArray) ∧ NodeAt (fun k => k < w.heap.size) w' cs n ∧ Below w.heap.size w w'

theorem heap_below {B : Nat} {w w' : World} (h : Below B w w') {k : Nat} {o : Obj} (hk : w.heap[k]? = some o) (hB : k < B) : w'.heap[k]? = some o := (h.block k hB).trans hk
theorem heap_alloc_at (w : World) (o : Obj) : (w.alloc o).heap[w.heap.size]? = some o := heap_alloc_new w o
theorem heap_alloc_of {w : World} {k : Nat} {o : Obj} (h : w.heap[k]? = some o) (o' : Obj) : (w.alloc o').heap[k]? = some o :=
  (Below.heap_alloc w o' k (Array.getElem?_eq_some_iff.1 h).1).trans h
theorem heap_setCell_of {w : World} {k : Nat} {o : Obj} (h : w.heap[k]? = some o) (a : Addr) (v : Value) (hne : k ≠ a.block) : (w.setCell a v).heap[k]? = some o :=
  (Below.heap_setCell w a v k hne).trans h
theorem cell_at {w : World} {g : Nat} {cs : Array Value} {t : TypeId} {fr : Nat × Nat} (h : w.heap[g]? = some (.cells cs t fr)) (i : Nat) : w.cell? ⟨g, i, none⟩ = cs[i]? := cell_of_row w g i cs t fr h
theorem free_at {w : World} {g : Nat} {cs : Array Value} {t : TypeId} (h : w.heap[g]? = some (.cells cs t (0, 0))) (i : Nat) : w.frozen? ⟨g, i, none⟩ = false := by simp [World.frozen?, h]

theorem Keep.setRow {F : Nat → Prop} (w : World) (g : Nat) (cs : Array Value) (hp : F g) : Keep F w (w.setRow g cs) :=
  ⟨rfl, rfl, rfl, by simp [World.setRow], fun k _ hn => setRow_other w g k cs (fun e => hn (e ▸ hp))⟩

theorem info_Node_size : (Tryz.prog.info? 131).map (·.size) = some 14 := by kernel_rfl

/-- The cells of the zero node. -/
def zeroNode : Array Value := #[.int .i64 0, .int .i64 0, .int .i64 0, .int .u64 0, .slice none 0 0, .int .u64 0, .string ⟨#[]⟩, .int .u64 0, .slice none 0 0, .int .i64 0, .int .i64 0, .int .i64 0, .int .i64 0, .int .i64 0]

theorem RefsAt.one {N : Nat → Prop} {w : World} {v : Value} {xs : List Int} (h : RefsAt N w v xs) : v.oneCell' = true := by
  rcases h with ⟨rfl, _⟩ | ⟨b, off, cap, rfl, _⟩ <;> rfl
theorem PairsAt.one {N : Nat → Prop} {w : World} {v : Value} {xs : List Ct.Pair} (h : PairsAt N w v xs) : v.oneCell' = true := by
  rcases h with ⟨rfl, _⟩ | ⟨b, off, cap, rfl, _⟩ <;> rfl
theorem RefsAt.shape {N : Nat → Prop} {w : World} {v : Value} {xs : List Int} (h : RefsAt N w v xs) : ∃ a l c, v = .slice a l c := by
  rcases h with ⟨rfl, _⟩ | ⟨b, off, cap, rfl, _⟩ <;> exact ⟨_, _, _, rfl⟩
theorem PairsAt.shape {N : Nat → Prop} {w : World} {v : Value} {xs : List Ct.Pair} (h : PairsAt N w v xs) : ∃ a l c, v = .slice a l c := by
  rcases h with ⟨rfl, _⟩ | ⟨b, off, cap, rfl, _⟩ <;> exact ⟨_, _, _, rfl⟩
theorem nodeCells_one (n : Ct.Node) (bv pv : Value) (h1 : bv.oneCell' = true) (h2 : pv.oneCell' = true) : (nodeCells n bv pv).toArray.all (·.oneCell') = true := by
  have e : ∀ l : List Value, (∀ v ∈ l, v.oneCell' = true) → l.toArray.all (·.oneCell') = true := by
    intro l hl
    simpa using hl
  apply e
  intro v hv
  simp only [nodeCells, List.mem_cons, List.not_mem_nil, or_false] at hv
  rcases hv with rfl | rfl | rfl | rfl | rfl | rfl | rfl | rfl | rfl | rfl | rfl | rfl | rfl | rfl <;> first | rfl | assumption

set_option maxRecDepth 100000 in
set_option maxHeartbeats 1000000 in
theorem clone_any (N : Nat → Prop) (w : World) (n : Ct.Node) (bv pv : Value) (h1 : RefsAt N w bv n.branches) (h2 : PairsAt N w pv n.pairs) (l1 : n.branches.length ≤ 1000000) (l2 : n.pairs.length ≤ 1000000) :
    Calls Tryz.prog 174 #[.agg (nodeCells n bv pv).toArray] w (CopyNode w n) := by
  unfold nodeCells
  have H1 := Lib.hid h1; have H2 := Lib.hid h2
  clear h1 h2
  go_enter Tryz.func174, Tryz.ntmps174
  go_wp2_with fail
  obtain ⟨W, hW⟩ : ∃ W, (w.alloc (.cells (nodeCells n bv pv).toArray 131)).alloc (.cells zeroNode 131) = W := ⟨_, rfl⟩
  have e1 : W.heap.size = w.heap.size + 2 := by rw [← hW]; simp
  have a0 : W.heap[w.heap.size]? = some (.cells (nodeCells n bv pv).toArray 131) := by
    rw [← hW]; exact heap_alloc_of (heap_alloc_at w _) _
  have a1 : W.heap[w.heap.size + 1]? = some (.cells zeroNode 131) := by
    rw [← hW]
    have := heap_alloc_at (w.alloc (.cells (nodeCells n bv pv).toArray 131)) (.cells zeroNode 131)
    simpa using this
  have hBW : Below w.heap.size w W := by rw [← hW]; exact ((Below.refl _ _).alloc (Nat.le_refl _) _).alloc (by simp) _
  have HW := Lib.hid hW
  have E1 := Lib.hid e1; have A0 := Lib.hid a0; have A1 := Lib.hid a1; have BW := Lib.hid hBW
  show Calls _ _ _ ((w.alloc (.cells (nodeCells n bv pv).toArray 131)).alloc (.cells zeroNode 131)) _
  rw [HW.out]
  clear hW e1 a0 a1 hBW
  refine (copiedRefs_any N W bv _ (H1.out.keep (Keep.below BW.out (fun _ => False)) (fun _ h => h.elim) (fun _ h => .inl h)) l1).mono ?_
  rintro e w1 ⟨v1, rfl, hr1, hb1⟩
  obtain ⟨p1, m1, c1, hv1⟩ := hr1.shape
  subst hv1
  have R1 := Lib.hid hr1; have B1 := Lib.hid hb1
  have x0 := heap_below hb1 A0.out (by rw [E1.out]; omega)
  have x1 := heap_below hb1 A1.out (by rw [E1.out]; omega)
  have d4 : w1.cell? ⟨w.heap.size, 4, none⟩ = some bv := by rw [cell_at x0]; rfl
  have d8 : w1.cell? ⟨w.heap.size, 8, none⟩ = some pv := by rw [cell_at x0]; rfl
  have f4 := free_at x0 4
  have X0 := Lib.hid x0; have X1 := Lib.hid x1
  clear hr1 hb1 x0 x1
  go_wp2_with fail
  obtain ⟨W2, hW2⟩ : ∃ W2, w1.setCell ⟨w.heap.size, 4, none⟩ (.slice p1 m1 c1) = W2 := ⟨_, rfl⟩
  have y0 : W2.heap[w.heap.size]? = some (.cells (nodeCells n (.slice p1 m1 c1) pv).toArray 131) := by
    rw [← hW2, heap_setCell_at w1 w.heap.size 4 (.slice p1 m1 c1) _ _ _ X0.out]; rfl
  have y1 : W2.heap[w.heap.size + 1]? = some (.cells zeroNode 131) := by
    rw [← hW2]; exact heap_setCell_of X1.out _ _ (by simp)
  have k2 : Keep (fun k => k = w.heap.size) w1 W2 := by rw [← hW2]; exact Keep.setCell w1 ⟨w.heap.size, 4, none⟩ (.slice p1 m1 c1) rfl
  have Y0 := Lib.hid y0; have Y1 := Lib.hid y1; have K2 := Lib.hid k2
  rw [hW2]
  clear hW2 y0 y1 k2 d4 d8 f4
  have BW2 := Lib.hid (show Below w.heap.size w W2 from (BW.out.trans (B1.out.mono BW.out.size)).trans (K2.out.toBelow _ (by have := B1.out.size; have := BW.out.size; omega) (fun k hk => by omega)))
  refine (copiedPairs_any N W2 pv _ (H2.out.keep (Keep.below BW2.out (fun _ => False)) (fun _ h => h.elim) (fun _ h => .inl h)) l2).mono ?_
  rintro e w3 ⟨v2, rfl, hr2, hb2⟩
  obtain ⟨p2, m2, c2, hv2⟩ := hr2.shape
  subst hv2
  have R2 := Lib.hid hr2; have B2 := Lib.hid hb2
  have hs2 : w.heap.size + 1 < W2.heap.size := (Array.getElem?_eq_some_iff.1 Y1.out).1
  have z0 := heap_below hb2 Y0.out (by omega)
  have z1 := heap_below hb2 Y1.out (by omega)
  have d8 : w3.cell? ⟨w.heap.size, 8, none⟩ = some pv := by rw [cell_at z0]; rfl
  have f8 := free_at z0 8
  have q0 : (w3.setCell ⟨w.heap.size, 8, none⟩ (.slice p2 m2 c2)).heap[w.heap.size]? = some (.cells (nodeCells n (.slice p1 m1 c1) (.slice p2 m2 c2)).toArray 131) := by
    rw [heap_setCell_at w3 w.heap.size 8 (.slice p2 m2 c2) _ _ _ z0]; rfl
  have q1 : (w3.setCell ⟨w.heap.size, 8, none⟩ (.slice p2 m2 c2)).heap[w.heap.size + 1]? = some (.cells zeroNode 131) := heap_setCell_of z1 _ _ (by simp)
  have Q0 := Lib.hid q0; have Q1 := Lib.hid q1
  clear hr2 hb2 z0 z1 q0 q1
  go_wp2_with (first
    | (refine wpList_load_row rfl 131 (.tmp 1) rfl w.heap.size rfl 131 (nodeCells n (.slice p1 m1 c1) (.slice p2 m2 c2)).toArray (0, 0) _ Q0.out Tryz.underlying131 rfl info_Node_size ?_)
    | (refine wpList_store_row rfl 131 (.tmp 2) (.tmp 11) rfl (w.heap.size + 1) (nodeCells n (.slice p1 m1 c1) (.slice p2 m2 c2)).toArray rfl rfl 131 zeroNode Q1.out info_Node_size rfl (nodeCells_one n (.slice p1 m1 c1) (.slice p2 m2 c2) R1.out.one R2.out.one) ?_))
  have K3 : Keep (fun k => k = w.heap.size ∨ k = w.heap.size + 1) w3 ((w3.setCell ⟨w.heap.size, 8, none⟩ (.slice p2 m2 c2)).setRow (w.heap.size + 1) (nodeCells n (.slice p1 m1 c1) (.slice p2 m2 c2)).toArray) :=
    (Keep.setCell w3 ⟨w.heap.size, 8, none⟩ _ (.inl rfl)).trans (Keep.setRow _ (w.heap.size + 1) _ (F := fun k => k = w.heap.size + 1) rfl) (fun k hk => .inl (.inr hk))
  have K13 : Keep (fun k => k = w.heap.size ∨ k = w.heap.size + 1) w1 ((w3.setCell ⟨w.heap.size, 8, none⟩ (.slice p2 m2 c2)).setRow (w.heap.size + 1) (nodeCells n (.slice p1 m1 c1) (.slice p2 m2 c2)).toArray) :=
    ((K2.out.mono (fun k _ hk => .inl hk)).trans (Keep.below B2.out (fun _ => False)) (fun _ h => h.elim)).trans K3 (fun k hk => .inl hk)
  have e1 := E1.out
  have r1 := (R1.out.keep K13 (N' := fun k => k < W.heap.size) (fun k hk => .inl (by omega)) (fun k hk => .inl hk)).avoid (N' := fun k => k < w.heap.size) (fun k _ hk => by omega)
  have r2 := (R2.out.keep K3 (N' := fun k => k < W2.heap.size) (fun k hk => .inl (by omega)) (fun k hk => .inl hk)).avoid (N' := fun k => k < w.heap.size) (fun k _ hk => by omega)
  have hbel : Below w.heap.size w ((w3.setCell ⟨w.heap.size, 8, none⟩ (.slice p2 m2 c2)).setRow (w.heap.size + 1) (nodeCells n (.slice p1 m1 c1) (.slice p2 m2 c2)).toArray) :=
    (BW2.out.trans (B2.out.mono (by omega))).trans (K3.toBelow _ (by have := B2.out.size; omega) (fun k hk => by omega))
  refine bodyPost_ret (v := .agg (nodeCells n (.slice p1 m1 c1) (.slice p2 m2 c2)).toArray) (results_cell_row Tryz.results174 _ _ (w.heap.size + 1) 131 _ (0, 0) _ rfl (setRow_heap _ (w.heap.size + 1) _ _ _ _ Q1.out) Tryz.underlying131 rfl info_Node_size) rfl ⟨_, rfl, ⟨_, _, rfl, r1, r2⟩, hbel⟩
end Go.Proofs.YtifehcegnofpkaaGreatDoor
