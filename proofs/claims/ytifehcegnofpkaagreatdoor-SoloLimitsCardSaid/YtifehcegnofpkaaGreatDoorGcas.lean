/- The arena's methods behind the interface; the walk of gcas.Op's Read. -/
import Derived.Test.YtifehcegnofpkaaGreatDoorTask
import Derived.Deep.RegionWith
namespace Go.Proofs.YtifehcegnofpkaaGreatDoor
open Go.RowKit

theorem meth_Node (a : Addr) (w : World) : (method 379 56 (.pointer (some a)) "Node").run Tryz.prog w = .ok (266, .pointer (some a)) w := by kernel_rfl
theorem meth_Alloc (a : Addr) (w : World) : (method 379 56 (.pointer (some a)) "Alloc").run Tryz.prog w = .ok (261, .pointer (some a)) w := by kernel_rfl
theorem meth_NewCell (a : Addr) (w : World) : (method 379 56 (.pointer (some a)) "NewCell").run Tryz.prog w = .ok (264, .pointer (some a)) w := by kernel_rfl
theorem meth_NewGen (a : Addr) (w : World) : (method 379 56 (.pointer (some a)) "NewGen").run Tryz.prog w = .ok (265, .pointer (some a)) w := by kernel_rfl
theorem meth_Load (a : Addr) (w : World) : (method 379 56 (.pointer (some a)) "Load").run Tryz.prog w = .ok (263, .pointer (some a)) w := by kernel_rfl
theorem meth_CAS (a : Addr) (w : World) : (method 379 56 (.pointer (some a)) "CAS").run Tryz.prog w = .ok (262, .pointer (some a)) w := by kernel_rfl

theorem field_kind (n : Ct.Node) (bv pv : Value) (w : World) : (Instr.field 131 (.agg (nodeCells n bv pv).toArray) 0).run Tryz.prog w = .ok (.int .i64 n.kind) w := by kernel_rfl
theorem field_gen (n : Ct.Node) (bv pv : Value) (w : World) : (Instr.field 131 (.agg (nodeCells n bv pv).toArray) 1).run Tryz.prog w = .ok (.int .i64 n.gen) w := by kernel_rfl
theorem field_main (n : Ct.Node) (bv pv : Value) (w : World) : (Instr.field 131 (.agg (nodeCells n bv pv).toArray) 2).run Tryz.prog w = .ok (.int .i64 n.main) w := by kernel_rfl
theorem field_prev (n : Ct.Node) (bv pv : Value) (w : World) : (Instr.field 131 (.agg (nodeCells n bv pv).toArray) 9).run Tryz.prog w = .ok (.int .i64 n.prev) w := by kernel_rfl
theorem field_old (n : Ct.Node) (bv pv : Value) (w : World) : (Instr.field 131 (.agg (nodeCells n bv pv).toArray) 10).run Tryz.prog w = .ok (.int .i64 n.old) w := by kernel_rfl
theorem field_expected (n : Ct.Node) (bv pv : Value) (w : World) : (Instr.field 131 (.agg (nodeCells n bv pv).toArray) 11).run Tryz.prog w = .ok (.int .i64 n.expected) w := by kernel_rfl
theorem field_new (n : Ct.Node) (bv pv : Value) (w : World) : (Instr.field 131 (.agg (nodeCells n bv pv).toArray) 12).run Tryz.prog w = .ok (.int .i64 n.new) w := by kernel_rfl
theorem field_status (n : Ct.Node) (bv pv : Value) (w : World) : (Instr.field 131 (.agg (nodeCells n bv pv).toArray) 13).run Tryz.prog w = .ok (.int .i64 n.status) w := by kernel_rfl

/-- The arena as a Store. -/
def Ghost.sv (g : Ghost) : Value := .iface 56 (.pointer (some ⟨g.a, 0, none⟩))

/-- Four new blocks: what lies in them; what was there is as it was. -/
structure Below4 (w W : World) (o1 o2 o3 o4 : Obj) : Prop where
  below : Below w.heap.size w W
  size : W.heap.size = w.heap.size + 4
  b1 : W.heap[w.heap.size]? = some o1
  b2 : W.heap[w.heap.size + 1]? = some o2
  b3 : W.heap[w.heap.size + 2]? = some o3
  b4 : W.heap[w.heap.size + 3]? = some o4
theorem heap_alloc_at' (w : World) (o : Obj) (k : Nat) (hk : k = w.heap.size) : (w.alloc o).heap[k]? = some o := by rw [hk]; exact heap_alloc_at w o
theorem below4 (w : World) (o1 o2 o3 o4 : Obj) : Below4 w ((((w.alloc o1).alloc o2).alloc o3).alloc o4) o1 o2 o3 o4 := by
  refine ⟨((((Below.refl _ _).alloc (Nat.le_refl _) _).alloc (by simp) _).alloc (by simp; omega) _).alloc (by simp; omega) _, by simp, ?_, ?_, ?_, ?_⟩
  · exact heap_alloc_of (heap_alloc_of (heap_alloc_of (heap_alloc_at w o1) _) _) _
  · exact heap_alloc_of (heap_alloc_of (heap_alloc_at' (w.alloc o1) o2 _ (by simp)) _) _
  · exact heap_alloc_of (heap_alloc_at' ((w.alloc o1).alloc o2) o3 _ (by simp)) _
  · exact heap_alloc_at' (((w.alloc o1).alloc o2).alloc o3) o4 _ (by simp)

/-- A contract at a world, at an equal one. -/
theorem with_world {P : Program} {f : FuncId} {args : Array Value} {w W : World} {R : Ending → World → Prop} (h : w = W) (hc : Calls P f args W R) : Calls P f args w R := h ▸ hc

/-- A call returns a code and leaves the state s'. -/
def RetCode (g : Ghost) (w : World) (c : Ct.Code × Ct.St) (e : Ending) (w' : World) : Prop :=
  ∃ cs g', e = .returned (.agg cs.toArray) ∧ ArenaAt g' w' c.2 ∧ Step g w g' w' ∧ CodeRep g.sv g'.N w' cs c.1

theorem seen_setRow {w : World} {k c : Nat} {o : Obj} {cs : Array Value} (h : w.heap[k]? = some o) (hne : k ≠ c) : (w.setRow c cs).heap[k]? = some o := (setRow_other w c k cs hne).trans h
theorem seen_below {w w' : World} {k : Nat} {o : Obj} (h : w.heap[k]? = some o) (hb : Below w.heap.size w w') : w'.heap[k]? = some o := heap_below hb h (Array.getElem?_eq_some_iff.1 h).1
theorem below_setRow' {B c : Nat} {w0 w : World} (hb : Below B w0 w) (hc : B ≤ c) (cs : Array Value) : Below B w0 (w.setRow c cs) :=
  hb.trans ⟨rfl, rfl, rfl, by simp [World.setRow], fun k hk => setRow_other w c k cs (by omega)⟩
theorem below_then {B : Nat} {w0 w w' : World} (hb : Below B w0 w) (hB : B ≤ w.heap.size) (h : Below w.heap.size w w') : Below B w0 w' := hb.trans (h.mono hB)
/-- A new block is not among those that may change. -/
theorem blk_new {g : Ghost} {w W : World} {s : Ct.St} {b : Nat} {cs : Array Value} {t : TypeId} (h : ArenaAt g w s) (hb : w.heap.size ≤ b) (hc : W.heap[b]? = some (.cells cs t)) : Blk g.N W b cs t :=
  ⟨fun hn => absurd (h.nlt b hn) (by omega), hc⟩
theorem krep_below {g : Ghost} {w W : World} {sv : Value} {f : Value} {k : Ct.K} (h : KRep sv g.N w f k) (hb : Below w.heap.size w W) : KRep sv g.N W f k :=
  h.keep (Keep.below hb (fun _ => False)) (fun _ h => h.elim) (fun _ h => .inl h)

set_option maxRecDepth 100000 in
set_option maxHeartbeats 400000 in
theorem read_any (g : Ghost) (w : World) (s : Ct.St) (t : Ct.Trie) (i : Int) (th : Ct.K) (f : Value) (h : ArenaAt g w s) (hr : s.Room) (hs : Ct.Short s) (hf : KRep g.sv g.N w f th) :
    Calls Tryz.prog 71 #[.agg (opCells g.sv t), .int .i64 i, f] w (RetCode g w (Ct.readC Ct.stOps t i th s)) := by
  obtain ⟨fn, caps, rfl⟩ := hf.func
  unfold opCells Ghost.sv
  have H := Lib.hid h; have HF := Lib.hid hf
  have hmf : ∀ (fn : Fn) (first cap : Array Value) (w : World), (Instr.makeFunc fn first cap).run Tryz.prog w = .ok (.func fn first cap) w := fun _ _ _ _ => rfl
  have hmN := meth_Node
  have HW4 := Lib.hid (below4 w (.cells (opCells g.sv t) 138) (.cells #[.int .i64 i] 46) (.cells #[.func (.func fn) #[] caps] 97) (.cells zeroCode 100))
  clear h hf
  go_enter Tryz.func71, Tryz.ntmps71
  go_wp2_with fail
  obtain ⟨W, hW⟩ : ∃ W, (((w.alloc (.cells (opCells g.sv t) 138)).alloc (.cells #[.int .i64 i] 46)).alloc (.cells #[.func (.func fn) #[] caps] 97)).alloc (.cells zeroCode 100) = W := ⟨_, rfl⟩
  rw [hW] at HW4
  have HWW := Lib.hid hW
  clear hW
  refine (with_world HWW.out (node_any g W s i (H.out.below HW4.out.below) hr hs)).mono ?_
  rintro e w1 ⟨cs, rfl, ⟨bv, pv, rfl, _, _⟩, hb1⟩
  have B1 := Lib.hid hb1
  have EN := Lib.hid (show Ct.stOps.node i s = s.node i from rfl)
  generalize s.node i = n at EN ⊢
  have hf2 := field_main n bv pv
  clear hb1
  go_wp2_with fail
  refine (taskLoad_any _ _ _ ⟨_, _, rfl⟩).mono ?_
  rintro e w2 ⟨rfl, hb2⟩
  have B2 := Lib.hid hb2
  have X4 := Lib.hid (heap_below hb2 (heap_below B1.out HW4.out.b4 (by rw [HW4.out.size]; omega)) (by have := B1.out.size; have := HW4.out.size; omega))
  have HO := Lib.hid (loadCells_one n.main (.func (.func 106) #[] #[ptr w.heap.size, ptr (w.heap.size + 1), ptr (w.heap.size + 2)]) rfl)
  clear hb2
  go_wp2_with (refine wpList_store_row rfl 100 (.tmp 6) (.tmp 13) rfl (w.heap.size + 3) (loadCells n.main (.func (.func 106) #[] #[ptr w.heap.size, ptr (w.heap.size + 1), ptr (w.heap.size + 2)])).toArray rfl rfl 100 zeroCode X4.out info_Code_size rfl HO.out ?_)
  refine bodyPost_ret (v := .agg (loadCells n.main (.func (.func 106) #[] #[ptr w.heap.size, ptr (w.heap.size + 1), ptr (w.heap.size + 2)])).toArray) (results_cell_row Tryz.results71 _ _ (w.heap.size + 3) 100 _ (0, 0) _ rfl (setRow_heap _ (w.heap.size + 3) _ _ _ _ X4.out) Tryz.underlying100 rfl info_Code_size) rfl ?_
  have z := HW4.out.size
  have z1 := B1.out.size
  have hB := below_setRow' (below_then (below_then HW4.out.below HW4.out.below.size B1.out) (Nat.le_trans HW4.out.below.size z1) B2.out) (c := w.heap.size + 3) (by omega) (loadCells n.main (.func (.func 106) #[] #[ptr w.heap.size, ptr (w.heap.size + 1), ptr (w.heap.size + 2)])).toArray
  refine ⟨_, g, rfl, H.out.below hB, Step.below hB, ?_⟩
  unfold Ct.readC
  rw [EN.out]
  refine ⟨_, rfl, ⟨_, _, _, rfl, blk_new H.out (by omega) (seen_setRow (seen_below (seen_below HW4.out.b1 B1.out) B2.out) (by omega)), blk_new H.out (by omega) (seen_setRow (seen_below (seen_below HW4.out.b2 B1.out) B2.out) (by omega)), ⟨_, blk_new H.out (by omega) (seen_setRow (seen_below (seen_below HW4.out.b3 B1.out) B2.out) (by omega)), krep_below HF.out hB⟩⟩⟩
end Go.Proofs.YtifehcegnofpkaaGreatDoor
