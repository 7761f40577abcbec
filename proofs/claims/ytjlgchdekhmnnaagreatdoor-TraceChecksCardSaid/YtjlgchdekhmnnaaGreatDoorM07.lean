/- Parts of a proof: Task, Gcas, Gcas2, Gcas3. -/
import Derived.Test.YtjlgchdekhmnnaaGreatDoorM04
import Derived.Test.YtjlgchdekhmnnaaGreatDoorM06
import Derived.Deep.RegionWith
section
namespace Go.Proofs.YtjlgchdekhmnnaaGreatDoor
open Go.RowKit
theorem info_Code_size : (Tryz.prog.info? 115).map (·.size) = some 14 := by kernel_rfl
theorem info_Result_size : (Tryz.prog.info? 45).map (·.size) = some 8 := by kernel_rfl
def zeroCode : Array Value := #[.int .i64 0, .int .i64 0, .int .i64 0, .int .i64 0, .nilFunc, .nilFunc, .int .i64 0, .bool false, .int .u64 0, .string ⟨#[]⟩, .int .i64 0, .int .i64 0, .int .i64 0, .bool false]
def RetCells (w : World) (cs : List Value) (e : Ending) (w' : World) : Prop := e = .returned (.agg cs.toArray) ∧ Below w.heap.size w w'
theorem all_one {cs : List Value} (h : ∀ v ∈ cs, v.oneCell' = true) : cs.toArray.all (·.oneCell') = true := by simpa using h
theorem loadCells_one (c : Int) (f : Value) (hf : f.oneCell' = true) : (loadCells c f).toArray.all (·.oneCell') = true := by
  apply all_one
  intro v hv
  simp only [loadCells, resCells, List.cons_append, List.nil_append, List.mem_cons, List.not_mem_nil, or_false] at hv
  rcases hv with rfl | rfl | rfl | rfl | rfl | rfl | rfl | rfl | rfl | rfl | rfl | rfl | rfl | rfl <;> first | rfl | exact hf
theorem casCells_one (c old new : Int) (f : Value) (hf : f.oneCell' = true) : (casCells c old new f).toArray.all (·.oneCell') = true := by
  apply all_one
  intro v hv
  simp only [casCells, resCells, List.cons_append, List.nil_append, List.mem_cons, List.not_mem_nil, or_false] at hv
  rcases hv with rfl | rfl | rfl | rfl | rfl | rfl | rfl | rfl | rfl | rfl | rfl | rfl | rfl | rfl <;> first | rfl | exact hf
theorem doneCells_one (r : Ct.Result) : (doneCells r).toArray.all (·.oneCell') = true := all_one (CodeRep.one (sv := .nilFunc) (N := fun _ => False) (O := fun _ => False) (w := default) (c := .done r) rfl)
set_option maxRecDepth 100000 in
theorem taskLoad_any (c : Int) (f : Value) (w : World) (hf : ∃ n ff caps, f = .func (.func n) ff caps) :
    Calls Tryz.prog 113 #[.int .i64 c, f] w (RetCells w (loadCells c f)) := by
  obtain ⟨n, ff, caps, rfl⟩ := hf
  have HA := Lib.hid (heap_alloc_at w (.cells zeroCode 115))
  have HB := Lib.hid (below_result w zeroCode (loadCells c (.func (.func n) ff caps)).toArray 115)
  have HO := loadCells_one c (.func (.func n) ff caps) rfl
  have HO' := Lib.hid HO
  clear HO
  go_enter Tryz.func113, Tryz.ntmps113
  go_wp2_with (refine wpList_store_row rfl 115 (.tmp 4) (.tmp 8) rfl w.heap.size (loadCells c (.func (.func n) ff caps)).toArray rfl rfl 115 zeroCode HA.out info_Code_size rfl HO'.out ?_)
  refine bodyPost_ret (v := .agg (loadCells c (.func (.func n) ff caps)).toArray) (results_cell_row Tryz.results113 _ _ w.heap.size 115 _ (0, 0) _ rfl (setRow_heap _ w.heap.size _ _ _ _ HA.out) Tryz.underlying115 rfl info_Code_size) rfl ?_
  exact ⟨rfl, HB.out⟩
set_option maxRecDepth 100000 in
theorem taskCas_any (c old new : Int) (f : Value) (w : World) (hf : ∃ n ff caps, f = .func (.func n) ff caps) :
    Calls Tryz.prog 170 #[.int .i64 c, .int .i64 old, .int .i64 new, f] w (RetCells w (casCells c old new f)) := by
  obtain ⟨n, ff, caps, rfl⟩ := hf
  have HA := Lib.hid (heap_alloc_at w (.cells zeroCode 115))
  have HB := Lib.hid (below_result w zeroCode (casCells c old new (.func (.func n) ff caps)).toArray 115)
  have HO := casCells_one c old new (.func (.func n) ff caps) rfl
  have HO' := Lib.hid HO
  clear HO
  go_enter Tryz.func170, Tryz.ntmps170
  go_wp2_with (refine wpList_store_row rfl 115 (.tmp 8) (.tmp 14) rfl w.heap.size (casCells c old new (.func (.func n) ff caps)).toArray rfl rfl 115 zeroCode HA.out info_Code_size rfl HO'.out ?_)
  refine bodyPost_ret (v := .agg (casCells c old new (.func (.func n) ff caps)).toArray) (results_cell_row Tryz.results170 _ _ w.heap.size 115 _ (0, 0) _ rfl (setRow_heap _ w.heap.size _ _ _ _ HA.out) Tryz.underlying115 rfl info_Code_size) rfl ?_
  exact ⟨rfl, HB.out⟩
set_option maxRecDepth 100000 in
theorem taskDone_any (r : Ct.Result) (w : World) :
    Calls Tryz.prog 78 #[.agg (resCells r).toArray] w (RetCells w (doneCells r)) := by
  have HA0 := Lib.hid (heap_alloc_at w (.cells (resCells r).toArray 45))
  have ha : ((w.alloc (.cells (resCells r).toArray 45)).alloc (.cells zeroCode 115)).heap[w.heap.size + 1]? = some (.cells zeroCode 115) := by
    have := heap_alloc_at (w.alloc (.cells (resCells r).toArray 45)) (.cells zeroCode 115)
    simpa using this
  have HA := Lib.hid ha
  have HR := Lib.hid (heap_alloc_of HA0.out (.cells zeroCode 115))
  have HB : Below w.heap.size w (((w.alloc (.cells (resCells r).toArray 45)).alloc (.cells zeroCode 115)).setRow (w.heap.size + 1) (doneCells r).toArray) :=
    (((Below.refl _ _).alloc (Nat.le_refl _) _).alloc (by simp) _).trans ((Keep.setRow _ (w.heap.size + 1) _ (F := fun k => k = w.heap.size + 1) rfl).toBelow _ (by simp; omega) (fun k hk => by omega))
  have HB' := Lib.hid HB
  have HO1 := Lib.hid (doneCells_one r)
  clear HB ha
  show Calls Tryz.prog 78 #[.agg #[.int .i64 r.err, .bool r.found, .int .u64 (r.value : Nat), .string r.key, .int .i64 r.count, .int .i64 r.ref, .int .i64 r.trie.root, .bool r.trie.readOnly]] w _
  go_enter Tryz.func78, Tryz.ntmps78
  go_wp2_with (first
    | (refine wpList_load_row rfl 45 (.tmp 1) rfl w.heap.size rfl 45 #[.int .i64 r.err, .bool r.found, .int .u64 (r.value : Nat), .string r.key, .int .i64 r.count, .int .i64 r.ref, .int .i64 r.trie.root, .bool r.trie.readOnly] (0, 0) _ HR.out Tryz.underlying45 rfl info_Result_size ?_)
    | (refine wpList_store_row rfl 115 (.tmp 2) (.tmp 4) rfl (w.heap.size + 1) (doneCells r).toArray rfl rfl 115 zeroCode HA.out info_Code_size rfl HO1.out ?_))
  refine bodyPost_ret (v := .agg (doneCells r).toArray) (results_cell_row Tryz.results78 _ _ (w.heap.size + 1) 115 _ (0, 0) _ rfl (setRow_heap _ (w.heap.size + 1) _ _ _ _ HA.out) Tryz.underlying115 rfl info_Code_size) rfl ?_
  exact ⟨rfl, HB'.out⟩
end Go.Proofs.YtjlgchdekhmnnaaGreatDoor
end
section
namespace Go.Proofs.YtjlgchdekhmnnaaGreatDoor
open Go.RowKit
set_option linter.unusedVariables false
variable {O : Nat → Prop}
theorem meth_Node (a : Addr) (w : World) : (method 419 23 (.pointer (some a)) "Node").run Tryz.prog w = .ok (92, .pointer (some a)) w := by kernel_rfl
theorem meth_Alloc (a : Addr) (w : World) : (method 419 23 (.pointer (some a)) "Alloc").run Tryz.prog w = .ok (306, .pointer (some a)) w := by kernel_rfl
theorem meth_NewCell (a : Addr) (w : World) : (method 419 23 (.pointer (some a)) "NewCell").run Tryz.prog w = .ok (309, .pointer (some a)) w := by kernel_rfl
theorem meth_NewGen (a : Addr) (w : World) : (method 419 23 (.pointer (some a)) "NewGen").run Tryz.prog w = .ok (310, .pointer (some a)) w := by kernel_rfl
theorem meth_Load (a : Addr) (w : World) : (method 419 23 (.pointer (some a)) "Load").run Tryz.prog w = .ok (308, .pointer (some a)) w := by kernel_rfl
theorem meth_CAS (a : Addr) (w : World) : (method 419 23 (.pointer (some a)) "CAS").run Tryz.prog w = .ok (307, .pointer (some a)) w := by kernel_rfl
theorem field_kind (n : Ct.Node) (bv pv : Value) (w : World) : (Instr.field 136 (.agg (nodeCells n bv pv).toArray) 0).run Tryz.prog w = .ok (.int .i64 n.kind) w := by kernel_rfl
theorem field_gen (n : Ct.Node) (bv pv : Value) (w : World) : (Instr.field 136 (.agg (nodeCells n bv pv).toArray) 1).run Tryz.prog w = .ok (.int .i64 n.gen) w := by kernel_rfl
theorem field_main (n : Ct.Node) (bv pv : Value) (w : World) : (Instr.field 136 (.agg (nodeCells n bv pv).toArray) 2).run Tryz.prog w = .ok (.int .i64 n.main) w := by kernel_rfl
theorem field_prev (n : Ct.Node) (bv pv : Value) (w : World) : (Instr.field 136 (.agg (nodeCells n bv pv).toArray) 9).run Tryz.prog w = .ok (.int .i64 n.prev) w := by kernel_rfl
theorem field_old (n : Ct.Node) (bv pv : Value) (w : World) : (Instr.field 136 (.agg (nodeCells n bv pv).toArray) 10).run Tryz.prog w = .ok (.int .i64 n.old) w := by kernel_rfl
theorem field_expected (n : Ct.Node) (bv pv : Value) (w : World) : (Instr.field 136 (.agg (nodeCells n bv pv).toArray) 11).run Tryz.prog w = .ok (.int .i64 n.expected) w := by kernel_rfl
theorem field_new (n : Ct.Node) (bv pv : Value) (w : World) : (Instr.field 136 (.agg (nodeCells n bv pv).toArray) 12).run Tryz.prog w = .ok (.int .i64 n.new) w := by kernel_rfl
theorem field_status (n : Ct.Node) (bv pv : Value) (w : World) : (Instr.field 136 (.agg (nodeCells n bv pv).toArray) 13).run Tryz.prog w = .ok (.int .i64 n.status) w := by kernel_rfl
def Ghost.sv (g : Ghost) : Value := .iface 23 (.pointer (some ⟨g.a, 0, none⟩))
structure Below4 (w W : World) (o1 o2 o3 o4 : Obj) : Prop where
  below : Below w.heap.size w W
  size : W.heap.size = w.heap.size + 4
  b1 : W.heap[w.heap.size]? = some o1
  b2 : W.heap[w.heap.size + 1]? = some o2
  b3 : W.heap[w.heap.size + 2]? = some o3
  b4 : W.heap[w.heap.size + 3]? = some o4
theorem heap_alloc_at' (w : World) (o : Obj) (k : Nat) (hk : k = w.heap.size) : (w.alloc o).heap[k]? = some o := by rw [hk]; exact heap_alloc_at w o
theorem below4 (w : World) (o1 o2 o3 o4 : Obj) : Below4 w ((((w.alloc o1).alloc o2).alloc o3).alloc o4) o1 o2 o3 o4 := by
  refine ⟨((((Below.refl _ _).alloc (Nat.le_refl _) _).alloc (by simp) _).alloc (by simp; omega) _).alloc (by simp; omega) _, by simp, ?_, ?_, ?_, ?_⟩
  · exact heap_alloc_of (heap_alloc_of (heap_alloc_of (heap_alloc_at w o1) _) _) _
  · exact heap_alloc_of (heap_alloc_of (heap_alloc_at' (w.alloc o1) o2 _ (by simp)) _) _
  · exact heap_alloc_of (heap_alloc_at' ((w.alloc o1).alloc o2) o3 _ (by simp)) _
  · exact heap_alloc_at' (((w.alloc o1).alloc o2).alloc o3) o4 _ (by simp)
theorem with_world {P : Program} {f : FuncId} {args : Array Value} {w W : World} {R : Ending → World → Prop} (h : w = W) (hc : Calls P f args W R) : Calls P f args w R := h ▸ hc
structure ArenaO (O : Nat → Prop) (g : Ghost) (w : World) (s : Ct.St) : Prop extends ArenaAt g w s where
  own : ∀ k, O k → g.N k ∧ ¬ g.Foot k
instance {g : Ghost} {w : World} {s : Ct.St} : CoeOut (ArenaO O g w s) (ArenaAt g w s) := ⟨ArenaO.toArenaAt⟩
theorem ArenaO.lt {g : Ghost} {w : World} {s : Ct.St} (h : ArenaO O g w s) (k : Nat) (hk : O k) : k < w.heap.size := h.nlt k (h.own k hk).1
theorem ArenaO.below {g : Ghost} {w w' : World} {s : Ct.St} (h : ArenaO O g w s) (hb : Below w.heap.size w w') : ArenaO O g w' s := ⟨h.toArenaAt.below hb, h.own⟩
theorem ArenaO.step {g g' : Ghost} {w w' : World} {s s' : Ct.St} (h : ArenaO O g w s) (ha : ArenaAt g' w' s') (hs : Step g w g' w') : ArenaO O g' w' s' :=
  ⟨ha, fun k hk => ⟨hs.old k (h.own k hk).1, fun hf => (hs.foot k hf).elim (h.own k hk).2 (fun h1 => by have := h.lt k hk; omega)⟩⟩
structure StepO (O : Nat → Prop) (g : Ghost) (w : World) (g' : Ghost) (w' : World) : Prop where
  a : g'.a = g.a
  keep : Keep (fun k => g.Foot k ∨ O k) w w'
  new : ∀ k, g'.N k → g.N k ∨ w.heap.size ≤ k
  old : ∀ k, g.N k → g'.N k
  foot : ∀ k, g'.Foot k → g.Foot k ∨ w.heap.size ≤ k
theorem Step.toO {g g' : Ghost} {w w' : World} (h : Step g w g' w') : StepO O g w g' w' := ⟨h.a, h.keep.mono (fun _ _ h => .inl h), h.new, h.old, h.foot⟩
theorem StepO.trans {g g1 g2 : Ghost} {w w1 w2 : World} (h : StepO O g w g1 w1) (k : StepO O g1 w1 g2 w2) : StepO O g w g2 w2 := by
  refine ⟨k.a.trans h.a, h.keep.trans k.keep (fun i hi => hi.elim (fun h1 => (h.foot i h1).imp .inl id) (fun h1 => .inl (.inr h1))), fun i hi => ?_, fun i hi => k.old i (h.old i hi), fun i hi => ?_⟩
  · rcases k.new i hi with h1 | h1
    · exact h.new i h1
    · exact .inr (Nat.le_trans h.keep.size h1)
  · rcases k.foot i hi with h1 | h1
    · exact h.foot i h1
    · exact .inr (Nat.le_trans h.keep.size h1)
theorem StepO.sv {g g' : Ghost} {w w' : World} (h : StepO O g w g' w') : g'.sv = g.sv := by unfold Ghost.sv; rw [h.a]
def RetCode (O : Nat → Prop) (g : Ghost) (w : World) (c : Ct.Code × Ct.St) (e : Ending) (w' : World) : Prop :=
  ∃ cs g' O', e = .returned (.agg cs.toArray) ∧ ArenaO O' g' w' c.2 ∧ StepO O g w g' w' ∧ (∀ k, O' k → O k ∨ w.heap.size ≤ k) ∧ CodeRep g.sv g'.N O' w' cs c.1
theorem seen_setRow {w : World} {k c : Nat} {o : Obj} {cs : Array Value} (h : w.heap[k]? = some o) (hne : k ≠ c) : (w.setRow c cs).heap[k]? = some o := (setRow_other w c k cs hne).trans h
theorem seen_below {w w' : World} {k : Nat} {o : Obj} (h : w.heap[k]? = some o) (hb : Below w.heap.size w w') : w'.heap[k]? = some o := heap_below hb h (Array.getElem?_eq_some_iff.1 h).1
theorem below_setRow' {B c : Nat} {w0 w : World} (hb : Below B w0 w) (hc : B ≤ c) (cs : Array Value) : Below B w0 (w.setRow c cs) :=
  hb.trans ⟨rfl, rfl, rfl, by simp [World.setRow], fun k hk => setRow_other w c k cs (by omega)⟩
theorem below_then {B : Nat} {w0 w w' : World} (hb : Below B w0 w) (hB : B ≤ w.heap.size) (h : Below w.heap.size w w') : Below B w0 w' := hb.trans (h.mono hB)
theorem blk_new {g : Ghost} {w W : World} {s : Ct.St} {b : Nat} {cs : Array Value} {t : TypeId} (h : ArenaAt g w s) (hb : w.heap.size ≤ b) (hc : W.heap[b]? = some (.cells cs t)) : Blk g.N W b cs t :=
  ⟨fun hn => absurd (h.nlt b hn) (by omega), hc⟩
theorem krep_below {g : Ghost} {w W : World} {sv : Value} {f : Value} {k : Ct.K} (h : KRep sv g.N O w f k) (hb : Below w.heap.size w W) : KRep sv g.N O W f k :=
  h.keep (Keep.below hb (fun _ => False)) (fun _ h => h.elim) (fun _ h => .inl h) (fun _ h => h.elim)
set_option maxRecDepth 100000 in
set_option maxHeartbeats 400000 in
theorem read_any (g : Ghost) (w : World) (s : Ct.St) (t : Ct.Trie) (i : Int) (th : Ct.K) (f : Value) (h : ArenaO O g w s) (hr : s.Room) (hs : Ct.Short s) (hf : KRep g.sv g.N O w f th) :
    Calls Tryz.prog 115 #[.agg (opCells g.sv t), .int .i64 i, f] w (RetCode O g w (Ct.readC Ct.stOps t i th s)) := by
  obtain ⟨fn, ff, caps, rfl⟩ := hf.func
  unfold opCells Ghost.sv
  have H := Lib.hid h; have HF := Lib.hid hf
  have hmf := hmfG
  have hmN := meth_Node
  have HW4 := Lib.hid (below4 w (.cells (opCells g.sv t) 181) (.cells #[.int .i64 i] 40) (.cells #[.func (.func fn) ff caps] 112) (.cells zeroCode 115))
  clear h hf
  go_enter Tryz.func115, Tryz.ntmps115
  go_wp2_with fail
  obtain ⟨W, hW⟩ : ∃ W, (((w.alloc (.cells (opCells g.sv t) 181)).alloc (.cells #[.int .i64 i] 40)).alloc (.cells #[.func (.func fn) ff caps] 112)).alloc (.cells zeroCode 115) = W := ⟨_, rfl⟩
  rw [hW] at HW4
  have HWW := Lib.hid hW
  clear hW
  refine (with_world HWW.out (node_any g W s i (H.out.below HW4.out.below) hr hs)).mono ?_
  rintro e w1 ⟨cs, rfl, ⟨bv, pv, rfl, _, _⟩, hb1⟩
  have B1 := Lib.hid hb1
  have EN := Lib.hid (show Ct.stOps.node i s = s.node i from rfl)
  generalize s.node i = n at EN ⊢
  have hf2 := field_main n bv pv
  clear hb1
  go_wp2_with fail
  refine (taskLoad_any _ _ _ ⟨_, _, _, rfl⟩).mono ?_
  rintro e w2 ⟨rfl, hb2⟩
  have B2 := Lib.hid hb2
  have X4 := Lib.hid (heap_below hb2 (heap_below B1.out HW4.out.b4 (by rw [HW4.out.size]; omega)) (by have := B1.out.size; have := HW4.out.size; omega))
  have HO := Lib.hid (loadCells_one n.main (.func (.func 152) #[] #[ptr w.heap.size, ptr (w.heap.size + 1), ptr (w.heap.size + 2)]) rfl)
  clear hb2
  go_wp2_with (refine wpList_store_row rfl 115 (.tmp 6) (.tmp 13) rfl (w.heap.size + 3) (loadCells n.main (.func (.func 152) #[] #[ptr w.heap.size, ptr (w.heap.size + 1), ptr (w.heap.size + 2)])).toArray rfl rfl 115 zeroCode X4.out info_Code_size rfl HO.out ?_)
  refine bodyPost_ret (v := .agg (loadCells n.main (.func (.func 152) #[] #[ptr w.heap.size, ptr (w.heap.size + 1), ptr (w.heap.size + 2)])).toArray) (results_cell_row Tryz.results115 _ _ (w.heap.size + 3) 115 _ (0, 0) _ rfl (setRow_heap _ (w.heap.size + 3) _ _ _ _ X4.out) Tryz.underlying115 rfl info_Code_size) rfl ?_
  have z := HW4.out.size
  have z1 := B1.out.size
  have hB := below_setRow' (below_then (below_then HW4.out.below HW4.out.below.size B1.out) (Nat.le_trans HW4.out.below.size z1) B2.out) (c := w.heap.size + 3) (by omega) (loadCells n.main (.func (.func 152) #[] #[ptr w.heap.size, ptr (w.heap.size + 1), ptr (w.heap.size + 2)])).toArray
  refine ⟨_, g, O, rfl, H.out.below hB, (Step.below hB).toO, fun _ h => .inl h, ?_⟩
  unfold Ct.readC
  rw [EN.out]
  refine ⟨_, rfl, ⟨_, _, _, rfl, blk_new H.out.toArenaAt (by omega) (seen_setRow (seen_below (seen_below HW4.out.b1 B1.out) B2.out) (by omega)), blk_new H.out.toArenaAt (by omega) (seen_setRow (seen_below (seen_below HW4.out.b2 B1.out) B2.out) (by omega)), ⟨_, blk_new H.out.toArenaAt (by omega) (seen_setRow (seen_below (seen_below HW4.out.b3 B1.out) B2.out) (by omega)), krep_below HF.out hB⟩⟩⟩
end Go.Proofs.YtjlgchdekhmnnaaGreatDoor
end
section
namespace Go.Proofs.YtjlgchdekhmnnaaGreatDoor
open Go.RowKit
set_option linter.unusedVariables false
variable {O : Nat → Prop}
structure News (w W : World) (os : List Obj) : Prop where
  below : Below w.heap.size w W
  size : W.heap.size = w.heap.size + os.length
  at_ : ∀ j o, os[j]? = some o → W.heap[w.heap.size + j]? = some o
theorem News.nil (w : World) : News w w [] := ⟨Below.refl _ _, rfl, fun j o h => by simp at h⟩
theorem News.alloc {w W : World} {os : List Obj} (h : News w W os) (o : Obj) : News w (W.alloc o) (os ++ [o]) := by
  refine ⟨h.below.alloc h.below.size o, by have := h.size; simp; omega, fun j u hj => ?_⟩
  by_cases hl : j < os.length
  · rw [List.getElem?_append_left hl] at hj
    exact heap_alloc_of (h.at_ j u hj) o
  · rw [List.getElem?_append_right (by omega)] at hj
    have hj0 : j = os.length := by
      have := (List.getElem?_eq_some_iff.1 hj).1
      simp at this; omega
    subst hj0
    simp at hj
    subst hj
    exact heap_alloc_at' W o _ (by rw [h.size])
set_option maxRecDepth 100000 in
set_option maxHeartbeats 400000 in
theorem settle_any (g : Ghost) (w : World) (s : Ct.St) (t : Ct.Trie) (i m : Int) (th : Ct.K) (f : Value) (h : ArenaO O g w s) (hr : s.Room) (hs : Ct.Short s) (hf : KRep g.sv g.N O w f th) :
    Calls Tryz.prog 153 #[.agg (opCells g.sv t), .int .i64 i, .int .i64 m, f] w (RetCode O g w (Ct.settleC Ct.stOps t i m th s)) := by
  obtain ⟨fn, ff, caps, rfl⟩ := hf.func
  have hNW := ((((((News.nil w).alloc (.cells (opCells g.sv t) 181)).alloc (.cells #[.int .i64 i] 40)).alloc (.cells #[.int .i64 m] 40)).alloc (.cells #[.func (.func fn) ff caps] 112)).alloc (.cells zeroCode 115))
  obtain ⟨W, hW⟩ : ∃ W, ((((w.alloc (.cells (opCells g.sv t) 181)).alloc (.cells #[.int .i64 i] 40)).alloc (.cells #[.int .i64 m] 40)).alloc (.cells #[.func (.func fn) ff caps] 112)).alloc (.cells zeroCode 115) = W := ⟨_, rfl⟩
  rw [hW] at hNW
  have HN := Lib.hid hNW; have HWW := Lib.hid hW
  unfold opCells Ghost.sv
  have H := Lib.hid h; have HF := Lib.hid hf
  have hmf := hmfG
  have hmN := meth_Node
  clear h hf hNW hW
  go_enter Tryz.func153, Tryz.ntmps153
  go_wp2_with fail
  refine (with_world HWW.out (node_any g W s m (H.out.below HN.out.below).toArenaAt hr hs)).mono ?_
  rintro e w1 ⟨cs, rfl, ⟨bv, pv, rfl, _, _⟩, hb1⟩
  have B1 := Lib.hid hb1
  have EN := Lib.hid (show Ct.stOps.node m s = s.node m from rfl)
  generalize s.node m = n at EN ⊢
  have hf9 := field_prev n bv pv
  clear hb1
  go_wp2_with fail
  refine (taskLoad_any _ _ _ ⟨_, _, _, rfl⟩).mono ?_
  rintro e w2 ⟨rfl, hb2⟩
  have B2 := Lib.hid hb2
  have BA := Lib.hid ((Below.refl w1.heap.size w1).alloc (Nat.le_refl _) (.cells #[.int .i64 n.prev] 41))
  have X4 := Lib.hid (seen_below (seen_below (seen_below (HN.out.at_ 4 _ rfl) B1.out) BA.out) hb2)
  clear hb2
  go_wp2_with (refine wpList_store_row rfl 115 (.tmp 8) (.tmp 17) rfl (w.heap.size + 4) (loadCells n.prev (.func (.func 179) #[] #[ptr (w.heap.size + 3), ptr (w.heap.size + 2), ptr w.heap.size, ptr (w.heap.size + 1), ptr w1.heap.size])).toArray rfl rfl 115 zeroCode X4.out info_Code_size rfl (loadCells_one _ _ rfl) ?_)
  refine bodyPost_ret (v := .agg (loadCells n.prev (.func (.func 179) #[] #[ptr (w.heap.size + 3), ptr (w.heap.size + 2), ptr w.heap.size, ptr (w.heap.size + 1), ptr w1.heap.size])).toArray) (results_cell_row Tryz.results153 _ _ (w.heap.size + 4) 115 _ (0, 0) _ rfl (setRow_heap _ (w.heap.size + 4) _ _ _ _ X4.out) Tryz.underlying115 rfl info_Code_size) rfl ?_
  have z := HN.out.size
  simp at z
  have z1 := B1.out.size
  have z2 := BA.out.size
  have hB1 := below_then HN.out.below HN.out.below.size B1.out
  have hB := below_setRow' (below_then (below_then hB1 hB1.size BA.out) (by omega) B2.out) (c := w.heap.size + 4) (by omega) (loadCells n.prev (.func (.func 179) #[] #[ptr (w.heap.size + 3), ptr (w.heap.size + 2), ptr w.heap.size, ptr (w.heap.size + 1), ptr w1.heap.size])).toArray
  refine ⟨_, g, O, rfl, H.out.below hB, (Step.below hB).toO, fun _ h => .inl h, ?_⟩
  unfold Ct.settleC
  rw [EN.out]
  have sees : ∀ j o, j < 4 → (_ : List Obj)[j]? = some o → _ := fun j o hj ho => seen_setRow (seen_below (seen_below (seen_below (HN.out.at_ j o ho) B1.out) BA.out) B2.out) (show w.heap.size + j ≠ w.heap.size + 4 by omega) (cs := (loadCells n.prev (.func (.func 179) #[] #[ptr (w.heap.size + 3), ptr (w.heap.size + 2), ptr w.heap.size, ptr (w.heap.size + 1), ptr w1.heap.size])).toArray)
  refine ⟨_, rfl, ⟨_, _, _, _, _, rfl, ⟨_, blk_new H.out.toArenaAt (by omega) (sees 3 _ (by decide) rfl), krep_below HF.out hB⟩, blk_new H.out.toArenaAt (by omega) (sees 2 _ (by decide) rfl), blk_new H.out.toArenaAt (by omega) (sees 0 _ (by decide) rfl), blk_new H.out.toArenaAt (by omega) (sees 1 _ (by decide) rfl), blk_new H.out.toArenaAt (by omega) (seen_setRow (seen_below (heap_alloc_at w1 _) B2.out) (by omega))⟩⟩
end Go.Proofs.YtjlgchdekhmnnaaGreatDoor
end
section
namespace Go.Proofs.YtjlgchdekhmnnaaGreatDoor
open Go.RowKit
set_option linter.unusedVariables false
variable {O : Nat → Prop}
set_option maxRecDepth 100000 in
set_option maxHeartbeats 400000 in
theorem root_any (g : Ghost) (w : World) (s : Ct.St) (t : Ct.Trie) (th : Ct.K) (f : Value) (h : ArenaO O g w s) (hf : KRep g.sv g.N O w f th) :
    Calls Tryz.prog 185 #[.agg (opCells g.sv t), f] w (RetCode O g w (Ct.rootC t th s)) := by
  obtain ⟨fn, ff, caps, rfl⟩ := hf.func
  have hNW := (((News.nil w).alloc (.cells (opCells g.sv t) 181)).alloc (.cells #[.func (.func fn) ff caps] 112)).alloc (.cells zeroCode 115)
  obtain ⟨W, hW⟩ : ∃ W, ((w.alloc (.cells (opCells g.sv t) 181)).alloc (.cells #[.func (.func fn) ff caps] 112)).alloc (.cells zeroCode 115) = W := ⟨_, rfl⟩
  rw [hW] at hNW
  have HN := Lib.hid hNW; have HWW := Lib.hid hW
  unfold opCells Ghost.sv
  have H := Lib.hid h; have HF := Lib.hid hf
  have hmf := hmfG
  clear h hf hNW hW
  go_enter Tryz.func185, Tryz.ntmps185
  go_wp2_with fail
  refine (with_world HWW.out (taskLoad_any _ _ _ ⟨_, _, _, rfl⟩)).mono ?_
  rintro e w2 ⟨rfl, hb2⟩
  have B2 := Lib.hid hb2
  have X4 := Lib.hid (seen_below (HN.out.at_ 2 _ rfl) hb2)
  clear hb2
  go_wp2_with (refine wpList_store_row rfl 115 (.tmp 4) (.tmp 9) rfl (w.heap.size + 2) (loadCells t.root (.func (.func 213) #[] #[ptr w.heap.size, ptr (w.heap.size + 1)])).toArray rfl rfl 115 zeroCode X4.out info_Code_size rfl (loadCells_one _ _ rfl) ?_)
  refine bodyPost_ret (v := .agg (loadCells t.root (.func (.func 213) #[] #[ptr w.heap.size, ptr (w.heap.size + 1)])).toArray) (results_cell_row Tryz.results185 _ _ (w.heap.size + 2) 115 _ (0, 0) _ rfl (setRow_heap _ (w.heap.size + 2) _ _ _ _ X4.out) Tryz.underlying115 rfl info_Code_size) rfl ?_
  have z := HN.out.size
  simp at z
  have hB := below_setRow' (below_then HN.out.below HN.out.below.size B2.out) (c := w.heap.size + 2) (by omega) (loadCells t.root (.func (.func 213) #[] #[ptr w.heap.size, ptr (w.heap.size + 1)])).toArray
  refine ⟨_, g, O, rfl, H.out.below hB, (Step.below hB).toO, fun _ h => .inl h, ?_⟩
  refine ⟨_, rfl, ⟨_, _, rfl, blk_new H.out.toArenaAt (by omega) (seen_setRow (seen_below (HN.out.at_ 0 _ rfl) B2.out) (by omega)), ⟨_, blk_new H.out.toArenaAt (by omega) (seen_setRow (seen_below (HN.out.at_ 1 _ rfl) B2.out) (by omega)), krep_below HF.out hB⟩⟩⟩
set_option maxRecDepth 100000 in
set_option maxHeartbeats 400000 in
theorem help_any (g : Ghost) (w : World) (s : Ct.St) (t : Ct.Trie) (th : Ct.K) (f : Value) (h : ArenaO O g w s) (hf : KRep g.sv g.N O w f th) :
    Calls Tryz.prog 109 #[.agg (opCells g.sv t), f] w (RetCode O g w (Ct.helpC t th s)) := by
  obtain ⟨fn, ff, caps, rfl⟩ := hf.func
  have hNW := (((News.nil w).alloc (.cells (opCells g.sv t) 181)).alloc (.cells #[.func (.func fn) ff caps] 112)).alloc (.cells zeroCode 115)
  obtain ⟨W, hW⟩ : ∃ W, ((w.alloc (.cells (opCells g.sv t) 181)).alloc (.cells #[.func (.func fn) ff caps] 112)).alloc (.cells zeroCode 115) = W := ⟨_, rfl⟩
  rw [hW] at hNW
  have HN := Lib.hid hNW; have HWW := Lib.hid hW
  unfold opCells Ghost.sv
  have H := Lib.hid h; have HF := Lib.hid hf
  have hmf := hmfG
  clear h hf hNW hW
  go_enter Tryz.func109, Tryz.ntmps109
  go_wp2_with fail
  refine (with_world HWW.out (taskLoad_any _ _ _ ⟨_, _, _, rfl⟩)).mono ?_
  rintro e w2 ⟨rfl, hb2⟩
  have B2 := Lib.hid hb2
  have X4 := Lib.hid (seen_below (HN.out.at_ 2 _ rfl) hb2)
  clear hb2
  go_wp2_with (refine wpList_store_row rfl 115 (.tmp 4) (.tmp 9) rfl (w.heap.size + 2) (loadCells t.root (.func (.func 139) #[] #[ptr w.heap.size, ptr (w.heap.size + 1)])).toArray rfl rfl 115 zeroCode X4.out info_Code_size rfl (loadCells_one _ _ rfl) ?_)
  refine bodyPost_ret (v := .agg (loadCells t.root (.func (.func 139) #[] #[ptr w.heap.size, ptr (w.heap.size + 1)])).toArray) (results_cell_row Tryz.results109 _ _ (w.heap.size + 2) 115 _ (0, 0) _ rfl (setRow_heap _ (w.heap.size + 2) _ _ _ _ X4.out) Tryz.underlying115 rfl info_Code_size) rfl ?_
  have z := HN.out.size
  simp at z
  have hB := below_setRow' (below_then HN.out.below HN.out.below.size B2.out) (c := w.heap.size + 2) (by omega) (loadCells t.root (.func (.func 139) #[] #[ptr w.heap.size, ptr (w.heap.size + 1)])).toArray
  refine ⟨_, g, O, rfl, H.out.below hB, (Step.below hB).toO, fun _ h => .inl h, ?_⟩
  refine ⟨_, rfl, ⟨_, _, rfl, blk_new H.out.toArenaAt (by omega) (seen_setRow (seen_below (HN.out.at_ 0 _ rfl) B2.out) (by omega)), ⟨_, blk_new H.out.toArenaAt (by omega) (seen_setRow (seen_below (HN.out.at_ 1 _ rfl) B2.out) (by omega)), krep_below HF.out hB⟩⟩⟩
theorem RetCode.from {g : Ghost} {w W : World} {c : Ct.Code × Ct.St} {e : Ending} {w' : World} (h : RetCode O g W c e w') (hb : Below w.heap.size w W) : RetCode O g w c e w' := by
  obtain ⟨cs, g', O', e1, e2, e3, e5, e4⟩ := h
  exact ⟨cs, g', O', e1, e2, (Step.below hb).toO.trans e3, fun k hk => (e5 k hk).imp id (fun h => Nat.le_trans hb.size h), e4⟩
end Go.Proofs.YtjlgchdekhmnnaaGreatDoor
end
