/- Parts of a proof: S4. -/
import Derived.Test.YtjlgchdekhmnnaaGreatDoorM13
section
namespace Go.Proofs.YtjlgchdekhmnnaaGreatDoor
open Go.RowKit
set_option linter.unusedVariables false
set_option linter.unusedVariables false
variable {O : Nat → Prop}
theorem node_new (w : World) (n : Ct.Node) (bv pv : Value) (i : Nat) (v : Value) (hv : (nodeCells n bv pv)[i]? = some v) : (w.alloc (.cells (nodeCells n bv pv).toArray 136)).cell? ⟨w.heap.size, i, none⟩ = some v := by
  rw [cell_at (heap_alloc_at w _) i]; simpa using hv
theorem store_func (w : World) (t : TypeId) (fn : Fn) (fs cs : Array Value) : (store ⟨w.heap.size, 0, none⟩ (.func fn fs cs)).run Tryz.prog (w.alloc (.cells #[.nilFunc] t)) = .ok () (w.alloc (.cells #[.func fn fs cs] t)) := by
  have hc : (w.alloc (.cells #[.nilFunc] t)).cell? ⟨w.heap.size, 0, none⟩ = some .nilFunc := by rw [cell_at (heap_alloc_at w _) 0]; rfl
  have hf := free_at (heap_alloc_at w (.cells #[.nilFunc] t)) 0
  rw [run_store _ _ _ _ _ rfl, hc]
  simp only [hf]
  have e := setCell_eq_setRow (w.alloc (.cells #[.nilFunc] t)) w.heap.size 0 #[.nilFunc] t (0, 0) (.func fn fs cs) (heap_alloc_at w _)
  rw [e]
  exact congrArg (Go.Result.ok ()) (alloc_setRow w _ _ t)
set_option maxRecDepth 100000 in
set_option maxHeartbeats 400000 in
theorem clo_sroot_w (t : Ct.Trie) (i : Int) (prev : Int) (p : Int) (ag : Ct.K) (g : Ghost) (w : World) (s : Ct.St) (x : Int) (b0 b1 b2 b3 b4 : Nat) (fn : FuncId) (ff fc : Array Value) (h : ArenaO O g w s) (hfin : Fin (1000 + 1000 * ag.rank) s) (k0 : Blk g.N w b0 (opCells g.sv t) 181) (k1 : Blk g.N w b1 #[.int .i64 i] 40) (k2 : Blk g.N w b2 #[.int .i64 prev] 41) (k3 : Blk g.N w b3 #[.int .i64 p] 40) (k4 : Blk g.N w b4 #[.func (.func fn) ff fc] 113) (kr : KRep g.sv g.N O w (.func (.func fn) ff fc) ag) (ih : CallBool ag) :
    Calls Tryz.prog 186 #[.int .i64 x, ptr b0, ptr b1, ptr b2, ptr b3, ptr b4] w (RetCode O g w (Ct.apply Ct.stOps (.sroot t i prev p ag) x s)) := by
  have hNW := (News.nil w).alloc (.cells zeroCode 115)
  obtain ⟨W0, hW0⟩ : ∃ W, (w.alloc (.cells zeroCode 115)) = W := ⟨_, rfl⟩
  rw [hW0] at hNW
  have z := hNW.size
  simp at z
  have hR0 := Run.start h hNW (b := w.heap.size) 0 rfl rfl
  have hM0 : Mv O g w (g.plus w.heap.size) W0 := Mv.plus hNW.below (by omega)
  have B0 := Lib.hid (k0.mv hM0)
  have B1 := Lib.hid (k1.mv hM0)
  have B2 := Lib.hid (k2.mv hM0)
  have B3 := Lib.hid (k3.mv hM0)
  have B4 := Lib.hid (k4.mv hM0)
  have KR := Lib.hid (kr.mv hM0)
  have hent := kr.enters
  unfold Ent at hent
  have R0 := Lib.hid hR0
  have M0 := Lib.hid hM0
  have HW := Lib.hid hW0
  have HZ := Lib.hid z
  have H := Lib.hid h
  have FI := Lib.hid hfin
  have hmf := hmfG
  have hmNode := meth_Node; have hnNode := nil_Node
  clear h hNW hW0 z hR0 hM0 hfin k0 k1 k2 k3 k4 kr
  unfold ptr
  go_enter Tryz.func186, Tryz.ntmps186
  go_wp2_with fail
  refine code_world HW.out ?_
  refine wp_region_held_drew (S := fun W' => W'.cell? ⟨b0, 0, none⟩ = some (.iface 23 (.pointer (some ⟨g.a, 0, none⟩))) ∧ W'.cell? ⟨b1, 0, none⟩ = some (.int .i64 i) ∧ True) (by kernel_rfl) ⟨(B0.out).at0 0 _ rfl, (B1.out).at0 0 _ rfl, trivial⟩ (fun hS => ?_)
  have R1d := Lib.hid (R0.out.drew)
  refine wpAnyH_take (i := 0) (oi := { dst := (some 9), op := (Op.fieldAddr 181 (Operand.tmp 1) 0), type := 0, pos := "gcas.go:76", after := #[], guard := none }) (v := .pointer (some ⟨b0, 0, none⟩)) rfl (by kernel_rfl) (by kernel_rfl) (by kernel_rfl) (fun _ _ _ h => h) (Or.inl ⟨by rfl, fun W' hW => ?_⟩) hS ?_
  · go_simp
  try simp only [Act.put, sI, sZ, sS]
  refine wpAnyH_take (i := 1) (oi := { dst := (some 10), op := (Op.load 95 (Operand.tmp 9)), type := 95, pos := "gcas.go:76", after := #[⟨0, .data⟩], guard := none }) (v := .iface 23 (.pointer (some ⟨g.a, 0, none⟩))) rfl (by kernel_rfl) (by kernel_rfl) (by kernel_rfl) (fun _ _ _ h => h) (Or.inl ⟨by rfl, fun W' hW => ?_⟩) hS ?_
  · go_simp
  try simp only [Act.put, sI, sZ, sS]
  refine wpAnyH_take (i := 2) (oi := { dst := (some 11), op := (Op.move (Operand.tmp 0)), type := 40, pos := "gcas.go:76", after := #[], guard := none }) (v := .int .i64 x) rfl (by kernel_rfl) (by kernel_rfl) (by kernel_rfl) (fun _ _ _ h => h) (Or.inl ⟨by rfl, fun W' hW => ?_⟩) hS ?_
  · go_simp
  try simp only [Act.put, sI, sZ, sS]
  refine wpAnyH_take (i := 5) (oi := { dst := (some 14), op := (Op.fieldAddr 181 (Operand.tmp 1) 0), type := 0, pos := "gcas.go:76", after := #[], guard := none }) (v := .pointer (some ⟨b0, 0, none⟩)) rfl (by kernel_rfl) (by kernel_rfl) (by kernel_rfl) (fun _ _ _ h => h) (Or.inl ⟨by rfl, fun W' hW => ?_⟩) hS ?_
  · go_simp
  try simp only [Act.put, sI, sZ, sS]
  refine wpAnyH_take (i := 6) (oi := { dst := (some 15), op := (Op.load 95 (Operand.tmp 14)), type := 95, pos := "gcas.go:76", after := #[⟨5, .data⟩], guard := none }) (v := .iface 23 (.pointer (some ⟨g.a, 0, none⟩))) rfl (by kernel_rfl) (by kernel_rfl) (by kernel_rfl) (fun _ _ _ h => h) (Or.inl ⟨by rfl, fun W' hW => ?_⟩) hS ?_
  · go_simp
  try simp only [Act.put, sI, sZ, sS]
  refine wpAnyH_take (i := 7) (oi := { dst := (some 16), op := (Op.load 40 (Operand.tmp 2)), type := 40, pos := "gcas.go:76", after := #[], guard := none }) (v := .int .i64 i) rfl (by kernel_rfl) (by kernel_rfl) (by kernel_rfl) (fun _ _ _ h => h) (Or.inl ⟨by rfl, fun W' hW => ?_⟩) hS ?_
  · go_simp
  try simp only [Act.put, sI, sZ, sS]
  refine wpAnyH_ready (rs := [3]) (by kernel_rfl) (by simp) ?_
  refine AllReadyH.cons (o := { dst := (some 12), op := (Op.call { callee := (Callee.invoke (Operand.tmp 10) "Node"), args := #[(Operand.tmp 11)], argTypes := #[40] }), type := 136, pos := "gcas.go:76", after := #[⟨1, .data⟩, ⟨2, .data⟩], guard := none }) rfl (fun K hK => ?_) AllReadyH.nil
  go_simp
  refine ((R1d.out.node FI.out (by omega) x)).mono ?_
  rintro e w2 ⟨n2, bv2, pv2, rfl, E2, hR, hM, hr, hp⟩
  have R2 := Lib.hid hR; have M2 := Lib.hid hM; have HR2 := Lib.hid hr; have HP2 := Lib.hid hp; clear hR hM hr hp
  have B0' := Lib.hid (B0.out.mv ((Mv.drew (O := O) _ _).trans (M2.out)))
  have B1' := Lib.hid (B1.out.mv ((Mv.drew (O := O) _ _).trans (M2.out)))
  have B2' := Lib.hid (B2.out.mv ((Mv.drew (O := O) _ _).trans (M2.out)))
  have B3' := Lib.hid (B3.out.mv ((Mv.drew (O := O) _ _).trans (M2.out)))
  have B4' := Lib.hid (B4.out.mv ((Mv.drew (O := O) _ _).trans (M2.out)))
  have KR' := Lib.hid (KR.out.mv ((Mv.drew (O := O) _ _).trans (M2.out)))
  clear KR
  have KR := KR'
  clear KR'
  clear B0 B1 B2 B3 B4
  have f2_0 := field_kind n2 bv2 pv2
  have f2_1 := field_gen n2 bv2 pv2
  have f2_2 := field_main n2 bv2 pv2
  have f2_9 := field_prev n2 bv2 pv2
  have f2_10 := field_old n2 bv2 pv2
  have f2_11 := field_expected n2 bv2 pv2
  have f2_12 := field_new n2 bv2 pv2
  have f2_13 := field_status n2 bv2 pv2
  refine hK.out _ _ ⟨(B0'.out).at0 0 _ rfl, (B1'.out).at0 0 _ rfl, trivial⟩ (fun hS => ?_)
  clear hK K
  try simp only [Act.put, sI, sZ, sS]
  refine wpAnyH_take (i := 4) (oi := { dst := (some 13), op := (Op.field 136 (Operand.tmp 12) 1), type := 3, pos := "gcas.go:76", after := #[⟨3, .data⟩], guard := none }) (v := .int .i64 n2.gen) rfl (by kernel_rfl) (by kernel_rfl) (by kernel_rfl) (fun _ _ _ h => h) (Or.inl ⟨by rfl, fun W' hW => ?_⟩) hS ?_
  · go_simp
  try simp only [Act.put, sI, sZ, sS]
  refine wpAnyH_ready (rs := [8]) (by kernel_rfl) (by simp) ?_
  refine AllReadyH.cons (o := { dst := (some 17), op := (Op.call { callee := (Callee.invoke (Operand.tmp 15) "Node"), args := #[(Operand.tmp 16)], argTypes := #[40] }), type := 136, pos := "gcas.go:76", after := #[⟨6, .data⟩, ⟨7, .data⟩, ⟨3, .chain⟩], guard := none }) rfl (fun K hK => ?_) AllReadyH.nil
  go_simp
  refine ((R2.out.node FI.out (by omega) i)).mono ?_
  rintro e w3 ⟨n3, bv3, pv3, rfl, E3, hR, hM, hr, hp⟩
  have R3 := Lib.hid hR; have M3 := Lib.hid hM; have HR3 := Lib.hid hr; have HP3 := Lib.hid hp; clear hR hM hr hp
  have B0'' := Lib.hid (B0'.out.mv (M3.out))
  have B1'' := Lib.hid (B1'.out.mv (M3.out))
  have B2'' := Lib.hid (B2'.out.mv (M3.out))
  have B3'' := Lib.hid (B3'.out.mv (M3.out))
  have B4'' := Lib.hid (B4'.out.mv (M3.out))
  have KR' := Lib.hid (KR.out.mv (M3.out))
  clear KR
  have KR := KR'
  clear KR'
  clear B0' B1' B2' B3' B4'
  have f3_0 := field_kind n3 bv3 pv3
  have f3_1 := field_gen n3 bv3 pv3
  have f3_2 := field_main n3 bv3 pv3
  have f3_9 := field_prev n3 bv3 pv3
  have f3_10 := field_old n3 bv3 pv3
  have f3_11 := field_expected n3 bv3 pv3
  have f3_12 := field_new n3 bv3 pv3
  have f3_13 := field_status n3 bv3 pv3
  refine hK.out _ _ ⟨(B0''.out).at0 0 _ rfl, (B1''.out).at0 0 _ rfl, trivial⟩ (fun hS => ?_)
  clear hK K
  try simp only [Act.put, sI, sZ, sS]
  refine wpAnyH_take (i := 9) (oi := { dst := (some 18), op := (Op.field 136 (Operand.tmp 17) 1), type := 3, pos := "gcas.go:76", after := #[⟨8, .data⟩], guard := none }) (v := .int .i64 n3.gen) rfl (by kernel_rfl) (by kernel_rfl) (by kernel_rfl) (fun _ _ _ h => h) (Or.inl ⟨by rfl, fun W' hW => ?_⟩) hS ?_
  · go_simp
  try simp only [Act.put, sI, sZ, sS]
  refine wpAnyH_take (i := 10) (oi := { dst := (some 19), op := (Op.binOp BinOp.eql 3 (Operand.tmp 13) (Operand.tmp 18) 3), type := 4, pos := "gcas.go:76", after := #[⟨4, .data⟩, ⟨9, .data⟩], guard := none }) (v := .bool (n2.gen == n3.gen)) rfl (by kernel_rfl) (by kernel_rfl) (by kernel_rfl) (fun _ _ _ h => h) (Or.inl ⟨by rfl, fun W' hW => ?_⟩) hS ?_
  · go_simp
  try simp only [Act.put, sI, sZ, sS]
  refine wpAnyH_ready (rs := [11]) (by kernel_rfl) (by simp) ?_
  refine AllReadyH.cons (o := { dst := (some 8), op := (Op.assign (Operand.tmp 19)), type := 4, pos := "gcas.go:76", after := #[⟨10, .data⟩, ⟨8, .chain⟩, ⟨0, .phase⟩, ⟨1, .phase⟩, ⟨2, .phase⟩, ⟨3, .phase⟩, ⟨4, .phase⟩, ⟨5, .phase⟩, ⟨6, .phase⟩, ⟨7, .phase⟩, ⟨8, .phase⟩, ⟨9, .phase⟩, ⟨10, .phase⟩], guard := none }) rfl (fun K hK => ?_) AllReadyH.nil
  go_simp
  refine hK.out _ _ hS (fun hS => ?_)
  clear hK K
  try simp only [Act.put, sI, sZ, sS]
  refine wpAnyH_done (by kernel_rfl) ?_ _
  have c4 := (B0''.out).at0 0 (.iface 23 (.pointer (some ⟨g.a, 0, none⟩))) rfl
  have c5 := (B0''.out).at0 1 (.int .i64 t.root) rfl
  have c6 := (B0''.out).at0 2 (.bool t.readOnly) rfl
  have c7 := (B2''.out).at0 0 (.int .i64 prev) rfl
  have c8 := (B3''.out).at0 0 (.int .i64 p) rfl
  have c9 := (B4''.out).at0 0 (.func (.func fn) ff fc) rfl
  go_wp2_with fail
  refine ((decide_any (g.plus w.heap.size) _ _ t prev p (n2.gen == n3.gen) ag _ _ _ R3.out.arena (FI.out.less (by omega)) (KR.out))).mono ?_
  rintro e w10 hc
  obtain ⟨cs, h10, rfl, hC, hMC⟩ := R3.out.code2 hc
  have C := Lib.hid hC; have MC := Lib.hid hMC
  clear hc hC hMC
  go_wp2_with (refine wpList_store_row rfl 115 (.tmp 7) (.tmp 25) rfl w.heap.size cs.toArray rfl rfl 115 zeroCode C.out.res C.out.info C.out.len.symm C.out.one ?_)
  refine bodyPost_ret (v := .agg cs.toArray) (results_cell_row Tryz.results186 _ _ w.heap.size 115 _ (0, 0) _ rfl (setRow_heap _ w.heap.size _ _ _ _ C.out.res) Tryz.underlying115 rfl C.out.info) rfl ?_
  refine RetCode.eq ?_ C.out.ret
  simp only [Ct.apply, Ct.stOps, E2.out, E3.out]
theorem clo_sroot (t : Ct.Trie) (i : Int) (prev : Int) (p : Int) (ag : Ct.K) (ih : CallBool ag) : CallRef (.sroot t i prev p ag) := by
  intro O g w s n ff caps x h hfine hk
  obtain ⟨b0, b1, b2, b3, b4, e, k0, k1, k2, k3, ⟨u, k4, kr⟩⟩ := hk
  injection e with e1 e2 e3
  injection e1 with e1
  subst e1 e2 e3
  obtain ⟨fn, ff, fc, rfl⟩ := kr.func
  exact clo_sroot_w t i prev p ag g w s x b0 b1 b2 b3 b4 fn ff fc h (hfine.less (by simp only [Ct.K.rank]; omega)) k0 k1 k2 k3 k4 kr ih
set_option maxRecDepth 100000 in
set_option maxHeartbeats 400000 in
theorem clo_settle1A_w (t : Ct.Trie) (i : Int) (m : Int) (prev : Int) (th : Ct.K) (g : Ghost) (w : World) (s : Ct.St) (x : Int) (b0 b1 b2 b3 b4 : Nat) (fn : FuncId) (ff fc : Array Value) (h : ArenaO O g w s) (hfin : Fin (1000 + 1000 * th.rank) s) (k0 : Blk g.N w b0 #[.func (.func fn) ff fc] 112) (kr : KRep g.sv g.N O w (.func (.func fn) ff fc) th) (k1 : Blk g.N w b1 #[.int .i64 m] 40) (k2 : Blk g.N w b2 (opCells g.sv t) 181) (k3 : Blk g.N w b3 #[.int .i64 i] 40) (k4 : Blk g.N w b4 #[.int .i64 prev] 41) (ih : CallRef th) (q : (x == 0) = true) :
    Calls Tryz.prog 179 #[.int .i64 x, ptr b0, ptr b1, ptr b2, ptr b3, ptr b4] w (RetCode O g w (Ct.apply Ct.stOps (.settle1 t i m prev th) x s)) := by
  have hNW := (((News.nil w).alloc (.cells #[.int .i64 x] 40)).alloc (.cells zeroCode 115))
  obtain ⟨W0, hW0⟩ : ∃ W, ((w.alloc (.cells #[.int .i64 x] 40)).alloc (.cells zeroCode 115)) = W := ⟨_, rfl⟩
  rw [hW0] at hNW
  have z := hNW.size
  simp at z
  have hR0 := Run.start h hNW (b := w.heap.size + 1) 1 rfl rfl
  have hM0 : Mv O g w (g.plus (w.heap.size + 1)) W0 := Mv.plus hNW.below (by omega)
  have c1 := (k0).at2 0 (.func (.func fn) ff fc) rfl
  have c2 := (k1).at2 0 (.int .i64 m) rfl
  have B5 := Lib.hid (blk_plus h.toArenaAt (b := w.heap.size) (c := w.heap.size + 1) (by omega) (by omega) (hNW.at_ 0 _ rfl))
  have B0 := Lib.hid (k0.mv hM0)
  have B1 := Lib.hid (k1.mv hM0)
  have B2 := Lib.hid (k2.mv hM0)
  have B3 := Lib.hid (k3.mv hM0)
  have B4 := Lib.hid (k4.mv hM0)
  have KR := Lib.hid (kr.mv hM0)
  have hent := kr.enters
  unfold Ent at hent
  have R0 := Lib.hid hR0
  have M0 := Lib.hid hM0
  have HW := Lib.hid hW0
  have HZ := Lib.hid z
  have H := Lib.hid h
  have FI := Lib.hid hfin
  have hmf := hmfG
  have hmNode := meth_Node; have hnNode := nil_Node
  clear h hNW hW0 z hR0 hM0 hfin k0 k1 k2 k3 k4 kr
  unfold ptr
  go_enter Tryz.func179, Tryz.ntmps179
  go_wp2_with fail
  refine (with_world HW.out (ih _ _ _ _ _ _ m R0.out.arena (FI.out.less (by omega)) (KR.out))).mono ?_
  rintro e w3 hc
  obtain ⟨cs, h3, rfl, hC, hMC⟩ := R0.out.code2 hc
  have C := Lib.hid hC; have MC := Lib.hid hMC
  clear hc hC hMC
  go_wp2_with (refine wpList_store_row rfl 115 (.tmp 7) (.tmp 13) rfl (w.heap.size + 1) cs.toArray rfl rfl 115 zeroCode C.out.res C.out.info C.out.len.symm C.out.one ?_)
  refine bodyPost_ret (v := .agg cs.toArray) (results_cell_row Tryz.results179 _ _ (w.heap.size + 1) 115 _ (0, 0) _ rfl (setRow_heap _ (w.heap.size + 1) _ _ _ _ C.out.res) Tryz.underlying115 rfl C.out.info) rfl ?_
  refine RetCode.eq ?_ C.out.ret
  simp only [Ct.apply]; rw [if_pos (by simpa using q)]
set_option maxRecDepth 100000 in
set_option maxHeartbeats 400000 in
theorem clo_settle1B_w (t : Ct.Trie) (i : Int) (m : Int) (prev : Int) (th : Ct.K) (g : Ghost) (w : World) (s : Ct.St) (x : Int) (b0 b1 b2 b3 b4 : Nat) (fn : FuncId) (ff fc : Array Value) (h : ArenaO O g w s) (hfin : Fin (1000 + 1000 * th.rank) s) (k0 : Blk g.N w b0 #[.func (.func fn) ff fc] 112) (kr : KRep g.sv g.N O w (.func (.func fn) ff fc) th) (k1 : Blk g.N w b1 #[.int .i64 m] 40) (k2 : Blk g.N w b2 (opCells g.sv t) 181) (k3 : Blk g.N w b3 #[.int .i64 i] 40) (k4 : Blk g.N w b4 #[.int .i64 prev] 41) (ih : CallRef th) (q : (x == 0) = false) (hm : (s.node x).isMain = false) :
    Calls Tryz.prog 179 #[.int .i64 x, ptr b0, ptr b1, ptr b2, ptr b3, ptr b4] w (RetCode O g w (Ct.apply Ct.stOps (.settle1 t i m prev th) x s)) := by
  have hNW := (((News.nil w).alloc (.cells #[.int .i64 x] 40)).alloc (.cells zeroCode 115))
  obtain ⟨W0, hW0⟩ : ∃ W, ((w.alloc (.cells #[.int .i64 x] 40)).alloc (.cells zeroCode 115)) = W := ⟨_, rfl⟩
  rw [hW0] at hNW
  have z := hNW.size
  simp at z
  have hR0 := Run.start h hNW (b := w.heap.size + 1) 1 rfl rfl
  have hM0 : Mv O g w (g.plus (w.heap.size + 1)) W0 := Mv.plus hNW.below (by omega)
  have c1 := (k2).at2 0 (.iface 23 (.pointer (some ⟨g.a, 0, none⟩))) rfl
  have B5 := Lib.hid (blk_plus h.toArenaAt (b := w.heap.size) (c := w.heap.size + 1) (by omega) (by omega) (hNW.at_ 0 _ rfl))
  have B0 := Lib.hid (k0.mv hM0)
  have B1 := Lib.hid (k1.mv hM0)
  have B2 := Lib.hid (k2.mv hM0)
  have B3 := Lib.hid (k3.mv hM0)
  have B4 := Lib.hid (k4.mv hM0)
  have KR := Lib.hid (kr.mv hM0)
  have hent := kr.enters
  unfold Ent at hent
  have R0 := Lib.hid hR0
  have M0 := Lib.hid hM0
  have HW := Lib.hid hW0
  have HZ := Lib.hid z
  have H := Lib.hid h
  have FI := Lib.hid hfin
  have hmf := hmfG
  have hmNode := meth_Node; have hnNode := nil_Node
  clear h hNW hW0 z hR0 hM0 hfin k0 k1 k2 k3 k4 kr
  unfold ptr
  go_enter Tryz.func179, Tryz.ntmps179
  go_wp2_with fail
  refine (with_world HW.out (R0.out.node FI.out (by omega) x)).mono ?_
  rintro e w2 ⟨n2, bv2, pv2, rfl, E2, hR, hM, hr, hp⟩
  have R2 := Lib.hid hR; have M2 := Lib.hid hM; have HR2 := Lib.hid hr; have HP2 := Lib.hid hp; clear hR hM hr hp
  have B0' := Lib.hid (B0.out.mv (M2.out))
  have B1' := Lib.hid (B1.out.mv (M2.out))
  have B2' := Lib.hid (B2.out.mv (M2.out))
  have B3' := Lib.hid (B3.out.mv (M2.out))
  have B4' := Lib.hid (B4.out.mv (M2.out))
  have B5' := Lib.hid (B5.out.mv (M2.out))
  have KR' := Lib.hid (KR.out.mv (M2.out))
  clear KR
  have KR := KR'
  clear KR'
  clear B0 B1 B2 B3 B4 B5
  clear c1
  have q1 : n2.isMain = false := by rw [← E2.out]; exact hm
  go_wp2_with fail
  refine ((main_any n2 bv2 pv2 _)).mono ?_
  rintro e w3 ⟨rfl, hb⟩
  have R3 := Lib.hid (R2.out.below hb); have M3 : Hid (Mv O (g.plus (w.heap.size + 1)) _ (g.plus (w.heap.size + 1)) w3) := Mv.below hb; clear hb
  have B0'' := Lib.hid (B0'.out.mv (M3.out))
  have B1'' := Lib.hid (B1'.out.mv (M3.out))
  have B2'' := Lib.hid (B2'.out.mv (M3.out))
  have B3'' := Lib.hid (B3'.out.mv (M3.out))
  have B4'' := Lib.hid (B4'.out.mv (M3.out))
  have B5'' := Lib.hid (B5'.out.mv (M3.out))
  have KR' := Lib.hid (KR.out.mv (M3.out))
  clear KR
  have KR := KR'
  clear KR'
  clear B0' B1' B2' B3' B4' B5'
  have c4 := (B0''.out).at0 0 (.func (.func fn) ff fc) rfl
  have c5 := (B1''.out).at0 0 (.int .i64 m) rfl
  have c6 := (B2''.out).at0 0 (.iface 23 (.pointer (some ⟨g.a, 0, none⟩))) rfl
  have c7 := (B2''.out).at0 1 (.int .i64 t.root) rfl
  have c8 := (B2''.out).at0 2 (.bool t.readOnly) rfl
  have c9 := (B3''.out).at0 0 (.int .i64 i) rfl
  have c10 := (B5''.out).at0 0 (.int .i64 x) rfl
  go_wp2_with fail
  refine ((back_any (g.plus (w.heap.size + 1)) _ _ t i m x th _ _ _ R3.out.arena (FI.out.less (by omega)) (KR.out))).mono ?_
  rintro e w11 hc
  obtain ⟨cs, h11, rfl, hC, hMC⟩ := R3.out.code2 hc
  have C := Lib.hid hC; have MC := Lib.hid hMC
  clear hc hC hMC
  go_wp2_with (refine wpList_store_row rfl 115 (.tmp 7) (.tmp 25) rfl (w.heap.size + 1) cs.toArray rfl rfl 115 zeroCode C.out.res C.out.info C.out.len.symm C.out.one ?_)
  refine bodyPost_ret (v := .agg cs.toArray) (results_cell_row Tryz.results179 _ _ (w.heap.size + 1) 115 _ (0, 0) _ rfl (setRow_heap _ (w.heap.size + 1) _ _ _ _ C.out.res) Tryz.underlying115 rfl C.out.info) rfl ?_
  refine RetCode.eq ?_ C.out.ret
  simp only [Ct.apply]; rw [if_neg (by simpa using q), if_pos (show (Ct.stOps.node x s).isMain = false from hm)]
set_option maxRecDepth 100000 in
set_option maxHeartbeats 800000 in
theorem clo_settle1C_w (rt : Int) (i : Int) (m : Int) (prev : Int) (th : Ct.K) (g : Ghost) (w : World) (s : Ct.St) (x : Int) (b0 b1 b2 b3 b4 : Nat) (fn : FuncId) (ff fc : Array Value) (h : ArenaO O g w s) (hfin : Fin (1000 + 1000 * th.rank) s) (k0 : Blk g.N w b0 #[.func (.func fn) ff fc] 112) (kr : KRep g.sv g.N O w (.func (.func fn) ff fc) th) (k1 : Blk g.N w b1 #[.int .i64 m] 40) (k2 : Blk g.N w b2 (opCells g.sv ({ root := rt, readOnly := true } : Ct.Trie)) 181) (k3 : Blk g.N w b3 #[.int .i64 i] 40) (k4 : Blk g.N w b4 #[.int .i64 prev] 41) (ih : CallRef th) (q : (x == 0) = false) (hm : (s.node x).isMain = true) :
    Calls Tryz.prog 179 #[.int .i64 x, ptr b0, ptr b1, ptr b2, ptr b3, ptr b4] w (RetCode O g w (Ct.apply Ct.stOps (.settle1 ({ root := rt, readOnly := true } : Ct.Trie) i m prev th) x s)) := by
  have hNW := (((News.nil w).alloc (.cells #[.int .i64 x] 40)).alloc (.cells zeroCode 115))
  obtain ⟨W0, hW0⟩ : ∃ W, ((w.alloc (.cells #[.int .i64 x] 40)).alloc (.cells zeroCode 115)) = W := ⟨_, rfl⟩
  rw [hW0] at hNW
  have z := hNW.size
  simp at z
  have hR0 := Run.start h hNW (b := w.heap.size + 1) 1 rfl rfl
  have hM0 : Mv O g w (g.plus (w.heap.size + 1)) W0 := Mv.plus hNW.below (by omega)
  have c1 := (k2).at2 0 (.iface 23 (.pointer (some ⟨g.a, 0, none⟩))) rfl
  have B5 := Lib.hid (blk_plus h.toArenaAt (b := w.heap.size) (c := w.heap.size + 1) (by omega) (by omega) (hNW.at_ 0 _ rfl))
  have B0 := Lib.hid (k0.mv hM0)
  have B1 := Lib.hid (k1.mv hM0)
  have B2 := Lib.hid (k2.mv hM0)
  have B3 := Lib.hid (k3.mv hM0)
  have B4 := Lib.hid (k4.mv hM0)
  have KR := Lib.hid (kr.mv hM0)
  have hent := kr.enters
  unfold Ent at hent
  have R0 := Lib.hid hR0
  have M0 := Lib.hid hM0
  have HW := Lib.hid hW0
  have HZ := Lib.hid z
  have H := Lib.hid h
  have FI := Lib.hid hfin
  have hmf := hmfG
  have hmNode := meth_Node; have hnNode := nil_Node
  clear h hNW hW0 z hR0 hM0 hfin k0 k1 k2 k3 k4 kr
  unfold ptr
  go_enter Tryz.func179, Tryz.ntmps179
  go_wp2_with fail
  refine (with_world HW.out (R0.out.node FI.out (by omega) x)).mono ?_
  rintro e w2 ⟨n2, bv2, pv2, rfl, E2, hR, hM, hr, hp⟩
  have R2 := Lib.hid hR; have M2 := Lib.hid hM; have HR2 := Lib.hid hr; have HP2 := Lib.hid hp; clear hR hM hr hp
  have B0' := Lib.hid (B0.out.mv (M2.out))
  have B1' := Lib.hid (B1.out.mv (M2.out))
  have B2' := Lib.hid (B2.out.mv (M2.out))
  have B3' := Lib.hid (B3.out.mv (M2.out))
  have B4' := Lib.hid (B4.out.mv (M2.out))
  have B5' := Lib.hid (B5.out.mv (M2.out))
  have KR' := Lib.hid (KR.out.mv (M2.out))
  clear KR
  have KR := KR'
  clear KR'
  clear B0 B1 B2 B3 B4 B5
  clear c1
  have q1 : n2.isMain = true := by rw [← E2.out]; exact hm
  go_wp2_with fail
  refine ((main_any n2 bv2 pv2 _)).mono ?_
  rintro e w3 ⟨rfl, hb⟩
  have R3 := Lib.hid (R2.out.below hb); have M3 : Hid (Mv O (g.plus (w.heap.size + 1)) _ (g.plus (w.heap.size + 1)) w3) := Mv.below hb; clear hb
  have B0'' := Lib.hid (B0'.out.mv (M3.out))
  have B1'' := Lib.hid (B1'.out.mv (M3.out))
  have B2'' := Lib.hid (B2'.out.mv (M3.out))
  have B3'' := Lib.hid (B3'.out.mv (M3.out))
  have B4'' := Lib.hid (B4'.out.mv (M3.out))
  have B5'' := Lib.hid (B5'.out.mv (M3.out))
  have KR' := Lib.hid (KR.out.mv (M3.out))
  clear KR
  have KR := KR'
  clear KR'
  clear B0' B1' B2' B3' B4' B5'
  have c4 := (B2''.out).at1 0 (.iface 23 (.pointer (some ⟨g.a, 0, none⟩))) rfl
  have c5 := (B2''.out).at1 1 (.int .i64 ({ root := rt, readOnly := true } : Ct.Trie).root) rfl
  have c6 := (B2''.out).at1 2 (.bool ({ root := rt, readOnly := true } : Ct.Trie).readOnly) rfl
  have c7 := (B4''.out).at1 0 (.int .i64 prev) rfl
  have c8 := (B5''.out).at1 0 (.int .i64 x) rfl
  have hsf := store_func
  go_wp2_with fail
  refine ((decide_any (g.plus (w.heap.size + 1)) _ _ ({ root := rt, readOnly := true } : Ct.Trie) prev x false ((.again1 ({ root := rt, readOnly := true } : Ct.Trie) i m prev th)) _ _ _ (R3.out.alloc _).arena (FI.out.less (by omega)) (⟨_, _, _, _, _, rfl, (B4''.out).mv (Mv.alloc (O := O) _ _ _), ⟨_, (B0''.out).mv (Mv.alloc (O := O) _ _ _), (KR.out).mv (Mv.alloc (O := O) _ _ _)⟩, (B1''.out).mv (Mv.alloc (O := O) _ _ _), (B2''.out).mv (Mv.alloc (O := O) _ _ _), (B3''.out).mv (Mv.alloc (O := O) _ _ _)⟩))).mono ?_
  rintro e w9 hc
  obtain ⟨cs, h9, rfl, hC, hMC⟩ := (R3.out.alloc _).code2 hc
  have C := Lib.hid hC; have MC := Lib.hid hMC
  clear hc hC hMC
  go_wp2_with (refine wpList_store_row rfl 115 (.tmp 7) (.tmp 34) rfl (w.heap.size + 1) cs.toArray rfl rfl 115 zeroCode C.out.res C.out.info C.out.len.symm C.out.one ?_)
  refine bodyPost_ret (v := .agg cs.toArray) (results_cell_row Tryz.results179 _ _ (w.heap.size + 1) 115 _ (0, 0) _ rfl (setRow_heap _ (w.heap.size + 1) _ _ _ _ C.out.res) Tryz.underlying115 rfl C.out.info) rfl ?_
  refine RetCode.eq ?_ C.out.ret
  simp only [Ct.apply]; rw [if_neg (by simpa using q), if_neg (by rw [show Ct.stOps.node x s = s.node x from rfl, hm]; simp), if_pos trivial]
set_option maxRecDepth 100000 in
set_option maxHeartbeats 800000 in
theorem clo_settle1D_w (rt : Int) (i : Int) (m : Int) (prev : Int) (th : Ct.K) (g : Ghost) (w : World) (s : Ct.St) (x : Int) (b0 b1 b2 b3 b4 : Nat) (fn : FuncId) (ff fc : Array Value) (h : ArenaO O g w s) (hfin : Fin (1000 + 1000 * th.rank) s) (k0 : Blk g.N w b0 #[.func (.func fn) ff fc] 112) (kr : KRep g.sv g.N O w (.func (.func fn) ff fc) th) (k1 : Blk g.N w b1 #[.int .i64 m] 40) (k2 : Blk g.N w b2 (opCells g.sv ({ root := rt, readOnly := false } : Ct.Trie)) 181) (k3 : Blk g.N w b3 #[.int .i64 i] 40) (k4 : Blk g.N w b4 #[.int .i64 prev] 41) (ih : CallRef th) (q : (x == 0) = false) (hm : (s.node x).isMain = true) :
    Calls Tryz.prog 179 #[.int .i64 x, ptr b0, ptr b1, ptr b2, ptr b3, ptr b4] w (RetCode O g w (Ct.apply Ct.stOps (.settle1 ({ root := rt, readOnly := false } : Ct.Trie) i m prev th) x s)) := by
  have hNW := (((News.nil w).alloc (.cells #[.int .i64 x] 40)).alloc (.cells zeroCode 115))
  obtain ⟨W0, hW0⟩ : ∃ W, ((w.alloc (.cells #[.int .i64 x] 40)).alloc (.cells zeroCode 115)) = W := ⟨_, rfl⟩
  rw [hW0] at hNW
  have z := hNW.size
  simp at z
  have hR0 := Run.start h hNW (b := w.heap.size + 1) 1 rfl rfl
  have hM0 : Mv O g w (g.plus (w.heap.size + 1)) W0 := Mv.plus hNW.below (by omega)
  have c1 := (k2).at2 0 (.iface 23 (.pointer (some ⟨g.a, 0, none⟩))) rfl
  have B5 := Lib.hid (blk_plus h.toArenaAt (b := w.heap.size) (c := w.heap.size + 1) (by omega) (by omega) (hNW.at_ 0 _ rfl))
  have B0 := Lib.hid (k0.mv hM0)
  have B1 := Lib.hid (k1.mv hM0)
  have B2 := Lib.hid (k2.mv hM0)
  have B3 := Lib.hid (k3.mv hM0)
  have B4 := Lib.hid (k4.mv hM0)
  have KR := Lib.hid (kr.mv hM0)
  have hent := kr.enters
  unfold Ent at hent
  have R0 := Lib.hid hR0
  have M0 := Lib.hid hM0
  have HW := Lib.hid hW0
  have HZ := Lib.hid z
  have H := Lib.hid h
  have FI := Lib.hid hfin
  have hmf := hmfG
  have hmNode := meth_Node; have hnNode := nil_Node
  clear h hNW hW0 z hR0 hM0 hfin k0 k1 k2 k3 k4 kr
  unfold ptr
  go_enter Tryz.func179, Tryz.ntmps179
  go_wp2_with fail
  refine (with_world HW.out (R0.out.node FI.out (by omega) x)).mono ?_
  rintro e w2 ⟨n2, bv2, pv2, rfl, E2, hR, hM, hr, hp⟩
  have R2 := Lib.hid hR; have M2 := Lib.hid hM; have HR2 := Lib.hid hr; have HP2 := Lib.hid hp; clear hR hM hr hp
  have B0' := Lib.hid (B0.out.mv (M2.out))
  have B1' := Lib.hid (B1.out.mv (M2.out))
  have B2' := Lib.hid (B2.out.mv (M2.out))
  have B3' := Lib.hid (B3.out.mv (M2.out))
  have B4' := Lib.hid (B4.out.mv (M2.out))
  have B5' := Lib.hid (B5.out.mv (M2.out))
  have KR' := Lib.hid (KR.out.mv (M2.out))
  clear KR
  have KR := KR'
  clear KR'
  clear B0 B1 B2 B3 B4 B5
  clear c1
  have q1 : n2.isMain = true := by rw [← E2.out]; exact hm
  go_wp2_with fail
  refine ((main_any n2 bv2 pv2 _)).mono ?_
  rintro e w3 ⟨rfl, hb⟩
  have R3 := Lib.hid (R2.out.below hb); have M3 : Hid (Mv O (g.plus (w.heap.size + 1)) _ (g.plus (w.heap.size + 1)) w3) := Mv.below hb; clear hb
  have B0'' := Lib.hid (B0'.out.mv (M3.out))
  have B1'' := Lib.hid (B1'.out.mv (M3.out))
  have B2'' := Lib.hid (B2'.out.mv (M3.out))
  have B3'' := Lib.hid (B3'.out.mv (M3.out))
  have B4'' := Lib.hid (B4'.out.mv (M3.out))
  have B5'' := Lib.hid (B5'.out.mv (M3.out))
  have KR' := Lib.hid (KR.out.mv (M3.out))
  clear KR
  have KR := KR'
  clear KR'
  clear B0' B1' B2' B3' B4' B5'
  have c4 := (B2''.out).at1 0 (.iface 23 (.pointer (some ⟨g.a, 0, none⟩))) rfl
  have c5 := (B2''.out).at1 1 (.int .i64 ({ root := rt, readOnly := false } : Ct.Trie).root) rfl
  have c6 := (B2''.out).at1 2 (.bool ({ root := rt, readOnly := false } : Ct.Trie).readOnly) rfl
  have hsf := store_func
  go_wp2_with fail
  refine ((root_any (g.plus (w.heap.size + 1)) _ _ ({ root := rt, readOnly := false } : Ct.Trie)  ((.sroot ({ root := rt, readOnly := false } : Ct.Trie) i prev x ((.again1 ({ root := rt, readOnly := false } : Ct.Trie) i m prev th)))) _ (R3.out.alloc _).arena (⟨_, _, _, _, _, rfl, (B2''.out).mv (Mv.alloc (O := O) _ _ _), (B3''.out).mv (Mv.alloc (O := O) _ _ _), (B4''.out).mv (Mv.alloc (O := O) _ _ _), (B5''.out).mv (Mv.alloc (O := O) _ _ _), ⟨_, (R3.out).blk _ _, ⟨_, _, _, _, _, rfl, (B4''.out).mv (Mv.alloc (O := O) _ _ _), ⟨_, (B0''.out).mv (Mv.alloc (O := O) _ _ _), (KR.out).mv (Mv.alloc (O := O) _ _ _)⟩, (B1''.out).mv (Mv.alloc (O := O) _ _ _), (B2''.out).mv (Mv.alloc (O := O) _ _ _), (B3''.out).mv (Mv.alloc (O := O) _ _ _)⟩⟩⟩))).mono ?_
  rintro e w7 hc
  obtain ⟨cs, h7, rfl, hC, hMC⟩ := (R3.out.alloc _).code2 hc
  have C := Lib.hid hC; have MC := Lib.hid hMC
  clear hc hC hMC
  go_wp2_with (refine wpList_store_row rfl 115 (.tmp 7) (.tmp 37) rfl (w.heap.size + 1) cs.toArray rfl rfl 115 zeroCode C.out.res C.out.info C.out.len.symm C.out.one ?_)
  refine bodyPost_ret (v := .agg cs.toArray) (results_cell_row Tryz.results179 _ _ (w.heap.size + 1) 115 _ (0, 0) _ rfl (setRow_heap _ (w.heap.size + 1) _ _ _ _ C.out.res) Tryz.underlying115 rfl C.out.info) rfl ?_
  refine RetCode.eq ?_ C.out.ret
  simp only [Ct.apply]; rw [if_neg (by simpa using q), if_neg (by rw [show Ct.stOps.node x s = s.node x from rfl, hm]; simp), if_neg (by simp)]
theorem clo_settle1 (t : Ct.Trie) (i : Int) (m : Int) (prev : Int) (th : Ct.K) (ih : CallRef th) : CallRef (.settle1 t i m prev th) := by
  intro O g w s n ff caps x h hfine hk
  obtain ⟨b0, b1, b2, b3, b4, e, ⟨u, k0, kr⟩, k1, k2, k3, k4⟩ := hk
  injection e with e1 e2 e3
  injection e1 with e1
  subst e1 e2 e3
  obtain ⟨fn, ff, fc, rfl⟩ := kr.func
  have hfin := hfine.less (m := 1000 + 1000 * th.rank) (by simp only [Ct.K.rank]; omega)
  by_cases hx : x = 0
  · exact clo_settle1A_w t i m prev th g w s x b0 b1 b2 b3 b4 fn ff fc h hfin k0 kr k1 k2 k3 k4 ih (by simp [hx])
  by_cases hm : (s.node x).isMain = false
  · exact clo_settle1B_w t i m prev th g w s x b0 b1 b2 b3 b4 fn ff fc h hfin k0 kr k1 k2 k3 k4 ih (by simpa using hx) hm
  have hm' : (s.node x).isMain = true := by simpa using hm
  obtain ⟨rt, ro⟩ := t
  cases ro
  · exact clo_settle1D_w rt i m prev th g w s x b0 b1 b2 b3 b4 fn ff fc h hfin k0 kr k1 k2 k3 k4 ih (by simpa using hx) hm'
  · exact clo_settle1C_w rt i m prev th g w s x b0 b1 b2 b3 b4 fn ff fc h hfin k0 kr k1 k2 k3 k4 ih (by simpa using hx) hm'
set_option maxRecDepth 100000 in
set_option maxHeartbeats 400000 in
theorem clo_again2A_w (t : Ct.Trie) (i : Int) (m : Int) (th : Ct.K) (g : Ghost) (w : World) (s : Ct.St) (x : Int) (b0 b1 b2 b3 : Nat) (fn : FuncId) (ff fc : Array Value) (h : ArenaO O g w s) (hfin : Fin (1000 + 1000 * th.rank) s) (k0 : Blk g.N w b0 #[.func (.func fn) ff fc] 112) (kr : KRep g.sv g.N O w (.func (.func fn) ff fc) th) (k1 : Blk g.N w b1 #[.int .i64 m] 40) (k2 : Blk g.N w b2 (opCells g.sv t) 181) (k3 : Blk g.N w b3 #[.int .i64 i] 40) (ih : CallRef th) (q : (x == 0) = true) :
    Calls Tryz.prog 183 #[.int .i64 x, ptr b0, ptr b1, ptr b2, ptr b3] w (RetCode O g w (Ct.apply Ct.stOps (.again2 t i m th) x s)) := by
  have hNW := (News.nil w).alloc (.cells zeroCode 115)
  obtain ⟨W0, hW0⟩ : ∃ W, (w.alloc (.cells zeroCode 115)) = W := ⟨_, rfl⟩
  rw [hW0] at hNW
  have z := hNW.size
  simp at z
  have hR0 := Run.start h hNW (b := w.heap.size) 0 rfl rfl
  have hM0 : Mv O g w (g.plus w.heap.size) W0 := Mv.plus hNW.below (by omega)
  have c1 := (k0).at1 0 (.func (.func fn) ff fc) rfl
  have c2 := (k1).at1 0 (.int .i64 m) rfl
  have B0 := Lib.hid (k0.mv hM0)
  have B1 := Lib.hid (k1.mv hM0)
  have B2 := Lib.hid (k2.mv hM0)
  have B3 := Lib.hid (k3.mv hM0)
  have KR := Lib.hid (kr.mv hM0)
  have hent := kr.enters
  unfold Ent at hent
  have R0 := Lib.hid hR0
  have M0 := Lib.hid hM0
  have HW := Lib.hid hW0
  have HZ := Lib.hid z
  have H := Lib.hid h
  have FI := Lib.hid hfin
  have hmf := hmfG
  clear h hNW hW0 z hR0 hM0 hfin k0 k1 k2 k3 kr
  unfold ptr
  go_enter Tryz.func183, Tryz.ntmps183
  go_wp2_with fail
  refine (with_world HW.out (ih _ _ _ _ _ _ m R0.out.arena (FI.out.less (by omega)) (KR.out))).mono ?_
  rintro e w3 hc
  obtain ⟨cs, h3, rfl, hC, hMC⟩ := R0.out.code2 hc
  have C := Lib.hid hC; have MC := Lib.hid hMC
  clear hc hC hMC
  go_wp2_with (refine wpList_store_row rfl 115 (.tmp 6) (.tmp 11) rfl w.heap.size cs.toArray rfl rfl 115 zeroCode C.out.res C.out.info C.out.len.symm C.out.one ?_)
  refine bodyPost_ret (v := .agg cs.toArray) (results_cell_row Tryz.results183 _ _ w.heap.size 115 _ (0, 0) _ rfl (setRow_heap _ w.heap.size _ _ _ _ C.out.res) Tryz.underlying115 rfl C.out.info) rfl ?_
  refine RetCode.eq ?_ C.out.ret
  simp only [Ct.apply]; rw [if_pos (by simpa using q)]
set_option maxRecDepth 100000 in
set_option maxHeartbeats 400000 in
theorem clo_again2B_w (t : Ct.Trie) (i : Int) (m : Int) (th : Ct.K) (g : Ghost) (w : World) (s : Ct.St) (x : Int) (b0 b1 b2 b3 : Nat) (fn : FuncId) (ff fc : Array Value) (h : ArenaO O g w s) (hfin : Fin (1000 + 1000 * th.rank) s) (k0 : Blk g.N w b0 #[.func (.func fn) ff fc] 112) (kr : KRep g.sv g.N O w (.func (.func fn) ff fc) th) (k1 : Blk g.N w b1 #[.int .i64 m] 40) (k2 : Blk g.N w b2 (opCells g.sv t) 181) (k3 : Blk g.N w b3 #[.int .i64 i] 40) (ih : CallRef th) (q : (x == 0) = false) :
    Calls Tryz.prog 183 #[.int .i64 x, ptr b0, ptr b1, ptr b2, ptr b3] w (RetCode O g w (Ct.apply Ct.stOps (.again2 t i m th) x s)) := by
  have hNW := (News.nil w).alloc (.cells zeroCode 115)
  obtain ⟨W0, hW0⟩ : ∃ W, (w.alloc (.cells zeroCode 115)) = W := ⟨_, rfl⟩
  rw [hW0] at hNW
  have z := hNW.size
  simp at z
  have hR0 := Run.start h hNW (b := w.heap.size) 0 rfl rfl
  have hM0 : Mv O g w (g.plus w.heap.size) W0 := Mv.plus hNW.below (by omega)
  have c1 := (k0).at1 0 (.func (.func fn) ff fc) rfl
  have c2 := (k1).at1 0 (.int .i64 m) rfl
  have c3 := (k2).at1 0 (.iface 23 (.pointer (some ⟨g.a, 0, none⟩))) rfl
  have c4 := (k2).at1 1 (.int .i64 t.root) rfl
  have c5 := (k2).at1 2 (.bool t.readOnly) rfl
  have c6 := (k3).at1 0 (.int .i64 i) rfl
  have B0 := Lib.hid (k0.mv hM0)
  have B1 := Lib.hid (k1.mv hM0)
  have B2 := Lib.hid (k2.mv hM0)
  have B3 := Lib.hid (k3.mv hM0)
  have KR := Lib.hid (kr.mv hM0)
  have hent := kr.enters
  unfold Ent at hent
  have R0 := Lib.hid hR0
  have M0 := Lib.hid hM0
  have HW := Lib.hid hW0
  have HZ := Lib.hid z
  have H := Lib.hid h
  have FI := Lib.hid hfin
  have hmf := hmfG
  clear h hNW hW0 z hR0 hM0 hfin k0 k1 k2 k3 kr
  unfold ptr
  go_enter Tryz.func183, Tryz.ntmps183
  go_wp2_with fail
  refine (with_world HW.out (back_any (g.plus w.heap.size) _ _ t i m x th _ _ _ R0.out.arena (FI.out.less (by omega)) (KR.out))).mono ?_
  rintro e w7 hc
  obtain ⟨cs, h7, rfl, hC, hMC⟩ := R0.out.code2 hc
  have C := Lib.hid hC; have MC := Lib.hid hMC
  clear hc hC hMC
  go_wp2_with (refine wpList_store_row rfl 115 (.tmp 6) (.tmp 17) rfl w.heap.size cs.toArray rfl rfl 115 zeroCode C.out.res C.out.info C.out.len.symm C.out.one ?_)
  refine bodyPost_ret (v := .agg cs.toArray) (results_cell_row Tryz.results183 _ _ w.heap.size 115 _ (0, 0) _ rfl (setRow_heap _ w.heap.size _ _ _ _ C.out.res) Tryz.underlying115 rfl C.out.info) rfl ?_
  refine RetCode.eq ?_ C.out.ret
  simp only [Ct.apply]; rw [if_neg (by simpa using q)]
theorem clo_again2 (t : Ct.Trie) (i : Int) (m : Int) (th : Ct.K) (ih : CallRef th) : CallRef (.again2 t i m th) := by
  intro O g w s n ff caps x h hfine hk
  obtain ⟨b0, b1, b2, b3, e, ⟨u, k0, kr⟩, k1, k2, k3⟩ := hk
  injection e with e1 e2 e3
  injection e1 with e1
  subst e1 e2 e3
  obtain ⟨fn, ff, fc, rfl⟩ := kr.func
  have hfin := hfine.less (m := 1000 + 1000 * th.rank) (by simp only [Ct.K.rank]; omega)
  by_cases hx : x = 0
  · exact clo_again2A_w t i m th g w s x b0 b1 b2 b3 fn ff fc h hfin k0 kr k1 k2 k3 ih (by simp [hx])
  · exact clo_again2B_w t i m th g w s x b0 b1 b2 b3 fn ff fc h hfin k0 kr k1 k2 k3 ih (by simpa using hx)
set_option maxRecDepth 100000 in
set_option maxHeartbeats 400000 in
theorem clo_root1A_w (t : Ct.Trie) (th : Ct.K) (g : Ghost) (w : World) (s : Ct.St) (x : Int) (b0 b1 : Nat) (fn : FuncId) (ff fc : Array Value) (h : ArenaO O g w s) (hfin : Fin (1000 + 1000 * th.rank) s) (k0 : Blk g.N w b0 (opCells g.sv t) 181) (k1 : Blk g.N w b1 #[.func (.func fn) ff fc] 112) (kr : KRep g.sv g.N O w (.func (.func fn) ff fc) th) (ih : CallRef th) (hm : (s.node x).kind = 2) :
    Calls Tryz.prog 213 #[.int .i64 x, ptr b0, ptr b1] w (RetCode O g w (Ct.apply Ct.stOps (.root1 t th) x s)) := by
  have hNW := (((News.nil w).alloc (.cells #[.int .i64 x] 40)).alloc (.cells zeroCode 115))
  obtain ⟨W0, hW0⟩ : ∃ W, ((w.alloc (.cells #[.int .i64 x] 40)).alloc (.cells zeroCode 115)) = W := ⟨_, rfl⟩
  rw [hW0] at hNW
  have z := hNW.size
  simp at z
  have hR0 := Run.start h hNW (b := w.heap.size + 1) 1 rfl rfl
  have hM0 : Mv O g w (g.plus (w.heap.size + 1)) W0 := Mv.plus hNW.below (by omega)
  have c1 := (k0).at2 0 (.iface 23 (.pointer (some ⟨g.a, 0, none⟩))) rfl
  have B2 := Lib.hid (blk_plus h.toArenaAt (b := w.heap.size) (c := w.heap.size + 1) (by omega) (by omega) (hNW.at_ 0 _ rfl))
  have B0 := Lib.hid (k0.mv hM0)
  have B1 := Lib.hid (k1.mv hM0)
  have KR := Lib.hid (kr.mv hM0)
  have hent := kr.enters
  unfold Ent at hent
  have R0 := Lib.hid hR0
  have M0 := Lib.hid hM0
  have HW := Lib.hid hW0
  have HZ := Lib.hid z
  have H := Lib.hid h
  have FI := Lib.hid hfin
  have hmf := hmfG
  have hmNode := meth_Node; have hnNode := nil_Node
  clear h hNW hW0 z hR0 hM0 hfin k0 k1 kr
  unfold ptr
  go_enter Tryz.func213, Tryz.ntmps213
  go_wp2_with fail
  refine (with_world HW.out (R0.out.node FI.out (by omega) x)).mono ?_
  rintro e w2 ⟨n2, bv2, pv2, rfl, E2, hR, hM, hr, hp⟩
  have R2 := Lib.hid hR; have M2 := Lib.hid hM; have HR2 := Lib.hid hr; have HP2 := Lib.hid hp; clear hR hM hr hp
  have B0' := Lib.hid (B0.out.mv (M2.out))
  have B1' := Lib.hid (B1.out.mv (M2.out))
  have B2' := Lib.hid (B2.out.mv (M2.out))
  have KR' := Lib.hid (KR.out.mv (M2.out))
  clear KR
  have KR := KR'
  clear KR'
  clear B0 B1 B2
  clear c1
  have q1 : (n2.kind == 2) = true := by rw [← E2.out, hm]; rfl
  have c4 := (B1'.out).at1 0 (.func (.func fn) ff fc) rfl
  have c5 := (B2'.out).at1 0 (.int .i64 x) rfl
  have c3 := node_new w2 n2 bv2 pv2 0 (.int .i64 n2.kind) rfl
  go_wp2_with (first | (refine wpList_store_row rfl 136 (.tmp 5) (.tmp 9) rfl w2.heap.size (nodeCells n2 bv2 pv2).toArray rfl rfl 136 zeroNode (heap_alloc_at _ _) info_Node_size rfl (nodeCells_one _ _ _ HR2.out.one HP2.out.one) ?_; rw [alloc_setRow]))
  refine ((ih _ _ _ _ _ _ x (R2.out.alloc _).arena (FI.out.less (by omega)) ((KR.out).mv (Mv.alloc (O := O) _ _ _)))).mono ?_
  rintro e w6 hc
  obtain ⟨cs, h6, rfl, hC, hMC⟩ := (R2.out.alloc _).code2 hc
  have C := Lib.hid hC; have MC := Lib.hid hMC
  clear hc hC hMC
  go_wp2_with (refine wpList_store_row rfl 115 (.tmp 4) (.tmp 15) rfl (w.heap.size + 1) cs.toArray rfl rfl 115 zeroCode C.out.res C.out.info C.out.len.symm C.out.one ?_)
  refine bodyPost_ret (v := .agg cs.toArray) (results_cell_row Tryz.results213 _ _ (w.heap.size + 1) 115 _ (0, 0) _ rfl (setRow_heap _ (w.heap.size + 1) _ _ _ _ C.out.res) Tryz.underlying115 rfl C.out.info) rfl ?_
  refine RetCode.eq ?_ C.out.ret
  simp only [Ct.apply]; rw [if_pos (show (Ct.stOps.node x s).kind = 2 from hm)]
set_option maxRecDepth 100000 in
set_option maxHeartbeats 400000 in
theorem clo_root1B_w (t : Ct.Trie) (th : Ct.K) (g : Ghost) (w : World) (s : Ct.St) (x : Int) (b0 b1 : Nat) (fn : FuncId) (ff fc : Array Value) (h : ArenaO O g w s) (hfin : Fin (1000 + 1000 * th.rank) s) (k0 : Blk g.N w b0 (opCells g.sv t) 181) (k1 : Blk g.N w b1 #[.func (.func fn) ff fc] 112) (kr : KRep g.sv g.N O w (.func (.func fn) ff fc) th) (ih : CallRef th) (hm : (s.node x).kind ≠ 2) :
    Calls Tryz.prog 213 #[.int .i64 x, ptr b0, ptr b1] w (RetCode O g w (Ct.apply Ct.stOps (.root1 t th) x s)) := by
  have hNW := (((News.nil w).alloc (.cells #[.int .i64 x] 40)).alloc (.cells zeroCode 115))
  obtain ⟨W0, hW0⟩ : ∃ W, ((w.alloc (.cells #[.int .i64 x] 40)).alloc (.cells zeroCode 115)) = W := ⟨_, rfl⟩
  rw [hW0] at hNW
  have z := hNW.size
  simp at z
  have hR0 := Run.start h hNW (b := w.heap.size + 1) 1 rfl rfl
  have hM0 : Mv O g w (g.plus (w.heap.size + 1)) W0 := Mv.plus hNW.below (by omega)
  have c1 := (k0).at2 0 (.iface 23 (.pointer (some ⟨g.a, 0, none⟩))) rfl
  have B2 := Lib.hid (blk_plus h.toArenaAt (b := w.heap.size) (c := w.heap.size + 1) (by omega) (by omega) (hNW.at_ 0 _ rfl))
  have B0 := Lib.hid (k0.mv hM0)
  have B1 := Lib.hid (k1.mv hM0)
  have KR := Lib.hid (kr.mv hM0)
  have hent := kr.enters
  unfold Ent at hent
  have R0 := Lib.hid hR0
  have M0 := Lib.hid hM0
  have HW := Lib.hid hW0
  have HZ := Lib.hid z
  have H := Lib.hid h
  have FI := Lib.hid hfin
  have hmf := hmfG
  have hmNode := meth_Node; have hnNode := nil_Node
  clear h hNW hW0 z hR0 hM0 hfin k0 k1 kr
  unfold ptr
  go_enter Tryz.func213, Tryz.ntmps213
  go_wp2_with fail
  refine (with_world HW.out (R0.out.node FI.out (by omega) x)).mono ?_
  rintro e w2 ⟨n2, bv2, pv2, rfl, E2, hR, hM, hr, hp⟩
  have R2 := Lib.hid hR; have M2 := Lib.hid hM; have HR2 := Lib.hid hr; have HP2 := Lib.hid hp; clear hR hM hr hp
  have B0' := Lib.hid (B0.out.mv (M2.out))
  have B1' := Lib.hid (B1.out.mv (M2.out))
  have B2' := Lib.hid (B2.out.mv (M2.out))
  have KR' := Lib.hid (KR.out.mv (M2.out))
  clear KR
  have KR := KR'
  clear KR'
  clear B0 B1 B2
  clear c1
  have q1 : (n2.kind == 2) = false := by rw [← E2.out]; simpa using hm
  have c3 := node_new w2 n2 bv2 pv2 0 (.int .i64 n2.kind) rfl
  have c4 := node_new w2 n2 bv2 pv2 13 (.int .i64 n2.status) rfl
  go_wp2_with (first | (refine wpList_store_row rfl 136 (.tmp 5) (.tmp 9) rfl w2.heap.size (nodeCells n2 bv2 pv2).toArray rfl rfl 136 zeroNode (heap_alloc_at _ _) info_Node_size rfl (nodeCells_one _ _ _ HR2.out.one HP2.out.one) ?_; rw [alloc_setRow]))
  refine ((taskLoad_any n2.status _ _ ⟨_, _, _, rfl⟩)).mono ?_
  rintro e w5 hc
  obtain ⟨cs, rfl, hC, hMC⟩ := (R2.out.alloc _).made3 (c := .load n2.status (.root2 t x n2 th)) (⟨_, rfl, ⟨_, _, _, _, rfl, (B0'.out).mv (Mv.alloc (O := O) _ _ _), (B2'.out).mv (Mv.alloc (O := O) _ _ _), ⟨_, (B1'.out).mv (Mv.alloc (O := O) _ _ _), (KR.out).mv (Mv.alloc (O := O) _ _ _)⟩, ⟨_, _, (R2.out).blk _ _⟩⟩⟩) hc
  have C := Lib.hid hC; have MC := Lib.hid hMC
  clear hc hC hMC
  go_wp2_with (refine wpList_store_row rfl 115 (.tmp 4) (.tmp 19) rfl (w.heap.size + 1) cs.toArray rfl rfl 115 zeroCode C.out.res C.out.info C.out.len.symm C.out.one ?_)
  refine bodyPost_ret (v := .agg cs.toArray) (results_cell_row Tryz.results213 _ _ (w.heap.size + 1) 115 _ (0, 0) _ rfl (setRow_heap _ (w.heap.size + 1) _ _ _ _ C.out.res) Tryz.underlying115 rfl C.out.info) rfl ?_
  refine RetCode.eq ?_ C.out.ret
  simp only [Ct.apply]; rw [if_neg (show ¬ (Ct.stOps.node x s).kind = 2 from hm)]; simp only [Ct.stOps, E2.out]
theorem clo_root1 (t : Ct.Trie) (th : Ct.K) (ih : CallRef th) : CallRef (.root1 t th) := by
  intro O g w s n ff caps x h hfine hk
  obtain ⟨b0, b1, e, k0, ⟨u, k1, kr⟩⟩ := hk
  injection e with e1 e2 e3
  injection e1 with e1
  subst e1 e2 e3
  obtain ⟨fn, ff, fc, rfl⟩ := kr.func
  have hfin := hfine.less (m := 1000 + 1000 * th.rank) (by simp only [Ct.K.rank]; omega)
  by_cases hm : (s.node x).kind = 2
  · exact clo_root1A_w t th g w s x b0 b1 fn ff fc h hfin k0 k1 kr ih hm
  · exact clo_root1B_w t th g w s x b0 b1 fn ff fc h hfin k0 k1 kr ih hm
set_option maxRecDepth 100000 in
set_option maxHeartbeats 400000 in
theorem clo_help1A_w (t : Ct.Trie) (th : Ct.K) (g : Ghost) (w : World) (s : Ct.St) (x : Int) (b0 b1 : Nat) (fn : FuncId) (ff fc : Array Value) (h : ArenaO O g w s) (hfin : Fin (1000 + 1000 * th.rank) s) (k0 : Blk g.N w b0 (opCells g.sv t) 181) (k1 : Blk g.N w b1 #[.func (.func fn) ff fc] 112) (kr : KRep g.sv g.N O w (.func (.func fn) ff fc) th) (ih : CallRef th) (hm : (s.node x).kind = 2) :
    Calls Tryz.prog 139 #[.int .i64 x, ptr b0, ptr b1] w (RetCode O g w (Ct.apply Ct.stOps (.help1 t th) x s)) := by
  have hNW := (((News.nil w).alloc (.cells #[.int .i64 x] 40)).alloc (.cells zeroCode 115))
  obtain ⟨W0, hW0⟩ : ∃ W, ((w.alloc (.cells #[.int .i64 x] 40)).alloc (.cells zeroCode 115)) = W := ⟨_, rfl⟩
  rw [hW0] at hNW
  have z := hNW.size
  simp at z
  have hR0 := Run.start h hNW (b := w.heap.size + 1) 1 rfl rfl
  have hM0 : Mv O g w (g.plus (w.heap.size + 1)) W0 := Mv.plus hNW.below (by omega)
  have c1 := (k0).at2 0 (.iface 23 (.pointer (some ⟨g.a, 0, none⟩))) rfl
  have B2 := Lib.hid (blk_plus h.toArenaAt (b := w.heap.size) (c := w.heap.size + 1) (by omega) (by omega) (hNW.at_ 0 _ rfl))
  have B0 := Lib.hid (k0.mv hM0)
  have B1 := Lib.hid (k1.mv hM0)
  have KR := Lib.hid (kr.mv hM0)
  have hent := kr.enters
  unfold Ent at hent
  have R0 := Lib.hid hR0
  have M0 := Lib.hid hM0
  have HW := Lib.hid hW0
  have HZ := Lib.hid z
  have H := Lib.hid h
  have FI := Lib.hid hfin
  have hmf := hmfG
  have hmNode := meth_Node; have hnNode := nil_Node
  clear h hNW hW0 z hR0 hM0 hfin k0 k1 kr
  unfold ptr
  go_enter Tryz.func139, Tryz.ntmps139
  go_wp2_with fail
  refine (with_world HW.out (R0.out.node FI.out (by omega) x)).mono ?_
  rintro e w2 ⟨n2, bv2, pv2, rfl, E2, hR, hM, hr, hp⟩
  have R2 := Lib.hid hR; have M2 := Lib.hid hM; have HR2 := Lib.hid hr; have HP2 := Lib.hid hp; clear hR hM hr hp
  have B0' := Lib.hid (B0.out.mv (M2.out))
  have B1' := Lib.hid (B1.out.mv (M2.out))
  have B2' := Lib.hid (B2.out.mv (M2.out))
  have KR' := Lib.hid (KR.out.mv (M2.out))
  clear KR
  have KR := KR'
  clear KR'
  clear B0 B1 B2
  clear c1
  have q1 : (n2.kind == 2) = true := by rw [← E2.out, hm]; rfl
  have c4 := (B1'.out).at1 0 (.func (.func fn) ff fc) rfl
  have c5 := (B2'.out).at1 0 (.int .i64 x) rfl
  have c3 := node_new w2 n2 bv2 pv2 0 (.int .i64 n2.kind) rfl
  go_wp2_with (first | (refine wpList_store_row rfl 136 (.tmp 5) (.tmp 9) rfl w2.heap.size (nodeCells n2 bv2 pv2).toArray rfl rfl 136 zeroNode (heap_alloc_at _ _) info_Node_size rfl (nodeCells_one _ _ _ HR2.out.one HP2.out.one) ?_; rw [alloc_setRow]))
  refine ((ih _ _ _ _ _ _ x (R2.out.alloc _).arena (FI.out.less (by omega)) ((KR.out).mv (Mv.alloc (O := O) _ _ _)))).mono ?_
  rintro e w6 hc
  obtain ⟨cs, h6, rfl, hC, hMC⟩ := (R2.out.alloc _).code2 hc
  have C := Lib.hid hC; have MC := Lib.hid hMC
  clear hc hC hMC
  go_wp2_with (refine wpList_store_row rfl 115 (.tmp 4) (.tmp 15) rfl (w.heap.size + 1) cs.toArray rfl rfl 115 zeroCode C.out.res C.out.info C.out.len.symm C.out.one ?_)
  refine bodyPost_ret (v := .agg cs.toArray) (results_cell_row Tryz.results139 _ _ (w.heap.size + 1) 115 _ (0, 0) _ rfl (setRow_heap _ (w.heap.size + 1) _ _ _ _ C.out.res) Tryz.underlying115 rfl C.out.info) rfl ?_
  refine RetCode.eq ?_ C.out.ret
  simp only [Ct.apply]; rw [if_pos (show (Ct.stOps.node x s).kind = 2 from hm)]
set_option maxRecDepth 100000 in
set_option maxHeartbeats 400000 in
theorem clo_help1B_w (t : Ct.Trie) (th : Ct.K) (g : Ghost) (w : World) (s : Ct.St) (x : Int) (b0 b1 : Nat) (fn : FuncId) (ff fc : Array Value) (h : ArenaO O g w s) (hfin : Fin (1000 + 1000 * th.rank) s) (k0 : Blk g.N w b0 (opCells g.sv t) 181) (k1 : Blk g.N w b1 #[.func (.func fn) ff fc] 112) (kr : KRep g.sv g.N O w (.func (.func fn) ff fc) th) (ih : CallRef th) (hm : (s.node x).kind ≠ 2) :
    Calls Tryz.prog 139 #[.int .i64 x, ptr b0, ptr b1] w (RetCode O g w (Ct.apply Ct.stOps (.help1 t th) x s)) := by
  have hNW := (((News.nil w).alloc (.cells #[.int .i64 x] 40)).alloc (.cells zeroCode 115))
  obtain ⟨W0, hW0⟩ : ∃ W, ((w.alloc (.cells #[.int .i64 x] 40)).alloc (.cells zeroCode 115)) = W := ⟨_, rfl⟩
  rw [hW0] at hNW
  have z := hNW.size
  simp at z
  have hR0 := Run.start h hNW (b := w.heap.size + 1) 1 rfl rfl
  have hM0 : Mv O g w (g.plus (w.heap.size + 1)) W0 := Mv.plus hNW.below (by omega)
  have c1 := (k0).at2 0 (.iface 23 (.pointer (some ⟨g.a, 0, none⟩))) rfl
  have B2 := Lib.hid (blk_plus h.toArenaAt (b := w.heap.size) (c := w.heap.size + 1) (by omega) (by omega) (hNW.at_ 0 _ rfl))
  have B0 := Lib.hid (k0.mv hM0)
  have B1 := Lib.hid (k1.mv hM0)
  have KR := Lib.hid (kr.mv hM0)
  have hent := kr.enters
  unfold Ent at hent
  have R0 := Lib.hid hR0
  have M0 := Lib.hid hM0
  have HW := Lib.hid hW0
  have HZ := Lib.hid z
  have H := Lib.hid h
  have FI := Lib.hid hfin
  have hmf := hmfG
  have hmNode := meth_Node; have hnNode := nil_Node
  clear h hNW hW0 z hR0 hM0 hfin k0 k1 kr
  unfold ptr
  go_enter Tryz.func139, Tryz.ntmps139
  go_wp2_with fail
  refine (with_world HW.out (R0.out.node FI.out (by omega) x)).mono ?_
  rintro e w2 ⟨n2, bv2, pv2, rfl, E2, hR, hM, hr, hp⟩
  have R2 := Lib.hid hR; have M2 := Lib.hid hM; have HR2 := Lib.hid hr; have HP2 := Lib.hid hp; clear hR hM hr hp
  have B0' := Lib.hid (B0.out.mv (M2.out))
  have B1' := Lib.hid (B1.out.mv (M2.out))
  have B2' := Lib.hid (B2.out.mv (M2.out))
  have KR' := Lib.hid (KR.out.mv (M2.out))
  clear KR
  have KR := KR'
  clear KR'
  clear B0 B1 B2
  clear c1
  have q1 : (n2.kind == 2) = false := by rw [← E2.out]; simpa using hm
  have c3 := node_new w2 n2 bv2 pv2 0 (.int .i64 n2.kind) rfl
  have c4 := node_new w2 n2 bv2 pv2 13 (.int .i64 n2.status) rfl
  go_wp2_with (first | (refine wpList_store_row rfl 136 (.tmp 5) (.tmp 9) rfl w2.heap.size (nodeCells n2 bv2 pv2).toArray rfl rfl 136 zeroNode (heap_alloc_at _ _) info_Node_size rfl (nodeCells_one _ _ _ HR2.out.one HP2.out.one) ?_; rw [alloc_setRow]))
  refine ((taskLoad_any n2.status _ _ ⟨_, _, _, rfl⟩)).mono ?_
  rintro e w5 hc
  obtain ⟨cs, rfl, hC, hMC⟩ := (R2.out.alloc _).made3 (c := .load n2.status (.help2 t x n2 th)) (⟨_, rfl, ⟨_, _, _, _, rfl, (B0'.out).mv (Mv.alloc (O := O) _ _ _), (B2'.out).mv (Mv.alloc (O := O) _ _ _), ⟨_, (B1'.out).mv (Mv.alloc (O := O) _ _ _), (KR.out).mv (Mv.alloc (O := O) _ _ _)⟩, ⟨_, _, (R2.out).blk _ _⟩⟩⟩) hc
  have C := Lib.hid hC; have MC := Lib.hid hMC
  clear hc hC hMC
  go_wp2_with (refine wpList_store_row rfl 115 (.tmp 4) (.tmp 19) rfl (w.heap.size + 1) cs.toArray rfl rfl 115 zeroCode C.out.res C.out.info C.out.len.symm C.out.one ?_)
  refine bodyPost_ret (v := .agg cs.toArray) (results_cell_row Tryz.results139 _ _ (w.heap.size + 1) 115 _ (0, 0) _ rfl (setRow_heap _ (w.heap.size + 1) _ _ _ _ C.out.res) Tryz.underlying115 rfl C.out.info) rfl ?_
  refine RetCode.eq ?_ C.out.ret
  simp only [Ct.apply]; rw [if_neg (show ¬ (Ct.stOps.node x s).kind = 2 from hm)]; simp only [Ct.stOps, E2.out]
theorem clo_help1 (t : Ct.Trie) (th : Ct.K) (ih : CallRef th) : CallRef (.help1 t th) := by
  intro O g w s n ff caps x h hfine hk
  obtain ⟨b0, b1, e, k0, ⟨u, k1, kr⟩⟩ := hk
  injection e with e1 e2 e3
  injection e1 with e1
  subst e1 e2 e3
  obtain ⟨fn, ff, fc, rfl⟩ := kr.func
  have hfin := hfine.less (m := 1000 + 1000 * th.rank) (by simp only [Ct.K.rank]; omega)
  by_cases hm : (s.node x).kind = 2
  · exact clo_help1A_w t th g w s x b0 b1 fn ff fc h hfin k0 k1 kr ih hm
  · exact clo_help1B_w t th g w s x b0 b1 fn ff fc h hfin k0 k1 kr ih hm
set_option maxRecDepth 100000 in
set_option maxHeartbeats 400000 in
theorem clo_root2A_w (t : Ct.Trie) (v : Int) (d : Ct.Node) (th : Ct.K) (g : Ghost) (w : World) (s : Ct.St) (x : Int) (b0 b1 b2 b3 : Nat) (bv pv : Value) (fn : FuncId) (ff fc : Array Value) (h : ArenaO O g w s) (hfin : Fin (1000 + 1000 * th.rank) s) (k0 : Blk g.N w b0 (opCells g.sv t) 181) (k1 : Blk g.N w b1 #[.int .i64 v] 40) (k2 : Blk g.N w b2 #[.func (.func fn) ff fc] 112) (kr : KRep g.sv g.N O w (.func (.func fn) ff fc) th) (k3 : Blk g.N w b3 (nodeCells d bv pv).toArray 136) (ih : CallRef th) (q : (x != 0) = true) :
    Calls Tryz.prog 214 #[.int .i64 x, ptr b0, ptr b1, ptr b2, ptr b3] w (RetCode O g w (Ct.apply Ct.stOps (.root2 t v d th) x s)) := by
  have hNW := (News.nil w).alloc (.cells zeroCode 115)
  obtain ⟨W0, hW0⟩ : ∃ W, (w.alloc (.cells zeroCode 115)) = W := ⟨_, rfl⟩
  rw [hW0] at hNW
  have z := hNW.size
  simp at z
  have hR0 := Run.start h hNW (b := w.heap.size) 0 rfl rfl
  have hM0 : Mv O g w (g.plus w.heap.size) W0 := Mv.plus hNW.below (by omega)
  have c1 := (k0).at1 0 (.iface 23 (.pointer (some ⟨g.a, 0, none⟩))) rfl
  have c2 := (k0).at1 1 (.int .i64 t.root) rfl
  have c3 := (k0).at1 2 (.bool t.readOnly) rfl
  have c4 := (k1).at1 0 (.int .i64 v) rfl
  have c5 := (k2).at1 0 (.func (.func fn) ff fc) rfl
  have B0 := Lib.hid (k0.mv hM0)
  have B1 := Lib.hid (k1.mv hM0)
  have B2 := Lib.hid (k2.mv hM0)
  have B3 := Lib.hid (k3.mv hM0)
  have KR := Lib.hid (kr.mv hM0)
  have hent := kr.enters
  unfold Ent at hent
  have R0 := Lib.hid hR0
  have M0 := Lib.hid hM0
  have HW := Lib.hid hW0
  have HZ := Lib.hid z
  have H := Lib.hid h
  have FI := Lib.hid hfin
  have hmf := hmfG
  clear h hNW hW0 z hR0 hM0 hfin k0 k1 k2 k3 kr
  unfold ptr
  go_enter Tryz.func214, Tryz.ntmps214
  go_wp2_with fail
  refine (with_world HW.out (complete_any (g.plus w.heap.size) _ _ t v x th _ R0.out.arena (FI.out.Room (by omega)) FI.out.short (KR.out))).mono ?_
  rintro e w6 hc
  obtain ⟨cs, h6, rfl, hC, hMC⟩ := R0.out.code2 hc
  have C := Lib.hid hC; have MC := Lib.hid hMC
  clear hc hC hMC
  go_wp2_with (refine wpList_store_row rfl 115 (.tmp 6) (.tmp 13) rfl w.heap.size cs.toArray rfl rfl 115 zeroCode C.out.res C.out.info C.out.len.symm C.out.one ?_)
  refine bodyPost_ret (v := .agg cs.toArray) (results_cell_row Tryz.results214 _ _ w.heap.size 115 _ (0, 0) _ rfl (setRow_heap _ w.heap.size _ _ _ _ C.out.res) Tryz.underlying115 rfl C.out.info) rfl ?_
  refine RetCode.eq ?_ C.out.ret
  simp only [Ct.apply]; rw [if_neg (by simpa using q)]
set_option maxRecDepth 100000 in
set_option maxHeartbeats 400000 in
theorem clo_root2B_w (t : Ct.Trie) (v : Int) (d : Ct.Node) (th : Ct.K) (g : Ghost) (w : World) (s : Ct.St) (x : Int) (b0 b1 b2 b3 : Nat) (bv pv : Value) (fn : FuncId) (ff fc : Array Value) (h : ArenaO O g w s) (hfin : Fin (1000 + 1000 * th.rank) s) (k0 : Blk g.N w b0 (opCells g.sv t) 181) (k1 : Blk g.N w b1 #[.int .i64 v] 40) (k2 : Blk g.N w b2 #[.func (.func fn) ff fc] 112) (kr : KRep g.sv g.N O w (.func (.func fn) ff fc) th) (k3 : Blk g.N w b3 (nodeCells d bv pv).toArray 136) (ih : CallRef th) (q : (x != 0) = false) :
    Calls Tryz.prog 214 #[.int .i64 x, ptr b0, ptr b1, ptr b2, ptr b3] w (RetCode O g w (Ct.apply Ct.stOps (.root2 t v d th) x s)) := by
  have hNW := (News.nil w).alloc (.cells zeroCode 115)
  obtain ⟨W0, hW0⟩ : ∃ W, (w.alloc (.cells zeroCode 115)) = W := ⟨_, rfl⟩
  rw [hW0] at hNW
  have z := hNW.size
  simp at z
  have hR0 := Run.start h hNW (b := w.heap.size) 0 rfl rfl
  have hM0 : Mv O g w (g.plus w.heap.size) W0 := Mv.plus hNW.below (by omega)
  have c1 := (k3).at1 13 (.int .i64 d.status) rfl
  have B0 := Lib.hid (k0.mv hM0)
  have B1 := Lib.hid (k1.mv hM0)
  have B2 := Lib.hid (k2.mv hM0)
  have B3 := Lib.hid (k3.mv hM0)
  have KR := Lib.hid (kr.mv hM0)
  have hent := kr.enters
  unfold Ent at hent
  have R0 := Lib.hid hR0
  have M0 := Lib.hid hM0
  have HW := Lib.hid hW0
  have HZ := Lib.hid z
  have H := Lib.hid h
  have FI := Lib.hid hfin
  have hmf := hmfG
  clear h hNW hW0 z hR0 hM0 hfin k0 k1 k2 k3 kr
  unfold ptr
  go_enter Tryz.func214, Tryz.ntmps214
  go_wp2_with fail
  refine (with_world HW.out (taskCas_any d.status 0 2 _ _ ⟨_, _, _, rfl⟩)).mono ?_
  rintro e w2 hc
  obtain ⟨cs, rfl, hC, hMC⟩ := R0.out.made3 (c := .cas d.status 0 2 (.root3 t v d th)) (⟨_, rfl, ⟨_, _, _, _, rfl, ⟨_, _, B3.out⟩, B0.out, B1.out, ⟨_, B2.out, KR.out⟩⟩⟩) hc
  have C := Lib.hid hC; have MC := Lib.hid hMC
  clear hc hC hMC
  go_wp2_with (refine wpList_store_row rfl 115 (.tmp 6) (.tmp 17) rfl w.heap.size cs.toArray rfl rfl 115 zeroCode C.out.res C.out.info C.out.len.symm C.out.one ?_)
  refine bodyPost_ret (v := .agg cs.toArray) (results_cell_row Tryz.results214 _ _ w.heap.size 115 _ (0, 0) _ rfl (setRow_heap _ w.heap.size _ _ _ _ C.out.res) Tryz.underlying115 rfl C.out.info) rfl ?_
  refine RetCode.eq ?_ C.out.ret
  simp only [Ct.apply]; rw [if_pos (by simpa using q)]
theorem clo_root2 (t : Ct.Trie) (v : Int) (d : Ct.Node) (th : Ct.K) (ih : CallRef th) : CallRef (.root2 t v d th) := by
  intro O g w s n ff caps x h hfine hk
  obtain ⟨b0, b1, b2, b3, e, k0, k1, ⟨u, k2, kr⟩, ⟨bv, pv, k3⟩⟩ := hk
  injection e with e1 e2 e3
  injection e1 with e1
  subst e1 e2 e3
  obtain ⟨fn, ff, fc, rfl⟩ := kr.func
  have hfin := hfine.less (m := 1000 + 1000 * th.rank) (by simp only [Ct.K.rank]; omega)
  by_cases hx : x = 0
  · exact clo_root2B_w t v d th g w s x b0 b1 b2 b3 bv pv fn ff fc h hfin k0 k1 k2 kr k3 ih (by simp [hx])
  · exact clo_root2A_w t v d th g w s x b0 b1 b2 b3 bv pv fn ff fc h hfin k0 k1 k2 kr k3 ih (by simpa using hx)
set_option maxRecDepth 100000 in
set_option maxHeartbeats 400000 in
theorem clo_help2A_w (t : Ct.Trie) (v : Int) (d : Ct.Node) (th : Ct.K) (g : Ghost) (w : World) (s : Ct.St) (x : Int) (b0 b1 b2 b3 : Nat) (bv pv : Value) (fn : FuncId) (ff fc : Array Value) (h : ArenaO O g w s) (hfin : Fin (1000 + 1000 * th.rank) s) (k0 : Blk g.N w b0 (opCells g.sv t) 181) (k1 : Blk g.N w b1 #[.int .i64 v] 40) (k2 : Blk g.N w b2 #[.func (.func fn) ff fc] 112) (kr : KRep g.sv g.N O w (.func (.func fn) ff fc) th) (k3 : Blk g.N w b3 (nodeCells d bv pv).toArray 136) (ih : CallRef th) (q : (x != 0) = true) :
    Calls Tryz.prog 140 #[.int .i64 x, ptr b0, ptr b1, ptr b2, ptr b3] w (RetCode O g w (Ct.apply Ct.stOps (.help2 t v d th) x s)) := by
  have hNW := (News.nil w).alloc (.cells zeroCode 115)
  obtain ⟨W0, hW0⟩ : ∃ W, (w.alloc (.cells zeroCode 115)) = W := ⟨_, rfl⟩
  rw [hW0] at hNW
  have z := hNW.size
  simp at z
  have hR0 := Run.start h hNW (b := w.heap.size) 0 rfl rfl
  have hM0 : Mv O g w (g.plus w.heap.size) W0 := Mv.plus hNW.below (by omega)
  have c1 := (k0).at1 0 (.iface 23 (.pointer (some ⟨g.a, 0, none⟩))) rfl
  have c2 := (k0).at1 1 (.int .i64 t.root) rfl
  have c3 := (k0).at1 2 (.bool t.readOnly) rfl
  have c4 := (k1).at1 0 (.int .i64 v) rfl
  have c5 := (k2).at1 0 (.func (.func fn) ff fc) rfl
  have B0 := Lib.hid (k0.mv hM0)
  have B1 := Lib.hid (k1.mv hM0)
  have B2 := Lib.hid (k2.mv hM0)
  have B3 := Lib.hid (k3.mv hM0)
  have KR := Lib.hid (kr.mv hM0)
  have hent := kr.enters
  unfold Ent at hent
  have R0 := Lib.hid hR0
  have M0 := Lib.hid hM0
  have HW := Lib.hid hW0
  have HZ := Lib.hid z
  have H := Lib.hid h
  have FI := Lib.hid hfin
  have hmf := hmfG
  clear h hNW hW0 z hR0 hM0 hfin k0 k1 k2 k3 kr
  unfold ptr
  go_enter Tryz.func140, Tryz.ntmps140
  go_wp2_with fail
  refine (with_world HW.out (complete_any (g.plus w.heap.size) _ _ t v x th _ R0.out.arena (FI.out.Room (by omega)) FI.out.short (KR.out))).mono ?_
  rintro e w6 hc
  obtain ⟨cs, h6, rfl, hC, hMC⟩ := R0.out.code2 hc
  have C := Lib.hid hC; have MC := Lib.hid hMC
  clear hc hC hMC
  go_wp2_with (refine wpList_store_row rfl 115 (.tmp 6) (.tmp 13) rfl w.heap.size cs.toArray rfl rfl 115 zeroCode C.out.res C.out.info C.out.len.symm C.out.one ?_)
  refine bodyPost_ret (v := .agg cs.toArray) (results_cell_row Tryz.results140 _ _ w.heap.size 115 _ (0, 0) _ rfl (setRow_heap _ w.heap.size _ _ _ _ C.out.res) Tryz.underlying115 rfl C.out.info) rfl ?_
  refine RetCode.eq ?_ C.out.ret
  simp only [Ct.apply]; rw [if_neg (by simpa using q)]
set_option maxRecDepth 100000 in
set_option maxHeartbeats 400000 in
theorem clo_help2B_w (t : Ct.Trie) (v : Int) (d : Ct.Node) (th : Ct.K) (g : Ghost) (w : World) (s : Ct.St) (x : Int) (b0 b1 b2 b3 : Nat) (bv pv : Value) (fn : FuncId) (ff fc : Array Value) (h : ArenaO O g w s) (hfin : Fin (1000 + 1000 * th.rank) s) (k0 : Blk g.N w b0 (opCells g.sv t) 181) (k1 : Blk g.N w b1 #[.int .i64 v] 40) (k2 : Blk g.N w b2 #[.func (.func fn) ff fc] 112) (kr : KRep g.sv g.N O w (.func (.func fn) ff fc) th) (k3 : Blk g.N w b3 (nodeCells d bv pv).toArray 136) (ih : CallRef th) (q : (x != 0) = false) :
    Calls Tryz.prog 140 #[.int .i64 x, ptr b0, ptr b1, ptr b2, ptr b3] w (RetCode O g w (Ct.apply Ct.stOps (.help2 t v d th) x s)) := by
  have hNW := (News.nil w).alloc (.cells zeroCode 115)
  obtain ⟨W0, hW0⟩ : ∃ W, (w.alloc (.cells zeroCode 115)) = W := ⟨_, rfl⟩
  rw [hW0] at hNW
  have z := hNW.size
  simp at z
  have hR0 := Run.start h hNW (b := w.heap.size) 0 rfl rfl
  have hM0 : Mv O g w (g.plus w.heap.size) W0 := Mv.plus hNW.below (by omega)
  have c2 := (k0).at1 0 (.iface 23 (.pointer (some ⟨g.a, 0, none⟩))) rfl
  have c3 := (k0).at1 1 (.int .i64 t.root) rfl
  have c4 := (k0).at1 2 (.bool t.readOnly) rfl
  have HX1 := Lib.hid (fun o0 => heap_alloc_of (k3.2) o0)
  have B0 := Lib.hid (k0.mv hM0)
  have B1 := Lib.hid (k1.mv hM0)
  have B2 := Lib.hid (k2.mv hM0)
  have B3 := Lib.hid (k3.mv hM0)
  have KR := Lib.hid (kr.mv hM0)
  have hent := kr.enters
  unfold Ent at hent
  have R0 := Lib.hid hR0
  have M0 := Lib.hid hM0
  have HW := Lib.hid hW0
  have HZ := Lib.hid z
  have H := Lib.hid h
  have FI := Lib.hid hfin
  have hmf := hmfG
  clear h hNW hW0 z hR0 hM0 hfin k0 k1 k2 k3 kr
  unfold ptr
  go_enter Tryz.func140, Tryz.ntmps140
  go_wp2_with (first | (refine wpList_load_row rfl 136 (.tmp 4) rfl b3 rfl 136 (nodeCells d bv pv).toArray (0, 0) _ (HX1.out _) Tryz.underlying136 rfl info_Node_size ?_))
  refine (with_world HW.out (rdecide_any (g.plus w.heap.size) _ _ t d bv pv (.help3 t v d th) _ R0.out.arena (FI.out.Room (by omega)) FI.out.short (⟨_, _, _, _, rfl, ⟨_, _, B3.out⟩, B0.out, B1.out, ⟨_, B2.out, KR.out⟩⟩))).mono ?_
  rintro e w5 hc
  obtain ⟨cs, h5, rfl, hC, hMC⟩ := R0.out.code2 hc
  have C := Lib.hid hC; have MC := Lib.hid hMC
  clear hc hC hMC
  go_wp2_with (refine wpList_store_row rfl 115 (.tmp 6) (.tmp 17) rfl w.heap.size cs.toArray rfl rfl 115 zeroCode C.out.res C.out.info C.out.len.symm C.out.one ?_)
  refine bodyPost_ret (v := .agg cs.toArray) (results_cell_row Tryz.results140 _ _ w.heap.size 115 _ (0, 0) _ rfl (setRow_heap _ w.heap.size _ _ _ _ C.out.res) Tryz.underlying115 rfl C.out.info) rfl ?_
  refine RetCode.eq ?_ C.out.ret
  simp only [Ct.apply]; rw [if_pos (by simpa using q)]
theorem clo_help2 (t : Ct.Trie) (v : Int) (d : Ct.Node) (th : Ct.K) (ih : CallRef th) : CallRef (.help2 t v d th) := by
  intro O g w s n ff caps x h hfine hk
  obtain ⟨b0, b1, b2, b3, e, k0, k1, ⟨u, k2, kr⟩, ⟨bv, pv, k3⟩⟩ := hk
  injection e with e1 e2 e3
  injection e1 with e1
  subst e1 e2 e3
  obtain ⟨fn, ff, fc, rfl⟩ := kr.func
  have hfin := hfine.less (m := 1000 + 1000 * th.rank) (by simp only [Ct.K.rank]; omega)
  by_cases hx : x = 0
  · exact clo_help2B_w t v d th g w s x b0 b1 b2 b3 bv pv fn ff fc h hfin k0 k1 k2 kr k3 ih (by simp [hx])
  · exact clo_help2A_w t v d th g w s x b0 b1 b2 b3 bv pv fn ff fc h hfin k0 k1 k2 kr k3 ih (by simpa using hx)
set_option maxRecDepth 100000 in
set_option maxHeartbeats 400000 in
theorem clo_repl1A_w (t : Ct.Trie) (v : Int) (d : Ct.Node) (th : Ct.K) (g : Ghost) (w : World) (s : Ct.St)  (b0 b1 b2 b3 : Nat) (bv pv : Value) (fn : FuncId) (ff fc : Array Value) (h : ArenaO O g w s) (hfin : Fin (1000 + 1000 * th.rank) s) (k0 : Blk g.N w b0 #[.func (.func fn) ff fc] 113) (kr : KRep g.sv g.N O w (.func (.func fn) ff fc) th) (k1 : Blk g.N w b1 (opCells g.sv t) 181) (k2 : Blk g.N w b2 (nodeCells d bv pv).toArray 136) (k3 : Blk g.N w b3 #[.int .i64 v] 40) (ih : CallBool th) :
    Calls Tryz.prog 188 #[.bool false, ptr b0, ptr b1, ptr b2, ptr b3] w (RetCode O g w (Ct.apply Ct.stOps (.repl1 t v d th) (Ct.ofBool false) s)) := by
  have hNW := (News.nil w).alloc (.cells zeroCode 115)
  obtain ⟨W0, hW0⟩ : ∃ W, (w.alloc (.cells zeroCode 115)) = W := ⟨_, rfl⟩
  rw [hW0] at hNW
  have z := hNW.size
  simp at z
  have hR0 := Run.start h hNW (b := w.heap.size) 0 rfl rfl
  have hM0 : Mv O g w (g.plus w.heap.size) W0 := Mv.plus hNW.below (by omega)
  have c1 := (k0).at1 0 (.func (.func fn) ff fc) rfl
  have B0 := Lib.hid (k0.mv hM0)
  have B1 := Lib.hid (k1.mv hM0)
  have B2 := Lib.hid (k2.mv hM0)
  have B3 := Lib.hid (k3.mv hM0)
  have KR := Lib.hid (kr.mv hM0)
  have hent := kr.enters
  unfold Ent at hent
  have R0 := Lib.hid hR0
  have M0 := Lib.hid hM0
  have HW := Lib.hid hW0
  have HZ := Lib.hid z
  have H := Lib.hid h
  have FI := Lib.hid hfin
  have hmf := hmfG
  clear h hNW hW0 z hR0 hM0 hfin k0 k1 k2 k3 kr
  unfold ptr
  go_enter Tryz.func188, Tryz.ntmps188
  go_wp2_with fail
  refine (with_world HW.out (ih _ _ _ _ _ _ false R0.out.arena (FI.out.less (by omega)) (KR.out))).mono ?_
  rintro e w2 hc
  obtain ⟨cs, h2, rfl, hC, hMC⟩ := R0.out.code2 hc
  have C := Lib.hid hC; have MC := Lib.hid hMC
  clear hc hC hMC
  go_wp2_with (refine wpList_store_row rfl 115 (.tmp 6) (.tmp 10) rfl w.heap.size cs.toArray rfl rfl 115 zeroCode C.out.res C.out.info C.out.len.symm C.out.one ?_)
  refine bodyPost_ret (v := .agg cs.toArray) (results_cell_row Tryz.results188 _ _ w.heap.size 115 _ (0, 0) _ rfl (setRow_heap _ w.heap.size _ _ _ _ C.out.res) Tryz.underlying115 rfl C.out.info) rfl ?_
  refine RetCode.eq ?_ C.out.ret
  rfl
set_option maxRecDepth 100000 in
set_option maxHeartbeats 400000 in
theorem clo_repl1B_w (t : Ct.Trie) (v : Int) (d : Ct.Node) (th : Ct.K) (g : Ghost) (w : World) (s : Ct.St)  (b0 b1 b2 b3 : Nat) (bv pv : Value) (fn : FuncId) (ff fc : Array Value) (h : ArenaO O g w s) (hfin : Fin (1000 + 1000 * th.rank) s) (k0 : Blk g.N w b0 #[.func (.func fn) ff fc] 113) (kr : KRep g.sv g.N O w (.func (.func fn) ff fc) th) (k1 : Blk g.N w b1 (opCells g.sv t) 181) (k2 : Blk g.N w b2 (nodeCells d bv pv).toArray 136) (k3 : Blk g.N w b3 #[.int .i64 v] 40) (ih : CallBool th) :
    Calls Tryz.prog 188 #[.bool true, ptr b0, ptr b1, ptr b2, ptr b3] w (RetCode O g w (Ct.apply Ct.stOps (.repl1 t v d th) (Ct.ofBool true) s)) := by
  have hNW := (News.nil w).alloc (.cells zeroCode 115)
  obtain ⟨W0, hW0⟩ : ∃ W, (w.alloc (.cells zeroCode 115)) = W := ⟨_, rfl⟩
  rw [hW0] at hNW
  have z := hNW.size
  simp at z
  have hR0 := Run.start h hNW (b := w.heap.size) 0 rfl rfl
  have hM0 : Mv O g w (g.plus w.heap.size) W0 := Mv.plus hNW.below (by omega)
  have c2 := (k1).at1 0 (.iface 23 (.pointer (some ⟨g.a, 0, none⟩))) rfl
  have c3 := (k1).at1 1 (.int .i64 t.root) rfl
  have c4 := (k1).at1 2 (.bool t.readOnly) rfl
  have HX1 := Lib.hid (fun o0 => heap_alloc_of (k2.2) o0)
  have B0 := Lib.hid (k0.mv hM0)
  have B1 := Lib.hid (k1.mv hM0)
  have B2 := Lib.hid (k2.mv hM0)
  have B3 := Lib.hid (k3.mv hM0)
  have KR := Lib.hid (kr.mv hM0)
  have hent := kr.enters
  unfold Ent at hent
  have R0 := Lib.hid hR0
  have M0 := Lib.hid hM0
  have HW := Lib.hid hW0
  have HZ := Lib.hid z
  have H := Lib.hid h
  have FI := Lib.hid hfin
  have hmf := hmfG
  clear h hNW hW0 z hR0 hM0 hfin k0 k1 k2 k3 kr
  unfold ptr
  go_enter Tryz.func188, Tryz.ntmps188
  go_wp2_with (first | (refine wpList_load_row rfl 136 (.tmp 3) rfl b2 rfl 136 (nodeCells d bv pv).toArray (0, 0) _ (HX1.out _) Tryz.underlying136 rfl info_Node_size ?_))
  refine (with_world HW.out (rdecide_any (g.plus w.heap.size) _ _ t d bv pv (.repl2 t v d th) _ R0.out.arena (FI.out.Room (by omega)) FI.out.short (⟨_, _, _, _, rfl, ⟨_, _, B2.out⟩, B1.out, B3.out, ⟨_, B0.out, KR.out⟩⟩))).mono ?_
  rintro e w5 hc
  obtain ⟨cs, h5, rfl, hC, hMC⟩ := R0.out.code2 hc
  have C := Lib.hid hC; have MC := Lib.hid hMC
  clear hc hC hMC
  go_wp2_with (refine wpList_store_row rfl 115 (.tmp 6) (.tmp 14) rfl w.heap.size cs.toArray rfl rfl 115 zeroCode C.out.res C.out.info C.out.len.symm C.out.one ?_)
  refine bodyPost_ret (v := .agg cs.toArray) (results_cell_row Tryz.results188 _ _ w.heap.size 115 _ (0, 0) _ rfl (setRow_heap _ w.heap.size _ _ _ _ C.out.res) Tryz.underlying115 rfl C.out.info) rfl ?_
  refine RetCode.eq ?_ C.out.ret
  rfl
theorem clo_repl1 (t : Ct.Trie) (v : Int) (d : Ct.Node) (th : Ct.K) (ih : CallBool th) : CallBool (.repl1 t v d th) := by
  intro O g w s n ff caps x h hfine hk
  obtain ⟨b0, b1, b2, b3, e, ⟨u, k0, kr⟩, k1, ⟨bv, pv, k2⟩, k3⟩ := hk
  injection e with e1 e2 e3
  injection e1 with e1
  subst e1 e2 e3
  obtain ⟨fn, ff, fc, rfl⟩ := kr.func
  have hfin := hfine.less (m := 1000 + 1000 * th.rank) (by simp only [Ct.K.rank]; omega)
  cases x
  · exact clo_repl1A_w t v d th g w s b0 b1 b2 b3 bv pv fn ff fc h hfin k0 kr k1 k2 k3 ih 
  · exact clo_repl1B_w t v d th g w s b0 b1 b2 b3 bv pv fn ff fc h hfin k0 kr k1 k2 k3 ih 
set_option maxRecDepth 100000 in
set_option maxHeartbeats 400000 in
theorem clo_repl4_w (st : Int) (th : Ct.K) (g : Ghost) (w : World) (s : Ct.St) (x : Int) (b0 b1 : Nat) (fn : FuncId) (ff fc : Array Value) (h : ArenaO O g w s) (hfin : Fin (1000 + 1000 * th.rank) s) (k0 : Blk g.N w b0 #[.func (.func fn) ff fc] 113) (kr : KRep g.sv g.N O w (.func (.func fn) ff fc) th) (k1 : Blk g.N w b1 #[.int .i64 st] 40) (ih : CallBool th) :
    Calls Tryz.prog 191 #[.int .i64 x, ptr b0, ptr b1] w (RetCode O g w (Ct.apply Ct.stOps (.repl4 st th) x s)) := by
  have hNW := (News.nil w).alloc (.cells zeroCode 115)
  obtain ⟨W0, hW0⟩ : ∃ W, (w.alloc (.cells zeroCode 115)) = W := ⟨_, rfl⟩
  rw [hW0] at hNW
  have z := hNW.size
  simp at z
  have hR0 := Run.start h hNW (b := w.heap.size) 0 rfl rfl
  have hM0 : Mv O g w (g.plus w.heap.size) W0 := Mv.plus hNW.below (by omega)
  have c1 := (k0).at1 0 (.func (.func fn) ff fc) rfl
  have c2 := (k1).at1 0 (.int .i64 st) rfl
  have B0 := Lib.hid (k0.mv hM0)
  have B1 := Lib.hid (k1.mv hM0)
  have KR := Lib.hid (kr.mv hM0)
  have hent := kr.enters
  unfold Ent at hent
  have R0 := Lib.hid hR0
  have M0 := Lib.hid hM0
  have HW := Lib.hid hW0
  have HZ := Lib.hid z
  have H := Lib.hid h
  have FI := Lib.hid hfin
  have hmf := hmfG
  clear h hNW hW0 z hR0 hM0 hfin k0 k1 kr
  unfold ptr
  go_enter Tryz.func191, Tryz.ntmps191
  go_wp2_with fail
  refine (with_world HW.out (ih _ _ _ _ _ _ (st == 1) R0.out.arena (FI.out.less (by omega)) (KR.out))).mono ?_
  rintro e w3 hc
  obtain ⟨cs, h3, rfl, hC, hMC⟩ := R0.out.code2 hc
  have C := Lib.hid hC; have MC := Lib.hid hMC
  clear hc hC hMC
  go_wp2_with (refine wpList_store_row rfl 115 (.tmp 4) (.tmp 8) rfl w.heap.size cs.toArray rfl rfl 115 zeroCode C.out.res C.out.info C.out.len.symm C.out.one ?_)
  refine bodyPost_ret (v := .agg cs.toArray) (results_cell_row Tryz.results191 _ _ w.heap.size 115 _ (0, 0) _ rfl (setRow_heap _ w.heap.size _ _ _ _ C.out.res) Tryz.underlying115 rfl C.out.info) rfl ?_
  refine RetCode.eq ?_ C.out.ret
  simp only [Ct.apply, Ct.ofBool, beq_iff_eq]
theorem clo_repl4 (st : Int) (th : Ct.K) (ih : CallBool th) : CallRef (.repl4 st th) := by
  intro O g w s n ff caps x h hfine hk
  obtain ⟨b0, b1, e, ⟨u, k0, kr⟩, k1⟩ := hk
  injection e with e1 e2 e3
  injection e1 with e1
  subst e1 e2 e3
  obtain ⟨fn, ff, fc, rfl⟩ := kr.func
  exact clo_repl4_w st th g w s x b0 b1 fn ff fc h (hfine.less (by simp only [Ct.K.rank]; omega)) k0 kr k1 ih
set_option maxRecDepth 100000 in
set_option maxHeartbeats 400000 in
theorem clo_decide1A_w (d : Ct.Node) (th : Ct.K) (g : Ghost) (w : World) (s : Ct.St) (x : Int) (b0 b1 : Nat) (bv pv : Value) (fn : FuncId) (ff fc : Array Value) (h : ArenaO O g w s) (hfin : Fin (1000 + 1000 * th.rank) s) (k0 : Blk g.N w b0 (nodeCells d bv pv).toArray 136) (k1 : Blk g.N w b1 #[.func (.func fn) ff fc] 153) (kr : KRep g.sv g.N O w (.func (.func fn) ff fc) th) (ih : CallThunk th) (q : (x == d.expected) = true) :
    Calls Tryz.prog 172 #[.int .i64 x, ptr b0, ptr b1] w (RetCode O g w (Ct.apply Ct.stOps (.decide1 d th) x s)) := by
  have hNW := (News.nil w).alloc (.cells zeroCode 115)
  obtain ⟨W0, hW0⟩ : ∃ W, (w.alloc (.cells zeroCode 115)) = W := ⟨_, rfl⟩
  rw [hW0] at hNW
  have z := hNW.size
  simp at z
  have hR0 := Run.start h hNW (b := w.heap.size) 0 rfl rfl
  have hM0 : Mv O g w (g.plus w.heap.size) W0 := Mv.plus hNW.below (by omega)
  have c1 := (k0).at1 11 (.int .i64 d.expected) rfl
  have c2 := (k0).at1 13 (.int .i64 d.status) rfl
  have B0 := Lib.hid (k0.mv hM0)
  have B1 := Lib.hid (k1.mv hM0)
  have KR := Lib.hid (kr.mv hM0)
  have hent := kr.enters
  unfold Ent at hent
  have R0 := Lib.hid hR0
  have M0 := Lib.hid hM0
  have HW := Lib.hid hW0
  have HZ := Lib.hid z
  have H := Lib.hid h
  have FI := Lib.hid hfin
  have hmf := hmfG
  clear h hNW hW0 z hR0 hM0 hfin k0 k1 kr
  unfold ptr
  go_enter Tryz.func172, Tryz.ntmps172
  go_wp2_with fail
  refine (with_world HW.out (taskCas_any d.status 0 1 _ _ ⟨_, _, _, rfl⟩)).mono ?_
  rintro e w3 hc
  obtain ⟨cs, rfl, hC, hMC⟩ := R0.out.made3 (c := .cas d.status 0 1 (.decide2 th)) (⟨_, rfl, ⟨_, rfl, ⟨_, B1.out, KR.out⟩⟩⟩) hc
  have C := Lib.hid hC; have MC := Lib.hid hMC
  clear hc hC hMC
  go_wp2_with (refine wpList_store_row rfl 115 (.tmp 4) (.tmp 14) rfl w.heap.size cs.toArray rfl rfl 115 zeroCode C.out.res C.out.info C.out.len.symm C.out.one ?_)
  refine bodyPost_ret (v := .agg cs.toArray) (results_cell_row Tryz.results172 _ _ w.heap.size 115 _ (0, 0) _ rfl (setRow_heap _ w.heap.size _ _ _ _ C.out.res) Tryz.underlying115 rfl C.out.info) rfl ?_
  refine RetCode.eq ?_ C.out.ret
  simp only [Ct.apply]; rw [if_pos (by simpa using q)]
set_option maxRecDepth 100000 in
set_option maxHeartbeats 400000 in
theorem clo_decide1B_w (d : Ct.Node) (th : Ct.K) (g : Ghost) (w : World) (s : Ct.St) (x : Int) (b0 b1 : Nat) (bv pv : Value) (fn : FuncId) (ff fc : Array Value) (h : ArenaO O g w s) (hfin : Fin (1000 + 1000 * th.rank) s) (k0 : Blk g.N w b0 (nodeCells d bv pv).toArray 136) (k1 : Blk g.N w b1 #[.func (.func fn) ff fc] 153) (kr : KRep g.sv g.N O w (.func (.func fn) ff fc) th) (ih : CallThunk th) (q : (x == d.expected) = false) :
    Calls Tryz.prog 172 #[.int .i64 x, ptr b0, ptr b1] w (RetCode O g w (Ct.apply Ct.stOps (.decide1 d th) x s)) := by
  have hNW := (News.nil w).alloc (.cells zeroCode 115)
  obtain ⟨W0, hW0⟩ : ∃ W, (w.alloc (.cells zeroCode 115)) = W := ⟨_, rfl⟩
  rw [hW0] at hNW
  have z := hNW.size
  simp at z
  have hR0 := Run.start h hNW (b := w.heap.size) 0 rfl rfl
  have hM0 : Mv O g w (g.plus w.heap.size) W0 := Mv.plus hNW.below (by omega)
  have c1 := (k0).at1 11 (.int .i64 d.expected) rfl
  have c2 := (k0).at1 13 (.int .i64 d.status) rfl
  have B0 := Lib.hid (k0.mv hM0)
  have B1 := Lib.hid (k1.mv hM0)
  have KR := Lib.hid (kr.mv hM0)
  have hent := kr.enters
  unfold Ent at hent
  have R0 := Lib.hid hR0
  have M0 := Lib.hid hM0
  have HW := Lib.hid hW0
  have HZ := Lib.hid z
  have H := Lib.hid h
  have FI := Lib.hid hfin
  have hmf := hmfG
  clear h hNW hW0 z hR0 hM0 hfin k0 k1 kr
  unfold ptr
  go_enter Tryz.func172, Tryz.ntmps172
  go_wp2_with fail
  refine (with_world HW.out (taskCas_any d.status 0 2 _ _ ⟨_, _, _, rfl⟩)).mono ?_
  rintro e w3 hc
  obtain ⟨cs, rfl, hC, hMC⟩ := R0.out.made3 (c := .cas d.status 0 2 (.decide2 th)) (⟨_, rfl, ⟨_, rfl, ⟨_, B1.out, KR.out⟩⟩⟩) hc
  have C := Lib.hid hC; have MC := Lib.hid hMC
  clear hc hC hMC
  go_wp2_with (refine wpList_store_row rfl 115 (.tmp 4) (.tmp 14) rfl w.heap.size cs.toArray rfl rfl 115 zeroCode C.out.res C.out.info C.out.len.symm C.out.one ?_)
  refine bodyPost_ret (v := .agg cs.toArray) (results_cell_row Tryz.results172 _ _ w.heap.size 115 _ (0, 0) _ rfl (setRow_heap _ w.heap.size _ _ _ _ C.out.res) Tryz.underlying115 rfl C.out.info) rfl ?_
  refine RetCode.eq ?_ C.out.ret
  simp only [Ct.apply]; rw [if_neg (by simpa using q)]
theorem clo_decide1 (d : Ct.Node) (th : Ct.K) (ih : CallThunk th) : CallRef (.decide1 d th) := by
  intro O g w s n ff caps x h hfine hk
  obtain ⟨b0, b1, e, ⟨bv, pv, k0⟩, ⟨u, k1, kr⟩⟩ := hk
  injection e with e1 e2 e3
  injection e1 with e1
  subst e1 e2 e3
  obtain ⟨fn, ff, fc, rfl⟩ := kr.func
  have hfin := hfine.less (m := 1000 + 1000 * th.rank) (by simp only [Ct.K.rank]; omega)
  by_cases hx : x = d.expected
  · exact clo_decide1A_w d th g w s x b0 b1 bv pv fn ff fc h hfin k0 k1 kr ih (by simp [hx])
  · exact clo_decide1B_w d th g w s x b0 b1 bv pv fn ff fc h hfin k0 k1 kr ih (by simpa using hx)
end Go.Proofs.YtjlgchdekhmnnaaGreatDoor
end
