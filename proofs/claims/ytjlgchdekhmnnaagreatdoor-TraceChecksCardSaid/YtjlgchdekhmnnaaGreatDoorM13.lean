/- Parts of a proof: S3. -/
import Derived.Test.YtjlgchdekhmnnaaGreatDoorM12
import Derived.Deep.RegionHeld3
section
namespace Go.Proofs.YtjlgchdekhmnnaaGreatDoor
open Go.RowKit
set_option linter.unusedVariables false
set_option linter.unusedVariables false
variable {O : Nat → Prop}
set_option maxRecDepth 100000 in
set_option maxHeartbeats 400000 in
theorem back_any (g : Ghost) (w : World) (s : Ct.St) (t : Ct.Trie) (i : Int) (m : Int) (p : Int) (th : Ct.K) (fn : FuncId) (ff fc : Array Value) (h : ArenaO O g w s) (hfin : Fin (300) s) (kr : KRep g.sv g.N O w (.func (.func fn) ff fc) th) :
    Calls Tryz.prog 181 #[.agg (opCells g.sv t), .int .i64 i, .int .i64 m, .int .i64 p, .func (.func fn) ff fc] w (RetCode O g w (Ct.backC Ct.stOps i m p th s)) := by
  have hNW := ((((News.nil w).alloc (.cells (opCells g.sv t) 181)).alloc (.cells #[.func (.func fn) ff fc] 112)).alloc (.cells zeroCode 115))
  obtain ⟨W0, hW0⟩ : ∃ W, (((w.alloc (.cells (opCells g.sv t) 181)).alloc (.cells #[.func (.func fn) ff fc] 112)).alloc (.cells zeroCode 115)) = W := ⟨_, rfl⟩
  rw [hW0] at hNW
  have z := hNW.size
  simp at z
  have hR0 := Run.start h hNW (b := w.heap.size + 2) 2 rfl rfl
  have hM0 : Mv O g w (g.plus (w.heap.size + 2)) W0 := Mv.plus hNW.below (by omega)
  have B0 := Lib.hid (blk_plus h.toArenaAt (b := w.heap.size) (c := w.heap.size + 2) (by omega) (by omega) (hNW.at_ 0 _ rfl))
  have B1 := Lib.hid (blk_plus h.toArenaAt (b := w.heap.size + 1) (c := w.heap.size + 2) (by omega) (by omega) (hNW.at_ 1 _ rfl))
  have KR := Lib.hid (kr.mv hM0)
  have hent := kr.enters
  unfold Ent at hent
  have R0 := Lib.hid hR0
  have M0 := Lib.hid hM0
  have HW := Lib.hid hW0
  have HZ := Lib.hid z
  have H := Lib.hid h
  have FI := Lib.hid hfin
  have hmf := hmfG
  have hmNode := meth_Node; have hnNode := nil_Node
  clear h hNW hW0 z hR0 hM0 hfin kr
  unfold opCells Ghost.sv
  go_enter Tryz.func181, Tryz.ntmps181
  go_wp2_with fail
  refine (with_world HW.out (R0.out.node FI.out (by omega) p)).mono ?_
  rintro e w1 ⟨n1, bv1, pv1, rfl, E1, hR, hM, hr, hp⟩
  have R1 := Lib.hid hR; have M1 := Lib.hid hM; have HR1 := Lib.hid hr; have HP1 := Lib.hid hp; clear hR hM hr hp
  have B0' := Lib.hid (B0.out.mv (M1.out))
  have B1' := Lib.hid (B1.out.mv (M1.out))
  have KR' := Lib.hid (KR.out.mv (M1.out))
  clear KR
  have KR := KR'
  clear KR'
  clear B0 B1
  have f2 := field_old n1 bv1 pv1
  go_wp2_with fail
  obtain ⟨W3, hW3⟩ : ∃ W, (w1.alloc (.cells #[.int .i64 n1.old] 40)) = W := ⟨_, rfl⟩
  refine code_world hW3 ?_
  have M3 : Hid (Mv O (g.plus (w.heap.size + 2)) w1 (g.plus (w.heap.size + 2)) W3) := hW3 ▸ (Mv.alloc (g.plus (w.heap.size + 2)) _ _)
  have R3 : Hid (Run O g w (w.heap.size + 2) (g.plus (w.heap.size + 2)) W3 s) := hW3 ▸ (R1.out.alloc _)
  have B0'' := Lib.hid (B0'.out.mv M3.out)
  have B1'' := Lib.hid (B1'.out.mv M3.out)
  have B3 : Hid (Blk (g.plus (w.heap.size + 2)).N W3 w1.heap.size #[.int .i64 n1.old] 40) := hW3 ▸ ((R1.out).blk _ _)
  have KR' := Lib.hid (KR.out.mv M3.out); clear KR; have KR := KR'; clear KR'
  clear B0' B1'
  have HWW3 := Lib.hid hW3; clear hW3
  refine wp_region_held_drew (S := fun W' => W'.cell? ⟨w.heap.size, 0, none⟩ = some (.iface 23 (.pointer (some ⟨g.a, 0, none⟩))) ∧ W'.cell? ⟨w1.heap.size, 0, none⟩ = some (.int .i64 n1.old) ∧ True) (by kernel_rfl) ⟨(B0''.out).at0 0 _ rfl, (B3.out).at0 0 _ rfl, trivial⟩ (fun hS => ?_)
  have R4d := Lib.hid (R3.out.drew)
  refine wpAnyH_take (i := 0) (oi := { dst := (some 17), op := (Op.fieldAddr 181 (Operand.tmp 5) 0), type := 0, pos := "gcas.go:94", after := #[], guard := none }) (v := .pointer (some ⟨w.heap.size, 0, none⟩)) rfl (by kernel_rfl) (by kernel_rfl) (by kernel_rfl) (fun _ _ _ h => h) (Or.inl ⟨by rfl, fun W' hW => ?_⟩) hS ?_
  · go_simp
  try simp only [Act.put, sI, sZ, sS]
  refine wpAnyH_take (i := 1) (oi := { dst := (some 18), op := (Op.load 95 (Operand.tmp 17)), type := 95, pos := "gcas.go:94", after := #[⟨0, .data⟩], guard := none }) (v := .iface 23 (.pointer (some ⟨g.a, 0, none⟩))) rfl (by kernel_rfl) (by kernel_rfl) (by kernel_rfl) (fun _ _ _ h => h) (Or.inl ⟨by rfl, fun W' hW => ?_⟩) hS ?_
  · go_simp
  try simp only [Act.put, sI, sZ, sS]
  refine wpAnyH_take (i := 2) (oi := { dst := (some 19), op := (Op.move (Operand.tmp 1)), type := 40, pos := "gcas.go:94", after := #[], guard := none }) (v := .int .i64 i) rfl (by kernel_rfl) (by kernel_rfl) (by kernel_rfl) (fun _ _ _ h => h) (Or.inl ⟨by rfl, fun W' hW => ?_⟩) hS ?_
  · go_simp
  try simp only [Act.put, sI, sZ, sS]
  refine wpAnyH_take (i := 5) (oi := { dst := (some 22), op := (Op.move (Operand.tmp 2)), type := 40, pos := "gcas.go:94", after := #[], guard := none }) (v := .int .i64 m) rfl (by kernel_rfl) (by kernel_rfl) (by kernel_rfl) (fun _ _ _ h => h) (Or.inl ⟨by rfl, fun W' hW => ?_⟩) hS ?_
  · go_simp
  try simp only [Act.put, sI, sZ, sS]
  refine wpAnyH_take (i := 6) (oi := { dst := (some 23), op := (Op.load 40 (Operand.tmp 11)), type := 40, pos := "gcas.go:94", after := #[], guard := none }) (v := .int .i64 n1.old) rfl (by kernel_rfl) (by kernel_rfl) (by kernel_rfl) (fun _ _ _ h => h) (Or.inl ⟨by rfl, fun W' hW => ?_⟩) hS ?_
  · go_simp
  try simp only [Act.put, sI, sZ, sS]
  refine wpAnyH_take (i := 7) (oi := { dst := (some 24), op := (Op.makeFunc (Fn.func 211) #[] #[(Operand.tmp 9), (Operand.tmp 11)]), type := 113, pos := "gcas.go:94", after := #[], guard := none }) (v := .func (.func 211) #[] #[.pointer (some ⟨w.heap.size + 1, 0, none⟩), .pointer (some ⟨w1.heap.size, 0, none⟩)]) rfl (by kernel_rfl) (by kernel_rfl) (by kernel_rfl) (fun _ _ _ h => h) (Or.inl ⟨by rfl, fun W' hW => ?_⟩) hS ?_
  · go_simp
  try simp only [Act.put, sI, sZ, sS]
  refine wpAnyH_ready (rs := [3]) (by kernel_rfl) (by simp) ?_
  refine AllReadyH.cons (o := { dst := (some 20), op := (Op.call { callee := (Callee.invoke (Operand.tmp 18) "Node"), args := #[(Operand.tmp 19)], argTypes := #[40] }), type := 136, pos := "gcas.go:94", after := #[⟨1, .data⟩, ⟨2, .data⟩], guard := none }) rfl (fun K hK => ?_) AllReadyH.nil
  go_simp
  refine ((R4d.out.node FI.out (by omega) i)).mono ?_
  rintro e w5 ⟨n5, bv5, pv5, rfl, E5, hR, hM, hr, hp⟩
  have R5 := Lib.hid hR; have M5 := Lib.hid hM; have HR5 := Lib.hid hr; have HP5 := Lib.hid hp; clear hR hM hr hp
  have B0''' := Lib.hid (B0''.out.mv ((Mv.drew (O := O) _ _).trans (M5.out)))
  have B1''' := Lib.hid (B1''.out.mv ((Mv.drew (O := O) _ _).trans (M5.out)))
  have B3' := Lib.hid (B3.out.mv ((Mv.drew (O := O) _ _).trans (M5.out)))
  have KR' := Lib.hid (KR.out.mv ((Mv.drew (O := O) _ _).trans (M5.out)))
  clear KR
  have KR := KR'
  clear KR'
  clear B0'' B1'' B3
  have f5_0 := field_kind n5 bv5 pv5
  have f5_1 := field_gen n5 bv5 pv5
  have f5_2 := field_main n5 bv5 pv5
  have f5_9 := field_prev n5 bv5 pv5
  have f5_10 := field_old n5 bv5 pv5
  have f5_11 := field_expected n5 bv5 pv5
  have f5_12 := field_new n5 bv5 pv5
  have f5_13 := field_status n5 bv5 pv5
  refine hK.out _ _ ⟨(B0'''.out).at0 0 _ rfl, (B3'.out).at0 0 _ rfl, trivial⟩ (fun hS => ?_)
  clear hK K
  try simp only [Act.put, sI, sZ, sS]
  refine wpAnyH_take (i := 4) (oi := { dst := (some 21), op := (Op.field 136 (Operand.tmp 20) 2), type := 41, pos := "gcas.go:94", after := #[⟨3, .data⟩], guard := none }) (v := .int .i64 n5.main) rfl (by kernel_rfl) (by kernel_rfl) (by kernel_rfl) (fun _ _ _ h => h) (Or.inl ⟨by rfl, fun W' hW => ?_⟩) hS ?_
  · go_simp
  try simp only [Act.put, sI, sZ, sS]
  refine wpAnyH_ready (rs := [8]) (by kernel_rfl) (by simp) ?_
  refine AllReadyH.cons (o := { dst := (some 25), op := (Op.call { callee := (Callee.value (Operand.func 170)), args := #[(Operand.tmp 21), (Operand.tmp 22), (Operand.tmp 23), (Operand.tmp 24)], argTypes := #[41, 40, 40, 113] }), type := 115, pos := "gcas.go:94", after := #[⟨4, .data⟩, ⟨5, .data⟩, ⟨6, .data⟩, ⟨7, .data⟩, ⟨3, .chain⟩], guard := none }) rfl (fun K hK => ?_) AllReadyH.nil
  go_simp
  refine ((taskCas_any n5.main m n1.old _ _ ⟨_, _, _, rfl⟩)).mono ?_
  rintro e w6 hc
  obtain ⟨cs, rfl, hC, hMC⟩ := R5.out.made3 (c := .cas n5.main m n1.old (.back1 n1.old th)) (⟨_, rfl, ⟨_, _, rfl, ⟨_, B1'''.out, KR.out⟩, B3'.out⟩⟩) hc
  have C := Lib.hid hC; have MC := Lib.hid hMC
  clear hc hC hMC
  refine hK.out _ _ ⟨(B0'''.out.mv MC.out).at0 0 _ rfl, (B3'.out.mv MC.out).at0 0 _ rfl, trivial⟩ (fun hS => ?_)
  clear hK K
  try simp only [Act.put, sI, sZ, sS]
  refine wpAnyH_ready (rs := [9]) (by kernel_rfl) (by simp) ?_
  refine AllReadyH.cons (o := { dst := none, op := (Op.store 115 (Operand.tmp 10) (Operand.tmp 25)), type := 0, pos := "gcas.go:94", after := #[⟨8, .data⟩, ⟨8, .chain⟩, ⟨0, .phase⟩, ⟨1, .phase⟩, ⟨2, .phase⟩, ⟨3, .phase⟩, ⟨4, .phase⟩, ⟨5, .phase⟩, ⟨6, .phase⟩, ⟨7, .phase⟩, ⟨8, .phase⟩], guard := none }) rfl (fun K hK => ?_) AllReadyH.nil
  rw [if_pos (by rfl)]
  refine wp_store_row 115 (.tmp 10) (.tmp 25) rfl (w.heap.size + 2) cs.toArray rfl rfl 115 zeroCode C.out.res C.out.info C.out.len.symm C.out.one ?_
  refine hK.out _ _ ⟨C.out.cell (B0'''.out.mv MC.out) 0 _ rfl, C.out.cell (B3'.out.mv MC.out) 0 _ rfl, trivial⟩ (fun hS => ?_)
  clear hK K
  refine wpAnyH_done (by kernel_rfl) ?_ _
  go_wp2_with fail
  refine bodyPost_ret (v := .agg cs.toArray) (results_cell_row Tryz.results181 _ _ (w.heap.size + 2) 115 _ (0, 0) _ rfl (setRow_heap _ (w.heap.size + 2) _ _ _ _ C.out.res) Tryz.underlying115 rfl C.out.info) rfl ?_
  refine RetCode.eq ?_ C.out.ret
  simp only [Ct.backC, Ct.stOps, E1.out, E5.out]
end Go.Proofs.YtjlgchdekhmnnaaGreatDoor
end
