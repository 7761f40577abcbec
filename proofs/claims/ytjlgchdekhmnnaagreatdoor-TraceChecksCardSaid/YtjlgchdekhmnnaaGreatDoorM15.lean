/- Parts of a proof: S5. -/
import Derived.Test.YtjlgchdekhmnnaaGreatDoorM14
section
namespace Go.Proofs.YtjlgchdekhmnnaaGreatDoor
open Go.RowKit
set_option linter.unusedVariables false
set_option linter.unusedVariables false
variable {O : Nat → Prop}
theorem nil_NewGen (a : Addr) (w : World) : (nilAhead 419 23 (.pointer (some a)) "NewGen").run Tryz.prog w = .ok (some false) w := by kernel_rfl
set_option maxRecDepth 100000 in
set_option maxHeartbeats 400000 in
theorem clo_clr0_w (t : Ct.Trie) (g : Ghost) (w : World) (s : Ct.St)  (b0 : Nat) (h : ArenaO O g w s) (hfin : Fin (1000) s) (k0 : Blk g.N w b0 (opCells g.sv t) 181) :
    Calls Tryz.prog 124 #[ptr b0] w (RetCode O g w (Ct.apply Ct.stOps (.clr0 t) 0 s)) := by
  have hNW := (News.nil w).alloc (.cells zeroCode 115)
  obtain ⟨W0, hW0⟩ : ∃ W, (w.alloc (.cells zeroCode 115)) = W := ⟨_, rfl⟩
  rw [hW0] at hNW
  have z := hNW.size
  simp at z
  have hR0 := Run.start h hNW (b := w.heap.size) 0 rfl rfl
  have hM0 : Mv O g w (g.plus w.heap.size) W0 := Mv.plus hNW.below (by omega)
  have c1 := (k0).at1 0 (.iface 23 (.pointer (some ⟨g.a, 0, none⟩))) rfl
  have c2 := (k0).at1 1 (.int .i64 t.root) rfl
  have c3 := (k0).at1 2 (.bool t.readOnly) rfl
  have B0 := Lib.hid (k0.mv hM0)
  have R0 := Lib.hid hR0
  have M0 := Lib.hid hM0
  have HW := Lib.hid hW0
  have HZ := Lib.hid z
  have H := Lib.hid h
  have FI := Lib.hid hfin
  have hmf := hmfG
  clear h hNW hW0 z hR0 hM0 hfin k0
  unfold ptr
  go_enter Tryz.func124, Tryz.ntmps124
  go_wp2_with fail
  refine (with_world HW.out (cleared_any (g.plus w.heap.size) _ _ t R0.out.arena (FI.out.less (by omega)))).mono ?_
  rintro e w4 hc
  obtain ⟨cs, h4, rfl, hC, hMC⟩ := R0.out.code2 hc
  have C := Lib.hid hC; have MC := Lib.hid hMC
  clear hc hC hMC
  go_wp2_with (refine wpList_store_row rfl 115 (.tmp 1) (.tmp 3) rfl w.heap.size cs.toArray rfl rfl 115 zeroCode C.out.res C.out.info C.out.len.symm C.out.one ?_)
  refine bodyPost_ret (v := .agg cs.toArray) (results_cell_row Tryz.results124 _ _ w.heap.size 115 _ (0, 0) _ rfl (setRow_heap _ w.heap.size _ _ _ _ C.out.res) Tryz.underlying115 rfl C.out.info) rfl ?_
  refine RetCode.eq ?_ C.out.ret
  rfl
theorem clo_clr0 (t : Ct.Trie)  : CallThunk (.clr0 t) := by
  intro O g w s n ff caps h hfine hk
  obtain ⟨b0, e, k0⟩ := hk
  injection e with e1 e2 e3
  injection e1 with e1
  subst e1 e2 e3
  exact clo_clr0_w t g w s b0 h (hfine.less (by simp only [Ct.K.rank]; omega)) k0
set_option maxRecDepth 100000 in
set_option maxHeartbeats 400000 in
theorem clo_clr1_w (t : Ct.Trie) (g : Ghost) (w : World) (s : Ct.St) (x : Int) (b0 : Nat) (h : ArenaO O g w s) (hfin : Fin (1000) s) (k0 : Blk g.N w b0 (opCells g.sv t) 181) :
    Calls Tryz.prog 158 #[.int .i64 x, ptr b0] w (RetCode O g w (Ct.apply Ct.stOps (.clr1 t) x s)) := by
  have hNW := (((News.nil w).alloc (.cells #[.int .i64 x] 40)).alloc (.cells zeroCode 115))
  obtain ⟨W0, hW0⟩ : ∃ W, ((w.alloc (.cells #[.int .i64 x] 40)).alloc (.cells zeroCode 115)) = W := ⟨_, rfl⟩
  rw [hW0] at hNW
  have z := hNW.size
  simp at z
  have hR0 := Run.start h hNW (b := w.heap.size + 1) 1 rfl rfl
  have hM0 : Mv O g w (g.plus (w.heap.size + 1)) W0 := Mv.plus hNW.below (by omega)
  have c1 := (k0).at2 0 (.iface 23 (.pointer (some ⟨g.a, 0, none⟩))) rfl
  have c2 := (k0).at2 1 (.int .i64 t.root) rfl
  have c3 := (k0).at2 2 (.bool t.readOnly) rfl
  have B1 := Lib.hid (blk_plus h.toArenaAt (b := w.heap.size) (c := w.heap.size + 1) (by omega) (by omega) (hNW.at_ 0 _ rfl))
  have B0 := Lib.hid (k0.mv hM0)
  have R0 := Lib.hid hR0
  have M0 := Lib.hid hM0
  have HW := Lib.hid hW0
  have HZ := Lib.hid z
  have H := Lib.hid h
  have FI := Lib.hid hfin
  have hmf := hmfG
  clear h hNW hW0 z hR0 hM0 hfin k0
  unfold ptr
  go_enter Tryz.func158, Tryz.ntmps158
  go_wp2_with fail
  refine (with_world HW.out (read_any (g.plus (w.heap.size + 1)) _ _ t x (.clr2 t x) _ R0.out.arena (FI.out.Room (by omega)) FI.out.short (⟨_, _, rfl, B0.out, B1.out⟩))).mono ?_
  rintro e w4 hc
  obtain ⟨cs, h4, rfl, hC, hMC⟩ := R0.out.code2 hc
  have C := Lib.hid hC; have MC := Lib.hid hMC
  clear hc hC hMC
  go_wp2_with (refine wpList_store_row rfl 115 (.tmp 3) (.tmp 7) rfl (w.heap.size + 1) cs.toArray rfl rfl 115 zeroCode C.out.res C.out.info C.out.len.symm C.out.one ?_)
  refine bodyPost_ret (v := .agg cs.toArray) (results_cell_row Tryz.results158 _ _ (w.heap.size + 1) 115 _ (0, 0) _ rfl (setRow_heap _ (w.heap.size + 1) _ _ _ _ C.out.res) Tryz.underlying115 rfl C.out.info) rfl ?_
  refine RetCode.eq ?_ C.out.ret
  rfl
theorem clo_clr1 (t : Ct.Trie)  : CallRef (.clr1 t) := by
  intro O g w s n ff caps x h hfine hk
  obtain ⟨b0, e, k0⟩ := hk
  injection e with e1 e2 e3
  injection e1 with e1
  subst e1 e2 e3
  exact clo_clr1_w t g w s x b0 h (hfine.less (by simp only [Ct.K.rank]; omega)) k0
set_option maxRecDepth 100000 in
set_option maxHeartbeats 400000 in
theorem clo_snapR2_w  (g : Ghost) (w : World) (s : Ct.St) (x : Int) (b0 : Nat) (h : ArenaO O g w s) (hfin : Fin (1000) s) (k0 : Blk g.N w b0 #[g.sv] 95) :
    Calls Tryz.prog 116 #[.int .i64 x, ptr b0] w (RetCode O g w (Ct.apply Ct.stOps (.snapR2 ) x s)) := by
  have hNW := (News.nil w).alloc (.cells zeroCode 115)
  obtain ⟨W0, hW0⟩ : ∃ W, (w.alloc (.cells zeroCode 115)) = W := ⟨_, rfl⟩
  rw [hW0] at hNW
  have z := hNW.size
  simp at z
  have hR0 := Run.start h hNW (b := w.heap.size) 0 rfl rfl
  have hM0 : Mv O g w (g.plus w.heap.size) W0 := Mv.plus hNW.below (by omega)
  have c1 := (k0).at1 0 (.iface 23 (.pointer (some ⟨g.a, 0, none⟩))) rfl
  have B0 := Lib.hid (k0.mv hM0)
  have R0 := Lib.hid hR0
  have M0 := Lib.hid hM0
  have HW := Lib.hid hW0
  have HZ := Lib.hid z
  have H := Lib.hid h
  have FI := Lib.hid hfin
  have hmf := hmfG
  clear h hNW hW0 z hR0 hM0 hfin k0
  unfold ptr
  go_enter Tryz.func116, Tryz.ntmps116
  go_wp2_with fail
  refine (with_world HW.out (copied_any (g.plus w.heap.size) _ _ x R0.out.arena (FI.out.less (by omega)))).mono ?_
  rintro e w2 hc
  obtain ⟨cs, h2, rfl, hC, hMC⟩ := R0.out.code2 hc
  have C := Lib.hid hC; have MC := Lib.hid hMC
  clear hc hC hMC
  go_wp2_with (refine wpList_store_row rfl 115 (.tmp 3) (.tmp 6) rfl w.heap.size cs.toArray rfl rfl 115 zeroCode C.out.res C.out.info C.out.len.symm C.out.one ?_)
  refine bodyPost_ret (v := .agg cs.toArray) (results_cell_row Tryz.results116 _ _ w.heap.size 115 _ (0, 0) _ rfl (setRow_heap _ w.heap.size _ _ _ _ C.out.res) Tryz.underlying115 rfl C.out.info) rfl ?_
  refine RetCode.eq ?_ C.out.ret
  rfl
theorem clo_snapR2   : CallRef (.snapR2 ) := by
  intro O g w s n ff caps x h hfine hk
  obtain ⟨b0, e, k0⟩ := hk
  injection e with e1 e2 e3
  injection e1 with e1
  subst e1 e2 e3
  exact clo_snapR2_w  g w s x b0 h (hfine.less (by simp only [Ct.K.rank]; omega)) k0
set_option maxRecDepth 100000 in
set_option maxHeartbeats 400000 in
theorem clo_snapP_w  (g : Ghost) (w : World) (s : Ct.St) (x y : Int) (b0 : Nat) (h : ArenaO O g w s) (hfin : Fin (500) s) (k0 : Blk g.N w b0 #[g.sv] 95) :
    Calls Tryz.prog 119 #[.int .i64 x, .int .i64 y, ptr b0] w (RetCode O g w (Ct.apply2 Ct.stOps (.snapP ) x y s)) := by
  have hNW := (News.nil w).alloc (.cells zeroCode 115)
  obtain ⟨W0, hW0⟩ : ∃ W, (w.alloc (.cells zeroCode 115)) = W := ⟨_, rfl⟩
  rw [hW0] at hNW
  have z := hNW.size
  simp at z
  have hR0 := Run.start h hNW (b := w.heap.size) 0 rfl rfl
  have hM0 : Mv O g w (g.plus w.heap.size) W0 := Mv.plus hNW.below (by omega)
  have c1 := (k0).at1 0 (.iface 23 (.pointer (some ⟨g.a, 0, none⟩))) rfl
  have B0 := Lib.hid (k0.mv hM0)
  have R0 := Lib.hid hR0
  have M0 := Lib.hid hM0
  have HW := Lib.hid hW0
  have HZ := Lib.hid z
  have H := Lib.hid h
  have FI := Lib.hid hfin
  have hmf := hmfG
  clear h hNW hW0 z hR0 hM0 hfin k0
  unfold ptr
  go_enter Tryz.func119, Tryz.ntmps119
  go_wp2_with fail
  refine (with_world HW.out (copied_any (g.plus w.heap.size) _ _ y R0.out.arena (FI.out.less (by omega)))).mono ?_
  rintro e w2 hc
  obtain ⟨cs, h2, rfl, hC, hMC⟩ := R0.out.code2 hc
  have C := Lib.hid hC; have MC := Lib.hid hMC
  clear hc hC hMC
  go_wp2_with (refine wpList_store_row rfl 115 (.tmp 5) (.tmp 8) rfl w.heap.size cs.toArray rfl rfl 115 zeroCode C.out.res C.out.info C.out.len.symm C.out.one ?_)
  refine bodyPost_ret (v := .agg cs.toArray) (results_cell_row Tryz.results119 _ _ w.heap.size 115 _ (0, 0) _ rfl (setRow_heap _ w.heap.size _ _ _ _ C.out.res) Tryz.underlying115 rfl C.out.info) rfl ?_
  refine RetCode.eq ?_ C.out.ret
  rfl
theorem clo_snapP   : CallRef2 (.snapP ) := by
  intro O g w s n ff caps x y h hfine hk
  obtain ⟨b0, e, k0⟩ := hk
  injection e with e1 e2 e3
  injection e1 with e1
  subst e1 e2 e3
  exact clo_snapP_w  g w s x y b0 h (hfine.less (by omega)) k0
set_option maxRecDepth 100000 in
set_option maxHeartbeats 400000 in
theorem clo_frzR1_w  (g : Ghost) (w : World) (s : Ct.St) (x : Int) (b0 : Nat) (h : ArenaO O g w s) (hfin : Fin (1000) s) (k0 : Blk g.N w b0 #[g.sv] 95) :
    Calls Tryz.prog 121 #[.int .i64 x, ptr b0] w (RetCode O g w (Ct.apply Ct.stOps (.frzR1 ) x s)) := by
  have hNW := (News.nil w).alloc (.cells zeroCode 115)
  obtain ⟨W0, hW0⟩ : ∃ W, (w.alloc (.cells zeroCode 115)) = W := ⟨_, rfl⟩
  rw [hW0] at hNW
  have z := hNW.size
  simp at z
  have hR0 := Run.start h hNW (b := w.heap.size) 0 rfl rfl
  have hM0 : Mv O g w (g.plus w.heap.size) W0 := Mv.plus hNW.below (by omega)
  have c1 := (k0).at1 0 (.iface 23 (.pointer (some ⟨g.a, 0, none⟩))) rfl
  have B0 := Lib.hid (k0.mv hM0)
  have R0 := Lib.hid hR0
  have M0 := Lib.hid hM0
  have HW := Lib.hid hW0
  have HZ := Lib.hid z
  have H := Lib.hid h
  have FI := Lib.hid hfin
  have hmf := hmfG
  clear h hNW hW0 z hR0 hM0 hfin k0
  unfold ptr
  go_enter Tryz.func121, Tryz.ntmps121
  go_wp2_with fail
  refine (with_world HW.out (frozen_any (g.plus w.heap.size) _ _ x R0.out.arena (FI.out.less (by omega)))).mono ?_
  rintro e w2 hc
  obtain ⟨cs, h2, rfl, hC, hMC⟩ := R0.out.code2 hc
  have C := Lib.hid hC; have MC := Lib.hid hMC
  clear hc hC hMC
  go_wp2_with (refine wpList_store_row rfl 115 (.tmp 3) (.tmp 6) rfl w.heap.size cs.toArray rfl rfl 115 zeroCode C.out.res C.out.info C.out.len.symm C.out.one ?_)
  refine bodyPost_ret (v := .agg cs.toArray) (results_cell_row Tryz.results121 _ _ w.heap.size 115 _ (0, 0) _ rfl (setRow_heap _ w.heap.size _ _ _ _ C.out.res) Tryz.underlying115 rfl C.out.info) rfl ?_
  refine RetCode.eq ?_ C.out.ret
  rfl
theorem clo_frzR1   : CallRef (.frzR1 ) := by
  intro O g w s n ff caps x h hfine hk
  obtain ⟨b0, e, k0⟩ := hk
  injection e with e1 e2 e3
  injection e1 with e1
  subst e1 e2 e3
  exact clo_frzR1_w  g w s x b0 h (hfine.less (by simp only [Ct.K.rank]; omega)) k0
set_option maxRecDepth 100000 in
set_option maxHeartbeats 400000 in
theorem clo_frzP_w  (g : Ghost) (w : World) (s : Ct.St) (x y : Int) (b0 : Nat) (h : ArenaO O g w s) (hfin : Fin (500) s) (k0 : Blk g.N w b0 #[g.sv] 95) :
    Calls Tryz.prog 123 #[.int .i64 x, .int .i64 y, ptr b0] w (RetCode O g w (Ct.apply2 Ct.stOps (.frzP ) x y s)) := by
  have hNW := (News.nil w).alloc (.cells zeroCode 115)
  obtain ⟨W0, hW0⟩ : ∃ W, (w.alloc (.cells zeroCode 115)) = W := ⟨_, rfl⟩
  rw [hW0] at hNW
  have z := hNW.size
  simp at z
  have hR0 := Run.start h hNW (b := w.heap.size) 0 rfl rfl
  have hM0 : Mv O g w (g.plus w.heap.size) W0 := Mv.plus hNW.below (by omega)
  have c1 := (k0).at1 0 (.iface 23 (.pointer (some ⟨g.a, 0, none⟩))) rfl
  have B0 := Lib.hid (k0.mv hM0)
  have R0 := Lib.hid hR0
  have M0 := Lib.hid hM0
  have HW := Lib.hid hW0
  have HZ := Lib.hid z
  have H := Lib.hid h
  have FI := Lib.hid hfin
  have hmf := hmfG
  clear h hNW hW0 z hR0 hM0 hfin k0
  unfold ptr
  go_enter Tryz.func123, Tryz.ntmps123
  go_wp2_with fail
  refine (with_world HW.out (frozen_any (g.plus w.heap.size) _ _ x R0.out.arena (FI.out.less (by omega)))).mono ?_
  rintro e w2 hc
  obtain ⟨cs, h2, rfl, hC, hMC⟩ := R0.out.code2 hc
  have C := Lib.hid hC; have MC := Lib.hid hMC
  clear hc hC hMC
  go_wp2_with (refine wpList_store_row rfl 115 (.tmp 5) (.tmp 8) rfl w.heap.size cs.toArray rfl rfl 115 zeroCode C.out.res C.out.info C.out.len.symm C.out.one ?_)
  refine bodyPost_ret (v := .agg cs.toArray) (results_cell_row Tryz.results123 _ _ w.heap.size 115 _ (0, 0) _ rfl (setRow_heap _ w.heap.size _ _ _ _ C.out.res) Tryz.underlying115 rfl C.out.info) rfl ?_
  refine RetCode.eq ?_ C.out.ret
  rfl
theorem clo_frzP   : CallRef2 (.frzP ) := by
  intro O g w s n ff caps x y h hfine hk
  obtain ⟨b0, e, k0⟩ := hk
  injection e with e1 e2 e3
  injection e1 with e1
  subst e1 e2 e3
  exact clo_frzP_w  g w s x y b0 h (hfine.less (by omega)) k0
set_option maxRecDepth 100000 in
set_option maxHeartbeats 400000 in
theorem clo_clr2_w (t : Ct.Trie) (r : Int) (g : Ghost) (w : World) (s : Ct.St) (x : Int) (b0 b1 : Nat) (h : ArenaO O g w s) (hfin : Fin (1000) s) (k0 : Blk g.N w b0 (opCells g.sv t) 181) (k1 : Blk g.N w b1 #[.int .i64 r] 40) :
    Calls Tryz.prog 159 #[.int .i64 x, ptr b0, ptr b1] w (RetCode O g w (Ct.apply Ct.stOps (.clr2 t r) x s)) := by
  have hNW := (News.nil w).alloc (.cells zeroCode 115)
  obtain ⟨W0, hW0⟩ : ∃ W, (w.alloc (.cells zeroCode 115)) = W := ⟨_, rfl⟩
  rw [hW0] at hNW
  have z := hNW.size
  simp at z
  have hR0 := Run.start h hNW (b := w.heap.size) 0 rfl rfl
  have hM0 : Mv O g w (g.plus w.heap.size) W0 := Mv.plus hNW.below (by omega)
  have B0 := Lib.hid (k0.mv hM0)
  have B1 := Lib.hid (k1.mv hM0)
  have R0 := Lib.hid hR0
  have M0 := Lib.hid hM0
  have HW := Lib.hid hW0
  have HZ := Lib.hid z
  have H := Lib.hid h
  have FI := Lib.hid hfin
  have hmf := hmfG
  have hmAlloc := meth_Alloc; have hnAlloc := nil_Alloc
  have hmNewGen := meth_NewGen; have hnNewGen := nil_NewGen
  clear h hNW hW0 z hR0 hM0 hfin k0 k1
  unfold ptr
  go_enter Tryz.func159, Tryz.ntmps159
  go_wp2_with fail
  refine code_world HW.out ?_
  refine wp_region_held_drew (S := fun W' => W'.cell? ⟨b0, 0, none⟩ = some (.iface 23 (.pointer (some ⟨g.a, 0, none⟩))) ∧ True) (by kernel_rfl) ⟨(B0.out).at0 0 _ rfl, trivial⟩ (fun hS => ?_)
  have R1d := Lib.hid (R0.out.drew)
  refine wpAnyH_take (i := 0) (oi := { dst := (some 8), op := (Op.fieldAddr 181 (Operand.tmp 1) 0), type := 0, pos := "wipe.go:23", after := #[], guard := none }) (v := .pointer (some ⟨b0, 0, none⟩)) rfl (by kernel_rfl) (by kernel_rfl) (by kernel_rfl) (fun _ _ _ h => h) (Or.inl ⟨by rfl, fun W' hW => ?_⟩) hS ?_
  · go_simp
  try simp only [Act.put, sI, sZ, sS]
  refine wpAnyH_take (i := 1) (oi := { dst := (some 9), op := (Op.load 95 (Operand.tmp 8)), type := 95, pos := "wipe.go:23", after := #[⟨0, .data⟩], guard := none }) (v := .iface 23 (.pointer (some ⟨g.a, 0, none⟩))) rfl (by kernel_rfl) (by kernel_rfl) (by kernel_rfl) (fun _ _ _ h => h) (Or.inl ⟨by rfl, fun W' hW => ?_⟩) hS ?_
  · go_simp
  try simp only [Act.put, sI, sZ, sS]
  refine wpAnyH_take (i := 3) (oi := { dst := (some 11), op := (Op.nilCheck (Operand.tmp 9)), type := 95, pos := "wipe.go:23", after := #[⟨1, .data⟩], guard := none }) (v := .iface 23 (.pointer (some ⟨g.a, 0, none⟩))) rfl (by kernel_rfl) (by kernel_rfl) (by kernel_rfl) (fun _ _ _ h => h) (Or.inl ⟨by rfl, fun W' hW => ?_⟩) hS ?_
  · go_simp
  try simp only [Act.put, sI, sZ, sS]
  refine wpAnyH_take (i := 4) (oi := { dst := (some 12), op := (Op.move (Operand.tmp 9)), type := 95, pos := "wipe.go:23", after := #[⟨1, .data⟩, ⟨3, .data⟩], guard := none }) (v := .iface 23 (.pointer (some ⟨g.a, 0, none⟩))) rfl (by kernel_rfl) (by kernel_rfl) (by kernel_rfl) (fun _ _ _ h => h) (Or.inl ⟨by rfl, fun W' hW => ?_⟩) hS ?_
  · go_simp
  try simp only [Act.put, sI, sZ, sS]
  refine wpAnyH_ready (rs := [2]) (by kernel_rfl) (by simp) ?_
  refine AllReadyH.cons (o := { dst := (some 10), op := (Op.call { callee := (Callee.value (Operand.func 99)), args := #[], argTypes := #[] }), type := 136, pos := "wipe.go:23", after := #[], guard := none }) rfl (fun K hK => ?_) AllReadyH.nil
  go_simp
  refine ((mkEmpty _)).mono ?_
  rintro e w2 ⟨csn, rfl, ⟨bv2, pv2, rfl, hr1, hp1⟩, hb⟩
  have R2 := Lib.hid (R1d.out.below hb); have M2 : Hid (Mv O (g.plus w.heap.size) _ (g.plus w.heap.size) w2) := Mv.below hb
  have HR2 : Hid (RefsAt (g.plus w.heap.size).N w2 bv2 []) := hr1.avoid (fun k _ hk => R1d.out.arena.nlt k hk)
  have HP2 : Hid (PairsAt (g.plus w.heap.size).N w2 pv2 []) := hp1.avoid (fun k _ hk => R1d.out.arena.nlt k hk)
  clear hb hr1 hp1
  have B0' := Lib.hid (B0.out.mv ((Mv.drew (O := O) _ _).trans (M2.out)))
  have B1' := Lib.hid (B1.out.mv ((Mv.drew (O := O) _ _).trans (M2.out)))
  clear B0 B1
  refine hK.out _ _ ⟨(B0'.out).at0 0 _ rfl, trivial⟩ (fun hS => ?_)
  clear hK K
  try simp only [Act.put, sI, sZ, sS]
  refine wpAnyH_ready (rs := [5]) (by kernel_rfl) (by simp) ?_
  refine AllReadyH.cons (o := { dst := (some 13), op := (Op.call { callee := (Callee.invoke (Operand.tmp 12) "Alloc"), args := #[(Operand.tmp 10), (Operand.const (Value.int IntKind.i64 0))], argTypes := #[136, 40] }), type := 40, pos := "wipe.go:23", after := #[⟨4, .data⟩, ⟨2, .data⟩, ⟨2, .chain⟩], guard := none }) rfl (fun K hK => ?_) AllReadyH.nil
  go_simp
  refine ((R2.out.allocN FI.out (by omega) ({ kind := 3 }) bv2 pv2 0 HR2.out HP2.out (Nat.zero_le _) (Nat.zero_le _))).mono ?_
  rintro e w3 ⟨vn3, vc3, N3, s3, r3, rfl, E3, hR, hM⟩
  have R3 := Lib.hid hR; have M3 := Lib.hid hM; have FI3 : Hid (Fin (998) s3) := Fin.alloc (FI.out.less (by omega)) (by first | exact Ct.fits_small _ _ _ _ _ _ | exact Ct.fits_empty _) E3.out; clear hR hM
  have B0'' := Lib.hid (B0'.out.mv (M3.out))
  have B1'' := Lib.hid (B1'.out.mv (M3.out))
  clear B0' B1'
  refine hK.out _ _ ⟨(B0''.out).at0 0 _ rfl, trivial⟩ (fun hS => ?_)
  clear hK K
  try simp only [Act.put, sI, sZ, sS]
  refine wpAnyH_ready (rs := [6]) (by kernel_rfl) (by simp) ?_
  refine AllReadyH.cons (o := { dst := (some 5), op := (Op.assign (Operand.tmp 13)), type := 40, pos := "wipe.go:23", after := #[⟨5, .data⟩, ⟨5, .chain⟩, ⟨0, .phase⟩, ⟨1, .phase⟩, ⟨2, .phase⟩, ⟨3, .phase⟩, ⟨4, .phase⟩, ⟨5, .phase⟩], guard := none }) rfl (fun K hK => ?_) AllReadyH.nil
  go_simp
  refine hK.out _ _ hS (fun hS => ?_)
  clear hK K
  try simp only [Act.put, sI, sZ, sS]
  refine wpAnyH_done (by kernel_rfl) ?_ _
  have c4 := (B0''.out).at0 0 (.iface 23 (.pointer (some ⟨g.a, 0, none⟩))) rfl
  go_wp2_with fail
  refine ((R3.out.newGen FI3.out (by omega))).mono ?_
  rintro e w5 ⟨vn5, vc5, N5, s5, r5, rfl, E5, hR, hM⟩
  have R5 := Lib.hid hR; have M5 := Lib.hid hM; have FI5 : Hid (Fin (997) s5) := Fin.newGen (FI3.out.less (by omega)) E5.out; clear hR hM
  have B0''' := Lib.hid (B0''.out.mv (M5.out))
  have B1''' := Lib.hid (B1''.out.mv (M5.out))
  clear B0'' B1''
  clear c4
  go_wp2_with fail
  refine wp_region_held_drew (S := fun W' => W'.cell? ⟨b0, 0, none⟩ = some (.iface 23 (.pointer (some ⟨g.a, 0, none⟩))) ∧ True) (by kernel_rfl) ⟨(B0'''.out).at0 0 _ rfl, trivial⟩ (fun hS => ?_)
  have R6d := Lib.hid (R5.out.drew)
  refine wpAnyH_take (i := 0) (oi := { dst := (some 17), op := (Op.fieldAddr 181 (Operand.tmp 1) 0), type := 0, pos := "wipe.go:25", after := #[], guard := none }) (v := .pointer (some ⟨b0, 0, none⟩)) rfl (by kernel_rfl) (by kernel_rfl) (by kernel_rfl) (fun _ _ _ h => h) (Or.inl ⟨by rfl, fun W' hW => ?_⟩) hS ?_
  · go_simp
  try simp only [Act.put, sI, sZ, sS]
  refine wpAnyH_take (i := 1) (oi := { dst := (some 18), op := (Op.load 95 (Operand.tmp 17)), type := 95, pos := "wipe.go:25", after := #[⟨0, .data⟩], guard := none }) (v := .iface 23 (.pointer (some ⟨g.a, 0, none⟩))) rfl (by kernel_rfl) (by kernel_rfl) (by kernel_rfl) (fun _ _ _ h => h) (Or.inl ⟨by rfl, fun W' hW => ?_⟩) hS ?_
  · go_simp
  try simp only [Act.put, sI, sZ, sS]
  refine wpAnyH_take (i := 2) (oi := { dst := (some 19), op := (Op.move (Operand.tmp 6)), type := 3, pos := "wipe.go:25", after := #[], guard := none }) (v := .int .i64 r5) rfl (by kernel_rfl) (by kernel_rfl) (by kernel_rfl) (fun _ _ _ h => h) (Or.inl ⟨by rfl, fun W' hW => ?_⟩) hS ?_
  · go_simp
  try simp only [Act.put, sI, sZ, sS]
  refine wpAnyH_take (i := 4) (oi := { dst := (some 21), op := (Op.move (Operand.tmp 5)), type := 40, pos := "wipe.go:25", after := #[], guard := none }) (v := .int .i64 r3) rfl (by kernel_rfl) (by kernel_rfl) (by kernel_rfl) (fun _ _ _ h => h) (Or.inl ⟨by rfl, fun W' hW => ?_⟩) hS ?_
  · go_simp
  try simp only [Act.put, sI, sZ, sS]
  refine wpAnyH_take (i := 5) (oi := { dst := (some 22), op := (Op.nilCheck (Operand.tmp 18)), type := 95, pos := "wipe.go:25", after := #[⟨1, .data⟩], guard := none }) (v := .iface 23 (.pointer (some ⟨g.a, 0, none⟩))) rfl (by kernel_rfl) (by kernel_rfl) (by kernel_rfl) (fun _ _ _ h => h) (Or.inl ⟨by rfl, fun W' hW => ?_⟩) hS ?_
  · go_simp
  try simp only [Act.put, sI, sZ, sS]
  refine wpAnyH_take (i := 6) (oi := { dst := (some 23), op := (Op.move (Operand.tmp 18)), type := 95, pos := "wipe.go:25", after := #[⟨1, .data⟩, ⟨5, .data⟩], guard := none }) (v := .iface 23 (.pointer (some ⟨g.a, 0, none⟩))) rfl (by kernel_rfl) (by kernel_rfl) (by kernel_rfl) (fun _ _ _ h => h) (Or.inl ⟨by rfl, fun W' hW => ?_⟩) hS ?_
  · go_simp
  try simp only [Act.put, sI, sZ, sS]
  refine wpAnyH_ready (rs := [3]) (by kernel_rfl) (by simp) ?_
  refine AllReadyH.cons (o := { dst := (some 20), op := (Op.call { callee := (Callee.value (Operand.func 135)), args := #[(Operand.tmp 19)], argTypes := #[3] }), type := 136, pos := "wipe.go:25", after := #[⟨2, .data⟩], guard := none }) rfl (fun K hK => ?_) AllReadyH.nil
  go_simp
  refine ((mkInner r5 _)).mono ?_
  rintro e w7 ⟨csn, rfl, ⟨bv7, pv7, rfl, hr1, hp1⟩, hb⟩
  have R7 := Lib.hid (R6d.out.below hb); have M7 : Hid (Mv O (⟨g.a, vn5, vc5, N5⟩ : Ghost) _ (⟨g.a, vn5, vc5, N5⟩ : Ghost) w7) := Mv.below hb
  have HR7 : Hid (RefsAt (⟨g.a, vn5, vc5, N5⟩ : Ghost).N w7 bv7 []) := hr1.avoid (fun k _ hk => R6d.out.arena.nlt k hk)
  have HP7 : Hid (PairsAt (⟨g.a, vn5, vc5, N5⟩ : Ghost).N w7 pv7 []) := hp1.avoid (fun k _ hk => R6d.out.arena.nlt k hk)
  clear hb hr1 hp1
  have B0'''' := Lib.hid (B0'''.out.mv ((Mv.drew (O := O) _ _).trans (M7.out)))
  have B1'''' := Lib.hid (B1'''.out.mv ((Mv.drew (O := O) _ _).trans (M7.out)))
  clear B0''' B1'''
  refine hK.out _ _ ⟨(B0''''.out).at0 0 _ rfl, trivial⟩ (fun hS => ?_)
  clear hK K
  try simp only [Act.put, sI, sZ, sS]
  refine wpAnyH_ready (rs := [7]) (by kernel_rfl) (by simp) ?_
  refine AllReadyH.cons (o := { dst := (some 24), op := (Op.call { callee := (Callee.invoke (Operand.tmp 23) "Alloc"), args := #[(Operand.tmp 20), (Operand.tmp 21)], argTypes := #[136, 40] }), type := 40, pos := "wipe.go:25", after := #[⟨6, .data⟩, ⟨3, .data⟩, ⟨4, .data⟩, ⟨3, .chain⟩], guard := none }) rfl (fun K hK => ?_) AllReadyH.nil
  go_simp
  refine ((R7.out.allocN FI5.out (by omega) ({ kind := 2, gen := r5 }) bv7 pv7 r3 HR7.out HP7.out (Nat.zero_le _) (Nat.zero_le _))).mono ?_
  rintro e w8 ⟨vn8, vc8, N8, s8, r8, rfl, E8, hR, hM⟩
  have R8 := Lib.hid hR; have M8 := Lib.hid hM; have FI8 : Hid (Fin (995) s8) := Fin.alloc (FI5.out.less (by omega)) (by first | exact Ct.fits_small _ _ _ _ _ _ | exact Ct.fits_empty _) E8.out; clear hR hM
  have B0''''' := Lib.hid (B0''''.out.mv (M8.out))
  have B1''''' := Lib.hid (B1''''.out.mv (M8.out))
  clear B0'''' B1''''
  refine hK.out _ _ ⟨(B0'''''.out).at0 0 _ rfl, trivial⟩ (fun hS => ?_)
  clear hK K
  try simp only [Act.put, sI, sZ, sS]
  refine wpAnyH_ready (rs := [8]) (by kernel_rfl) (by simp) ?_
  refine AllReadyH.cons (o := { dst := (some 7), op := (Op.assign (Operand.tmp 24)), type := 40, pos := "wipe.go:25", after := #[⟨7, .data⟩, ⟨7, .chain⟩, ⟨0, .phase⟩, ⟨1, .phase⟩, ⟨2, .phase⟩, ⟨3, .phase⟩, ⟨4, .phase⟩, ⟨5, .phase⟩, ⟨6, .phase⟩, ⟨7, .phase⟩], guard := none }) rfl (fun K hK => ?_) AllReadyH.nil
  go_simp
  refine hK.out _ _ hS (fun hS => ?_)
  clear hK K
  try simp only [Act.put, sI, sZ, sS]
  refine wpAnyH_done (by kernel_rfl) ?_ _
  have c9 := (B0'''''.out).at0 0 (.iface 23 (.pointer (some ⟨g.a, 0, none⟩))) rfl
  have c10 := (B0'''''.out).at0 1 (.int .i64 t.root) rfl
  have c11 := (B0'''''.out).at0 2 (.bool t.readOnly) rfl
  have c12 := (B1'''''.out).at0 0 (.int .i64 r) rfl
  go_wp2_with fail
  refine ((replace_any (⟨g.a, vn8, vc8, N8⟩ : Ghost) _ _ t r x r8 (.clr3 t) _ _ _ R8.out.arena (FI8.out.less (by omega)) (⟨_, rfl, B0'''''.out⟩))).mono ?_
  rintro e w13 hc
  obtain ⟨cs, h13, rfl, hC, hMC⟩ := R8.out.code2 hc
  have C := Lib.hid hC; have MC := Lib.hid hMC
  clear hc hC hMC
  go_wp2_with (refine wpList_store_row rfl 115 (.tmp 4) (.tmp 30) rfl w.heap.size cs.toArray rfl rfl 115 zeroCode C.out.res C.out.info C.out.len.symm C.out.one ?_)
  refine bodyPost_ret (v := .agg cs.toArray) (results_cell_row Tryz.results159 _ _ w.heap.size 115 _ (0, 0) _ rfl (setRow_heap _ w.heap.size _ _ _ _ C.out.res) Tryz.underlying115 rfl C.out.info) rfl ?_
  refine RetCode.eq ?_ C.out.ret
  simp only [Ct.apply, Ct.stOps, E3.out, E5.out, E8.out]
theorem clo_clr2 (t : Ct.Trie) (r : Int)  : CallRef (.clr2 t r) := by
  intro O g w s n ff caps x h hfine hk
  obtain ⟨b0, b1, e, k0, k1⟩ := hk
  injection e with e1 e2 e3
  injection e1 with e1
  subst e1 e2 e3
  exact clo_clr2_w t r g w s x b0 b1 h (hfine.less (by simp only [Ct.K.rank]; omega)) k0 k1
set_option maxRecDepth 100000 in
set_option maxHeartbeats 400000 in
theorem clo_clr3A_w (t : Ct.Trie) (g : Ghost) (w : World) (s : Ct.St)  (b0 : Nat) (h : ArenaO O g w s) (hfin : Fin (1000) s) (k0 : Blk g.N w b0 (opCells g.sv t) 181) :
    Calls Tryz.prog 160 #[.bool false, ptr b0] w (RetCode O g w (Ct.apply Ct.stOps (.clr3 t) (Ct.ofBool false) s)) := by
  have hNW := (News.nil w).alloc (.cells zeroCode 115)
  obtain ⟨W0, hW0⟩ : ∃ W, (w.alloc (.cells zeroCode 115)) = W := ⟨_, rfl⟩
  rw [hW0] at hNW
  have z := hNW.size
  simp at z
  have hR0 := Run.start h hNW (b := w.heap.size) 0 rfl rfl
  have hM0 : Mv O g w (g.plus w.heap.size) W0 := Mv.plus hNW.below (by omega)
  have c1 := (k0).at1 0 (.iface 23 (.pointer (some ⟨g.a, 0, none⟩))) rfl
  have c2 := (k0).at1 1 (.int .i64 t.root) rfl
  have c3 := (k0).at1 2 (.bool t.readOnly) rfl
  have B0 := Lib.hid (k0.mv hM0)
  have R0 := Lib.hid hR0
  have M0 := Lib.hid hM0
  have HW := Lib.hid hW0
  have HZ := Lib.hid z
  have H := Lib.hid h
  have FI := Lib.hid hfin
  have hmf := hmfG
  clear h hNW hW0 z hR0 hM0 hfin k0
  unfold ptr
  go_enter Tryz.func160, Tryz.ntmps160
  go_wp2_with fail
  refine (with_world HW.out (cleared_any (g.plus w.heap.size) _ _ t R0.out.arena (FI.out.less (by omega)))).mono ?_
  rintro e w4 hc
  obtain ⟨cs, h4, rfl, hC, hMC⟩ := R0.out.code2 hc
  have C := Lib.hid hC; have MC := Lib.hid hMC
  clear hc hC hMC
  go_wp2_with (refine wpList_store_row rfl 115 (.tmp 3) (.tmp 7) rfl w.heap.size cs.toArray rfl rfl 115 zeroCode C.out.res C.out.info C.out.len.symm C.out.one ?_)
  refine bodyPost_ret (v := .agg cs.toArray) (results_cell_row Tryz.results160 _ _ w.heap.size 115 _ (0, 0) _ rfl (setRow_heap _ w.heap.size _ _ _ _ C.out.res) Tryz.underlying115 rfl C.out.info) rfl ?_
  refine RetCode.eq ?_ C.out.ret
  rfl
set_option maxRecDepth 100000 in
set_option maxHeartbeats 400000 in
theorem clo_clr3B_w (t : Ct.Trie) (g : Ghost) (w : World) (s : Ct.St)  (b0 : Nat) (h : ArenaO O g w s) (hfin : Fin (1000) s) (k0 : Blk g.N w b0 (opCells g.sv t) 181) :
    Calls Tryz.prog 160 #[.bool true, ptr b0] w (RetCode O g w (Ct.apply Ct.stOps (.clr3 t) (Ct.ofBool true) s)) := by
  have hNW := (News.nil w).alloc (.cells zeroCode 115)
  obtain ⟨W0, hW0⟩ : ∃ W, (w.alloc (.cells zeroCode 115)) = W := ⟨_, rfl⟩
  rw [hW0] at hNW
  have z := hNW.size
  simp at z
  have hR0 := Run.start h hNW (b := w.heap.size) 0 rfl rfl
  have hM0 : Mv O g w (g.plus w.heap.size) W0 := Mv.plus hNW.below (by omega)
  have B0 := Lib.hid (k0.mv hM0)
  have R0 := Lib.hid hR0
  have M0 := Lib.hid hM0
  have HW := Lib.hid hW0
  have HZ := Lib.hid z
  have H := Lib.hid h
  have FI := Lib.hid hfin
  have hmf := hmfG
  clear h hNW hW0 z hR0 hM0 hfin k0
  unfold ptr
  go_enter Tryz.func160, Tryz.ntmps160
  go_wp2_with fail
  refine (with_world HW.out (taskDone_any ({ found := true }) _)).mono ?_
  rintro e w1 hc
  obtain ⟨cs, rfl, hC, hMC⟩ := R0.out.made3 (c := .done ({ found := true })) (rfl) hc
  have C := Lib.hid hC; have MC := Lib.hid hMC
  clear hc hC hMC
  go_wp2_with (refine wpList_store_row rfl 115 (.tmp 3) (.tmp 9) rfl w.heap.size cs.toArray rfl rfl 115 zeroCode C.out.res C.out.info C.out.len.symm C.out.one ?_)
  refine bodyPost_ret (v := .agg cs.toArray) (results_cell_row Tryz.results160 _ _ w.heap.size 115 _ (0, 0) _ rfl (setRow_heap _ w.heap.size _ _ _ _ C.out.res) Tryz.underlying115 rfl C.out.info) rfl ?_
  refine RetCode.eq ?_ C.out.ret
  rfl
theorem clo_clr3 (t : Ct.Trie)  : CallBool (.clr3 t) := by
  intro O g w s n ff caps x h hfine hk
  obtain ⟨b0, e, k0⟩ := hk
  injection e with e1 e2 e3
  injection e1 with e1
  subst e1 e2 e3
  have hfin := hfine.less (m := 1000) (by simp only [Ct.K.rank]; omega)
  cases x
  · exact clo_clr3A_w t g w s b0 h hfin k0 
  · exact clo_clr3B_w t g w s b0 h hfin k0 
set_option maxRecDepth 100000 in
set_option maxHeartbeats 400000 in
theorem clo_snap0A_w (rt : Int) (g : Ghost) (w : World) (s : Ct.St)  (b0 b1 b2 : Nat) (h : ArenaO O g w s) (hfin : Fin (1000) s) (k0 : Blk g.N w b0 #[.int .i64 ({ root := rt, readOnly := true } : Ct.Trie).root, .bool ({ root := rt, readOnly := true } : Ct.Trie).readOnly] 43) (k1 : Blk g.N w b1 (opCells g.sv ({ root := rt, readOnly := true } : Ct.Trie)) 181) (k2 : Blk g.N w b2 #[g.sv] 95) :
    Calls Tryz.prog 112 #[ptr b0, ptr b1, ptr b2] w (RetCode O g w (Ct.apply Ct.stOps (.snap0 ({ root := rt, readOnly := true } : Ct.Trie)) 0 s)) := by
  have hNW := (News.nil w).alloc (.cells zeroCode 115)
  obtain ⟨W0, hW0⟩ : ∃ W, (w.alloc (.cells zeroCode 115)) = W := ⟨_, rfl⟩
  rw [hW0] at hNW
  have z := hNW.size
  simp at z
  have hR0 := Run.start h hNW (b := w.heap.size) 0 rfl rfl
  have hM0 : Mv O g w (g.plus w.heap.size) W0 := Mv.plus hNW.below (by omega)
  have c1 := (k0).at1 0 (.int .i64 ({ root := rt, readOnly := true } : Ct.Trie).root) rfl
  have c2 := (k0).at1 1 (.bool ({ root := rt, readOnly := true } : Ct.Trie).readOnly) rfl
  have B0 := Lib.hid (k0.mv hM0)
  have B1 := Lib.hid (k1.mv hM0)
  have B2 := Lib.hid (k2.mv hM0)
  have R0 := Lib.hid hR0
  have M0 := Lib.hid hM0
  have HW := Lib.hid hW0
  have HZ := Lib.hid z
  have H := Lib.hid h
  have FI := Lib.hid hfin
  have hmf := hmfG
  clear h hNW hW0 z hR0 hM0 hfin k0 k1 k2
  unfold ptr
  go_enter Tryz.func112, Tryz.ntmps112
  go_wp2_with fail
  refine (with_world HW.out (taskLoad_any (({ root := rt, readOnly := true } : Ct.Trie).root) _ _ ⟨_, _, _, rfl⟩)).mono ?_
  rintro e w3 hc
  obtain ⟨cs, rfl, hC, hMC⟩ := R0.out.made3 (c := .load (({ root := rt, readOnly := true } : Ct.Trie).root) (.snapR1 ({ root := rt, readOnly := true } : Ct.Trie))) (⟨_, rfl, ⟨_, _, rfl, B1.out, B2.out⟩⟩) hc
  have C := Lib.hid hC; have MC := Lib.hid hMC
  clear hc hC hMC
  go_wp2_with (refine wpList_store_row rfl 115 (.tmp 3) (.tmp 9) rfl w.heap.size cs.toArray rfl rfl 115 zeroCode C.out.res C.out.info C.out.len.symm C.out.one ?_)
  refine bodyPost_ret (v := .agg cs.toArray) (results_cell_row Tryz.results112 _ _ w.heap.size 115 _ (0, 0) _ rfl (setRow_heap _ w.heap.size _ _ _ _ C.out.res) Tryz.underlying115 rfl C.out.info) rfl ?_
  refine RetCode.eq ?_ C.out.ret
  simp only [Ct.apply]; rfl
set_option maxRecDepth 100000 in
set_option maxHeartbeats 400000 in
theorem clo_snap0B_w (rt : Int) (g : Ghost) (w : World) (s : Ct.St)  (b0 b1 b2 : Nat) (h : ArenaO O g w s) (hfin : Fin (1000) s) (k0 : Blk g.N w b0 #[.int .i64 ({ root := rt, readOnly := false } : Ct.Trie).root, .bool ({ root := rt, readOnly := false } : Ct.Trie).readOnly] 43) (k1 : Blk g.N w b1 (opCells g.sv ({ root := rt, readOnly := false } : Ct.Trie)) 181) (k2 : Blk g.N w b2 #[g.sv] 95) :
    Calls Tryz.prog 112 #[ptr b0, ptr b1, ptr b2] w (RetCode O g w (Ct.apply Ct.stOps (.snap0 ({ root := rt, readOnly := false } : Ct.Trie)) 0 s)) := by
  have hNW := (News.nil w).alloc (.cells zeroCode 115)
  obtain ⟨W0, hW0⟩ : ∃ W, (w.alloc (.cells zeroCode 115)) = W := ⟨_, rfl⟩
  rw [hW0] at hNW
  have z := hNW.size
  simp at z
  have hR0 := Run.start h hNW (b := w.heap.size) 0 rfl rfl
  have hM0 : Mv O g w (g.plus w.heap.size) W0 := Mv.plus hNW.below (by omega)
  have c1 := (k0).at1 1 (.bool ({ root := rt, readOnly := false } : Ct.Trie).readOnly) rfl
  have c2 := (k1).at1 0 (.iface 23 (.pointer (some ⟨g.a, 0, none⟩))) rfl
  have c3 := (k1).at1 1 (.int .i64 ({ root := rt, readOnly := false } : Ct.Trie).root) rfl
  have c4 := (k1).at1 2 (.bool ({ root := rt, readOnly := false } : Ct.Trie).readOnly) rfl
  have B0 := Lib.hid (k0.mv hM0)
  have B1 := Lib.hid (k1.mv hM0)
  have B2 := Lib.hid (k2.mv hM0)
  have R0 := Lib.hid hR0
  have M0 := Lib.hid hM0
  have HW := Lib.hid hW0
  have HZ := Lib.hid z
  have H := Lib.hid h
  have FI := Lib.hid hfin
  have hmf := hmfG
  clear h hNW hW0 z hR0 hM0 hfin k0 k1 k2
  unfold ptr
  go_enter Tryz.func112, Tryz.ntmps112
  go_wp2_with fail
  refine (with_world HW.out (parted_any (g.plus w.heap.size) _ _ ({ root := rt, readOnly := false } : Ct.Trie) .snapP _ _ _ R0.out.arena (FI.out.less (by omega)) (⟨_, rfl, B2.out⟩))).mono ?_
  rintro e w5 hc
  obtain ⟨cs, h5, rfl, hC, hMC⟩ := R0.out.code2 hc
  have C := Lib.hid hC; have MC := Lib.hid hMC
  clear hc hC hMC
  go_wp2_with (refine wpList_store_row rfl 115 (.tmp 3) (.tmp 12) rfl w.heap.size cs.toArray rfl rfl 115 zeroCode C.out.res C.out.info C.out.len.symm C.out.one ?_)
  refine bodyPost_ret (v := .agg cs.toArray) (results_cell_row Tryz.results112 _ _ w.heap.size 115 _ (0, 0) _ rfl (setRow_heap _ w.heap.size _ _ _ _ C.out.res) Tryz.underlying115 rfl C.out.info) rfl ?_
  refine RetCode.eq ?_ C.out.ret
  simp only [Ct.apply]; rfl
theorem clo_snap0 (t : Ct.Trie)  : CallThunk (.snap0 t) := by
  intro O g w s n ff caps h hfine hk
  obtain ⟨b0, b1, b2, e, k0, k1, k2⟩ := hk
  injection e with e1 e2 e3
  injection e1 with e1
  subst e1 e2 e3
  have hfin := hfine.less (m := 1000) (by simp only [Ct.K.rank]; omega)
  obtain ⟨rt, ro⟩ := t
  cases ro
  · exact clo_snap0B_w rt g w s b0 b1 b2 h hfin k0 k1 k2
  · exact clo_snap0A_w rt g w s b0 b1 b2 h hfin k0 k1 k2
set_option maxRecDepth 100000 in
set_option maxHeartbeats 400000 in
theorem clo_frz0A_w (rt : Int) (g : Ghost) (w : World) (s : Ct.St)  (b0 b1 b2 : Nat) (h : ArenaO O g w s) (hfin : Fin (1000) s) (k0 : Blk g.N w b0 #[.int .i64 ({ root := rt, readOnly := true } : Ct.Trie).root, .bool ({ root := rt, readOnly := true } : Ct.Trie).readOnly] 43) (k1 : Blk g.N w b1 #[g.sv] 95) (k2 : Blk g.N w b2 (opCells g.sv ({ root := rt, readOnly := true } : Ct.Trie)) 181) :
    Calls Tryz.prog 120 #[ptr b0, ptr b1, ptr b2] w (RetCode O g w (Ct.apply Ct.stOps (.frz0 ({ root := rt, readOnly := true } : Ct.Trie)) 0 s)) := by
  have hNW := (News.nil w).alloc (.cells zeroCode 115)
  obtain ⟨W0, hW0⟩ : ∃ W, (w.alloc (.cells zeroCode 115)) = W := ⟨_, rfl⟩
  rw [hW0] at hNW
  have z := hNW.size
  simp at z
  have hR0 := Run.start h hNW (b := w.heap.size) 0 rfl rfl
  have hM0 : Mv O g w (g.plus w.heap.size) W0 := Mv.plus hNW.below (by omega)
  have c1 := (k0).at1 0 (.int .i64 ({ root := rt, readOnly := true } : Ct.Trie).root) rfl
  have c2 := (k0).at1 1 (.bool ({ root := rt, readOnly := true } : Ct.Trie).readOnly) rfl
  have B0 := Lib.hid (k0.mv hM0)
  have B1 := Lib.hid (k1.mv hM0)
  have B2 := Lib.hid (k2.mv hM0)
  have R0 := Lib.hid hR0
  have M0 := Lib.hid hM0
  have HW := Lib.hid hW0
  have HZ := Lib.hid z
  have H := Lib.hid h
  have FI := Lib.hid hfin
  have hmf := hmfG
  clear h hNW hW0 z hR0 hM0 hfin k0 k1 k2
  unfold ptr
  go_enter Tryz.func120, Tryz.ntmps120
  go_wp2_with fail
  refine (with_world HW.out (taskLoad_any (({ root := rt, readOnly := true } : Ct.Trie).root) _ _ ⟨_, _, _, rfl⟩)).mono ?_
  rintro e w3 hc
  obtain ⟨cs, rfl, hC, hMC⟩ := R0.out.made3 (c := .load (({ root := rt, readOnly := true } : Ct.Trie).root) .frzR1) (⟨_, rfl, ⟨_, rfl, B1.out⟩⟩) hc
  have C := Lib.hid hC; have MC := Lib.hid hMC
  clear hc hC hMC
  go_wp2_with (refine wpList_store_row rfl 115 (.tmp 3) (.tmp 9) rfl w.heap.size cs.toArray rfl rfl 115 zeroCode C.out.res C.out.info C.out.len.symm C.out.one ?_)
  refine bodyPost_ret (v := .agg cs.toArray) (results_cell_row Tryz.results120 _ _ w.heap.size 115 _ (0, 0) _ rfl (setRow_heap _ w.heap.size _ _ _ _ C.out.res) Tryz.underlying115 rfl C.out.info) rfl ?_
  refine RetCode.eq ?_ C.out.ret
  simp only [Ct.apply]; rfl
set_option maxRecDepth 100000 in
set_option maxHeartbeats 400000 in
theorem clo_frz0B_w (rt : Int) (g : Ghost) (w : World) (s : Ct.St)  (b0 b1 b2 : Nat) (h : ArenaO O g w s) (hfin : Fin (1000) s) (k0 : Blk g.N w b0 #[.int .i64 ({ root := rt, readOnly := false } : Ct.Trie).root, .bool ({ root := rt, readOnly := false } : Ct.Trie).readOnly] 43) (k1 : Blk g.N w b1 #[g.sv] 95) (k2 : Blk g.N w b2 (opCells g.sv ({ root := rt, readOnly := false } : Ct.Trie)) 181) :
    Calls Tryz.prog 120 #[ptr b0, ptr b1, ptr b2] w (RetCode O g w (Ct.apply Ct.stOps (.frz0 ({ root := rt, readOnly := false } : Ct.Trie)) 0 s)) := by
  have hNW := (News.nil w).alloc (.cells zeroCode 115)
  obtain ⟨W0, hW0⟩ : ∃ W, (w.alloc (.cells zeroCode 115)) = W := ⟨_, rfl⟩
  rw [hW0] at hNW
  have z := hNW.size
  simp at z
  have hR0 := Run.start h hNW (b := w.heap.size) 0 rfl rfl
  have hM0 : Mv O g w (g.plus w.heap.size) W0 := Mv.plus hNW.below (by omega)
  have c1 := (k0).at1 1 (.bool ({ root := rt, readOnly := false } : Ct.Trie).readOnly) rfl
  have c2 := (k2).at1 0 (.iface 23 (.pointer (some ⟨g.a, 0, none⟩))) rfl
  have c3 := (k2).at1 1 (.int .i64 ({ root := rt, readOnly := false } : Ct.Trie).root) rfl
  have c4 := (k2).at1 2 (.bool ({ root := rt, readOnly := false } : Ct.Trie).readOnly) rfl
  have B0 := Lib.hid (k0.mv hM0)
  have B1 := Lib.hid (k1.mv hM0)
  have B2 := Lib.hid (k2.mv hM0)
  have R0 := Lib.hid hR0
  have M0 := Lib.hid hM0
  have HW := Lib.hid hW0
  have HZ := Lib.hid z
  have H := Lib.hid h
  have FI := Lib.hid hfin
  have hmf := hmfG
  clear h hNW hW0 z hR0 hM0 hfin k0 k1 k2
  unfold ptr
  go_enter Tryz.func120, Tryz.ntmps120
  go_wp2_with fail
  refine (with_world HW.out (parted_any (g.plus w.heap.size) _ _ ({ root := rt, readOnly := false } : Ct.Trie) .frzP _ _ _ R0.out.arena (FI.out.less (by omega)) (⟨_, rfl, B1.out⟩))).mono ?_
  rintro e w5 hc
  obtain ⟨cs, h5, rfl, hC, hMC⟩ := R0.out.code2 hc
  have C := Lib.hid hC; have MC := Lib.hid hMC
  clear hc hC hMC
  go_wp2_with (refine wpList_store_row rfl 115 (.tmp 3) (.tmp 12) rfl w.heap.size cs.toArray rfl rfl 115 zeroCode C.out.res C.out.info C.out.len.symm C.out.one ?_)
  refine bodyPost_ret (v := .agg cs.toArray) (results_cell_row Tryz.results120 _ _ w.heap.size 115 _ (0, 0) _ rfl (setRow_heap _ w.heap.size _ _ _ _ C.out.res) Tryz.underlying115 rfl C.out.info) rfl ?_
  refine RetCode.eq ?_ C.out.ret
  simp only [Ct.apply]; rfl
theorem clo_frz0 (t : Ct.Trie)  : CallThunk (.frz0 t) := by
  intro O g w s n ff caps h hfine hk
  obtain ⟨b0, b1, b2, e, k0, k1, k2⟩ := hk
  injection e with e1 e2 e3
  injection e1 with e1
  subst e1 e2 e3
  have hfin := hfine.less (m := 1000) (by simp only [Ct.K.rank]; omega)
  obtain ⟨rt, ro⟩ := t
  cases ro
  · exact clo_frz0B_w rt g w s b0 b1 b2 h hfin k0 k1 k2
  · exact clo_frz0A_w rt g w s b0 b1 b2 h hfin k0 k1 k2
set_option maxRecDepth 100000 in
set_option maxHeartbeats 400000 in
theorem clo_part2_w (t : Ct.Trie) (r : Int) (th : Ct.K) (g : Ghost) (w : World) (s : Ct.St) (x : Int) (b0 b1 b2 : Nat) (fn : FuncId) (ff fc : Array Value) (h : ArenaO O g w s) (hfin : Fin (1000) s) (k0 : Blk g.N w b0 (opCells g.sv t) 181) (k1 : Blk g.N w b1 #[.int .i64 r] 40) (k2 : Blk g.N w b2 #[.func (.func fn) ff fc] 197) (kr : KRep g.sv g.N O w (.func (.func fn) ff fc) th) (ih : CallRef2 th) :
    Calls Tryz.prog 155 #[.int .i64 x, ptr b0, ptr b1, ptr b2] w (RetCode O g w (Ct.apply Ct.stOps (.part2 t r th) x s)) := by
  have hNW := (((News.nil w).alloc (.cells #[.int .i64 x] 40)).alloc (.cells zeroCode 115))
  obtain ⟨W0, hW0⟩ : ∃ W, ((w.alloc (.cells #[.int .i64 x] 40)).alloc (.cells zeroCode 115)) = W := ⟨_, rfl⟩
  rw [hW0] at hNW
  have z := hNW.size
  simp at z
  have hR0 := Run.start h hNW (b := w.heap.size + 1) 1 rfl rfl
  have hM0 : Mv O g w (g.plus (w.heap.size + 1)) W0 := Mv.plus hNW.below (by omega)
  have c1 := (k0).at2 0 (.iface 23 (.pointer (some ⟨g.a, 0, none⟩))) rfl
  have B3 := Lib.hid (blk_plus h.toArenaAt (b := w.heap.size) (c := w.heap.size + 1) (by omega) (by omega) (hNW.at_ 0 _ rfl))
  have B0 := Lib.hid (k0.mv hM0)
  have B1 := Lib.hid (k1.mv hM0)
  have B2 := Lib.hid (k2.mv hM0)
  have KR := Lib.hid (kr.mv hM0)
  have hent := kr.enters
  unfold Ent at hent
  have R0 := Lib.hid hR0
  have M0 := Lib.hid hM0
  have HW := Lib.hid hW0
  have HZ := Lib.hid z
  have H := Lib.hid h
  have FI := Lib.hid hfin
  have hmf := hmfG
  clear h hNW hW0 z hR0 hM0 hfin k0 k1 k2 kr
  unfold ptr
  go_enter Tryz.func155, Tryz.ntmps155
  go_wp2_with fail
  refine (with_world HW.out (R0.out.begun FI.out (by omega) x)).mono ?_
  rintro e w2 ⟨vn2, vc2, N2, s2, r2, rfl, E2, hR, hM⟩
  have R2 := Lib.hid hR; have M2 := Lib.hid hM; have FI2 : Hid (Fin (997) s2) := Fin.begun (FI.out.less (by omega)) E2.out; clear hR hM
  have B0' := Lib.hid (B0.out.mv (M2.out))
  have B1' := Lib.hid (B1.out.mv (M2.out))
  have B2' := Lib.hid (B2.out.mv (M2.out))
  have B3' := Lib.hid (B3.out.mv (M2.out))
  have KR' := Lib.hid (KR.out.mv (M2.out))
  clear KR
  have KR := KR'
  clear KR'
  clear B0 B1 B2 B3
  clear c1
  have c3 := (B0'.out).at0 0 (.iface 23 (.pointer (some ⟨g.a, 0, none⟩))) rfl
  have c4 := (B0'.out).at0 1 (.int .i64 t.root) rfl
  have c5 := (B0'.out).at0 2 (.bool t.readOnly) rfl
  have c6 := (B1'.out).at0 0 (.int .i64 r) rfl
  have c7 := (B3'.out).at0 0 (.int .i64 x) rfl
  go_wp2_with fail
  refine ((replace_any (⟨g.a, vn2, vc2, N2⟩ : Ghost) _ _ t r x r2 (.part3 t r x th) _ _ _ R2.out.arena (FI2.out.less (by omega)) (⟨_, _, _, _, rfl, B0'.out, ⟨_, B2'.out, KR.out⟩, B1'.out, B3'.out⟩))).mono ?_
  rintro e w8 hc
  obtain ⟨cs, h8, rfl, hC, hMC⟩ := R2.out.code2 hc
  have C := Lib.hid hC; have MC := Lib.hid hMC
  clear hc hC hMC
  go_wp2_with (refine wpList_store_row rfl 115 (.tmp 5) (.tmp 16) rfl (w.heap.size + 1) cs.toArray rfl rfl 115 zeroCode C.out.res C.out.info C.out.len.symm C.out.one ?_)
  refine bodyPost_ret (v := .agg cs.toArray) (results_cell_row Tryz.results155 _ _ (w.heap.size + 1) 115 _ (0, 0) _ rfl (setRow_heap _ (w.heap.size + 1) _ _ _ _ C.out.res) Tryz.underlying115 rfl C.out.info) rfl ?_
  refine RetCode.eq ?_ C.out.ret
  simp only [Ct.apply]; injection E2.out with e1 e2; rw [e1, e2]
theorem clo_part2 (t : Ct.Trie) (r : Int) (th : Ct.K) (ih : CallRef2 th) : CallRef (.part2 t r th) := by
  intro O g w s n ff caps x h hfine hk
  obtain ⟨b0, b1, b2, e, k0, k1, ⟨u, k2, kr⟩⟩ := hk
  injection e with e1 e2 e3
  injection e1 with e1
  subst e1 e2 e3
  obtain ⟨fn, ff, fc, rfl⟩ := kr.func
  exact clo_part2_w t r th g w s x b0 b1 b2 fn ff fc h (hfine.less (by simp only [Ct.K.rank]; omega)) k0 k1 k2 kr ih
set_option maxRecDepth 100000 in
set_option maxHeartbeats 400000 in
theorem clo_part3A_w (t : Ct.Trie) (r : Int) (m : Int) (th : Ct.K) (g : Ghost) (w : World) (s : Ct.St)  (b0 b1 b2 b3 : Nat) (fn : FuncId) (ff fc : Array Value) (h : ArenaO O g w s) (hfin : Fin (1000) s) (k0 : Blk g.N w b0 (opCells g.sv t) 181) (k1 : Blk g.N w b1 #[.func (.func fn) ff fc] 197) (kr : KRep g.sv g.N O w (.func (.func fn) ff fc) th) (k2 : Blk g.N w b2 #[.int .i64 r] 40) (k3 : Blk g.N w b3 #[.int .i64 m] 40) (ih : CallRef2 th) :
    Calls Tryz.prog 157 #[.bool false, ptr b0, ptr b1, ptr b2, ptr b3] w (RetCode O g w (Ct.apply Ct.stOps (.part3 t r m th) (Ct.ofBool false) s)) := by
  have hNW := (News.nil w).alloc (.cells zeroCode 115)
  obtain ⟨W0, hW0⟩ : ∃ W, (w.alloc (.cells zeroCode 115)) = W := ⟨_, rfl⟩
  rw [hW0] at hNW
  have z := hNW.size
  simp at z
  have hR0 := Run.start h hNW (b := w.heap.size) 0 rfl rfl
  have hM0 : Mv O g w (g.plus w.heap.size) W0 := Mv.plus hNW.below (by omega)
  have c1 := (k0).at1 0 (.iface 23 (.pointer (some ⟨g.a, 0, none⟩))) rfl
  have c2 := (k0).at1 1 (.int .i64 t.root) rfl
  have c3 := (k0).at1 2 (.bool t.readOnly) rfl
  have c4 := (k1).at1 0 (.func (.func fn) ff fc) rfl
  have B0 := Lib.hid (k0.mv hM0)
  have B1 := Lib.hid (k1.mv hM0)
  have B2 := Lib.hid (k2.mv hM0)
  have B3 := Lib.hid (k3.mv hM0)
  have KR := Lib.hid (kr.mv hM0)
  have hent := kr.enters
  unfold Ent at hent
  have R0 := Lib.hid hR0
  have M0 := Lib.hid hM0
  have HW := Lib.hid hW0
  have HZ := Lib.hid z
  have H := Lib.hid h
  have FI := Lib.hid hfin
  have hmf := hmfG
  clear h hNW hW0 z hR0 hM0 hfin k0 k1 k2 k3 kr
  unfold ptr
  go_enter Tryz.func157, Tryz.ntmps157
  go_wp2_with fail
  refine (with_world HW.out (parted_any (g.plus w.heap.size) _ _ t th _ _ _ R0.out.arena (FI.out.less (by omega)) (KR.out))).mono ?_
  rintro e w5 hc
  obtain ⟨cs, h5, rfl, hC, hMC⟩ := R0.out.code2 hc
  have C := Lib.hid hC; have MC := Lib.hid hMC
  clear hc hC hMC
  go_wp2_with (refine wpList_store_row rfl 115 (.tmp 6) (.tmp 11) rfl w.heap.size cs.toArray rfl rfl 115 zeroCode C.out.res C.out.info C.out.len.symm C.out.one ?_)
  refine bodyPost_ret (v := .agg cs.toArray) (results_cell_row Tryz.results157 _ _ w.heap.size 115 _ (0, 0) _ rfl (setRow_heap _ w.heap.size _ _ _ _ C.out.res) Tryz.underlying115 rfl C.out.info) rfl ?_
  refine RetCode.eq ?_ C.out.ret
  rfl
set_option maxRecDepth 100000 in
set_option maxHeartbeats 400000 in
theorem clo_part3B_w (t : Ct.Trie) (r : Int) (m : Int) (th : Ct.K) (g : Ghost) (w : World) (s : Ct.St)  (b0 b1 b2 b3 : Nat) (fn : FuncId) (ff fc : Array Value) (h : ArenaO O g w s) (hfin : Fin (1000) s) (k0 : Blk g.N w b0 (opCells g.sv t) 181) (k1 : Blk g.N w b1 #[.func (.func fn) ff fc] 197) (kr : KRep g.sv g.N O w (.func (.func fn) ff fc) th) (k2 : Blk g.N w b2 #[.int .i64 r] 40) (k3 : Blk g.N w b3 #[.int .i64 m] 40) (ih : CallRef2 th) :
    Calls Tryz.prog 157 #[.bool true, ptr b0, ptr b1, ptr b2, ptr b3] w (RetCode O g w (Ct.apply Ct.stOps (.part3 t r m th) (Ct.ofBool true) s)) := by
  have hNW := (News.nil w).alloc (.cells zeroCode 115)
  obtain ⟨W0, hW0⟩ : ∃ W, (w.alloc (.cells zeroCode 115)) = W := ⟨_, rfl⟩
  rw [hW0] at hNW
  have z := hNW.size
  simp at z
  have hR0 := Run.start h hNW (b := w.heap.size) 0 rfl rfl
  have hM0 : Mv O g w (g.plus w.heap.size) W0 := Mv.plus hNW.below (by omega)
  have c1 := (k1).at1 0 (.func (.func fn) ff fc) rfl
  have c2 := (k2).at1 0 (.int .i64 r) rfl
  have c3 := (k3).at1 0 (.int .i64 m) rfl
  have B0 := Lib.hid (k0.mv hM0)
  have B1 := Lib.hid (k1.mv hM0)
  have B2 := Lib.hid (k2.mv hM0)
  have B3 := Lib.hid (k3.mv hM0)
  have KR := Lib.hid (kr.mv hM0)
  have hent := kr.enters
  unfold Ent at hent
  have R0 := Lib.hid hR0
  have M0 := Lib.hid hM0
  have HW := Lib.hid hW0
  have HZ := Lib.hid z
  have H := Lib.hid h
  have FI := Lib.hid hfin
  have hmf := hmfG
  clear h hNW hW0 z hR0 hM0 hfin k0 k1 k2 k3 kr
  unfold ptr
  go_enter Tryz.func157, Tryz.ntmps157
  go_wp2_with fail
  rw [← Array.append_assoc]
  refine (with_world HW.out (ih _ _ _ _ _ _ r m R0.out.arena (FI.out.less (by omega)) (KR.out))).mono ?_
  rintro e w4 hc
  obtain ⟨cs, h4, rfl, hC, hMC⟩ := R0.out.code2 hc
  have C := Lib.hid hC; have MC := Lib.hid hMC
  clear hc hC hMC
  go_wp2_with (refine wpList_store_row rfl 115 (.tmp 6) (.tmp 15) rfl w.heap.size cs.toArray rfl rfl 115 zeroCode C.out.res C.out.info C.out.len.symm C.out.one ?_)
  refine bodyPost_ret (v := .agg cs.toArray) (results_cell_row Tryz.results157 _ _ w.heap.size 115 _ (0, 0) _ rfl (setRow_heap _ w.heap.size _ _ _ _ C.out.res) Tryz.underlying115 rfl C.out.info) rfl ?_
  refine RetCode.eq ?_ C.out.ret
  rfl
theorem clo_part3 (t : Ct.Trie) (r : Int) (m : Int) (th : Ct.K) (ih : CallRef2 th) : CallBool (.part3 t r m th) := by
  intro O g w s n ff caps x h hfine hk
  obtain ⟨b0, b1, b2, b3, e, k0, ⟨u, k1, kr⟩, k2, k3⟩ := hk
  injection e with e1 e2 e3
  injection e1 with e1
  subst e1 e2 e3
  obtain ⟨fn, ff, fc, rfl⟩ := kr.func
  have hfin := hfine.less (m := 1000) (by simp only [Ct.K.rank]; omega)
  cases x
  · exact clo_part3A_w t r m th g w s b0 b1 b2 b3 fn ff fc h hfin k0 k1 kr k2 k3 ih 
  · exact clo_part3B_w t r m th g w s b0 b1 b2 b3 fn ff fc h hfin k0 k1 kr k2 k3 ih 
set_option maxRecDepth 100000 in
set_option maxHeartbeats 400000 in
theorem clo_fin_w (res : Ct.Result) (g : Ghost) (w : World) (s : Ct.St)  (b0 : Nat) (h : ArenaO O g w s) (hfin : Fin (1000) s) (k0 : Blk g.N w b0 (resCells res).toArray 45) :
    Calls Tryz.prog 77 #[ptr b0] w (RetCode O g w (Ct.apply Ct.stOps (.fin res) 0 s)) := by
  have hNW := (News.nil w).alloc (.cells zeroCode 115)
  obtain ⟨W0, hW0⟩ : ∃ W, (w.alloc (.cells zeroCode 115)) = W := ⟨_, rfl⟩
  rw [hW0] at hNW
  have z := hNW.size
  simp at z
  have hR0 := Run.start h hNW (b := w.heap.size) 0 rfl rfl
  have hM0 : Mv O g w (g.plus w.heap.size) W0 := Mv.plus hNW.below (by omega)
  have HX1 := Lib.hid (fun o0 => heap_alloc_of (k0.2) o0)
  have B0 := Lib.hid (k0.mv hM0)
  have R0 := Lib.hid hR0
  have M0 := Lib.hid hM0
  have HW := Lib.hid hW0
  have HZ := Lib.hid z
  have H := Lib.hid h
  have FI := Lib.hid hfin
  have hmf := hmfG
  clear h hNW hW0 z hR0 hM0 hfin k0
  unfold ptr
  go_enter Tryz.func77, Tryz.ntmps77
  go_wp2_with (first | (refine wpList_load_row rfl 45 (.tmp 0) rfl b0 rfl 45 (resCells res).toArray (0, 0) _ (HX1.out _) Tryz.underlying45 rfl info_Result_size ?_))
  refine (with_world HW.out (taskDone_any res _)).mono ?_
  rintro e w2 hc
  obtain ⟨cs, rfl, hC, hMC⟩ := R0.out.made3 (c := .done res) (rfl) hc
  have C := Lib.hid hC; have MC := Lib.hid hMC
  clear hc hC hMC
  go_wp2_with (refine wpList_store_row rfl 115 (.tmp 1) (.tmp 3) rfl w.heap.size cs.toArray rfl rfl 115 zeroCode C.out.res C.out.info C.out.len.symm C.out.one ?_)
  refine bodyPost_ret (v := .agg cs.toArray) (results_cell_row Tryz.results77 _ _ w.heap.size 115 _ (0, 0) _ rfl (setRow_heap _ w.heap.size _ _ _ _ C.out.res) Tryz.underlying115 rfl C.out.info) rfl ?_
  refine RetCode.eq ?_ C.out.ret
  rfl
theorem clo_fin (res : Ct.Result)  : CallThunk (.fin res) := by
  intro O g w s n ff caps h hfine hk
  obtain ⟨b0, e, k0⟩ := hk
  injection e with e1 e2 e3
  injection e1 with e1
  subst e1 e2 e3
  exact clo_fin_w res g w s b0 h (hfine.less (by simp only [Ct.K.rank]; omega)) k0
end Go.Proofs.YtjlgchdekhmnnaaGreatDoor
end
