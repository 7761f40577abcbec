/- Parts of a proof: S1. -/
import Derived.Test.YtjlgchdekhmnnaaGreatDoorM09
import Derived.Test.YtjlgchdekhmnnaaGreatDoorM10
section
namespace Go.Proofs.YtjlgchdekhmnnaaGreatDoor
open Go.RowKit
set_option linter.unusedVariables false
set_option linter.unusedVariables false
variable {O : Nat → Prop}
theorem alloc_setRow (w : World) (cs0 cs : Array Value) (t : TypeId) : (w.alloc (.cells cs0 t)).setRow w.heap.size cs = w.alloc (.cells cs t) := by
  simp only [World.alloc, World.setRow]
  congr 1
  apply Array.ext
  · simp
  · intro i h1 h2
    simp only [Array.getElem_modify, Array.getElem_push]
    simp at h1 h2
    by_cases hi : w.heap.size = i
    · simp [hi]
    · have : i < w.heap.size := by omega
      simp [hi, this]
set_option maxRecDepth 100000 in
set_option maxHeartbeats 400000 in
theorem parted_any (g : Ghost) (w : World) (s : Ct.St) (t : Ct.Trie) (th : Ct.K) (fn : FuncId) (ff fc : Array Value) (h : ArenaO O g w s) (hfin : Fin (300) s) (kr : KRep g.sv g.N O w (.func (.func fn) ff fc) th) :
    Calls Tryz.prog 118 #[.agg (opCells g.sv t), .func (.func fn) ff fc] w (RetCode O g w (Ct.partedC t th s)) := by
  have hNW := ((((News.nil w).alloc (.cells (opCells g.sv t) 181)).alloc (.cells #[.func (.func fn) ff fc] 197)).alloc (.cells zeroCode 115))
  obtain ⟨W0, hW0⟩ : ∃ W, (((w.alloc (.cells (opCells g.sv t) 181)).alloc (.cells #[.func (.func fn) ff fc] 197)).alloc (.cells zeroCode 115)) = W := ⟨_, rfl⟩
  rw [hW0] at hNW
  have z := hNW.size
  simp at z
  have hR0 := Run.start h hNW (b := w.heap.size + 2) 2 rfl rfl
  have hM0 : Mv O g w (g.plus (w.heap.size + 2)) W0 := Mv.plus hNW.below (by omega)
  have B0 := Lib.hid (blk_plus h.toArenaAt (b := w.heap.size) (c := w.heap.size + 2) (by omega) (by omega) (hNW.at_ 0 _ rfl))
  have B1 := Lib.hid (blk_plus h.toArenaAt (b := w.heap.size + 1) (c := w.heap.size + 2) (by omega) (by omega) (hNW.at_ 1 _ rfl))
  have KR := Lib.hid (kr.mv hM0)
  have hent := kr.enters
  unfold Ent at hent
  have R0 := Lib.hid hR0
  have M0 := Lib.hid hM0
  have HW := Lib.hid hW0
  have HZ := Lib.hid z
  have H := Lib.hid h
  have FI := Lib.hid hfin
  have hmf := hmfG
  clear h hNW hW0 z hR0 hM0 hfin kr
  unfold opCells Ghost.sv
  go_enter Tryz.func118, Tryz.ntmps118
  go_wp2_with fail
  refine (with_world HW.out (help_any (g.plus (w.heap.size + 2)) _ _ t  ((.part1 t th)) _ R0.out.arena (⟨_, _, rfl, B0.out, ⟨_, B1.out, KR.out⟩⟩))).mono ?_
  rintro e w1 hc
  obtain ⟨cs, h1, rfl, hC, hMC⟩ := R0.out.code2 hc
  have C := Lib.hid hC; have MC := Lib.hid hMC
  clear hc hC hMC
  go_wp2_with (refine wpList_store_row rfl 115 (.tmp 4) (.tmp 7) rfl (w.heap.size + 2) cs.toArray rfl rfl 115 zeroCode C.out.res C.out.info C.out.len.symm C.out.one ?_)
  refine bodyPost_ret (v := .agg cs.toArray) (results_cell_row Tryz.results118 _ _ (w.heap.size + 2) 115 _ (0, 0) _ rfl (setRow_heap _ (w.heap.size + 2) _ _ _ _ C.out.res) Tryz.underlying115 rfl C.out.info) rfl ?_
  refine RetCode.eq ?_ C.out.ret
  rfl
set_option maxRecDepth 100000 in
set_option maxHeartbeats 400000 in
theorem clo_snapR1_w (t : Ct.Trie) (g : Ghost) (w : World) (s : Ct.St) (x : Int) (b0 b1 : Nat) (h : ArenaO O g w s) (hfin : Fin (1000) s) (k0 : Blk g.N w b0 (opCells g.sv t) 181) (k1 : Blk g.N w b1 #[g.sv] 95) :
    Calls Tryz.prog 114 #[.int .i64 x, ptr b0, ptr b1] w (RetCode O g w (Ct.apply Ct.stOps (.snapR1 t) x s)) := by
  have hNW := (News.nil w).alloc (.cells zeroCode 115)
  obtain ⟨W0, hW0⟩ : ∃ W, (w.alloc (.cells zeroCode 115)) = W := ⟨_, rfl⟩
  rw [hW0] at hNW
  have z := hNW.size
  simp at z
  have hR0 := Run.start h hNW (b := w.heap.size) 0 rfl rfl
  have hM0 : Mv O g w (g.plus w.heap.size) W0 := Mv.plus hNW.below (by omega)
  have c1 := (k0).at1 0 (.iface 23 (.pointer (some ⟨g.a, 0, none⟩))) rfl
  have c2 := (k0).at1 1 (.int .i64 t.root) rfl
  have c3 := (k0).at1 2 (.bool t.readOnly) rfl
  have B0 := Lib.hid (k0.mv hM0)
  have B1 := Lib.hid (k1.mv hM0)
  have R0 := Lib.hid hR0
  have M0 := Lib.hid hM0
  have HW := Lib.hid hW0
  have HZ := Lib.hid z
  have H := Lib.hid h
  have FI := Lib.hid hfin
  have hmf := hmfG
  clear h hNW hW0 z hR0 hM0 hfin k0 k1
  unfold ptr
  go_enter Tryz.func114, Tryz.ntmps114
  go_wp2_with fail
  refine (with_world HW.out (read_any (g.plus w.heap.size) _ _ t x .snapR2 _ R0.out.arena (FI.out.Room (by omega)) FI.out.short (⟨_, rfl, B1.out⟩))).mono ?_
  rintro e w4 hc
  obtain ⟨cs, h4, rfl, hC, hMC⟩ := R0.out.code2 hc
  have C := Lib.hid hC; have MC := Lib.hid hMC
  clear hc hC hMC
  go_wp2_with (refine wpList_store_row rfl 115 (.tmp 4) (.tmp 8) rfl w.heap.size cs.toArray rfl rfl 115 zeroCode C.out.res C.out.info C.out.len.symm C.out.one ?_)
  refine bodyPost_ret (v := .agg cs.toArray) (results_cell_row Tryz.results114 _ _ w.heap.size 115 _ (0, 0) _ rfl (setRow_heap _ w.heap.size _ _ _ _ C.out.res) Tryz.underlying115 rfl C.out.info) rfl ?_
  refine RetCode.eq ?_ C.out.ret
  rfl
theorem clo_snapR1 (t : Ct.Trie)  : CallRef (.snapR1 t) := by
  intro O g w s n ff caps x h hfine hk
  obtain ⟨b0, b1, e, k0, k1⟩ := hk
  injection e with e1 e2 e3
  injection e1 with e1
  subst e1 e2 e3
  exact clo_snapR1_w t g w s x b0 b1 h (hfine.less (by simp only [Ct.K.rank]; omega)) k0 k1
set_option maxRecDepth 100000 in
set_option maxHeartbeats 400000 in
theorem clo_part1_w (t : Ct.Trie) (th : Ct.K) (g : Ghost) (w : World) (s : Ct.St) (x : Int) (b0 b1 : Nat) (fn : FuncId) (ff fc : Array Value) (h : ArenaO O g w s) (hfin : Fin (1000) s) (k0 : Blk g.N w b0 (opCells g.sv t) 181) (k1 : Blk g.N w b1 #[.func (.func fn) ff fc] 197) (kr : KRep g.sv g.N O w (.func (.func fn) ff fc) th) (ih : CallRef2 th) :
    Calls Tryz.prog 154 #[.int .i64 x, ptr b0, ptr b1] w (RetCode O g w (Ct.apply Ct.stOps (.part1 t th) x s)) := by
  have hNW := (((News.nil w).alloc (.cells #[.int .i64 x] 40)).alloc (.cells zeroCode 115))
  obtain ⟨W0, hW0⟩ : ∃ W, ((w.alloc (.cells #[.int .i64 x] 40)).alloc (.cells zeroCode 115)) = W := ⟨_, rfl⟩
  rw [hW0] at hNW
  have z := hNW.size
  simp at z
  have hR0 := Run.start h hNW (b := w.heap.size + 1) 1 rfl rfl
  have hM0 : Mv O g w (g.plus (w.heap.size + 1)) W0 := Mv.plus hNW.below (by omega)
  have c1 := (k0).at2 0 (.iface 23 (.pointer (some ⟨g.a, 0, none⟩))) rfl
  have c2 := (k0).at2 1 (.int .i64 t.root) rfl
  have c3 := (k0).at2 2 (.bool t.readOnly) rfl
  have B2 := Lib.hid (blk_plus h.toArenaAt (b := w.heap.size) (c := w.heap.size + 1) (by omega) (by omega) (hNW.at_ 0 _ rfl))
  have B0 := Lib.hid (k0.mv hM0)
  have B1 := Lib.hid (k1.mv hM0)
  have KR := Lib.hid (kr.mv hM0)
  have hent := kr.enters
  unfold Ent at hent
  have R0 := Lib.hid hR0
  have M0 := Lib.hid hM0
  have HW := Lib.hid hW0
  have HZ := Lib.hid z
  have H := Lib.hid h
  have FI := Lib.hid hfin
  have hmf := hmfG
  clear h hNW hW0 z hR0 hM0 hfin k0 k1 kr
  unfold ptr
  go_enter Tryz.func154, Tryz.ntmps154
  go_wp2_with fail
  refine (with_world HW.out (read_any (g.plus (w.heap.size + 1)) _ _ t x ((.part2 t x th)) _ R0.out.arena (FI.out.Room (by omega)) FI.out.short (⟨_, _, _, rfl, B0.out, B2.out, ⟨_, B1.out, KR.out⟩⟩))).mono ?_
  rintro e w4 hc
  obtain ⟨cs, h4, rfl, hC, hMC⟩ := R0.out.code2 hc
  have C := Lib.hid hC; have MC := Lib.hid hMC
  clear hc hC hMC
  go_wp2_with (refine wpList_store_row rfl 115 (.tmp 4) (.tmp 8) rfl (w.heap.size + 1) cs.toArray rfl rfl 115 zeroCode C.out.res C.out.info C.out.len.symm C.out.one ?_)
  refine bodyPost_ret (v := .agg cs.toArray) (results_cell_row Tryz.results154 _ _ (w.heap.size + 1) 115 _ (0, 0) _ rfl (setRow_heap _ (w.heap.size + 1) _ _ _ _ C.out.res) Tryz.underlying115 rfl C.out.info) rfl ?_
  refine RetCode.eq ?_ C.out.ret
  rfl
theorem clo_part1 (t : Ct.Trie) (th : Ct.K) (ih : CallRef2 th) : CallRef (.part1 t th) := by
  intro O g w s n ff caps x h hfine hk
  obtain ⟨b0, b1, e, k0, ⟨u, k1, kr⟩⟩ := hk
  injection e with e1 e2 e3
  injection e1 with e1
  subst e1 e2 e3
  obtain ⟨fn, ff, fc, rfl⟩ := kr.func
  exact clo_part1_w t th g w s x b0 b1 fn ff fc h (hfine.less (by simp only [Ct.K.rank]; omega)) k0 k1 kr ih
set_option maxRecDepth 100000 in
set_option maxHeartbeats 400000 in
theorem clo_read1_w (t : Ct.Trie) (i : Int) (th : Ct.K) (g : Ghost) (w : World) (s : Ct.St) (x : Int) (b0 b1 b2 : Nat) (fn : FuncId) (ff fc : Array Value) (h : ArenaO O g w s) (hfin : Fin (1000 + 1000 * th.rank) s) (k0 : Blk g.N w b0 (opCells g.sv t) 181) (k1 : Blk g.N w b1 #[.int .i64 i] 40) (k2 : Blk g.N w b2 #[.func (.func fn) ff fc] 112) (kr : KRep g.sv g.N O w (.func (.func fn) ff fc) th) (ih : CallRef th) :
    Calls Tryz.prog 152 #[.int .i64 x, ptr b0, ptr b1, ptr b2] w (RetCode O g w (Ct.apply Ct.stOps (.read1 t i th) x s)) := by
  have hNW := (News.nil w).alloc (.cells zeroCode 115)
  obtain ⟨W0, hW0⟩ : ∃ W, (w.alloc (.cells zeroCode 115)) = W := ⟨_, rfl⟩
  rw [hW0] at hNW
  have z := hNW.size
  simp at z
  have hR0 := Run.start h hNW (b := w.heap.size) 0 rfl rfl
  have hM0 : Mv O g w (g.plus w.heap.size) W0 := Mv.plus hNW.below (by omega)
  have c1 := (k0).at1 0 (.iface 23 (.pointer (some ⟨g.a, 0, none⟩))) rfl
  have c2 := (k0).at1 1 (.int .i64 t.root) rfl
  have c3 := (k0).at1 2 (.bool t.readOnly) rfl
  have c4 := (k1).at1 0 (.int .i64 i) rfl
  have c5 := (k2).at1 0 (.func (.func fn) ff fc) rfl
  have B0 := Lib.hid (k0.mv hM0)
  have B1 := Lib.hid (k1.mv hM0)
  have B2 := Lib.hid (k2.mv hM0)
  have KR := Lib.hid (kr.mv hM0)
  have hent := kr.enters
  unfold Ent at hent
  have R0 := Lib.hid hR0
  have M0 := Lib.hid hM0
  have HW := Lib.hid hW0
  have HZ := Lib.hid z
  have H := Lib.hid h
  have FI := Lib.hid hfin
  have hmf := hmfG
  clear h hNW hW0 z hR0 hM0 hfin k0 k1 k2 kr
  unfold ptr
  go_enter Tryz.func152, Tryz.ntmps152
  go_wp2_with fail
  refine (with_world HW.out (settle_any (g.plus w.heap.size) _ _ t i x th _ R0.out.arena (FI.out.Room (by omega)) FI.out.short (KR.out))).mono ?_
  rintro e w6 hc
  obtain ⟨cs, h6, rfl, hC, hMC⟩ := R0.out.code2 hc
  have C := Lib.hid hC; have MC := Lib.hid hMC
  clear hc hC hMC
  go_wp2_with (refine wpList_store_row rfl 115 (.tmp 5) (.tmp 10) rfl w.heap.size cs.toArray rfl rfl 115 zeroCode C.out.res C.out.info C.out.len.symm C.out.one ?_)
  refine bodyPost_ret (v := .agg cs.toArray) (results_cell_row Tryz.results152 _ _ w.heap.size 115 _ (0, 0) _ rfl (setRow_heap _ w.heap.size _ _ _ _ C.out.res) Tryz.underlying115 rfl C.out.info) rfl ?_
  refine RetCode.eq ?_ C.out.ret
  rfl
theorem clo_read1 (t : Ct.Trie) (i : Int) (th : Ct.K) (ih : CallRef th) : CallRef (.read1 t i th) := by
  intro O g w s n ff caps x h hfine hk
  obtain ⟨b0, b1, b2, e, k0, k1, ⟨u, k2, kr⟩⟩ := hk
  injection e with e1 e2 e3
  injection e1 with e1
  subst e1 e2 e3
  obtain ⟨fn, ff, fc, rfl⟩ := kr.func
  exact clo_read1_w t i th g w s x b0 b1 b2 fn ff fc h (hfine.less (by simp only [Ct.K.rank]; omega)) k0 k1 k2 kr ih
set_option maxRecDepth 100000 in
set_option maxHeartbeats 400000 in
theorem clo_root3_w (t : Ct.Trie) (v : Int) (d : Ct.Node) (th : Ct.K) (g : Ghost) (w : World) (s : Ct.St) (x : Bool) (b0 b1 b2 b3 : Nat) (bv pv : Value) (fn : FuncId) (ff fc : Array Value) (h : ArenaO O g w s) (hfin : Fin (1000 + 1000 * th.rank) s) (k0 : Blk g.N w b0 (nodeCells d bv pv).toArray 136) (k1 : Blk g.N w b1 (opCells g.sv t) 181) (k2 : Blk g.N w b2 #[.int .i64 v] 40) (k3 : Blk g.N w b3 #[.func (.func fn) ff fc] 112) (kr : KRep g.sv g.N O w (.func (.func fn) ff fc) th) (ih : CallRef th) :
    Calls Tryz.prog 215 #[.bool x, ptr b0, ptr b1, ptr b2, ptr b3] w (RetCode O g w (Ct.apply Ct.stOps (.root3 t v d th) (Ct.ofBool x) s)) := by
  have hNW := (News.nil w).alloc (.cells zeroCode 115)
  obtain ⟨W0, hW0⟩ : ∃ W, (w.alloc (.cells zeroCode 115)) = W := ⟨_, rfl⟩
  rw [hW0] at hNW
  have z := hNW.size
  simp at z
  have hR0 := Run.start h hNW (b := w.heap.size) 0 rfl rfl
  have hM0 : Mv O g w (g.plus w.heap.size) W0 := Mv.plus hNW.below (by omega)
  have c1 := (k0).at1 13 (.int .i64 d.status) rfl
  have B0 := Lib.hid (k0.mv hM0)
  have B1 := Lib.hid (k1.mv hM0)
  have B2 := Lib.hid (k2.mv hM0)
  have B3 := Lib.hid (k3.mv hM0)
  have KR := Lib.hid (kr.mv hM0)
  have hent := kr.enters
  unfold Ent at hent
  have R0 := Lib.hid hR0
  have M0 := Lib.hid hM0
  have HW := Lib.hid hW0
  have HZ := Lib.hid z
  have H := Lib.hid h
  have FI := Lib.hid hfin
  have hmf := hmfG
  clear h hNW hW0 z hR0 hM0 hfin k0 k1 k2 k3 kr
  unfold ptr
  go_enter Tryz.func215, Tryz.ntmps215
  go_wp2_with fail
  refine (with_world HW.out (taskLoad_any d.status _ _ ⟨_, _, _, rfl⟩)).mono ?_
  rintro e w2 hc
  obtain ⟨cs, rfl, hC, hMC⟩ := R0.out.made3 (c := .load d.status (.root4 t v th)) (⟨_, rfl, ⟨_, _, _, rfl, B1.out, B2.out, ⟨_, B3.out, KR.out⟩⟩⟩) hc
  have C := Lib.hid hC; have MC := Lib.hid hMC
  clear hc hC hMC
  go_wp2_with (refine wpList_store_row rfl 115 (.tmp 6) (.tmp 10) rfl w.heap.size cs.toArray rfl rfl 115 zeroCode C.out.res C.out.info C.out.len.symm C.out.one ?_)
  refine bodyPost_ret (v := .agg cs.toArray) (results_cell_row Tryz.results215 _ _ w.heap.size 115 _ (0, 0) _ rfl (setRow_heap _ w.heap.size _ _ _ _ C.out.res) Tryz.underlying115 rfl C.out.info) rfl ?_
  refine RetCode.eq ?_ C.out.ret
  rfl
theorem clo_root3 (t : Ct.Trie) (v : Int) (d : Ct.Node) (th : Ct.K) (ih : CallRef th) : CallBool (.root3 t v d th) := by
  intro O g w s n ff caps x h hfine hk
  obtain ⟨b0, b1, b2, b3, e, ⟨bv, pv, k0⟩, k1, k2, ⟨u, k3, kr⟩⟩ := hk
  injection e with e1 e2 e3
  injection e1 with e1
  subst e1 e2 e3
  obtain ⟨fn, ff, fc, rfl⟩ := kr.func
  exact clo_root3_w t v d th g w s x b0 b1 b2 b3 bv pv fn ff fc h (hfine.less (by simp only [Ct.K.rank]; omega)) k0 k1 k2 k3 kr ih
set_option maxRecDepth 100000 in
set_option maxHeartbeats 400000 in
theorem clo_root4_w (t : Ct.Trie) (v : Int) (th : Ct.K) (g : Ghost) (w : World) (s : Ct.St) (x : Int) (b0 b1 b2 : Nat) (fn : FuncId) (ff fc : Array Value) (h : ArenaO O g w s) (hfin : Fin (1000 + 1000 * th.rank) s) (k0 : Blk g.N w b0 (opCells g.sv t) 181) (k1 : Blk g.N w b1 #[.int .i64 v] 40) (k2 : Blk g.N w b2 #[.func (.func fn) ff fc] 112) (kr : KRep g.sv g.N O w (.func (.func fn) ff fc) th) (ih : CallRef th) :
    Calls Tryz.prog 216 #[.int .i64 x, ptr b0, ptr b1, ptr b2] w (RetCode O g w (Ct.apply Ct.stOps (.root4 t v th) x s)) := by
  have hNW := (News.nil w).alloc (.cells zeroCode 115)
  obtain ⟨W0, hW0⟩ : ∃ W, (w.alloc (.cells zeroCode 115)) = W := ⟨_, rfl⟩
  rw [hW0] at hNW
  have z := hNW.size
  simp at z
  have hR0 := Run.start h hNW (b := w.heap.size) 0 rfl rfl
  have hM0 : Mv O g w (g.plus w.heap.size) W0 := Mv.plus hNW.below (by omega)
  have c1 := (k0).at1 0 (.iface 23 (.pointer (some ⟨g.a, 0, none⟩))) rfl
  have c2 := (k0).at1 1 (.int .i64 t.root) rfl
  have c3 := (k0).at1 2 (.bool t.readOnly) rfl
  have c4 := (k1).at1 0 (.int .i64 v) rfl
  have c5 := (k2).at1 0 (.func (.func fn) ff fc) rfl
  have B0 := Lib.hid (k0.mv hM0)
  have B1 := Lib.hid (k1.mv hM0)
  have B2 := Lib.hid (k2.mv hM0)
  have KR := Lib.hid (kr.mv hM0)
  have hent := kr.enters
  unfold Ent at hent
  have R0 := Lib.hid hR0
  have M0 := Lib.hid hM0
  have HW := Lib.hid hW0
  have HZ := Lib.hid z
  have H := Lib.hid h
  have FI := Lib.hid hfin
  have hmf := hmfG
  clear h hNW hW0 z hR0 hM0 hfin k0 k1 k2 kr
  unfold ptr
  go_enter Tryz.func216, Tryz.ntmps216
  go_wp2_with fail
  refine (with_world HW.out (complete_any (g.plus w.heap.size) _ _ t v x th _ R0.out.arena (FI.out.Room (by omega)) FI.out.short (KR.out))).mono ?_
  rintro e w6 hc
  obtain ⟨cs, h6, rfl, hC, hMC⟩ := R0.out.code2 hc
  have C := Lib.hid hC; have MC := Lib.hid hMC
  clear hc hC hMC
  go_wp2_with (refine wpList_store_row rfl 115 (.tmp 5) (.tmp 10) rfl w.heap.size cs.toArray rfl rfl 115 zeroCode C.out.res C.out.info C.out.len.symm C.out.one ?_)
  refine bodyPost_ret (v := .agg cs.toArray) (results_cell_row Tryz.results216 _ _ w.heap.size 115 _ (0, 0) _ rfl (setRow_heap _ w.heap.size _ _ _ _ C.out.res) Tryz.underlying115 rfl C.out.info) rfl ?_
  refine RetCode.eq ?_ C.out.ret
  rfl
theorem clo_root4 (t : Ct.Trie) (v : Int) (th : Ct.K) (ih : CallRef th) : CallRef (.root4 t v th) := by
  intro O g w s n ff caps x h hfine hk
  obtain ⟨b0, b1, b2, e, k0, k1, ⟨u, k2, kr⟩⟩ := hk
  injection e with e1 e2 e3
  injection e1 with e1
  subst e1 e2 e3
  obtain ⟨fn, ff, fc, rfl⟩ := kr.func
  exact clo_root4_w t v th g w s x b0 b1 b2 fn ff fc h (hfine.less (by simp only [Ct.K.rank]; omega)) k0 k1 k2 kr ih
set_option maxRecDepth 100000 in
set_option maxHeartbeats 400000 in
theorem clo_help3_w (t : Ct.Trie) (v : Int) (d : Ct.Node) (th : Ct.K) (g : Ghost) (w : World) (s : Ct.St)  (b0 b1 b2 b3 : Nat) (bv pv : Value) (fn : FuncId) (ff fc : Array Value) (h : ArenaO O g w s) (hfin : Fin (1000 + 1000 * th.rank) s) (k0 : Blk g.N w b0 (nodeCells d bv pv).toArray 136) (k1 : Blk g.N w b1 (opCells g.sv t) 181) (k2 : Blk g.N w b2 #[.int .i64 v] 40) (k3 : Blk g.N w b3 #[.func (.func fn) ff fc] 112) (kr : KRep g.sv g.N O w (.func (.func fn) ff fc) th) (ih : CallRef th) :
    Calls Tryz.prog 143 #[ptr b0, ptr b1, ptr b2, ptr b3] w (RetCode O g w (Ct.apply Ct.stOps (.help3 t v d th) 0 s)) := by
  have hNW := (News.nil w).alloc (.cells zeroCode 115)
  obtain ⟨W0, hW0⟩ : ∃ W, (w.alloc (.cells zeroCode 115)) = W := ⟨_, rfl⟩
  rw [hW0] at hNW
  have z := hNW.size
  simp at z
  have hR0 := Run.start h hNW (b := w.heap.size) 0 rfl rfl
  have hM0 : Mv O g w (g.plus w.heap.size) W0 := Mv.plus hNW.below (by omega)
  have c1 := (k0).at1 13 (.int .i64 d.status) rfl
  have B0 := Lib.hid (k0.mv hM0)
  have B1 := Lib.hid (k1.mv hM0)
  have B2 := Lib.hid (k2.mv hM0)
  have B3 := Lib.hid (k3.mv hM0)
  have KR := Lib.hid (kr.mv hM0)
  have hent := kr.enters
  unfold Ent at hent
  have R0 := Lib.hid hR0
  have M0 := Lib.hid hM0
  have HW := Lib.hid hW0
  have HZ := Lib.hid z
  have H := Lib.hid h
  have FI := Lib.hid hfin
  have hmf := hmfG
  clear h hNW hW0 z hR0 hM0 hfin k0 k1 k2 k3 kr
  unfold ptr
  go_enter Tryz.func143, Tryz.ntmps143
  go_wp2_with fail
  refine (with_world HW.out (taskLoad_any d.status _ _ ⟨_, _, _, rfl⟩)).mono ?_
  rintro e w2 hc
  obtain ⟨cs, rfl, hC, hMC⟩ := R0.out.made3 (c := .load d.status (.help4 t v th)) (⟨_, rfl, ⟨_, _, _, rfl, B1.out, B2.out, ⟨_, B3.out, KR.out⟩⟩⟩) hc
  have C := Lib.hid hC; have MC := Lib.hid hMC
  clear hc hC hMC
  go_wp2_with (refine wpList_store_row rfl 115 (.tmp 4) (.tmp 8) rfl w.heap.size cs.toArray rfl rfl 115 zeroCode C.out.res C.out.info C.out.len.symm C.out.one ?_)
  refine bodyPost_ret (v := .agg cs.toArray) (results_cell_row Tryz.results143 _ _ w.heap.size 115 _ (0, 0) _ rfl (setRow_heap _ w.heap.size _ _ _ _ C.out.res) Tryz.underlying115 rfl C.out.info) rfl ?_
  refine RetCode.eq ?_ C.out.ret
  rfl
theorem clo_help3 (t : Ct.Trie) (v : Int) (d : Ct.Node) (th : Ct.K) (ih : CallRef th) : CallThunk (.help3 t v d th) := by
  intro O g w s n ff caps h hfine hk
  obtain ⟨b0, b1, b2, b3, e, ⟨bv, pv, k0⟩, k1, k2, ⟨u, k3, kr⟩⟩ := hk
  injection e with e1 e2 e3
  injection e1 with e1
  subst e1 e2 e3
  obtain ⟨fn, ff, fc, rfl⟩ := kr.func
  exact clo_help3_w t v d th g w s b0 b1 b2 b3 bv pv fn ff fc h (hfine.less (by simp only [Ct.K.rank]; omega)) k0 k1 k2 k3 kr ih
set_option maxRecDepth 100000 in
set_option maxHeartbeats 400000 in
theorem clo_help4_w (t : Ct.Trie) (v : Int) (th : Ct.K) (g : Ghost) (w : World) (s : Ct.St) (x : Int) (b0 b1 b2 : Nat) (fn : FuncId) (ff fc : Array Value) (h : ArenaO O g w s) (hfin : Fin (1000 + 1000 * th.rank) s) (k0 : Blk g.N w b0 (opCells g.sv t) 181) (k1 : Blk g.N w b1 #[.int .i64 v] 40) (k2 : Blk g.N w b2 #[.func (.func fn) ff fc] 112) (kr : KRep g.sv g.N O w (.func (.func fn) ff fc) th) (ih : CallRef th) :
    Calls Tryz.prog 144 #[.int .i64 x, ptr b0, ptr b1, ptr b2] w (RetCode O g w (Ct.apply Ct.stOps (.help4 t v th) x s)) := by
  have hNW := (News.nil w).alloc (.cells zeroCode 115)
  obtain ⟨W0, hW0⟩ : ∃ W, (w.alloc (.cells zeroCode 115)) = W := ⟨_, rfl⟩
  rw [hW0] at hNW
  have z := hNW.size
  simp at z
  have hR0 := Run.start h hNW (b := w.heap.size) 0 rfl rfl
  have hM0 : Mv O g w (g.plus w.heap.size) W0 := Mv.plus hNW.below (by omega)
  have c1 := (k0).at1 0 (.iface 23 (.pointer (some ⟨g.a, 0, none⟩))) rfl
  have c2 := (k0).at1 1 (.int .i64 t.root) rfl
  have c3 := (k0).at1 2 (.bool t.readOnly) rfl
  have c4 := (k1).at1 0 (.int .i64 v) rfl
  have c5 := (k2).at1 0 (.func (.func fn) ff fc) rfl
  have B0 := Lib.hid (k0.mv hM0)
  have B1 := Lib.hid (k1.mv hM0)
  have B2 := Lib.hid (k2.mv hM0)
  have KR := Lib.hid (kr.mv hM0)
  have hent := kr.enters
  unfold Ent at hent
  have R0 := Lib.hid hR0
  have M0 := Lib.hid hM0
  have HW := Lib.hid hW0
  have HZ := Lib.hid z
  have H := Lib.hid h
  have FI := Lib.hid hfin
  have hmf := hmfG
  clear h hNW hW0 z hR0 hM0 hfin k0 k1 k2 kr
  unfold ptr
  go_enter Tryz.func144, Tryz.ntmps144
  go_wp2_with fail
  refine (with_world HW.out (complete_any (g.plus w.heap.size) _ _ t v x th _ R0.out.arena (FI.out.Room (by omega)) FI.out.short (KR.out))).mono ?_
  rintro e w6 hc
  obtain ⟨cs, h6, rfl, hC, hMC⟩ := R0.out.code2 hc
  have C := Lib.hid hC; have MC := Lib.hid hMC
  clear hc hC hMC
  go_wp2_with (refine wpList_store_row rfl 115 (.tmp 5) (.tmp 10) rfl w.heap.size cs.toArray rfl rfl 115 zeroCode C.out.res C.out.info C.out.len.symm C.out.one ?_)
  refine bodyPost_ret (v := .agg cs.toArray) (results_cell_row Tryz.results144 _ _ w.heap.size 115 _ (0, 0) _ rfl (setRow_heap _ w.heap.size _ _ _ _ C.out.res) Tryz.underlying115 rfl C.out.info) rfl ?_
  refine RetCode.eq ?_ C.out.ret
  rfl
theorem clo_help4 (t : Ct.Trie) (v : Int) (th : Ct.K) (ih : CallRef th) : CallRef (.help4 t v th) := by
  intro O g w s n ff caps x h hfine hk
  obtain ⟨b0, b1, b2, e, k0, k1, ⟨u, k2, kr⟩⟩ := hk
  injection e with e1 e2 e3
  injection e1 with e1
  subst e1 e2 e3
  obtain ⟨fn, ff, fc, rfl⟩ := kr.func
  exact clo_help4_w t v th g w s x b0 b1 b2 fn ff fc h (hfine.less (by simp only [Ct.K.rank]; omega)) k0 k1 k2 kr ih
set_option maxRecDepth 100000 in
set_option maxHeartbeats 400000 in
theorem clo_again1_w (t : Ct.Trie) (i : Int) (m : Int) (prev : Int) (th : Ct.K) (g : Ghost) (w : World) (s : Ct.St) (x : Bool) (b0 b1 b2 b3 b4 : Nat) (fn : FuncId) (ff fc : Array Value) (h : ArenaO O g w s) (hfin : Fin (1000 + 1000 * th.rank) s) (k0 : Blk g.N w b0 #[.int .i64 prev] 41) (k1 : Blk g.N w b1 #[.func (.func fn) ff fc] 112) (kr : KRep g.sv g.N O w (.func (.func fn) ff fc) th) (k2 : Blk g.N w b2 #[.int .i64 m] 40) (k3 : Blk g.N w b3 (opCells g.sv t) 181) (k4 : Blk g.N w b4 #[.int .i64 i] 40) (ih : CallRef th) :
    Calls Tryz.prog 182 #[.bool x, ptr b0, ptr b1, ptr b2, ptr b3, ptr b4] w (RetCode O g w (Ct.apply Ct.stOps (.again1 t i m prev th) (Ct.ofBool x) s)) := by
  have hNW := (News.nil w).alloc (.cells zeroCode 115)
  obtain ⟨W0, hW0⟩ : ∃ W, (w.alloc (.cells zeroCode 115)) = W := ⟨_, rfl⟩
  rw [hW0] at hNW
  have z := hNW.size
  simp at z
  have hR0 := Run.start h hNW (b := w.heap.size) 0 rfl rfl
  have hM0 : Mv O g w (g.plus w.heap.size) W0 := Mv.plus hNW.below (by omega)
  have c1 := (k0).at1 0 (.int .i64 prev) rfl
  have B0 := Lib.hid (k0.mv hM0)
  have B1 := Lib.hid (k1.mv hM0)
  have B2 := Lib.hid (k2.mv hM0)
  have B3 := Lib.hid (k3.mv hM0)
  have B4 := Lib.hid (k4.mv hM0)
  have KR := Lib.hid (kr.mv hM0)
  have hent := kr.enters
  unfold Ent at hent
  have R0 := Lib.hid hR0
  have M0 := Lib.hid hM0
  have HW := Lib.hid hW0
  have HZ := Lib.hid z
  have H := Lib.hid h
  have FI := Lib.hid hfin
  have hmf := hmfG
  clear h hNW hW0 z hR0 hM0 hfin k0 k1 k2 k3 k4 kr
  unfold ptr
  go_enter Tryz.func182, Tryz.ntmps182
  go_wp2_with fail
  refine (with_world HW.out (taskLoad_any prev _ _ ⟨_, _, _, rfl⟩)).mono ?_
  rintro e w2 hc
  obtain ⟨cs, rfl, hC, hMC⟩ := R0.out.made3 (c := .load prev (.again2 t i m th)) (⟨_, rfl, ⟨_, _, _, _, rfl, ⟨_, B1.out, KR.out⟩, B2.out, B3.out, B4.out⟩⟩) hc
  have C := Lib.hid hC; have MC := Lib.hid hMC
  clear hc hC hMC
  go_wp2_with (refine wpList_store_row rfl 115 (.tmp 7) (.tmp 10) rfl w.heap.size cs.toArray rfl rfl 115 zeroCode C.out.res C.out.info C.out.len.symm C.out.one ?_)
  refine bodyPost_ret (v := .agg cs.toArray) (results_cell_row Tryz.results182 _ _ w.heap.size 115 _ (0, 0) _ rfl (setRow_heap _ w.heap.size _ _ _ _ C.out.res) Tryz.underlying115 rfl C.out.info) rfl ?_
  refine RetCode.eq ?_ C.out.ret
  rfl
theorem clo_again1 (t : Ct.Trie) (i : Int) (m : Int) (prev : Int) (th : Ct.K) (ih : CallRef th) : CallBool (.again1 t i m prev th) := by
  intro O g w s n ff caps x h hfine hk
  obtain ⟨b0, b1, b2, b3, b4, e, k0, ⟨u, k1, kr⟩, k2, k3, k4⟩ := hk
  injection e with e1 e2 e3
  injection e1 with e1
  subst e1 e2 e3
  obtain ⟨fn, ff, fc, rfl⟩ := kr.func
  exact clo_again1_w t i m prev th g w s x b0 b1 b2 b3 b4 fn ff fc h (hfine.less (by simp only [Ct.K.rank]; omega)) k0 k1 kr k2 k3 k4 ih
set_option maxRecDepth 100000 in
set_option maxHeartbeats 400000 in
theorem clo_repl2_w (t : Ct.Trie) (v : Int) (d : Ct.Node) (th : Ct.K) (g : Ghost) (w : World) (s : Ct.St)  (b0 b1 b2 b3 : Nat) (bv pv : Value) (fn : FuncId) (ff fc : Array Value) (h : ArenaO O g w s) (hfin : Fin (1000 + 1000 * th.rank) s) (k0 : Blk g.N w b0 (nodeCells d bv pv).toArray 136) (k1 : Blk g.N w b1 (opCells g.sv t) 181) (k2 : Blk g.N w b2 #[.int .i64 v] 40) (k3 : Blk g.N w b3 #[.func (.func fn) ff fc] 113) (kr : KRep g.sv g.N O w (.func (.func fn) ff fc) th) (ih : CallBool th) :
    Calls Tryz.prog 189 #[ptr b0, ptr b1, ptr b2, ptr b3] w (RetCode O g w (Ct.apply Ct.stOps (.repl2 t v d th) 0 s)) := by
  have hNW := (News.nil w).alloc (.cells zeroCode 115)
  obtain ⟨W0, hW0⟩ : ∃ W, (w.alloc (.cells zeroCode 115)) = W := ⟨_, rfl⟩
  rw [hW0] at hNW
  have z := hNW.size
  simp at z
  have hR0 := Run.start h hNW (b := w.heap.size) 0 rfl rfl
  have hM0 : Mv O g w (g.plus w.heap.size) W0 := Mv.plus hNW.below (by omega)
  have c1 := (k0).at1 13 (.int .i64 d.status) rfl
  have B0 := Lib.hid (k0.mv hM0)
  have B1 := Lib.hid (k1.mv hM0)
  have B2 := Lib.hid (k2.mv hM0)
  have B3 := Lib.hid (k3.mv hM0)
  have KR := Lib.hid (kr.mv hM0)
  have hent := kr.enters
  unfold Ent at hent
  have R0 := Lib.hid hR0
  have M0 := Lib.hid hM0
  have HW := Lib.hid hW0
  have HZ := Lib.hid z
  have H := Lib.hid h
  have FI := Lib.hid hfin
  have hmf := hmfG
  clear h hNW hW0 z hR0 hM0 hfin k0 k1 k2 k3 kr
  unfold ptr
  go_enter Tryz.func189, Tryz.ntmps189
  go_wp2_with fail
  refine (with_world HW.out (taskLoad_any d.status _ _ ⟨_, _, _, rfl⟩)).mono ?_
  rintro e w2 hc
  obtain ⟨cs, rfl, hC, hMC⟩ := R0.out.made3 (c := .load d.status (.repl3 t v th)) (⟨_, rfl, ⟨_, _, _, rfl, B1.out, B2.out, ⟨_, B3.out, KR.out⟩⟩⟩) hc
  have C := Lib.hid hC; have MC := Lib.hid hMC
  clear hc hC hMC
  go_wp2_with (refine wpList_store_row rfl 115 (.tmp 4) (.tmp 8) rfl w.heap.size cs.toArray rfl rfl 115 zeroCode C.out.res C.out.info C.out.len.symm C.out.one ?_)
  refine bodyPost_ret (v := .agg cs.toArray) (results_cell_row Tryz.results189 _ _ w.heap.size 115 _ (0, 0) _ rfl (setRow_heap _ w.heap.size _ _ _ _ C.out.res) Tryz.underlying115 rfl C.out.info) rfl ?_
  refine RetCode.eq ?_ C.out.ret
  rfl
theorem clo_repl2 (t : Ct.Trie) (v : Int) (d : Ct.Node) (th : Ct.K) (ih : CallBool th) : CallThunk (.repl2 t v d th) := by
  intro O g w s n ff caps h hfine hk
  obtain ⟨b0, b1, b2, b3, e, ⟨bv, pv, k0⟩, k1, k2, ⟨u, k3, kr⟩⟩ := hk
  injection e with e1 e2 e3
  injection e1 with e1
  subst e1 e2 e3
  obtain ⟨fn, ff, fc, rfl⟩ := kr.func
  exact clo_repl2_w t v d th g w s b0 b1 b2 b3 bv pv fn ff fc h (hfine.less (by simp only [Ct.K.rank]; omega)) k0 k1 k2 k3 kr ih
set_option maxRecDepth 100000 in
set_option maxHeartbeats 400000 in
theorem clo_complete1_w (r : Int) (th : Ct.K) (g : Ghost) (w : World) (s : Ct.St) (x : Bool) (b0 b1 : Nat) (fn : FuncId) (ff fc : Array Value) (h : ArenaO O g w s) (hfin : Fin (1000 + 1000 * th.rank) s) (k0 : Blk g.N w b0 #[.func (.func fn) ff fc] 112) (kr : KRep g.sv g.N O w (.func (.func fn) ff fc) th) (k1 : Blk g.N w b1 #[.int .i64 r] 40) (ih : CallRef th) :
    Calls Tryz.prog 171 #[.bool x, ptr b0, ptr b1] w (RetCode O g w (Ct.apply Ct.stOps (.complete1 r th) (Ct.ofBool x) s)) := by
  have hNW := (News.nil w).alloc (.cells zeroCode 115)
  obtain ⟨W0, hW0⟩ : ∃ W, (w.alloc (.cells zeroCode 115)) = W := ⟨_, rfl⟩
  rw [hW0] at hNW
  have z := hNW.size
  simp at z
  have hR0 := Run.start h hNW (b := w.heap.size) 0 rfl rfl
  have hM0 : Mv O g w (g.plus w.heap.size) W0 := Mv.plus hNW.below (by omega)
  have c1 := (k0).at1 0 (.func (.func fn) ff fc) rfl
  have c2 := (k1).at1 0 (.int .i64 r) rfl
  have B0 := Lib.hid (k0.mv hM0)
  have B1 := Lib.hid (k1.mv hM0)
  have KR := Lib.hid (kr.mv hM0)
  have hent := kr.enters
  unfold Ent at hent
  have R0 := Lib.hid hR0
  have M0 := Lib.hid hM0
  have HW := Lib.hid hW0
  have HZ := Lib.hid z
  have H := Lib.hid h
  have FI := Lib.hid hfin
  have hmf := hmfG
  clear h hNW hW0 z hR0 hM0 hfin k0 k1 kr
  unfold ptr
  go_enter Tryz.func171, Tryz.ntmps171
  go_wp2_with fail
  refine (with_world HW.out (ih _ _ _ _ _ _ r R0.out.arena (FI.out.less (by omega)) (KR.out))).mono ?_
  rintro e w3 hc
  obtain ⟨cs, h3, rfl, hC, hMC⟩ := R0.out.code2 hc
  have C := Lib.hid hC; have MC := Lib.hid hMC
  clear hc hC hMC
  go_wp2_with (refine wpList_store_row rfl 115 (.tmp 4) (.tmp 7) rfl w.heap.size cs.toArray rfl rfl 115 zeroCode C.out.res C.out.info C.out.len.symm C.out.one ?_)
  refine bodyPost_ret (v := .agg cs.toArray) (results_cell_row Tryz.results171 _ _ w.heap.size 115 _ (0, 0) _ rfl (setRow_heap _ w.heap.size _ _ _ _ C.out.res) Tryz.underlying115 rfl C.out.info) rfl ?_
  refine RetCode.eq ?_ C.out.ret
  rfl
theorem clo_complete1 (r : Int) (th : Ct.K) (ih : CallRef th) : CallBool (.complete1 r th) := by
  intro O g w s n ff caps x h hfine hk
  obtain ⟨b0, b1, e, ⟨u, k0, kr⟩, k1⟩ := hk
  injection e with e1 e2 e3
  injection e1 with e1
  subst e1 e2 e3
  obtain ⟨fn, ff, fc, rfl⟩ := kr.func
  exact clo_complete1_w r th g w s x b0 b1 fn ff fc h (hfine.less (by simp only [Ct.K.rank]; omega)) k0 kr k1 ih
set_option maxRecDepth 100000 in
set_option maxHeartbeats 400000 in
theorem clo_back1_w (old : Int) (th : Ct.K) (g : Ghost) (w : World) (s : Ct.St) (x : Bool) (b0 b1 : Nat) (fn : FuncId) (ff fc : Array Value) (h : ArenaO O g w s) (hfin : Fin (1000 + 1000 * th.rank) s) (k0 : Blk g.N w b0 #[.func (.func fn) ff fc] 112) (kr : KRep g.sv g.N O w (.func (.func fn) ff fc) th) (k1 : Blk g.N w b1 #[.int .i64 old] 40) (ih : CallRef th) :
    Calls Tryz.prog 211 #[.bool x, ptr b0, ptr b1] w (RetCode O g w (Ct.apply Ct.stOps (.back1 old th) (Ct.ofBool x) s)) := by
  have hNW := (News.nil w).alloc (.cells zeroCode 115)
  obtain ⟨W0, hW0⟩ : ∃ W, (w.alloc (.cells zeroCode 115)) = W := ⟨_, rfl⟩
  rw [hW0] at hNW
  have z := hNW.size
  simp at z
  have hR0 := Run.start h hNW (b := w.heap.size) 0 rfl rfl
  have hM0 : Mv O g w (g.plus w.heap.size) W0 := Mv.plus hNW.below (by omega)
  have c1 := (k0).at1 0 (.func (.func fn) ff fc) rfl
  have c2 := (k1).at1 0 (.int .i64 old) rfl
  have B0 := Lib.hid (k0.mv hM0)
  have B1 := Lib.hid (k1.mv hM0)
  have KR := Lib.hid (kr.mv hM0)
  have hent := kr.enters
  unfold Ent at hent
  have R0 := Lib.hid hR0
  have M0 := Lib.hid hM0
  have HW := Lib.hid hW0
  have HZ := Lib.hid z
  have H := Lib.hid h
  have FI := Lib.hid hfin
  have hmf := hmfG
  clear h hNW hW0 z hR0 hM0 hfin k0 k1 kr
  unfold ptr
  go_enter Tryz.func211, Tryz.ntmps211
  go_wp2_with fail
  refine (with_world HW.out (ih _ _ _ _ _ _ old R0.out.arena (FI.out.less (by omega)) (KR.out))).mono ?_
  rintro e w3 hc
  obtain ⟨cs, h3, rfl, hC, hMC⟩ := R0.out.code2 hc
  have C := Lib.hid hC; have MC := Lib.hid hMC
  clear hc hC hMC
  go_wp2_with (refine wpList_store_row rfl 115 (.tmp 4) (.tmp 7) rfl w.heap.size cs.toArray rfl rfl 115 zeroCode C.out.res C.out.info C.out.len.symm C.out.one ?_)
  refine bodyPost_ret (v := .agg cs.toArray) (results_cell_row Tryz.results211 _ _ w.heap.size 115 _ (0, 0) _ rfl (setRow_heap _ w.heap.size _ _ _ _ C.out.res) Tryz.underlying115 rfl C.out.info) rfl ?_
  refine RetCode.eq ?_ C.out.ret
  rfl
theorem clo_back1 (old : Int) (th : Ct.K) (ih : CallRef th) : CallBool (.back1 old th) := by
  intro O g w s n ff caps x h hfine hk
  obtain ⟨b0, b1, e, ⟨u, k0, kr⟩, k1⟩ := hk
  injection e with e1 e2 e3
  injection e1 with e1
  subst e1 e2 e3
  obtain ⟨fn, ff, fc, rfl⟩ := kr.func
  exact clo_back1_w old th g w s x b0 b1 fn ff fc h (hfine.less (by simp only [Ct.K.rank]; omega)) k0 kr k1 ih
set_option maxRecDepth 100000 in
set_option maxHeartbeats 400000 in
theorem clo_decide2_w (th : Ct.K) (g : Ghost) (w : World) (s : Ct.St) (x : Bool) (b0 : Nat) (fn : FuncId) (ff fc : Array Value) (h : ArenaO O g w s) (hfin : Fin (1000 + 1000 * th.rank) s) (k0 : Blk g.N w b0 #[.func (.func fn) ff fc] 153) (kr : KRep g.sv g.N O w (.func (.func fn) ff fc) th) (ih : CallThunk th) :
    Calls Tryz.prog 173 #[.bool x, ptr b0] w (RetCode O g w (Ct.apply Ct.stOps (.decide2 th) (Ct.ofBool x) s)) := by
  have hNW := (News.nil w).alloc (.cells zeroCode 115)
  obtain ⟨W0, hW0⟩ : ∃ W, (w.alloc (.cells zeroCode 115)) = W := ⟨_, rfl⟩
  rw [hW0] at hNW
  have z := hNW.size
  simp at z
  have hR0 := Run.start h hNW (b := w.heap.size) 0 rfl rfl
  have hM0 : Mv O g w (g.plus w.heap.size) W0 := Mv.plus hNW.below (by omega)
  have c1 := (k0).at1 0 (.func (.func fn) ff fc) rfl
  have B0 := Lib.hid (k0.mv hM0)
  have KR := Lib.hid (kr.mv hM0)
  have hent := kr.enters
  unfold Ent at hent
  have R0 := Lib.hid hR0
  have M0 := Lib.hid hM0
  have HW := Lib.hid hW0
  have HZ := Lib.hid z
  have H := Lib.hid h
  have FI := Lib.hid hfin
  have hmf := hmfG
  clear h hNW hW0 z hR0 hM0 hfin k0 kr
  unfold ptr
  go_enter Tryz.func173, Tryz.ntmps173
  go_wp2_with fail
  refine (with_world HW.out (ih _ _ _ _ _ _  R0.out.arena (FI.out.less (by omega)) (KR.out))).mono ?_
  rintro e w2 hc
  obtain ⟨cs, h2, rfl, hC, hMC⟩ := R0.out.code2 hc
  have C := Lib.hid hC; have MC := Lib.hid hMC
  clear hc hC hMC
  go_wp2_with (refine wpList_store_row rfl 115 (.tmp 3) (.tmp 5) rfl w.heap.size cs.toArray rfl rfl 115 zeroCode C.out.res C.out.info C.out.len.symm C.out.one ?_)
  refine bodyPost_ret (v := .agg cs.toArray) (results_cell_row Tryz.results173 _ _ w.heap.size 115 _ (0, 0) _ rfl (setRow_heap _ w.heap.size _ _ _ _ C.out.res) Tryz.underlying115 rfl C.out.info) rfl ?_
  refine RetCode.eq ?_ C.out.ret
  rfl
theorem clo_decide2 (th : Ct.K) (ih : CallThunk th) : CallBool (.decide2 th) := by
  intro O g w s n ff caps x h hfine hk
  obtain ⟨b0, e, ⟨u, k0, kr⟩⟩ := hk
  injection e with e1 e2 e3
  injection e1 with e1
  subst e1 e2 e3
  obtain ⟨fn, ff, fc, rfl⟩ := kr.func
  exact clo_decide2_w th g w s x b0 fn ff fc h (hfine.less (by simp only [Ct.K.rank]; omega)) k0 kr ih
set_option maxRecDepth 100000 in
set_option maxHeartbeats 400000 in
theorem clo_repl3_w (t : Ct.Trie) (v : Int) (th : Ct.K) (g : Ghost) (w : World) (s : Ct.St) (x : Int) (b0 b1 b2 : Nat) (fn : FuncId) (ff fc : Array Value) (h : ArenaO O g w s) (hfin : Fin (1000 + 1000 * th.rank) s) (k0 : Blk g.N w b0 (opCells g.sv t) 181) (k1 : Blk g.N w b1 #[.int .i64 v] 40) (k2 : Blk g.N w b2 #[.func (.func fn) ff fc] 113) (kr : KRep g.sv g.N O w (.func (.func fn) ff fc) th) (ih : CallBool th) :
    Calls Tryz.prog 190 #[.int .i64 x, ptr b0, ptr b1, ptr b2] w (RetCode O g w (Ct.apply Ct.stOps (.repl3 t v th) x s)) := by
  have hNW := (((News.nil w).alloc (.cells #[.int .i64 x] 40)).alloc (.cells zeroCode 115))
  obtain ⟨W0, hW0⟩ : ∃ W, ((w.alloc (.cells #[.int .i64 x] 40)).alloc (.cells zeroCode 115)) = W := ⟨_, rfl⟩
  rw [hW0] at hNW
  have z := hNW.size
  simp at z
  have hR0 := Run.start h hNW (b := w.heap.size + 1) 1 rfl rfl
  have hM0 : Mv O g w (g.plus (w.heap.size + 1)) W0 := Mv.plus hNW.below (by omega)
  have c1 := (k0).at2 0 (.iface 23 (.pointer (some ⟨g.a, 0, none⟩))) rfl
  have c2 := (k0).at2 1 (.int .i64 t.root) rfl
  have c3 := (k0).at2 2 (.bool t.readOnly) rfl
  have c4 := (k1).at2 0 (.int .i64 v) rfl
  have B3 := Lib.hid (blk_plus h.toArenaAt (b := w.heap.size) (c := w.heap.size + 1) (by omega) (by omega) (hNW.at_ 0 _ rfl))
  have B0 := Lib.hid (k0.mv hM0)
  have B1 := Lib.hid (k1.mv hM0)
  have B2 := Lib.hid (k2.mv hM0)
  have KR := Lib.hid (kr.mv hM0)
  have hent := kr.enters
  unfold Ent at hent
  have R0 := Lib.hid hR0
  have M0 := Lib.hid hM0
  have HW := Lib.hid hW0
  have HZ := Lib.hid z
  have H := Lib.hid h
  have FI := Lib.hid hfin
  have hmf := hmfG
  clear h hNW hW0 z hR0 hM0 hfin k0 k1 k2 kr
  unfold ptr
  go_enter Tryz.func190, Tryz.ntmps190
  go_wp2_with fail
  refine (with_world HW.out (complete_any (g.plus (w.heap.size + 1)) _ _ t v x ((.repl4 x th)) _ R0.out.arena (FI.out.Room (by omega)) FI.out.short (⟨_, _, rfl, ⟨_, B2.out, KR.out⟩, B3.out⟩))).mono ?_
  rintro e w5 hc
  obtain ⟨cs, h5, rfl, hC, hMC⟩ := R0.out.code2 hc
  have C := Lib.hid hC; have MC := Lib.hid hMC
  clear hc hC hMC
  go_wp2_with (refine wpList_store_row rfl 115 (.tmp 5) (.tmp 10) rfl (w.heap.size + 1) cs.toArray rfl rfl 115 zeroCode C.out.res C.out.info C.out.len.symm C.out.one ?_)
  refine bodyPost_ret (v := .agg cs.toArray) (results_cell_row Tryz.results190 _ _ (w.heap.size + 1) 115 _ (0, 0) _ rfl (setRow_heap _ (w.heap.size + 1) _ _ _ _ C.out.res) Tryz.underlying115 rfl C.out.info) rfl ?_
  refine RetCode.eq ?_ C.out.ret
  rfl
theorem clo_repl3 (t : Ct.Trie) (v : Int) (th : Ct.K) (ih : CallBool th) : CallRef (.repl3 t v th) := by
  intro O g w s n ff caps x h hfine hk
  obtain ⟨b0, b1, b2, e, k0, k1, ⟨u, k2, kr⟩⟩ := hk
  injection e with e1 e2 e3
  injection e1 with e1
  subst e1 e2 e3
  obtain ⟨fn, ff, fc, rfl⟩ := kr.func
  exact clo_repl3_w t v th g w s x b0 b1 b2 fn ff fc h (hfine.less (by simp only [Ct.K.rank]; omega)) k0 k1 k2 kr ih
end Go.Proofs.YtjlgchdekhmnnaaGreatDoor
end
