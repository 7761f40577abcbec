/- Closures and functions, path by path. -/
import Derived.Test.YtifehcegnofpkaaGreatDoorS1
namespace Go.Proofs.YtifehcegnofpkaaGreatDoor
open Go.RowKit
set_option linter.unusedVariables false

set_option maxRecDepth 100000 in
set_option maxHeartbeats 400000 in
theorem decide_yes (g : Ghost) (w : World) (s : Ct.St) (t : Ct.Trie) (prev : Int) (p : Int) (th : Ct.K) (fn : FuncId) (fc : Array Value) (h : ArenaAt g w s) (hfin : Fin (300) s) (kr : KRep g.sv g.N w (.func (.func fn) #[] fc) th) :
    Calls Tryz.prog 136 #[.agg (opCells g.sv t), .int .i64 prev, .int .i64 p, .bool true, .func (.func fn) #[] fc] w (RetCode g w (Ct.decideC Ct.stOps prev p true th s)) := by
  have hNW := (((News.nil w).alloc (.cells (opCells g.sv t) 138)).alloc (.cells zeroCode 100))
  obtain ⟨W0, hW0⟩ : ∃ W, ((w.alloc (.cells (opCells g.sv t) 138)).alloc (.cells zeroCode 100)) = W := ⟨_, rfl⟩
  rw [hW0] at hNW
  have z := hNW.size
  simp at z
  have hR0 := Run.start h hNW (b := w.heap.size + 1) 1 rfl rfl
  have hM0 : Mv g w (g.plus (w.heap.size + 1)) W0 := Mv.plus hNW.below (by omega)
  have B0 := Lib.hid (blk_plus h (b := w.heap.size) (c := w.heap.size + 1) (by omega) (by omega) (hNW.at_ 0 _ rfl))
  have KR := Lib.hid (kr.mv hM0)
  have hent := kr.enters
  unfold Ent at hent
  have R0 := Lib.hid hR0
  have M0 := Lib.hid hM0
  have HW := Lib.hid hW0
  have HZ := Lib.hid z
  have H := Lib.hid h
  have FI := Lib.hid hfin
  have hmf : ∀ (fn : Fn) (first cap : Array Value) (w : World), (Instr.makeFunc fn first cap).run Tryz.prog w = .ok (.func fn first cap) w := fun _ _ _ _ => rfl
  have hmAlloc := meth_Alloc; have hnAlloc := nil_Alloc
  clear h hNW hW0 z hR0 hM0 hfin kr
  unfold opCells Ghost.sv
  go_enter Tryz.func136, Tryz.ntmps136
  go_wp2_with fail
  refine (with_world HW.out (taskCas_any prev p 0 _ _ ⟨_, _, rfl⟩)).mono ?_
  rintro e w1 hc
  obtain ⟨cs, rfl, hC, hMC⟩ := R0.out.made3 (c := .cas prev p 0 th) (⟨_, rfl, KR.out⟩) hc
  have C := Lib.hid hC; have MC := Lib.hid hMC
  clear hc hC hMC
  go_wp2_with (refine wpList_store_row rfl 100 (.tmp 10) (.tmp 16) rfl (w.heap.size + 1) cs.toArray rfl rfl 100 zeroCode C.out.res C.out.info C.out.len.symm C.out.one ?_)
  refine bodyPost_ret (v := .agg cs.toArray) (results_cell_row Tryz.results136 _ _ (w.heap.size + 1) 100 _ (0, 0) _ rfl (setRow_heap _ (w.heap.size + 1) _ _ _ _ C.out.res) Tryz.underlying100 rfl C.out.info) rfl ?_
  refine RetCode.eq ?_ C.out.ret
  rfl

set_option maxRecDepth 100000 in
set_option maxHeartbeats 400000 in
theorem decide_no (g : Ghost) (w : World) (s : Ct.St) (t : Ct.Trie) (prev : Int) (p : Int) (th : Ct.K) (fn : FuncId) (fc : Array Value) (h : ArenaAt g w s) (hfin : Fin (300) s) (kr : KRep g.sv g.N w (.func (.func fn) #[] fc) th) :
    Calls Tryz.prog 136 #[.agg (opCells g.sv t), .int .i64 prev, .int .i64 p, .bool false, .func (.func fn) #[] fc] w (RetCode g w (Ct.decideC Ct.stOps prev p false th s)) := by
  have hNW := (((News.nil w).alloc (.cells (opCells g.sv t) 138)).alloc (.cells zeroCode 100))
  obtain ⟨W0, hW0⟩ : ∃ W, ((w.alloc (.cells (opCells g.sv t) 138)).alloc (.cells zeroCode 100)) = W := ⟨_, rfl⟩
  rw [hW0] at hNW
  have z := hNW.size
  simp at z
  have hR0 := Run.start h hNW (b := w.heap.size + 1) 1 rfl rfl
  have hM0 : Mv g w (g.plus (w.heap.size + 1)) W0 := Mv.plus hNW.below (by omega)
  have B0 := Lib.hid (blk_plus h (b := w.heap.size) (c := w.heap.size + 1) (by omega) (by omega) (hNW.at_ 0 _ rfl))
  have KR := Lib.hid (kr.mv hM0)
  have hent := kr.enters
  unfold Ent at hent
  have R0 := Lib.hid hR0
  have M0 := Lib.hid hM0
  have HW := Lib.hid hW0
  have HZ := Lib.hid z
  have H := Lib.hid h
  have FI := Lib.hid hfin
  have hmf : ∀ (fn : Fn) (first cap : Array Value) (w : World), (Instr.makeFunc fn first cap).run Tryz.prog w = .ok (.func fn first cap) w := fun _ _ _ _ => rfl
  have hmAlloc := meth_Alloc; have hnAlloc := nil_Alloc
  clear h hNW hW0 z hR0 hM0 hfin kr
  unfold opCells Ghost.sv
  go_enter Tryz.func136, Tryz.ntmps136
  go_wp2_with fail
  refine code_world HW.out ?_
  have c1 := (B0.out).at0 0 (.iface 56 (.pointer (some ⟨g.a, 0, none⟩))) rfl
  have R2d := Lib.hid (R0.out.drew)
  go_region_with (first
    | (go_at_call 164; refine ((mkFailed p _)).mono ?_; rintro e w3 ⟨csn, rfl, ⟨bv3, pv3, rfl, hr1, hp1⟩, hb⟩; have R3 := Lib.hid (R2d.out.below hb); have M3 : Hid (Mv (g.plus (w.heap.size + 1)) _ (g.plus (w.heap.size + 1)) w3) := Mv.below hb; have HR3 : Hid (RefsAt (g.plus (w.heap.size + 1)).N w3 bv3 []) := hr1.avoid (fun k _ hk => R2d.out.arena.nlt k hk); have HP3 : Hid (PairsAt (g.plus (w.heap.size + 1)).N w3 pv3 []) := hp1.avoid (fun k _ hk => R2d.out.arena.nlt k hk); clear hb hr1 hp1; have B0' := Lib.hid (B0.out.mv ((Mv.drew _ _).trans (M3.out))); have KR' := Lib.hid (KR.out.mv ((Mv.drew _ _).trans (M3.out))); clear KR; have KR := KR'; clear KR'; clear B0; have c4 := (B0'.out).at0 0 (.iface 56 (.pointer (some ⟨g.a, 0, none⟩))) rfl)
    | (go_at_call 261; refine ((R3.out.allocN FI.out (by omega) ({ kind := 7, old := p }) bv3 pv3 0 HR3.out HP3.out (Nat.zero_le _) (Nat.zero_le _))).mono ?_; rintro e w5 ⟨vn5, vc5, N5, s5, r5, rfl, E5, hR, hM⟩; have R5 := Lib.hid hR; have M5 := Lib.hid hM; have FI5 : Hid (Fin (298) s5) := Fin.alloc (FI.out.less (by omega)) (Nat.zero_le _) (Nat.zero_le _) E5.out; clear hR hM; have B0'' := Lib.hid (B0'.out.mv (M5.out)); have KR' := Lib.hid (KR.out.mv (M5.out)); clear KR; have KR := KR'; clear KR'; clear B0'; have c6 := (B0''.out).at0 0 (.iface 56 (.pointer (some ⟨g.a, 0, none⟩))) rfl))
  all_goals
    go_wp2_with fail
    refine ((taskCas_any prev p r5 _ _ ⟨_, _, rfl⟩)).mono ?_
    rintro e w7 hc
    obtain ⟨cs, rfl, hC, hMC⟩ := R5.out.made3 (c := .cas prev p r5 th) (⟨_, rfl, KR.out⟩) hc
    have C := Lib.hid hC; have MC := Lib.hid hMC
    clear hc hC hMC
    go_wp2_with (refine wpList_store_row rfl 100 (.tmp 10) (.tmp 28) rfl (w.heap.size + 1) cs.toArray rfl rfl 100 zeroCode C.out.res C.out.info C.out.len.symm C.out.one ?_)
    refine bodyPost_ret (v := .agg cs.toArray) (results_cell_row Tryz.results136 _ _ (w.heap.size + 1) 100 _ (0, 0) _ rfl (setRow_heap _ (w.heap.size + 1) _ _ _ _ C.out.res) Tryz.underlying100 rfl C.out.info) rfl ?_
    refine RetCode.eq ?_ C.out.ret
    simp only [Ct.decideC, Ct.stOps, E5.out]; rfl

theorem decide_any (g : Ghost) (w : World) (s : Ct.St) (t : Ct.Trie) (prev p : Int) (commit : Bool) (th : Ct.K) (fn : FuncId) (fc : Array Value) (h : ArenaAt g w s) (hfin : Fin 300 s) (kr : KRep g.sv g.N w (.func (.func fn) #[] fc) th) :
    Calls Tryz.prog 136 #[.agg (opCells g.sv t), .int .i64 prev, .int .i64 p, .bool commit, .func (.func fn) #[] fc] w (RetCode g w (Ct.decideC Ct.stOps prev p commit th s)) := by
  cases commit
  · exact decide_no g w s t prev p th fn fc h hfin kr
  · exact decide_yes g w s t prev p th fn fc h hfin kr

set_option maxRecDepth 100000 in
set_option maxHeartbeats 400000 in
theorem cleared_any (g : Ghost) (w : World) (s : Ct.St) (t : Ct.Trie) (h : ArenaAt g w s) (hfin : Fin (300) s)  :
    Calls Tryz.prog 81 #[.agg (opCells g.sv t)] w (RetCode g w (Ct.clearC t s)) := by
  have hNW := (((News.nil w).alloc (.cells (opCells g.sv t) 138)).alloc (.cells zeroCode 100))
  obtain ⟨W0, hW0⟩ : ∃ W, ((w.alloc (.cells (opCells g.sv t) 138)).alloc (.cells zeroCode 100)) = W := ⟨_, rfl⟩
  rw [hW0] at hNW
  have z := hNW.size
  simp at z
  have hR0 := Run.start h hNW (b := w.heap.size + 1) 1 rfl rfl
  have hM0 : Mv g w (g.plus (w.heap.size + 1)) W0 := Mv.plus hNW.below (by omega)
  have B0 := Lib.hid (blk_plus h (b := w.heap.size) (c := w.heap.size + 1) (by omega) (by omega) (hNW.at_ 0 _ rfl))
  have R0 := Lib.hid hR0
  have M0 := Lib.hid hM0
  have HW := Lib.hid hW0
  have HZ := Lib.hid z
  have H := Lib.hid h
  have FI := Lib.hid hfin
  have hmf : ∀ (fn : Fn) (first cap : Array Value) (w : World), (Instr.makeFunc fn first cap).run Tryz.prog w = .ok (.func fn first cap) w := fun _ _ _ _ => rfl
  clear h hNW hW0 z hR0 hM0 hfin
  unfold opCells Ghost.sv
  go_enter Tryz.func81, Tryz.ntmps81
  go_wp2_with fail
  refine (with_world HW.out (help_any (g.plus (w.heap.size + 1)) _ _ t  ((.clr1 t)) _ R0.out.arena (⟨_, rfl, B0.out⟩))).mono ?_
  rintro e w1 hc
  obtain ⟨cs, h1, rfl, hC, hMC⟩ := R0.out.code2 hc
  have C := Lib.hid hC; have MC := Lib.hid hMC
  clear hc hC hMC
  go_wp2_with (refine wpList_store_row rfl 100 (.tmp 2) (.tmp 5) rfl (w.heap.size + 1) cs.toArray rfl rfl 100 zeroCode C.out.res C.out.info C.out.len.symm C.out.one ?_)
  refine bodyPost_ret (v := .agg cs.toArray) (results_cell_row Tryz.results81 _ _ (w.heap.size + 1) 100 _ (0, 0) _ rfl (setRow_heap _ (w.heap.size + 1) _ _ _ _ C.out.res) Tryz.underlying100 rfl C.out.info) rfl ?_
  refine RetCode.eq ?_ C.out.ret
  rfl

set_option maxRecDepth 100000 in
set_option maxHeartbeats 400000 in
theorem copied_any (g : Ghost) (w : World) (s : Ct.St) (m : Int) (h : ArenaAt g w s) (hfin : Fin (400) s)  :
    Calls Tryz.prog 73 #[g.sv, .int .i64 m] w (RetCode g w (Ct.copiedC Ct.stOps m s)) := by
  have hNW := (News.nil w).alloc (.cells zeroCode 100)
  obtain ⟨W0, hW0⟩ : ∃ W, (w.alloc (.cells zeroCode 100)) = W := ⟨_, rfl⟩
  rw [hW0] at hNW
  have z := hNW.size
  simp at z
  have hR0 := Run.start h hNW (b := w.heap.size) 0 rfl rfl
  have hM0 : Mv g w (g.plus w.heap.size) W0 := Mv.plus hNW.below (by omega)
  have R0 := Lib.hid hR0
  have M0 := Lib.hid hM0
  have HW := Lib.hid hW0
  have HZ := Lib.hid z
  have H := Lib.hid h
  have FI := Lib.hid hfin
  have hmf : ∀ (fn : Fn) (first cap : Array Value) (w : World), (Instr.makeFunc fn first cap).run Tryz.prog w = .ok (.func fn first cap) w := fun _ _ _ _ => rfl
  have hmNewCell := meth_NewCell; have hnNewCell := nil_NewCell
  clear h hNW hW0 z hR0 hM0 hfin
  unfold Ghost.sv
  go_enter Tryz.func73, Tryz.ntmps73
  go_wp2_with fail
  refine (with_world HW.out (R0.out.begun FI.out (by omega) m)).mono ?_
  rintro e w1 ⟨vn1, vc1, N1, s1, r1, rfl, E1, hR, hM⟩
  have R1 := Lib.hid hR; have M1 := Lib.hid hM; have FI1 : Hid (Fin (397) s1) := Fin.begun (FI.out.less (by omega)) E1.out; clear hR hM
  go_wp2_with fail
  refine ((R1.out.newCell FI1.out (by omega) r1)).mono ?_
  rintro e w2 ⟨vn2, vc2, N2, s2, r2, rfl, E2, hR, hM⟩
  have R2 := Lib.hid hR; have M2 := Lib.hid hM; have FI2 : Hid (Fin (396) s2) := Fin.newCell (FI1.out.less (by omega)) E2.out; clear hR hM
  go_wp2_with fail
  refine ((taskDone_any ({ found := true, trie := { root := r2 } }) _)).mono ?_
  rintro e w3 hc
  obtain ⟨cs, rfl, hC, hMC⟩ := R2.out.made3 (c := .done ({ found := true, trie := { root := r2 } })) (rfl) hc
  have C := Lib.hid hC; have MC := Lib.hid hMC
  clear hc hC hMC
  go_wp2_with (refine wpList_store_row rfl 100 (.tmp 4) (.tmp 14) rfl w.heap.size cs.toArray rfl rfl 100 zeroCode C.out.res C.out.info C.out.len.symm C.out.one ?_)
  refine bodyPost_ret (v := .agg cs.toArray) (results_cell_row Tryz.results73 _ _ w.heap.size 100 _ (0, 0) _ rfl (setRow_heap _ w.heap.size _ _ _ _ C.out.res) Tryz.underlying100 rfl C.out.info) rfl ?_
  refine RetCode.eq ?_ C.out.ret
  simp only [Ct.copiedC]; injection E1.out with e1 e2; rw [e1, e2]; simp only [Ct.stOps, E2.out]

set_option maxRecDepth 100000 in
set_option maxHeartbeats 400000 in
theorem frozen_any (g : Ghost) (w : World) (s : Ct.St) (r : Int) (h : ArenaAt g w s) (hfin : Fin (300) s)  :
    Calls Tryz.prog 78 #[g.sv, .int .i64 r] w (RetCode g w (Ct.frozenC Ct.stOps r s)) := by
  have hNW := (News.nil w).alloc (.cells zeroCode 100)
  obtain ⟨W0, hW0⟩ : ∃ W, (w.alloc (.cells zeroCode 100)) = W := ⟨_, rfl⟩
  rw [hW0] at hNW
  have z := hNW.size
  simp at z
  have hR0 := Run.start h hNW (b := w.heap.size) 0 rfl rfl
  have hM0 : Mv g w (g.plus w.heap.size) W0 := Mv.plus hNW.below (by omega)
  have R0 := Lib.hid hR0
  have M0 := Lib.hid hM0
  have HW := Lib.hid hW0
  have HZ := Lib.hid z
  have H := Lib.hid h
  have FI := Lib.hid hfin
  have hmf : ∀ (fn : Fn) (first cap : Array Value) (w : World), (Instr.makeFunc fn first cap).run Tryz.prog w = .ok (.func fn first cap) w := fun _ _ _ _ => rfl
  have hmNewCell := meth_NewCell; have hnNewCell := nil_NewCell
  clear h hNW hW0 z hR0 hM0 hfin
  unfold Ghost.sv
  go_enter Tryz.func78, Tryz.ntmps78
  go_wp2_with fail
  refine (with_world HW.out (R0.out.newCell FI.out (by omega) r)).mono ?_
  rintro e w1 ⟨vn1, vc1, N1, s1, r1, rfl, E1, hR, hM⟩
  have R1 := Lib.hid hR; have M1 := Lib.hid hM; have FI1 : Hid (Fin (299) s1) := Fin.newCell (FI.out.less (by omega)) E1.out; clear hR hM
  go_wp2_with fail
  refine ((taskDone_any ({ found := true, trie := { root := r1, readOnly := true } }) _)).mono ?_
  rintro e w2 hc
  obtain ⟨cs, rfl, hC, hMC⟩ := R1.out.made3 (c := .done ({ found := true, trie := { root := r1, readOnly := true } })) (rfl) hc
  have C := Lib.hid hC; have MC := Lib.hid hMC
  clear hc hC hMC
  go_wp2_with (refine wpList_store_row rfl 100 (.tmp 4) (.tmp 10) rfl w.heap.size cs.toArray rfl rfl 100 zeroCode C.out.res C.out.info C.out.len.symm C.out.one ?_)
  refine bodyPost_ret (v := .agg cs.toArray) (results_cell_row Tryz.results78 _ _ w.heap.size 100 _ (0, 0) _ rfl (setRow_heap _ w.heap.size _ _ _ _ C.out.res) Tryz.underlying100 rfl C.out.info) rfl ?_
  refine RetCode.eq ?_ C.out.ret
  simp only [Ct.frozenC, Ct.stOps, E1.out]

end Go.Proofs.YtifehcegnofpkaaGreatDoor