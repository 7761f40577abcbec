/- Parts of a proof: S2, Opn. -/
import Derived.Test.YtjlgchdekhmnnaaGreatDoorM11
section
namespace Go.Proofs.YtjlgchdekhmnnaaGreatDoor
open Go.RowKit
set_option linter.unusedVariables false
set_option linter.unusedVariables false
variable {O : Nat → Prop}
set_option maxRecDepth 100000 in
set_option maxHeartbeats 400000 in
theorem decide_yes (g : Ghost) (w : World) (s : Ct.St) (t : Ct.Trie) (prev : Int) (p : Int) (th : Ct.K) (fn : FuncId) (ff fc : Array Value) (h : ArenaO O g w s) (hfin : Fin (300) s) (kr : KRep g.sv g.N O w (.func (.func fn) ff fc) th) :
    Calls Tryz.prog 184 #[.agg (opCells g.sv t), .int .i64 prev, .int .i64 p, .bool true, .func (.func fn) ff fc] w (RetCode O g w (Ct.decideC Ct.stOps prev p true th s)) := by
  have hNW := (((News.nil w).alloc (.cells (opCells g.sv t) 181)).alloc (.cells zeroCode 115))
  obtain ⟨W0, hW0⟩ : ∃ W, ((w.alloc (.cells (opCells g.sv t) 181)).alloc (.cells zeroCode 115)) = W := ⟨_, rfl⟩
  rw [hW0] at hNW
  have z := hNW.size
  simp at z
  have hR0 := Run.start h hNW (b := w.heap.size + 1) 1 rfl rfl
  have hM0 : Mv O g w (g.plus (w.heap.size + 1)) W0 := Mv.plus hNW.below (by omega)
  have B0 := Lib.hid (blk_plus h.toArenaAt (b := w.heap.size) (c := w.heap.size + 1) (by omega) (by omega) (hNW.at_ 0 _ rfl))
  have KR := Lib.hid (kr.mv hM0)
  have hent := kr.enters
  unfold Ent at hent
  have R0 := Lib.hid hR0
  have M0 := Lib.hid hM0
  have HW := Lib.hid hW0
  have HZ := Lib.hid z
  have H := Lib.hid h
  have FI := Lib.hid hfin
  have hmf := hmfG
  have hmAlloc := meth_Alloc; have hnAlloc := nil_Alloc
  clear h hNW hW0 z hR0 hM0 hfin kr
  unfold opCells Ghost.sv
  go_enter Tryz.func184, Tryz.ntmps184
  go_wp2_with fail
  refine (with_world HW.out (taskCas_any prev p 0 _ _ ⟨_, _, _, rfl⟩)).mono ?_
  rintro e w1 hc
  obtain ⟨cs, rfl, hC, hMC⟩ := R0.out.made3 (c := .cas prev p 0 th) (⟨_, rfl, KR.out⟩) hc
  have C := Lib.hid hC; have MC := Lib.hid hMC
  clear hc hC hMC
  go_wp2_with (refine wpList_store_row rfl 115 (.tmp 10) (.tmp 16) rfl (w.heap.size + 1) cs.toArray rfl rfl 115 zeroCode C.out.res C.out.info C.out.len.symm C.out.one ?_)
  refine bodyPost_ret (v := .agg cs.toArray) (results_cell_row Tryz.results184 _ _ (w.heap.size + 1) 115 _ (0, 0) _ rfl (setRow_heap _ (w.heap.size + 1) _ _ _ _ C.out.res) Tryz.underlying115 rfl C.out.info) rfl ?_
  refine RetCode.eq ?_ C.out.ret
  rfl
set_option maxRecDepth 100000 in
set_option maxHeartbeats 400000 in
theorem decide_no (g : Ghost) (w : World) (s : Ct.St) (t : Ct.Trie) (prev : Int) (p : Int) (th : Ct.K) (fn : FuncId) (ff fc : Array Value) (h : ArenaO O g w s) (hfin : Fin (300) s) (kr : KRep g.sv g.N O w (.func (.func fn) ff fc) th) :
    Calls Tryz.prog 184 #[.agg (opCells g.sv t), .int .i64 prev, .int .i64 p, .bool false, .func (.func fn) ff fc] w (RetCode O g w (Ct.decideC Ct.stOps prev p false th s)) := by
  have hNW := (((News.nil w).alloc (.cells (opCells g.sv t) 181)).alloc (.cells zeroCode 115))
  obtain ⟨W0, hW0⟩ : ∃ W, ((w.alloc (.cells (opCells g.sv t) 181)).alloc (.cells zeroCode 115)) = W := ⟨_, rfl⟩
  rw [hW0] at hNW
  have z := hNW.size
  simp at z
  have hR0 := Run.start h hNW (b := w.heap.size + 1) 1 rfl rfl
  have hM0 : Mv O g w (g.plus (w.heap.size + 1)) W0 := Mv.plus hNW.below (by omega)
  have B0 := Lib.hid (blk_plus h.toArenaAt (b := w.heap.size) (c := w.heap.size + 1) (by omega) (by omega) (hNW.at_ 0 _ rfl))
  have KR := Lib.hid (kr.mv hM0)
  have hent := kr.enters
  unfold Ent at hent
  have R0 := Lib.hid hR0
  have M0 := Lib.hid hM0
  have HW := Lib.hid hW0
  have HZ := Lib.hid z
  have H := Lib.hid h
  have FI := Lib.hid hfin
  have hmf := hmfG
  have hmAlloc := meth_Alloc; have hnAlloc := nil_Alloc
  clear h hNW hW0 z hR0 hM0 hfin kr
  unfold opCells Ghost.sv
  go_enter Tryz.func184, Tryz.ntmps184
  go_wp2_with fail
  refine code_world HW.out ?_
  have c1 := (B0.out).at0 0 (.iface 23 (.pointer (some ⟨g.a, 0, none⟩))) rfl
  have R2d := Lib.hid (R0.out.drew)
  go_region_with (first
    | (go_at_call 212; refine ((mkFailed p _)).mono ?_; rintro e w3 ⟨csn, rfl, ⟨bv3, pv3, rfl, hr1, hp1⟩, hb⟩; have R3 := Lib.hid (R2d.out.below hb); have M3 : Hid (Mv O (g.plus (w.heap.size + 1)) _ (g.plus (w.heap.size + 1)) w3) := Mv.below hb; have HR3 : Hid (RefsAt (g.plus (w.heap.size + 1)).N w3 bv3 []) := hr1.avoid (fun k _ hk => R2d.out.arena.nlt k hk); have HP3 : Hid (PairsAt (g.plus (w.heap.size + 1)).N w3 pv3 []) := hp1.avoid (fun k _ hk => R2d.out.arena.nlt k hk); clear hb hr1 hp1; have B0' := Lib.hid (B0.out.mv ((Mv.drew (O := O) _ _).trans (M3.out))); have KR' := Lib.hid (KR.out.mv ((Mv.drew (O := O) _ _).trans (M3.out))); clear KR; have KR := KR'; clear KR'; clear B0; have c4 := (B0'.out).at0 0 (.iface 23 (.pointer (some ⟨g.a, 0, none⟩))) rfl)
    | (go_at_call 306; refine ((R3.out.allocN FI.out (by omega) ({ kind := 7, old := p }) bv3 pv3 0 HR3.out HP3.out (Nat.zero_le _) (Nat.zero_le _))).mono ?_; rintro e w5 ⟨vn5, vc5, N5, s5, r5, rfl, E5, hR, hM⟩; have R5 := Lib.hid hR; have M5 := Lib.hid hM; have FI5 : Hid (Fin (298) s5) := Fin.alloc (FI.out.less (by omega)) (by first | exact Ct.fits_small _ _ _ _ _ _ | exact Ct.fits_empty _) E5.out; clear hR hM; have B0'' := Lib.hid (B0'.out.mv (M5.out)); have KR' := Lib.hid (KR.out.mv (M5.out)); clear KR; have KR := KR'; clear KR'; clear B0'; have c6 := (B0''.out).at0 0 (.iface 23 (.pointer (some ⟨g.a, 0, none⟩))) rfl))
  all_goals
    go_wp2_with fail
    refine ((taskCas_any prev p r5 _ _ ⟨_, _, _, rfl⟩)).mono ?_
    rintro e w7 hc
    obtain ⟨cs, rfl, hC, hMC⟩ := R5.out.made3 (c := .cas prev p r5 th) (⟨_, rfl, KR.out⟩) hc
    have C := Lib.hid hC; have MC := Lib.hid hMC
    clear hc hC hMC
    go_wp2_with (refine wpList_store_row rfl 115 (.tmp 10) (.tmp 28) rfl (w.heap.size + 1) cs.toArray rfl rfl 115 zeroCode C.out.res C.out.info C.out.len.symm C.out.one ?_)
    refine bodyPost_ret (v := .agg cs.toArray) (results_cell_row Tryz.results184 _ _ (w.heap.size + 1) 115 _ (0, 0) _ rfl (setRow_heap _ (w.heap.size + 1) _ _ _ _ C.out.res) Tryz.underlying115 rfl C.out.info) rfl ?_
    refine RetCode.eq ?_ C.out.ret
    simp only [Ct.decideC, Ct.stOps, E5.out]; rfl
theorem decide_any (g : Ghost) (w : World) (s : Ct.St) (t : Ct.Trie) (prev p : Int) (commit : Bool) (th : Ct.K) (fn : FuncId) (ff fc : Array Value) (h : ArenaO O g w s) (hfin : Fin 300 s) (kr : KRep g.sv g.N O w (.func (.func fn) ff fc) th) :
    Calls Tryz.prog 184 #[.agg (opCells g.sv t), .int .i64 prev, .int .i64 p, .bool commit, .func (.func fn) ff fc] w (RetCode O g w (Ct.decideC Ct.stOps prev p commit th s)) := by
  cases commit
  · exact decide_no g w s t prev p th fn ff fc h hfin kr
  · exact decide_yes g w s t prev p th fn ff fc h hfin kr
set_option maxRecDepth 100000 in
set_option maxHeartbeats 400000 in
theorem cleared_any (g : Ghost) (w : World) (s : Ct.St) (t : Ct.Trie) (h : ArenaO O g w s) (hfin : Fin (300) s)  :
    Calls Tryz.prog 125 #[.agg (opCells g.sv t)] w (RetCode O g w (Ct.clearC t s)) := by
  have hNW := (((News.nil w).alloc (.cells (opCells g.sv t) 181)).alloc (.cells zeroCode 115))
  obtain ⟨W0, hW0⟩ : ∃ W, ((w.alloc (.cells (opCells g.sv t) 181)).alloc (.cells zeroCode 115)) = W := ⟨_, rfl⟩
  rw [hW0] at hNW
  have z := hNW.size
  simp at z
  have hR0 := Run.start h hNW (b := w.heap.size + 1) 1 rfl rfl
  have hM0 : Mv O g w (g.plus (w.heap.size + 1)) W0 := Mv.plus hNW.below (by omega)
  have B0 := Lib.hid (blk_plus h.toArenaAt (b := w.heap.size) (c := w.heap.size + 1) (by omega) (by omega) (hNW.at_ 0 _ rfl))
  have R0 := Lib.hid hR0
  have M0 := Lib.hid hM0
  have HW := Lib.hid hW0
  have HZ := Lib.hid z
  have H := Lib.hid h
  have FI := Lib.hid hfin
  have hmf := hmfG
  clear h hNW hW0 z hR0 hM0 hfin
  unfold opCells Ghost.sv
  go_enter Tryz.func125, Tryz.ntmps125
  go_wp2_with fail
  refine (with_world HW.out (help_any (g.plus (w.heap.size + 1)) _ _ t  ((.clr1 t)) _ R0.out.arena (⟨_, rfl, B0.out⟩))).mono ?_
  rintro e w1 hc
  obtain ⟨cs, h1, rfl, hC, hMC⟩ := R0.out.code2 hc
  have C := Lib.hid hC; have MC := Lib.hid hMC
  clear hc hC hMC
  go_wp2_with (refine wpList_store_row rfl 115 (.tmp 2) (.tmp 5) rfl (w.heap.size + 1) cs.toArray rfl rfl 115 zeroCode C.out.res C.out.info C.out.len.symm C.out.one ?_)
  refine bodyPost_ret (v := .agg cs.toArray) (results_cell_row Tryz.results125 _ _ (w.heap.size + 1) 115 _ (0, 0) _ rfl (setRow_heap _ (w.heap.size + 1) _ _ _ _ C.out.res) Tryz.underlying115 rfl C.out.info) rfl ?_
  refine RetCode.eq ?_ C.out.ret
  rfl
set_option maxRecDepth 100000 in
set_option maxHeartbeats 400000 in
theorem copied_any (g : Ghost) (w : World) (s : Ct.St) (m : Int) (h : ArenaO O g w s) (hfin : Fin (400) s)  :
    Calls Tryz.prog 117 #[g.sv, .int .i64 m] w (RetCode O g w (Ct.copiedC Ct.stOps m s)) := by
  have hNW := (News.nil w).alloc (.cells zeroCode 115)
  obtain ⟨W0, hW0⟩ : ∃ W, (w.alloc (.cells zeroCode 115)) = W := ⟨_, rfl⟩
  rw [hW0] at hNW
  have z := hNW.size
  simp at z
  have hR0 := Run.start h hNW (b := w.heap.size) 0 rfl rfl
  have hM0 : Mv O g w (g.plus w.heap.size) W0 := Mv.plus hNW.below (by omega)
  have R0 := Lib.hid hR0
  have M0 := Lib.hid hM0
  have HW := Lib.hid hW0
  have HZ := Lib.hid z
  have H := Lib.hid h
  have FI := Lib.hid hfin
  have hmf := hmfG
  have hmNewCell := meth_NewCell; have hnNewCell := nil_NewCell
  clear h hNW hW0 z hR0 hM0 hfin
  unfold Ghost.sv
  go_enter Tryz.func117, Tryz.ntmps117
  go_wp2_with fail
  refine (with_world HW.out (R0.out.begun FI.out (by omega) m)).mono ?_
  rintro e w1 ⟨vn1, vc1, N1, s1, r1, rfl, E1, hR, hM⟩
  have R1 := Lib.hid hR; have M1 := Lib.hid hM; have FI1 : Hid (Fin (397) s1) := Fin.begun (FI.out.less (by omega)) E1.out; clear hR hM
  go_wp2_with fail
  refine ((R1.out.newCell FI1.out (by omega) r1)).mono ?_
  rintro e w2 ⟨vn2, vc2, N2, s2, r2, rfl, E2, hR, hM⟩
  have R2 := Lib.hid hR; have M2 := Lib.hid hM; have FI2 : Hid (Fin (396) s2) := Fin.newCell (FI1.out.less (by omega)) E2.out; clear hR hM
  go_wp2_with fail
  refine ((taskDone_any ({ found := true, trie := { root := r2 } }) _)).mono ?_
  rintro e w3 hc
  obtain ⟨cs, rfl, hC, hMC⟩ := R2.out.made3 (c := .done ({ found := true, trie := { root := r2 } })) (rfl) hc
  have C := Lib.hid hC; have MC := Lib.hid hMC
  clear hc hC hMC
  go_wp2_with (refine wpList_store_row rfl 115 (.tmp 4) (.tmp 14) rfl w.heap.size cs.toArray rfl rfl 115 zeroCode C.out.res C.out.info C.out.len.symm C.out.one ?_)
  refine bodyPost_ret (v := .agg cs.toArray) (results_cell_row Tryz.results117 _ _ w.heap.size 115 _ (0, 0) _ rfl (setRow_heap _ w.heap.size _ _ _ _ C.out.res) Tryz.underlying115 rfl C.out.info) rfl ?_
  refine RetCode.eq ?_ C.out.ret
  simp only [Ct.copiedC]; injection E1.out with e1 e2; rw [e1, e2]; simp only [Ct.stOps, E2.out]
set_option maxRecDepth 100000 in
set_option maxHeartbeats 400000 in
theorem frozen_any (g : Ghost) (w : World) (s : Ct.St) (r : Int) (h : ArenaO O g w s) (hfin : Fin (300) s)  :
    Calls Tryz.prog 122 #[g.sv, .int .i64 r] w (RetCode O g w (Ct.frozenC Ct.stOps r s)) := by
  have hNW := (News.nil w).alloc (.cells zeroCode 115)
  obtain ⟨W0, hW0⟩ : ∃ W, (w.alloc (.cells zeroCode 115)) = W := ⟨_, rfl⟩
  rw [hW0] at hNW
  have z := hNW.size
  simp at z
  have hR0 := Run.start h hNW (b := w.heap.size) 0 rfl rfl
  have hM0 : Mv O g w (g.plus w.heap.size) W0 := Mv.plus hNW.below (by omega)
  have R0 := Lib.hid hR0
  have M0 := Lib.hid hM0
  have HW := Lib.hid hW0
  have HZ := Lib.hid z
  have H := Lib.hid h
  have FI := Lib.hid hfin
  have hmf := hmfG
  have hmNewCell := meth_NewCell; have hnNewCell := nil_NewCell
  clear h hNW hW0 z hR0 hM0 hfin
  unfold Ghost.sv
  go_enter Tryz.func122, Tryz.ntmps122
  go_wp2_with fail
  refine (with_world HW.out (R0.out.newCell FI.out (by omega) r)).mono ?_
  rintro e w1 ⟨vn1, vc1, N1, s1, r1, rfl, E1, hR, hM⟩
  have R1 := Lib.hid hR; have M1 := Lib.hid hM; have FI1 : Hid (Fin (299) s1) := Fin.newCell (FI.out.less (by omega)) E1.out; clear hR hM
  go_wp2_with fail
  refine ((taskDone_any ({ found := true, trie := { root := r1, readOnly := true } }) _)).mono ?_
  rintro e w2 hc
  obtain ⟨cs, rfl, hC, hMC⟩ := R1.out.made3 (c := .done ({ found := true, trie := { root := r1, readOnly := true } })) (rfl) hc
  have C := Lib.hid hC; have MC := Lib.hid hMC
  clear hc hC hMC
  go_wp2_with (refine wpList_store_row rfl 115 (.tmp 4) (.tmp 10) rfl w.heap.size cs.toArray rfl rfl 115 zeroCode C.out.res C.out.info C.out.len.symm C.out.one ?_)
  refine bodyPost_ret (v := .agg cs.toArray) (results_cell_row Tryz.results122 _ _ w.heap.size 115 _ (0, 0) _ rfl (setRow_heap _ w.heap.size _ _ _ _ C.out.res) Tryz.underlying115 rfl C.out.info) rfl ?_
  refine RetCode.eq ?_ C.out.ret
  simp only [Ct.frozenC, Ct.stOps, E1.out]
end Go.Proofs.YtjlgchdekhmnnaaGreatDoor
end
section
namespace Go.Proofs.YtjlgchdekhmnnaaGreatDoor
open Go.RowKit
set_option linter.unusedVariables false
set_option linter.unusedVariables false
variable {O : Nat → Prop}
theorem Run.made2 {g : Ghost} {w : World} {b : Nat} {h : Ghost} {W : World} {s : Ct.St} {cs : List Value} {c : Ct.Code} {e : Ending} {w' : World} (R : Run O g w b h W s) (hk : CodeRep g.sv h.N O W cs c) (hc : RetCells W cs e w') : ∃ cs', e = .returned (.agg cs'.toArray) ∧ Coded O g w b h w' s cs' c :=
  ⟨cs, R.made hk hc⟩
structure Opn (O : Nat → Prop) (g : Ghost) (w : World) (b : Nat) (h : Ghost) (W : World) (s : Ct.St) (A : Nat) (t : TypeId) (u : Value) : Prop where
  run : Run O g w b h W s
  inN : h.N A
  out : ¬ h.Foot A
  at_ : W.heap[A]? = some (.cells #[u] t (0, 0))
  low : w.heap.size ≤ A
  ne : A ≠ b
theorem Run.open {g : Ghost} {w : World} {b : Nat} {h : Ghost} {W : World} {s : Ct.St} (R : Run O g w b h W s) (t : TypeId) (u : Value) : Opn O g w b (h.plus W.heap.size) (W.alloc (.cells #[u] t)) s W.heap.size t u := by
  have hb := (Below.refl W.heap.size W).alloc (Nat.le_refl _) (.cells #[u] t)
  have hbl := (Array.getElem?_eq_some_iff.1 R.res).1
  refine ⟨⟨⟨arena_plus R.arena.toArenaAt hb (Nat.le_refl _) (by simp), fun k hk => ⟨.inl (R.arena.own k hk).1, (R.arena.own k hk).2⟩⟩, R.step.trans (Step.plus hb).toO, R.ol, R.low, .inl R.inN, fun hf => R.out hf, seen_below R.res hb, R.top⟩, .inr rfl, fun hf => ?_, heap_alloc_at W _, R.step.keep.size, by omega⟩
  exact absurd (R.arena.nlt _ (R.arena.foot _ hf)) (by omega)
theorem Opn.below {g : Ghost} {w : World} {b : Nat} {h : Ghost} {W W' : World} {s : Ct.St} {A : Nat} {t : TypeId} {u : Value} (P : Opn O g w b h W s A t u) (hb : Below W.heap.size W W') : Opn O g w b h W' s A t u :=
  ⟨P.run.below hb, P.inN, P.out, seen_below P.at_ hb, P.low, P.ne⟩
theorem Opn.next {g : Ghost} {w : World} {b : Nat} {h h' : Ghost} {W W' : World} {s s' : Ct.St} {A : Nat} {t : TypeId} {u : Value} (P : Opn O g w b h W s A t u) (ha : ArenaAt h' W' s') (hs : Step h W h' W') : Opn O g w b h' W' s' A t u := by
  have hlt := (Array.getElem?_eq_some_iff.1 P.at_).1
  refine ⟨P.run.next ha hs, hs.old _ P.inN, fun hf => ?_, ?_, P.low, P.ne⟩
  · rcases hs.foot _ hf with h1 | h1
    · exact P.out h1
    · omega
  · rw [hs.keep.block A hlt P.out]; exact P.at_
theorem Opn.allocN {g : Ghost} {w : World} {b : Nat} {h : Ghost} {W : World} {s : Ct.St} {n : Nat} {A : Nat} {t : TypeId} {u : Value} (P : Opn O g w b h W s A t u) (hf : Fin n s) (hn : 100 ≤ n) (nd : Ct.Node) (bv pv : Value) (x : Int) (h1 : RefsAt h.N W bv nd.branches) (h2 : PairsAt h.N W pv nd.pairs) (l1 : nd.branches.length ≤ 1000000) (l2 : nd.pairs.length ≤ 549755813888) :
    Calls Tryz.prog 306 #[.pointer (some ⟨g.a, 0, none⟩), .agg (nodeCells nd bv pv).toArray, .int .i64 x] W fun e w' =>
      ∃ vn vc N s' r, e = .returned (.int .i64 r) ∧ Hid (s.alloc nd x = (s', r)) ∧ Opn O g w b ⟨g.a, vn, vc, N⟩ w' s' A t u ∧ Mv O h W ⟨g.a, vn, vc, N⟩ w' := by
  have hc := alloc_any h W s nd bv pv x P.run.arena.toArenaAt (hf.Room hn) h1 h2 l1 l2
  rw [P.run.step.a] at hc
  refine hc.mono ?_
  rintro e w' ⟨rfl, ⟨a', vn, vc, N⟩, ha, hs⟩
  have hA : a' = g.a := hs.a.trans P.run.step.a
  subst hA
  exact ⟨vn, vc, N, _, _, rfl, Lib.hid rfl, P.next ha hs, Mv.step P.run.arena hs⟩
theorem Opn.shut {g : Ghost} {w : World} {b : Nat} {a : Nat} {vn vc : Value} {N : Nat → Prop} {W : World} {s : Ct.St} {A : Nat} {t : TypeId} {u : Value} (P : Opn O g w b ⟨a, vn, vc, N⟩ W s A t u) (v : Value) :
    Run O g w b ⟨a, vn, vc, fun k => N k ∧ k ≠ A⟩ (W.setCell ⟨A, 0, none⟩ v) s ∧ Mv O ⟨a, vn, vc, N⟩ W ⟨a, vn, vc, fun k => N k ∧ k ≠ A⟩ (W.setCell ⟨A, 0, none⟩ v) ∧ Blk (fun k => N k ∧ k ≠ A) (W.setCell ⟨A, 0, none⟩ v) A #[v] t := by
  have hk : Keep (fun k => k = A) W (W.setCell ⟨A, 0, none⟩ v) := Keep.setCell W ⟨A, 0, none⟩ v rfl
  have hR := P.run
  obtain ⟨xs, x1, x2⟩ := hR.arena.nodes
  have hF : ∀ k, k = A → N k ∨ W.heap.size ≤ k := fun k e => .inl (by rw [e]; exact P.inN)
  have hnA : ∀ k, O k → k ≠ A := fun k ho e => by have := hR.ol k ho; have := P.low; omega
  refine ⟨⟨⟨?_, fun k ho => ⟨⟨(hR.arena.own k ho).1, hnA k ho⟩, (hR.arena.own k ho).2⟩⟩, ⟨hR.step.a, hR.step.keep.trans hk (fun k e => .inr (by rw [e]; exact P.low)), fun k h1 => hR.step.new k h1.1, fun k h1 => ⟨hR.step.old k h1, fun e => ?_⟩, hR.step.foot⟩, hR.ol, hR.low, ⟨hR.inN, fun e => P.ne e.symm⟩, hR.out, ?_, hR.top⟩, ⟨⟨_, hk, fun k e => .inl ⟨e ▸ P.inN, fun ho => hnA k ho e⟩⟩, fun k h1 => .inl h1.1⟩, ⟨fun h1 => h1.2 rfl, ?_⟩⟩
  · refine ⟨?_, ⟨xs, ownsRow_keep x1 hk (fun k hv e => P.out (by rw [← e]; exact .inr (.inl hv))), x2.keep hk hF (fun k h1 => .inl h1.1)⟩, ownsRow_keep hR.arena.cells hk (fun k hv e => P.out (by rw [← e]; exact .inr (.inr hv))), fun k hf => ⟨hR.arena.foot k hf, fun e => P.out (e ▸ hf)⟩, hR.arena.an, hR.arena.ac, hR.arena.nc, fun k h1 => Nat.lt_of_lt_of_le (hR.arena.nlt k h1.1) hk.size⟩
    rw [hk.block a (Array.getElem?_eq_some_iff.1 hR.arena.block).1 (fun e => P.out (.inl e.symm))]
    exact hR.arena.block
  · have := hR.top k h1; have := P.low; omega
  · rw [hk.block b (Array.getElem?_eq_some_iff.1 hR.res).1 (fun e => P.ne e.symm)]
    exact hR.res
  · rw [heap_setCell_at W A 0 v _ _ _ P.at_]; rfl
set_option maxRecDepth 100000 in
set_option maxHeartbeats 4000000 in
theorem replace_any (g : Ghost) (w : World) (s : Ct.St) (t : Ct.Trie) (old : Int) (expected : Int) (new : Int) (th : Ct.K) (fn : FuncId) (ff fc : Array Value) (h : ArenaO O g w s) (hfin : Fin (300) s) (kr : KRep g.sv g.N O w (.func (.func fn) ff fc) th) :
    Calls Tryz.prog 156 #[.agg (opCells g.sv t), .int .i64 old, .int .i64 expected, .int .i64 new, .func (.func fn) ff fc] w (RetCode O g w (Ct.replaceC Ct.stOps t old expected new th s)) := by
  have hNW := ((((News.nil w).alloc (.cells (opCells g.sv t) 181)).alloc (.cells #[.func (.func fn) ff fc] 113)).alloc (.cells zeroCode 115))
  obtain ⟨W0, hW0⟩ : ∃ W, (((w.alloc (.cells (opCells g.sv t) 181)).alloc (.cells #[.func (.func fn) ff fc] 113)).alloc (.cells zeroCode 115)) = W := ⟨_, rfl⟩
  rw [hW0] at hNW
  have z := hNW.size
  simp at z
  have hR0 := Run.start h hNW (b := w.heap.size + 2) 2 rfl rfl
  have hM0 : Mv O g w (g.plus (w.heap.size + 2)) W0 := Mv.plus hNW.below (by omega)
  have B0 := Lib.hid (blk_plus h.toArenaAt (b := w.heap.size) (c := w.heap.size + 2) (by omega) (by omega) (hNW.at_ 0 _ rfl))
  have B1 := Lib.hid (blk_plus h.toArenaAt (b := w.heap.size + 1) (c := w.heap.size + 2) (by omega) (by omega) (hNW.at_ 1 _ rfl))
  have KR := Lib.hid (kr.mv hM0)
  have hent := kr.enters
  unfold Ent at hent
  have R0 := Lib.hid hR0
  have M0 := Lib.hid hM0
  have HW := Lib.hid hW0
  have HZ := Lib.hid z
  have H := Lib.hid h
  have FI := Lib.hid hfin
  have hmf := hmfG
  have hmAlloc := meth_Alloc; have hnAlloc := nil_Alloc
  have hmNode := meth_Node; have hnNode := nil_Node
  clear h hNW hW0 z hR0 hM0 hfin kr
  unfold opCells Ghost.sv
  go_enter Tryz.func156, Tryz.ntmps156
  go_wp2_with fail
  refine code_world HW.out ?_
  have c1 := (B0.out).at0 0 (.iface 23 (.pointer (some ⟨g.a, 0, none⟩))) rfl
  have R2d := Lib.hid (R0.out.drew)
  have c1a := (B0.out).at1 0 (.iface 23 (.pointer (some ⟨g.a, 0, none⟩))) rfl
  go_region_with (first
    | (go_at_call 187; (with_reducible refine (mkDesc old expected new W0.drew).mono ?_); rintro e w3 ⟨csn, rfl, ⟨bv3, pv3, rfl, hr1, hp1⟩, hb⟩; have R3 := Lib.hid (R2d.out.below hb); have M3 : Hid (Mv O (g.plus (w.heap.size + 2)) W0 (g.plus (w.heap.size + 2)) w3) := (Mv.drew (O := O) _ _).trans (Mv.below hb); have HR3 : Hid (RefsAt (fun k => k < W0.heap.size) w3 bv3 []) := hr1; have HP3 : Hid (PairsAt (fun k => k < W0.heap.size) w3 pv3 []) := hp1; clear hb hr1 hp1; have c4 := ((B0.out.mv M3.out)).at0 0 (.iface 23 (.pointer (some ⟨g.a, 0, none⟩))) rfl; have c4a := ((B0.out.mv M3.out)).at1 0 (.iface 23 (.pointer (some ⟨g.a, 0, none⟩))) rfl)
    | (go_at_call 187; (with_reducible refine (mkDesc old expected new ((W0.alloc (.cells #[.int .i64 0] 40)).drew)).mono ?_); rintro e w3 ⟨csn, rfl, ⟨bv3, pv3, rfl, hr1, hp1⟩, hb⟩; have O3 : Hid (Opn O g w (w.heap.size + 2) ((g.plus (w.heap.size + 2)).plus W0.heap.size) w3 s W0.heap.size 40 (.int .i64 0)) := (R2d.out.open _ _).below hb; have M3 : Hid (Mv O (g.plus (w.heap.size + 2)) W0 ((g.plus (w.heap.size + 2)).plus W0.heap.size) w3) := ((Mv.drew (O := O) _ _).trans (Mv.plus (O := O) ((Below.refl _ W0.drew).alloc (Nat.le_refl _) (.cells #[.int .i64 0] 40)) (Nat.le_refl _))).trans (Mv.below hb); have HR3 : Hid (RefsAt (fun k => k < (W0.drew.alloc (.cells #[.int .i64 0] 40)).heap.size) w3 bv3 []) := hr1; have HP3 : Hid (PairsAt (fun k => k < (W0.drew.alloc (.cells #[.int .i64 0] 40)).heap.size) w3 pv3 []) := hp1; clear hb hr1 hp1; have c4 := ((B0.out.mv M3.out)).at0 0 (.iface 23 (.pointer (some ⟨g.a, 0, none⟩))) rfl; have c4a := ((B0.out.mv M3.out)).at1 0 (.iface 23 (.pointer (some ⟨g.a, 0, none⟩))) rfl)
    | (go_at_call 306; have hcc := (R3.out.allocN FI.out (by omega) ({ kind := 8, old := old, expected := expected, new := new }) bv3 pv3 0 (HR3.out.avoid (fun k _ hk => R2d.out.arena.nlt k hk)) (HP3.out.avoid (fun k _ hk => R2d.out.arena.nlt k hk)) (Nat.zero_le _) (Nat.zero_le _)); (with_reducible refine hcc.mono ?_); clear hcc; rintro e w5 ⟨vn5, vc5, N5, s5, r5, rfl, E5, hR, hM⟩; have R5 := Lib.hid hR; have M5 := Lib.hid (M3.out.trans hM); have FI5 : Hid (Fin (298) s5) := Fin.alloc (FI.out.less (by omega)) (by first | exact Ct.fits_small _ _ _ _ _ _ | exact Ct.fits_empty _) E5.out; clear hR hM)
    | (go_at_call 306; have hcc := (O3.out.allocN FI.out (by omega) ({ kind := 8, old := old, expected := expected, new := new }) bv3 pv3 0 (HR3.out.avoid (fun k _ hk => (R2d.out.open 40 (.int .i64 0)).run.arena.nlt k hk)) (HP3.out.avoid (fun k _ hk => (R2d.out.open 40 (.int .i64 0)).run.arena.nlt k hk)) (Nat.zero_le _) (Nat.zero_le _)); (with_reducible refine hcc.mono ?_); clear hcc; rintro e w5 ⟨vn5, vc5, N5, s5, r5, rfl, E5, hR, hM⟩; have O5 := Lib.hid hR; have M5 := Lib.hid (M3.out.trans hM); have FI5 : Hid (Fin (298) s5) := Fin.alloc (FI.out.less (by omega)) (by first | exact Ct.fits_small _ _ _ _ _ _ | exact Ct.fits_empty _) E5.out; have d5 := cell_at O5.out.at_ 0; have f5 := free_at O5.out.at_ 0; simp only [List.getElem?_toArray, List.getElem?_cons_zero] at d5; clear hR hM)
    | (go_at_call 306; have hcc := ((R3.out.open 40 (.int .i64 0)).allocN FI.out (by omega) ({ kind := 8, old := old, expected := expected, new := new }) bv3 pv3 0 ((HR3.out.avoid (N' := (g.plus (w.heap.size + 2)).N) (fun k _ hk => R2d.out.arena.nlt k hk)).mv (Mv.plus (O := O) ((Below.refl _ w3).alloc (Nat.le_refl _) (.cells #[.int .i64 0] 40)) (Nat.le_refl _))) ((HP3.out.avoid (N' := (g.plus (w.heap.size + 2)).N) (fun k _ hk => R2d.out.arena.nlt k hk)).mv (Mv.plus (O := O) ((Below.refl _ w3).alloc (Nat.le_refl _) (.cells #[.int .i64 0] 40)) (Nat.le_refl _))) (Nat.zero_le _) (Nat.zero_le _)); (with_reducible refine hcc.mono ?_); clear hcc; rintro e w5 ⟨vn5, vc5, N5, s5, r5, rfl, E5, hR, hM⟩; have O5 := Lib.hid hR; have M5 := Lib.hid ((M3.out.trans (Mv.plus (O := O) ((Below.refl _ w3).alloc (Nat.le_refl _) (.cells #[.int .i64 0] 40)) (Nat.le_refl _))).trans hM); have FI5 : Hid (Fin (298) s5) := Fin.alloc (FI.out.less (by omega)) (by first | exact Ct.fits_small _ _ _ _ _ _ | exact Ct.fits_empty _) E5.out; have d5 := cell_at O5.out.at_ 0; have f5 := free_at O5.out.at_ 0; simp only [List.getElem?_toArray, List.getElem?_cons_zero] at d5; clear hR hM))
  all_goals
    first
    | (obtain ⟨hR, hM, hB⟩ := O5.out.shut (.int .i64 r5); have M6 := Lib.hid (M5.out.trans hM); have R6 := Lib.hid hR; have BA := Lib.hid hB; clear hR hM hB d5 f5 O5 M5)
    | (have M6 := Lib.hid (M5.out.trans (Mv.alloc (O := O) _ _ (.cells #[.int .i64 r5] 40))); have R6 := Lib.hid (R5.out.alloc (.cells #[.int .i64 r5] 40)); have BA := Lib.hid (R5.out.blk #[.int .i64 r5] 40); clear R5 M5)
    have c7 := ((B0.out.mv M6.out)).at0 0 (.iface 23 (.pointer (some ⟨g.a, 0, none⟩))) rfl
    have c8 := (BA.out).at0 0 (.int .i64 r5) rfl
    go_wp2_with fail
    refine ((R6.out.node FI5.out (by omega) r5)).mono ?_
    rintro e w8 ⟨n8, bv8, pv8, rfl, E8, hR, hM, hr, hp⟩
    have R8 := Lib.hid hR; have M8 := Lib.hid (M6.out.trans hM); have BA8 := Lib.hid (BA.out.mv hM); have HR8 := Lib.hid hr; have HP8 := Lib.hid hp; clear hR hM hr hp c7 c8
    have c9 := ((B0.out.mv M8.out)).at1 1 (.int .i64 t.root) rfl
    have c10 := (BA8.out).at1 0 (.int .i64 r5) rfl
    go_wp2_with (first | (refine wpList_store_row rfl 136 (.tmp 12) (.tmp 25) rfl w8.heap.size (nodeCells n8 bv8 pv8).toArray rfl rfl 136 zeroNode (heap_alloc_at _ _) info_Node_size rfl (nodeCells_one _ _ _ HR8.out.one HP8.out.one) ?_; rw [alloc_setRow]))
    refine ((taskCas_any t.root old r5 _ _ ⟨_, _, _, rfl⟩)).mono ?_
    rintro e w11 hc
    obtain ⟨cs, rfl, hC⟩ := (R8.out.alloc _).made2 (c := .cas t.root old r5 (.repl1 t r5 n8 th)) (⟨_, rfl, ⟨_, _, _, _, rfl, ⟨_, (B1.out.mv M8.out).mv (Mv.alloc (O := O) _ _ _), (KR.out.mv M8.out).mv (Mv.alloc (O := O) _ _ _)⟩, (B0.out.mv M8.out).mv (Mv.alloc (O := O) _ _ _), ⟨_, _, (R8.out).blk _ _⟩, (BA8.out).mv (Mv.alloc (O := O) _ _ _)⟩⟩) hc
    have C := Lib.hid hC
    clear hc hC
    go_wp2_with (refine wpList_store_row rfl 115 (.tmp 10) (.tmp 32) rfl (w.heap.size + 2) cs.toArray rfl rfl 115 zeroCode C.out.res C.out.info C.out.len.symm C.out.one ?_)
    refine bodyPost_ret (v := .agg cs.toArray) (results_cell_row Tryz.results156 _ _ (w.heap.size + 2) 115 _ (0, 0) _ rfl (setRow_heap _ (w.heap.size + 2) _ _ _ _ C.out.res) Tryz.underlying115 rfl C.out.info) rfl ?_
    refine RetCode.eq ?_ C.out.ret
    simp only [Ct.replaceC, Ct.stOps, E5.out, E8.out]
end Go.Proofs.YtjlgchdekhmnnaaGreatDoor
end
