/- A variable that was made before its value is known (a region that draws its order); the walk of root.Replace. -/
import Derived.Test.YtifehcegnofpkaaGreatDoorS2
namespace Go.Proofs.YtifehcegnofpkaaGreatDoor
open Go.RowKit
set_option linter.unusedVariables false

theorem Run.made2 {g : Ghost} {w : World} {b : Nat} {h : Ghost} {W : World} {s : Ct.St} {cs : List Value} {c : Ct.Code} {e : Ending} {w' : World} (R : Run g w b h W s) (hk : CodeRep g.sv h.N W cs c) (hc : RetCells W cs e w') : ∃ cs', e = .returned (.agg cs'.toArray) ∧ Coded g w b h w' s cs' c :=
  ⟨cs, R.made hk hc⟩
/-- The function's frame, with a variable at A that still holds u. -/
structure Opn (g : Ghost) (w : World) (b : Nat) (h : Ghost) (W : World) (s : Ct.St) (A : Nat) (t : TypeId) (u : Value) : Prop where
  run : Run g w b h W s
  inN : h.N A
  out : ¬ h.Foot A
  at_ : W.heap[A]? = some (.cells #[u] t (0, 0))
  low : w.heap.size ≤ A
  ne : A ≠ b

theorem Run.open {g : Ghost} {w : World} {b : Nat} {h : Ghost} {W : World} {s : Ct.St} (R : Run g w b h W s) (t : TypeId) (u : Value) : Opn g w b (h.plus W.heap.size) (W.alloc (.cells #[u] t)) s W.heap.size t u := by
  have hb := (Below.refl W.heap.size W).alloc (Nat.le_refl _) (.cells #[u] t)
  have hbl := (Array.getElem?_eq_some_iff.1 R.res).1
  refine ⟨⟨arena_plus R.arena hb (Nat.le_refl _) (by simp), R.step.trans (Step.plus hb), R.low, .inl R.inN, fun hf => R.out hf, seen_below R.res hb, R.top⟩, .inr rfl, fun hf => ?_, heap_alloc_at W _, R.step.keep.size, by omega⟩
  exact absurd (R.arena.nlt _ (R.arena.foot _ hf)) (by omega)
theorem Opn.below {g : Ghost} {w : World} {b : Nat} {h : Ghost} {W W' : World} {s : Ct.St} {A : Nat} {t : TypeId} {u : Value} (O : Opn g w b h W s A t u) (hb : Below W.heap.size W W') : Opn g w b h W' s A t u :=
  ⟨O.run.below hb, O.inN, O.out, seen_below O.at_ hb, O.low, O.ne⟩
theorem Opn.next {g : Ghost} {w : World} {b : Nat} {h h' : Ghost} {W W' : World} {s s' : Ct.St} {A : Nat} {t : TypeId} {u : Value} (O : Opn g w b h W s A t u) (ha : ArenaAt h' W' s') (hs : Step h W h' W') : Opn g w b h' W' s' A t u := by
  have hlt := (Array.getElem?_eq_some_iff.1 O.at_).1
  refine ⟨O.run.next ha hs, hs.old _ O.inN, fun hf => ?_, ?_, O.low, O.ne⟩
  · rcases hs.foot _ hf with h1 | h1
    · exact O.out h1
    · omega
  · rw [hs.keep.block A hlt O.out]; exact O.at_
/-- Store.Alloc, beside such a variable. -/
theorem Opn.allocN {g : Ghost} {w : World} {b : Nat} {h : Ghost} {W : World} {s : Ct.St} {n : Nat} {A : Nat} {t : TypeId} {u : Value} (O : Opn g w b h W s A t u) (hf : Fin n s) (hn : 100 ≤ n) (nd : Ct.Node) (bv pv : Value) (x : Int) (h1 : RefsAt h.N W bv nd.branches) (h2 : PairsAt h.N W pv nd.pairs) (l1 : nd.branches.length ≤ 1000000) (l2 : nd.pairs.length ≤ 1000000) :
    Calls Tryz.prog 261 #[.pointer (some ⟨g.a, 0, none⟩), .agg (nodeCells nd bv pv).toArray, .int .i64 x] W fun e w' =>
      ∃ vn vc N s' r, e = .returned (.int .i64 r) ∧ Hid (s.alloc nd x = (s', r)) ∧ Opn g w b ⟨g.a, vn, vc, N⟩ w' s' A t u ∧ Mv h W ⟨g.a, vn, vc, N⟩ w' := by
  have hc := alloc_any h W s nd bv pv x O.run.arena (hf.Room hn) h1 h2 l1 l2
  rw [O.run.step.a] at hc
  refine hc.mono ?_
  rintro e w' ⟨rfl, ⟨a', vn, vc, N⟩, ha, hs⟩
  have hA : a' = g.a := hs.a.trans O.run.step.a
  subst hA
  exact ⟨vn, vc, N, _, _, rfl, Lib.hid rfl, O.next ha hs, Mv.step O.run.arena hs⟩
/-- Its value is stored: from now on it does not change. -/
theorem Opn.shut {g : Ghost} {w : World} {b : Nat} {a : Nat} {vn vc : Value} {N : Nat → Prop} {W : World} {s : Ct.St} {A : Nat} {t : TypeId} {u : Value} (O : Opn g w b ⟨a, vn, vc, N⟩ W s A t u) (v : Value) :
    Run g w b ⟨a, vn, vc, fun k => N k ∧ k ≠ A⟩ (W.setCell ⟨A, 0, none⟩ v) s ∧ Mv ⟨a, vn, vc, N⟩ W ⟨a, vn, vc, fun k => N k ∧ k ≠ A⟩ (W.setCell ⟨A, 0, none⟩ v) ∧ Blk (fun k => N k ∧ k ≠ A) (W.setCell ⟨A, 0, none⟩ v) A #[v] t := by
  have hk : Keep (fun k => k = A) W (W.setCell ⟨A, 0, none⟩ v) := Keep.setCell W ⟨A, 0, none⟩ v rfl
  have hR := O.run
  obtain ⟨xs, x1, x2⟩ := hR.arena.nodes
  have hF : ∀ k, k = A → N k ∨ W.heap.size ≤ k := fun k e => .inl (by rw [e]; exact O.inN)
  refine ⟨⟨?_, ⟨hR.step.a, hR.step.keep.trans hk (fun k e => .inr (by rw [e]; exact O.low)), fun k h1 => hR.step.new k h1.1, fun k h1 => ⟨hR.step.old k h1, fun e => ?_⟩, hR.step.foot⟩, hR.low, ⟨hR.inN, fun e => O.ne e.symm⟩, hR.out, ?_, hR.top⟩, ⟨⟨_, hk, hF⟩, fun k h1 => .inl h1.1⟩, ⟨fun h1 => h1.2 rfl, ?_⟩⟩
  · refine ⟨?_, ⟨xs, ownsRow_keep x1 hk (fun k hv e => O.out (by rw [← e]; exact .inr (.inl hv))), x2.keep hk hF (fun k h1 => .inl h1.1)⟩, ownsRow_keep hR.arena.cells hk (fun k hv e => O.out (by rw [← e]; exact .inr (.inr hv))), fun k hf => ⟨hR.arena.foot k hf, fun e => O.out (e ▸ hf)⟩, hR.arena.an, hR.arena.ac, hR.arena.nc, fun k h1 => Nat.lt_of_lt_of_le (hR.arena.nlt k h1.1) hk.size⟩
    rw [hk.block a (Array.getElem?_eq_some_iff.1 hR.arena.block).1 (fun e => O.out (.inl e.symm))]
    exact hR.arena.block
  · have := hR.top k h1; have := O.low; omega
  · rw [hk.block b (Array.getElem?_eq_some_iff.1 hR.res).1 (fun e => O.ne e.symm)]
    exact hR.res
  · rw [heap_setCell_at W A 0 v _ _ _ O.at_]; rfl

set_option maxRecDepth 100000 in
set_option maxHeartbeats 4000000 in
theorem replace_any (g : Ghost) (w : World) (s : Ct.St) (t : Ct.Trie) (old : Int) (expected : Int) (new : Int) (th : Ct.K) (fn : FuncId) (fc : Array Value) (h : ArenaAt g w s) (hfin : Fin (300) s) (kr : KRep g.sv g.N w (.func (.func fn) #[] fc) th) :
    Calls Tryz.prog 110 #[.agg (opCells g.sv t), .int .i64 old, .int .i64 expected, .int .i64 new, .func (.func fn) #[] fc] w (RetCode g w (Ct.replaceC Ct.stOps t old expected new th s)) := by
  have hNW := ((((News.nil w).alloc (.cells (opCells g.sv t) 138)).alloc (.cells #[.func (.func fn) #[] fc] 98)).alloc (.cells zeroCode 100))
  obtain ⟨W0, hW0⟩ : ∃ W, (((w.alloc (.cells (opCells g.sv t) 138)).alloc (.cells #[.func (.func fn) #[] fc] 98)).alloc (.cells zeroCode 100)) = W := ⟨_, rfl⟩
  rw [hW0] at hNW
  have z := hNW.size
  simp at z
  have hR0 := Run.start h hNW (b := w.heap.size + 2) 2 rfl rfl
  have hM0 : Mv g w (g.plus (w.heap.size + 2)) W0 := Mv.plus hNW.below (by omega)
  have B0 := Lib.hid (blk_plus h (b := w.heap.size) (c := w.heap.size + 2) (by omega) (by omega) (hNW.at_ 0 _ rfl))
  have B1 := Lib.hid (blk_plus h (b := w.heap.size + 1) (c := w.heap.size + 2) (by omega) (by omega) (hNW.at_ 1 _ rfl))
  have KR := Lib.hid (kr.mv hM0)
  have hent := kr.enters
  unfold Ent at hent
  have R0 := Lib.hid hR0
  have M0 := Lib.hid hM0
  have HW := Lib.hid hW0
  have HZ := Lib.hid z
  have H := Lib.hid h
  have FI := Lib.hid hfin
  have hmf : ∀ (fn : Fn) (first cap : Array Value) (w : World), (Instr.makeFunc fn first cap).run Tryz.prog w = .ok (.func fn first cap) w := fun _ _ _ _ => rfl
  have hmAlloc := meth_Alloc; have hnAlloc := nil_Alloc
  have hmNode := meth_Node; have hnNode := nil_Node
  clear h hNW hW0 z hR0 hM0 hfin kr
  unfold opCells Ghost.sv
  go_enter Tryz.func110, Tryz.ntmps110
  go_wp2_with fail
  refine code_world HW.out ?_
  have c1 := (B0.out).at0 0 (.iface 56 (.pointer (some ⟨g.a, 0, none⟩))) rfl
  have R2d := Lib.hid (R0.out.drew)
  have c1a := (B0.out).at1 0 (.iface 56 (.pointer (some ⟨g.a, 0, none⟩))) rfl
  go_region_with (first
    | (go_at_call 139; (with_reducible refine (mkDesc old expected new W0.drew).mono ?_); rintro e w3 ⟨csn, rfl, ⟨bv3, pv3, rfl, hr1, hp1⟩, hb⟩; have R3 := Lib.hid (R2d.out.below hb); have M3 : Hid (Mv (g.plus (w.heap.size + 2)) W0 (g.plus (w.heap.size + 2)) w3) := (Mv.drew _ _).trans (Mv.below hb); have HR3 : Hid (RefsAt (fun k => k < W0.heap.size) w3 bv3 []) := hr1; have HP3 : Hid (PairsAt (fun k => k < W0.heap.size) w3 pv3 []) := hp1; clear hb hr1 hp1; have c4 := ((B0.out.mv M3.out)).at0 0 (.iface 56 (.pointer (some ⟨g.a, 0, none⟩))) rfl; have c4a := ((B0.out.mv M3.out)).at1 0 (.iface 56 (.pointer (some ⟨g.a, 0, none⟩))) rfl)
    | (go_at_call 139; (with_reducible refine (mkDesc old expected new ((W0.alloc (.cells #[.int .i64 0] 46)).drew)).mono ?_); rintro e w3 ⟨csn, rfl, ⟨bv3, pv3, rfl, hr1, hp1⟩, hb⟩; have O3 : Hid (Opn g w (w.heap.size + 2) ((g.plus (w.heap.size + 2)).plus W0.heap.size) w3 s W0.heap.size 46 (.int .i64 0)) := (R2d.out.open _ _).below hb; have M3 : Hid (Mv (g.plus (w.heap.size + 2)) W0 ((g.plus (w.heap.size + 2)).plus W0.heap.size) w3) := ((Mv.drew _ _).trans (Mv.plus ((Below.refl _ W0.drew).alloc (Nat.le_refl _) (.cells #[.int .i64 0] 46)) (Nat.le_refl _))).trans (Mv.below hb); have HR3 : Hid (RefsAt (fun k => k < (W0.drew.alloc (.cells #[.int .i64 0] 46)).heap.size) w3 bv3 []) := hr1; have HP3 : Hid (PairsAt (fun k => k < (W0.drew.alloc (.cells #[.int .i64 0] 46)).heap.size) w3 pv3 []) := hp1; clear hb hr1 hp1; have c4 := ((B0.out.mv M3.out)).at0 0 (.iface 56 (.pointer (some ⟨g.a, 0, none⟩))) rfl; have c4a := ((B0.out.mv M3.out)).at1 0 (.iface 56 (.pointer (some ⟨g.a, 0, none⟩))) rfl)
    | (go_at_call 261; have hcc := (R3.out.allocN FI.out (by omega) ({ kind := 8, old := old, expected := expected, new := new }) bv3 pv3 0 (HR3.out.avoid (fun k _ hk => R2d.out.arena.nlt k hk)) (HP3.out.avoid (fun k _ hk => R2d.out.arena.nlt k hk)) (Nat.zero_le _) (Nat.zero_le _)); (with_reducible refine hcc.mono ?_); clear hcc; rintro e w5 ⟨vn5, vc5, N5, s5, r5, rfl, E5, hR, hM⟩; have R5 := Lib.hid hR; have M5 := Lib.hid (M3.out.trans hM); have FI5 : Hid (Fin (298) s5) := Fin.alloc (FI.out.less (by omega)) (Nat.zero_le _) (Nat.zero_le _) E5.out; clear hR hM)
    | (go_at_call 261; have hcc := (O3.out.allocN FI.out (by omega) ({ kind := 8, old := old, expected := expected, new := new }) bv3 pv3 0 (HR3.out.avoid (fun k _ hk => (R2d.out.open 46 (.int .i64 0)).run.arena.nlt k hk)) (HP3.out.avoid (fun k _ hk => (R2d.out.open 46 (.int .i64 0)).run.arena.nlt k hk)) (Nat.zero_le _) (Nat.zero_le _)); (with_reducible refine hcc.mono ?_); clear hcc; rintro e w5 ⟨vn5, vc5, N5, s5, r5, rfl, E5, hR, hM⟩; have O5 := Lib.hid hR; have M5 := Lib.hid (M3.out.trans hM); have FI5 : Hid (Fin (298) s5) := Fin.alloc (FI.out.less (by omega)) (Nat.zero_le _) (Nat.zero_le _) E5.out; have d5 := cell_at O5.out.at_ 0; have f5 := free_at O5.out.at_ 0; simp only [List.getElem?_toArray, List.getElem?_cons_zero] at d5; clear hR hM)
    | (go_at_call 261; have hcc := ((R3.out.open 46 (.int .i64 0)).allocN FI.out (by omega) ({ kind := 8, old := old, expected := expected, new := new }) bv3 pv3 0 ((HR3.out.avoid (N' := (g.plus (w.heap.size + 2)).N) (fun k _ hk => R2d.out.arena.nlt k hk)).mv (Mv.plus ((Below.refl _ w3).alloc (Nat.le_refl _) (.cells #[.int .i64 0] 46)) (Nat.le_refl _))) ((HP3.out.avoid (N' := (g.plus (w.heap.size + 2)).N) (fun k _ hk => R2d.out.arena.nlt k hk)).mv (Mv.plus ((Below.refl _ w3).alloc (Nat.le_refl _) (.cells #[.int .i64 0] 46)) (Nat.le_refl _))) (Nat.zero_le _) (Nat.zero_le _)); (with_reducible refine hcc.mono ?_); clear hcc; rintro e w5 ⟨vn5, vc5, N5, s5, r5, rfl, E5, hR, hM⟩; have O5 := Lib.hid hR; have M5 := Lib.hid ((M3.out.trans (Mv.plus ((Below.refl _ w3).alloc (Nat.le_refl _) (.cells #[.int .i64 0] 46)) (Nat.le_refl _))).trans hM); have FI5 : Hid (Fin (298) s5) := Fin.alloc (FI.out.less (by omega)) (Nat.zero_le _) (Nat.zero_le _) E5.out; have d5 := cell_at O5.out.at_ 0; have f5 := free_at O5.out.at_ 0; simp only [List.getElem?_toArray, List.getElem?_cons_zero] at d5; clear hR hM))
  all_goals
    first
    | (obtain ⟨hR, hM, hB⟩ := O5.out.shut (.int .i64 r5); have M6 := Lib.hid (M5.out.trans hM); have R6 := Lib.hid hR; have BA := Lib.hid hB; clear hR hM hB d5 f5 O5 M5)
    | (have M6 := Lib.hid (M5.out.trans (Mv.alloc _ _ (.cells #[.int .i64 r5] 46))); have R6 := Lib.hid (R5.out.alloc (.cells #[.int .i64 r5] 46)); have BA := Lib.hid (R5.out.blk #[.int .i64 r5] 46); clear R5 M5)
    have c7 := ((B0.out.mv M6.out)).at0 0 (.iface 56 (.pointer (some ⟨g.a, 0, none⟩))) rfl
    have c8 := (BA.out).at0 0 (.int .i64 r5) rfl
    go_wp2_with fail
    refine ((R6.out.node FI5.out (by omega) r5)).mono ?_
    rintro e w8 ⟨n8, bv8, pv8, rfl, E8, hR, hM, hr, hp⟩
    have R8 := Lib.hid hR; have M8 := Lib.hid (M6.out.trans hM); have BA8 := Lib.hid (BA.out.mv hM); have HR8 := Lib.hid hr; have HP8 := Lib.hid hp; clear hR hM hr hp c7 c8
    have c9 := ((B0.out.mv M8.out)).at1 1 (.int .i64 t.root) rfl
    have c10 := (BA8.out).at1 0 (.int .i64 r5) rfl
    go_wp2_with (first | (refine wpList_store_row rfl 131 (.tmp 12) (.tmp 25) rfl w8.heap.size (nodeCells n8 bv8 pv8).toArray rfl rfl 131 zeroNode (heap_alloc_at _ _) info_Node_size rfl (nodeCells_one _ _ _ HR8.out.one HP8.out.one) ?_; rw [alloc_setRow]))
    refine ((taskCas_any t.root old r5 _ _ ⟨_, _, rfl⟩)).mono ?_
    rintro e w11 hc
    obtain ⟨cs, rfl, hC⟩ := (R8.out.alloc _).made2 (c := .cas t.root old r5 (.repl1 t r5 n8 th)) (⟨_, rfl, ⟨_, _, _, _, rfl, ⟨_, (B1.out.mv M8.out).mv (Mv.alloc _ _ _), (KR.out.mv M8.out).mv (Mv.alloc _ _ _)⟩, (B0.out.mv M8.out).mv (Mv.alloc _ _ _), ⟨_, _, (R8.out).blk _ _⟩, (BA8.out).mv (Mv.alloc _ _ _)⟩⟩) hc
    have C := Lib.hid hC
    clear hc hC
    go_wp2_with (refine wpList_store_row rfl 100 (.tmp 10) (.tmp 32) rfl (w.heap.size + 2) cs.toArray rfl rfl 100 zeroCode C.out.res C.out.info C.out.len.symm C.out.one ?_)
    refine bodyPost_ret (v := .agg cs.toArray) (results_cell_row Tryz.results110 _ _ (w.heap.size + 2) 100 _ (0, 0) _ rfl (setRow_heap _ (w.heap.size + 2) _ _ _ _ C.out.res) Tryz.underlying100 rfl C.out.info) rfl ?_
    refine RetCode.eq ?_ C.out.ret
    simp only [Ct.replaceC, Ct.stOps, E5.out, E8.out]
end Go.Proofs.YtifehcegnofpkaaGreatDoor
