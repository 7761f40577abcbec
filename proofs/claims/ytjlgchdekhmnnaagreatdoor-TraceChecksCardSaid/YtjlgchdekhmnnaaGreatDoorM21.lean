/- Parts of a proof: Call, TaskB. -/
import Derived.Test.YtjlgchdekhmnnaaGreatDoorM15
import Derived.Test.YtjlgchdekhmnnaaGreatDoorM20
import Derived.Test.YtjlgchdekhmnnaaGreatDoorM16
import Derived.Defers
import Derived.Recover
section
namespace Go.Proofs.YtjlgchdekhmnnaaGreatDoor
open Go.RowKit
set_option linter.unusedVariables false
variable {O : Nat → Prop}
def CallK (k : Ct.K) : Prop := match k.how with
  | .ref => CallRef k
  | .bool => CallBool k
  | .thunk => CallThunk k
  | .ref2 => CallRef2 k
theorem CallK.ref {k : Ct.K} (h : CallK k) (e : k.how = .ref) : CallRef k := by unfold CallK at h; rw [e] at h; exact h
theorem CallK.bool {k : Ct.K} (h : CallK k) (e : k.how = .bool) : CallBool k := by unfold CallK at h; rw [e] at h; exact h
theorem CallK.thunk {k : Ct.K} (h : CallK k) (e : k.how = .thunk) : CallThunk k := by unfold CallK at h; rw [e] at h; exact h
theorem CallK.ref2 {k : Ct.K} (h : CallK k) (e : k.how = .ref2) : CallRef2 k := by unfold CallK at h; rw [e] at h; exact h
theorem call_ref2 (k : Ct.K) (e : k.how = .ref2) : CallRef2 k := by
  cases k <;> first | (cases e; done) | exact clo_snapP | exact clo_frzP
theorem call_all (k : Ct.K) : k.wt → CallK k := by
  induction k with
  | read1 _ _ _ ih => intro hk; exact clo_read1 _ _ _ ((ih hk.2).ref hk.1)
  | settle1 _ _ _ _ _ ih => intro hk; exact clo_settle1 _ _ _ _ _ ((ih hk.2).ref hk.1)
  | again1 _ _ _ _ _ ih => intro hk; exact clo_again1 _ _ _ _ _ ((ih hk.2).ref hk.1)
  | again2 _ _ _ _ ih => intro hk; exact clo_again2 _ _ _ _ ((ih hk.2).ref hk.1)
  | sroot _ _ _ _ _ ih => intro hk; exact clo_sroot _ _ _ _ _ ((ih hk.2).bool hk.1)
  | back1 _ _ ih => intro hk; exact clo_back1 _ _ ((ih hk.2).ref hk.1)
  | root1 _ _ ih => intro hk; exact clo_root1 _ _ ((ih hk.2).ref hk.1)
  | root2 _ _ _ _ ih => intro hk; exact clo_root2 _ _ _ _ ((ih hk.2).ref hk.1)
  | root3 _ _ _ _ ih => intro hk; exact clo_root3 _ _ _ _ ((ih hk.2).ref hk.1)
  | root4 _ _ _ ih => intro hk; exact clo_root4 _ _ _ ((ih hk.2).ref hk.1)
  | complete1 _ _ ih => intro hk; exact clo_complete1 _ _ ((ih hk.2).ref hk.1)
  | help1 _ _ ih => intro hk; exact clo_help1 _ _ ((ih hk.2).ref hk.1)
  | help2 _ _ _ _ ih => intro hk; exact clo_help2 _ _ _ _ ((ih hk.2).ref hk.1)
  | help3 _ _ _ _ ih => intro hk; exact clo_help3 _ _ _ _ ((ih hk.2).ref hk.1)
  | help4 _ _ _ ih => intro hk; exact clo_help4 _ _ _ ((ih hk.2).ref hk.1)
  | decide1 _ _ ih => intro hk; exact clo_decide1 _ _ ((ih hk.2).thunk hk.1)
  | decide2 _ ih => intro hk; exact clo_decide2 _ ((ih hk.2).thunk hk.1)
  | repl1 _ _ _ _ ih => intro hk; exact clo_repl1 _ _ _ _ ((ih hk.2).bool hk.1)
  | repl2 _ _ _ _ ih => intro hk; exact clo_repl2 _ _ _ _ ((ih hk.2).bool hk.1)
  | repl3 _ _ _ ih => intro hk; exact clo_repl3 _ _ _ ((ih hk.2).bool hk.1)
  | repl4 _ _ ih => intro hk; exact clo_repl4 _ _ ((ih hk.2).bool hk.1)
  | clr0 _ => intro _; exact clo_clr0 _
  | clr1 _ => intro _; exact clo_clr1 _
  | clr2 _ _ => intro _; exact clo_clr2 _ _
  | clr3 _ => intro _; exact clo_clr3 _
  | snap0 _ => intro _; exact clo_snap0 _
  | snapR1 _ => intro _; exact clo_snapR1 _
  | snapR2  => intro _; exact clo_snapR2 
  | snapP  => intro _; exact clo_snapP 
  | frz0 _ => intro _; exact clo_frz0 _
  | frzR1  => intro _; exact clo_frzR1 
  | frzP  => intro _; exact clo_frzP 
  | part1 _ _ ih => intro hk; exact clo_part1 _ _ (call_ref2 _ hk)
  | part2 _ _ _ ih => intro hk; exact clo_part2 _ _ _ (call_ref2 _ hk)
  | part3 _ _ _ _ ih => intro hk; exact clo_part3 _ _ _ _ (call_ref2 _ hk)
  | fin _ => intro _; exact clo_fin _
  | fnd0 _ _ => intro hk; exact clo_fnd0 _ _ hk
  | fnd1 _ _ => intro hk; exact clo_fnd1 _ _ hk
  | fnd2 _ _ _ => intro hk; exact clo_fnd2 _ _ _ hk
  | _ => intro hk; exact False.elim hk
end Go.Proofs.YtjlgchdekhmnnaaGreatDoor
end
section
namespace Go.Proofs.YtjlgchdekhmnnaaGreatDoor
open Go.RowKit
set_option linter.unusedVariables false
set_option linter.unusedVariables false
variable {O : Nat → Prop}
theorem begunD_idle (p : Addr) (w : World) :
    CallsD Tryz.prog 136 #[.pointer (some p)] .returning w fun e u' w' => e = .returned (.tuple #[]) ∧ u' = .returning ∧ w' = w := by
  refine callsD_of_wpS Tryz.func136 rfl fun c₀ cs hu => ?_
  apply wpS_seq
  apply wpS_region
  simp [wpOpsS, go_sem, recoverD, hu, Tryz.ntmps136, Exit.thenS]
  refine wpS_cond (t := false) (by simp [Act.eval, Array.replicate]) ?_
  refine wpS_of_wp (wp_skip ?_)
  cases c₀
  simp_all [bodyPostS, results, Tryz.results136]
set_option maxRecDepth 100000 in
set_option maxHeartbeats 400000 in
theorem taskBegun_any (k : Ct.K) (g : Ghost) (w : World) (s : Ct.St) (fn : FuncId) (ff fc : Array Value) (h : ArenaO O g w s) (hfin : Fin (1000 * k.rank) s) (kr : KRep g.sv g.N O w (.func (.func fn) ff fc) k) (ih : CallThunk k) :
    Calls Tryz.prog 102 #[.func (.func fn) ff fc] w (RetCode O g w (Ct.apply Ct.stOps k 0 s)) := by
  have hNW := (News.nil w).alloc (.cells zeroCode 115)
  obtain ⟨W0, hW0⟩ : ∃ W, (w.alloc (.cells zeroCode 115)) = W := ⟨_, rfl⟩
  rw [hW0] at hNW
  have hR0 := Run.start h hNW (b := w.heap.size) 0 rfl rfl
  have hM0 : Mv O g w (g.plus w.heap.size) W0 := Mv.plus hNW.below (by omega)
  have KR := Lib.hid (kr.mv hM0)
  have hent := kr.enters
  unfold Ent at hent
  have R0 := Lib.hid hR0
  have HW := Lib.hid hW0
  have FI := Lib.hid hfin
  have hmf := hmfG
  have hnil : ∀ (fn : Fn) (first cap : Array Value) (w : World), (binOp BinOp.eql 153 (.func fn first cap) .nilFunc).run Tryz.prog w = .ok (.bool false) w := fun _ _ _ _ => by kernel_rfl
  clear h hNW hW0 hR0 hM0 hfin kr
  go_enter_defers Tryz.func102, Tryz.ntmps102
  go_wp2_with fail
  refine (with_world HW.out (ih _ _ _ _ _ _ R0.out.arena FI.out KR.out)).mono ?_
  rintro e w2 hc
  obtain ⟨cs, h2, rfl, hC, hMC⟩ := R0.out.code2 hc
  have C := Lib.hid hC
  clear hc hC hMC
  go_wp2_with (refine wpList_store_row rfl 115 (.tmp 2) (.tmp 8) rfl w.heap.size cs.toArray rfl rfl 115 zeroCode C.out.res C.out.info C.out.len.symm C.out.one ?_)
  refine leaves_cons (f := 136) (args := #[.pointer (some ⟨w.heap.size, 0, none⟩)]) (by simp) (by simp [go_sem]) ?_
  refine (begunD_idle ⟨w.heap.size, 0, none⟩ _).mono ?_
  rintro e u' w'' ⟨rfl, rfl, rfl⟩
  refine ⟨.agg cs.toArray, results_cell_row Tryz.results102 _ _ w.heap.size 115 _ (0, 0) _ rfl (setRow_heap _ w.heap.size _ _ _ _ C.out.res) Tryz.underlying115 rfl C.out.info, ?_⟩
  exact C.out.ret
theorem followedD_idle (p : Addr) (w : World) :
    CallsD Tryz.prog 133 #[.pointer (some p)] .returning w fun e u' w' => e = .returned (.tuple #[]) ∧ u' = .returning ∧ w' = w := by
  refine callsD_of_wpS Tryz.func133 rfl fun c₀ cs hu => ?_
  apply wpS_seq
  apply wpS_region
  simp [wpOpsS, go_sem, recoverD, hu, Tryz.ntmps133, Exit.thenS]
  refine wpS_cond (t := false) (by simp [Act.eval, Array.replicate]) ?_
  refine wpS_of_wp (wp_skip ?_)
  cases c₀
  simp_all [bodyPostS, results, Tryz.results133]
theorem Fin.load {n : Nat} {s s' : Ct.St} {c r : Int} (h : Fin (n + 1) s) (e : s.load c = (s', r)) : Fin n s' := by
  have hr := h.room
  have e1 : s' = (s.load c).1 := by rw [e]
  subst e1
  refine ⟨?_, h.short⟩
  simp only [Ct.St.load, Ct.St.size] at hr ⊢; omega
theorem Fin.cas {n : Nat} {s s' : Ct.St} {c o x : Int} {r : Bool} (h : Fin (n + 1) s) (e : s.cas c o x = (s', r)) : Fin n s' := by
  have hr := h.room
  have e1 : s' = (s.cas c o x).1 := by rw [e]
  subst e1
  refine ⟨?_, h.short⟩
  simp only [Ct.St.cas, Ct.St.size] at hr ⊢
  split <;> (try simp only [List.length_set]) <;> omega
theorem Run.load {g : Ghost} {w : World} {b : Nat} {h : Ghost} {W : World} {s : Ct.St} {n : Nat} (R : Run O g w b h W s) (hf : Fin n s) (hn : 100 ≤ n) (c : Int) :
    Calls Tryz.prog 308 #[.pointer (some ⟨g.a, 0, none⟩), .int .i64 c] W (IntRes O g w b h W (s.load c)) := by
  have hc := load_any h W s c R.arena (hf.Room hn)
  rw [R.step.a] at hc
  exact hc.mono fun e w' hd => R.does hd
def BoolRes (O : Nat → Prop) (g : Ghost) (w : World) (b : Nat) (h : Ghost) (W : World) (c : Ct.St × Bool) (e : Ending) (w' : World) : Prop :=
  ∃ vn vc N s' r, e = .returned (.bool r) ∧ Hid (c = (s', r)) ∧ Run O g w b ⟨g.a, vn, vc, N⟩ w' s' ∧ Mv O h W ⟨g.a, vn, vc, N⟩ w'
theorem Run.cas {g : Ghost} {w : World} {b : Nat} {h : Ghost} {W : World} {s : Ct.St} {n : Nat} (R : Run O g w b h W s) (hf : Fin n s) (hn : 100 ≤ n) (c o x : Int) :
    Calls Tryz.prog 307 #[.pointer (some ⟨g.a, 0, none⟩), .int .i64 c, .int .i64 o, .int .i64 x] W (BoolRes O g w b h W (s.cas c o x)) := by
  have hc := cas_any h W s c o x R.arena (hf.Room hn)
  rw [R.step.a] at hc
  refine hc.mono ?_
  rintro e w' ⟨rfl, ⟨a', vn, vc, N⟩, ha, hs⟩
  have hA : a' = g.a := hs.a.trans R.step.a
  subst hA
  exact ⟨vn, vc, N, _, _, rfl, Lib.hid rfl, R.next ha hs, Mv.step R.arena hs⟩
theorem rank_pos (k : Ct.K) : 1 ≤ k.rank := by cases k <;> simp only [Ct.K.rank] <;> omega
set_option maxRecDepth 100000 in
set_option maxHeartbeats 800000 in
theorem followed_load (c : Int) (k : Ct.K) (g : Ghost) (w : World) (s : Ct.St) (fn : FuncId) (ff fc : Array Value) (h : ArenaO O g w s) (hfin : Fin (1000 * k.rank + 1) s) (kr : KRep g.sv g.N O w (.func (.func fn) ff fc) k) (ih : CallRef k) :
    Calls Tryz.prog 90 #[g.sv, .agg (loadCells c (.func (.func fn) ff fc)).toArray] w (RetCode O g w (Ct.step (.load c k) s)) := by
  have hrk := rank_pos k
  have hNW := ((News.nil w).alloc (.cells (loadCells c (.func (.func fn) ff fc)).toArray 115)).alloc (.cells zeroCode 115) |>.alloc (.cells #[.int .i64 1, .int .i64 c, .int .i64 0, .int .i64 0] 73)
  obtain ⟨W0, hW0⟩ : ∃ W, ((w.alloc (.cells (loadCells c (.func (.func fn) ff fc)).toArray 115)).alloc (.cells zeroCode 115)).alloc (.cells #[.int .i64 1, .int .i64 c, .int .i64 0, .int .i64 0] 73) = W := ⟨_, rfl⟩
  rw [hW0] at hNW
  have z := hNW.size
  simp at z
  have hR0 := Run.start h hNW (b := w.heap.size + 1) 1 rfl rfl
  have hM0 : Mv O g w (g.plus (w.heap.size + 1)) W0 := Mv.plus hNW.below (by omega)
  have B0 := Lib.hid (blk_plus h.toArenaAt (b := w.heap.size) (c := w.heap.size + 1) (by omega) (by omega) (hNW.at_ 0 _ rfl))
  have KR := Lib.hid (kr.mv hM0)
  have hent := kr.enters
  unfold Ent at hent
  have R0 := Lib.hid hR0
  have HW := Lib.hid hW0
  have FI := Lib.hid hfin
  have hmf := hmfG
  have hnil : ∀ (fn : Fn) (first cap : Array Value) (w : World), (binOp BinOp.eql 112 (.func fn first cap) .nilFunc).run Tryz.prog w = .ok (.bool false) w := fun _ _ _ _ => by kernel_rfl
  have hnil2 : ∀ (T : TypeId) (v : Value) (w : World), (binOp BinOp.neq 95 (.iface T v) .nilIface).run Tryz.prog w = .ok (.bool true) w := fun _ _ _ => by kernel_rfl
  have hmL := meth_Load
  clear h hNW hW0 hR0 hM0 hfin kr z
  unfold loadCells resCells Ghost.sv
  go_enter_defers Tryz.func90, Tryz.ntmps90
  go_wp2_with fail
  refine (with_world HW.out (R0.out.load FI.out (by omega) c)).mono ?_
  rintro e w1 ⟨vn1, vc1, N1, s1, r1, rfl, E1, hR, hM⟩
  have F1 : Hid (Fin (1000 * k.rank) s1) := Fin.load FI.out E1.out
  have R1 := Lib.hid hR; have B1 := Lib.hid (B0.out.mv hM); have KR1 := Lib.hid (KR.out.mv hM)
  clear hR hM KR B0
  have c1 := (B1.out).at0 4 (.func (.func fn) ff fc) rfl
  go_wp2_with fail
  refine (ih _ _ _ _ _ _ r1 R1.out.arena F1.out KR1.out).mono ?_
  rintro e w2 hc
  obtain ⟨cs, h2, rfl, hC, hMC⟩ := R1.out.code2 hc
  have C := Lib.hid hC
  clear hc hC hMC
  go_wp2_with (refine wpList_store_row rfl 115 (.tmp 4) (.tmp 27) rfl (w.heap.size + 1) cs.toArray rfl rfl 115 zeroCode C.out.res C.out.info C.out.len.symm C.out.one ?_)
  refine leaves_cons (f := 133) (args := #[.pointer (some ⟨w.heap.size + 1, 0, none⟩)]) (by simp) (by simp [go_sem]) ?_
  refine (followedD_idle ⟨w.heap.size + 1, 0, none⟩ _).mono ?_
  rintro e u' w'' ⟨rfl, rfl, rfl⟩
  refine ⟨.agg cs.toArray, results_cell_row Tryz.results90 _ _ (w.heap.size + 1) 115 _ (0, 0) _ rfl (setRow_heap _ (w.heap.size + 1) _ _ _ _ C.out.res) Tryz.underlying115 rfl C.out.info, ?_⟩
  refine RetCode.eq ?_ C.out.ret
  simp only [Ct.step, E1.out]
set_option maxRecDepth 100000 in
set_option maxHeartbeats 800000 in
theorem followed_cas (c o x : Int) (k : Ct.K) (g : Ghost) (w : World) (s : Ct.St) (fn : FuncId) (ff fc : Array Value) (h : ArenaO O g w s) (hfin : Fin (1000 * k.rank + 1) s) (kr : KRep g.sv g.N O w (.func (.func fn) ff fc) k) (ih : CallBool k) :
    Calls Tryz.prog 90 #[g.sv, .agg (casCells c o x (.func (.func fn) ff fc)).toArray] w (RetCode O g w (Ct.step (.cas c o x k) s)) := by
  have hrk := rank_pos k
  have hNW := ((News.nil w).alloc (.cells (casCells c o x (.func (.func fn) ff fc)).toArray 115)).alloc (.cells zeroCode 115) |>.alloc (.cells #[.int .i64 2, .int .i64 c, .int .i64 o, .int .i64 x] 73)
  obtain ⟨W0, hW0⟩ : ∃ W, ((w.alloc (.cells (casCells c o x (.func (.func fn) ff fc)).toArray 115)).alloc (.cells zeroCode 115)).alloc (.cells #[.int .i64 2, .int .i64 c, .int .i64 o, .int .i64 x] 73) = W := ⟨_, rfl⟩
  rw [hW0] at hNW
  have z := hNW.size
  simp at z
  have hR0 := Run.start h hNW (b := w.heap.size + 1) 1 rfl rfl
  have hM0 : Mv O g w (g.plus (w.heap.size + 1)) W0 := Mv.plus hNW.below (by omega)
  have B0 := Lib.hid (blk_plus h.toArenaAt (b := w.heap.size) (c := w.heap.size + 1) (by omega) (by omega) (hNW.at_ 0 _ rfl))
  have KR := Lib.hid (kr.mv hM0)
  have hent := kr.enters
  unfold Ent at hent
  have R0 := Lib.hid hR0
  have HW := Lib.hid hW0
  have FI := Lib.hid hfin
  have hmf := hmfG
  have hnil : ∀ (fn : Fn) (first cap : Array Value) (w : World), (binOp BinOp.eql 113 (.func fn first cap) .nilFunc).run Tryz.prog w = .ok (.bool false) w := fun _ _ _ _ => by kernel_rfl
  have hnil2 : ∀ (T : TypeId) (v : Value) (w : World), (binOp BinOp.neq 95 (.iface T v) .nilIface).run Tryz.prog w = .ok (.bool true) w := fun _ _ _ => by kernel_rfl
  have hmL := meth_CAS
  clear h hNW hW0 hR0 hM0 hfin kr z
  unfold casCells resCells Ghost.sv
  go_enter_defers Tryz.func90, Tryz.ntmps90
  go_wp2_with fail
  refine (with_world HW.out (R0.out.cas FI.out (by omega) c o x)).mono ?_
  rintro e w1 ⟨vn1, vc1, N1, s1, r1, rfl, E1, hR, hM⟩
  have F1 : Hid (Fin (1000 * k.rank) s1) := Fin.cas FI.out E1.out
  have R1 := Lib.hid hR; have B1 := Lib.hid (B0.out.mv hM); have KR1 := Lib.hid (KR.out.mv hM)
  clear hR hM KR B0
  have c1 := (B1.out).at0 5 (.func (.func fn) ff fc) rfl
  go_wp2_with fail
  refine (ih _ _ _ _ _ _ r1 R1.out.arena F1.out KR1.out).mono ?_
  rintro e w2 hc
  obtain ⟨cs, h2, rfl, hC, hMC⟩ := R1.out.code2 hc
  have C := Lib.hid hC
  clear hc hC hMC
  go_wp2_with (refine wpList_store_row rfl 115 (.tmp 4) (.tmp 47) rfl (w.heap.size + 1) cs.toArray rfl rfl 115 zeroCode C.out.res C.out.info C.out.len.symm C.out.one ?_)
  refine leaves_cons (f := 133) (args := #[.pointer (some ⟨w.heap.size + 1, 0, none⟩)]) (by simp) (by simp [go_sem]) ?_
  refine (followedD_idle ⟨w.heap.size + 1, 0, none⟩ _).mono ?_
  rintro e u' w'' ⟨rfl, rfl, rfl⟩
  refine ⟨.agg cs.toArray, results_cell_row Tryz.results90 _ _ (w.heap.size + 1) 115 _ (0, 0) _ rfl (setRow_heap _ (w.heap.size + 1) _ _ _ _ C.out.res) Tryz.underlying115 rfl C.out.info, ?_⟩
  refine RetCode.eq ?_ C.out.ret
  simp only [Ct.step, E1.out]
end Go.Proofs.YtjlgchdekhmnnaaGreatDoor
end
