/- The walks of task.begun and task.followed: they defer a function that recovers. -/
import Derived.Test.YtifehcegnofpkaaGreatDoorCall
import Derived.Defers
import Derived.Recover
namespace Go.Proofs.YtifehcegnofpkaaGreatDoor
open Go.RowKit
set_option linter.unusedVariables false

/-- The deferred closures, where nothing has panicked. -/
theorem begunD_idle (p : Addr) (w : World) :
    CallsD Tryz.prog 90 #[.pointer (some p)] .returning w fun e u' w' => e = .returned (.tuple #[]) ∧ u' = .returning ∧ w' = w := by
  refine callsD_of_wpS Tryz.func90 rfl fun c₀ cs hu => ?_
  apply wpS_seq
  apply wpS_region
  simp [wpOpsS, go_sem, recoverD, hu, Tryz.ntmps90, Exit.thenS]
  refine wpS_cond (t := false) (by simp [Act.eval, Array.replicate]) ?_
  refine wpS_of_wp (wp_skip ?_)
  cases c₀
  simp_all [bodyPostS, results, Tryz.results90]

set_option maxRecDepth 100000 in
set_option maxHeartbeats 400000 in
theorem taskBegun_any (k : Ct.K) (g : Ghost) (w : World) (s : Ct.St) (fn : FuncId) (fc : Array Value) (h : ArenaAt g w s) (hfin : Fin (1000 * k.rank) s) (kr : KRep g.sv g.N w (.func (.func fn) #[] fc) k) (ih : CallThunk k) :
    Calls Tryz.prog 58 #[.func (.func fn) #[] fc] w (RetCode g w (Ct.apply Ct.stOps k 0 s)) := by
  have hNW := (News.nil w).alloc (.cells zeroCode 100)
  obtain ⟨W0, hW0⟩ : ∃ W, (w.alloc (.cells zeroCode 100)) = W := ⟨_, rfl⟩
  rw [hW0] at hNW
  have hR0 := Run.start h hNW (b := w.heap.size) 0 rfl rfl
  have hM0 : Mv g w (g.plus w.heap.size) W0 := Mv.plus hNW.below (by omega)
  have KR := Lib.hid (kr.mv hM0)
  have hent := kr.enters
  unfold Ent at hent
  have R0 := Lib.hid hR0
  have HW := Lib.hid hW0
  have FI := Lib.hid hfin
  have hmf : ∀ (fn : Fn) (first cap : Array Value) (w : World), (Instr.makeFunc fn first cap).run Tryz.prog w = .ok (.func fn first cap) w := fun _ _ _ _ => rfl
  have hnil : ∀ (fn : Fn) (first cap : Array Value) (w : World), (binOp BinOp.eql 114 (.func fn first cap) .nilFunc).run Tryz.prog w = .ok (.bool false) w := fun _ _ _ _ => by kernel_rfl
  clear h hNW hW0 hR0 hM0 hfin kr
  go_enter_defers Tryz.func58, Tryz.ntmps58
  go_wp2_with fail
  refine (with_world HW.out (ih _ _ _ _ _ R0.out.arena FI.out KR.out)).mono ?_
  rintro e w2 hc
  obtain ⟨cs, h2, rfl, hC, hMC⟩ := R0.out.code2 hc
  have C := Lib.hid hC
  clear hc hC hMC
  go_wp2_with (refine wpList_store_row rfl 100 (.tmp 2) (.tmp 8) rfl w.heap.size cs.toArray rfl rfl 100 zeroCode C.out.res C.out.info C.out.len.symm C.out.one ?_)
  refine leaves_cons (f := 90) (args := #[.pointer (some ⟨w.heap.size, 0, none⟩)]) (by simp) (by simp [go_sem]) ?_
  refine (begunD_idle ⟨w.heap.size, 0, none⟩ _).mono ?_
  rintro e u' w'' ⟨rfl, rfl, rfl⟩
  refine ⟨.agg cs.toArray, results_cell_row Tryz.results58 _ _ w.heap.size 100 _ (0, 0) _ rfl (setRow_heap _ w.heap.size _ _ _ _ C.out.res) Tryz.underlying100 rfl C.out.info, ?_⟩
  exact C.out.ret


theorem followedD_idle (p : Addr) (w : World) :
    CallsD Tryz.prog 53 #[.pointer (some p)] .returning w fun e u' w' => e = .returned (.tuple #[]) ∧ u' = .returning ∧ w' = w := by
  refine callsD_of_wpS Tryz.func53 rfl fun c₀ cs hu => ?_
  apply wpS_seq
  apply wpS_region
  simp [wpOpsS, go_sem, recoverD, hu, Tryz.ntmps53, Exit.thenS]
  refine wpS_cond (t := false) (by simp [Act.eval, Array.replicate]) ?_
  refine wpS_of_wp (wp_skip ?_)
  cases c₀
  simp_all [bodyPostS, results, Tryz.results53]

theorem Fin.load {n : Nat} {s s' : Ct.St} {c r : Int} (h : Fin (n + 1) s) (e : s.load c = (s', r)) : Fin n s' := by
  have hr := h.room
  have e1 : s' = (s.load c).1 := by rw [e]
  subst e1
  refine ⟨?_, h.short⟩
  simp only [Ct.St.load, Ct.St.size] at hr ⊢; omega
theorem Fin.cas {n : Nat} {s s' : Ct.St} {c o x : Int} {r : Bool} (h : Fin (n + 1) s) (e : s.cas c o x = (s', r)) : Fin n s' := by
  have hr := h.room
  have e1 : s' = (s.cas c o x).1 := by rw [e]
  subst e1
  refine ⟨?_, h.short⟩
  simp only [Ct.St.cas, Ct.St.size] at hr ⊢
  split <;> (try simp only [List.length_set]) <;> omega
theorem Run.load {g : Ghost} {w : World} {b : Nat} {h : Ghost} {W : World} {s : Ct.St} {n : Nat} (R : Run g w b h W s) (hf : Fin n s) (hn : 100 ≤ n) (c : Int) :
    Calls Tryz.prog 263 #[.pointer (some ⟨g.a, 0, none⟩), .int .i64 c] W (IntRes g w b h W (s.load c)) := by
  have hc := load_any h W s c R.arena (hf.Room hn)
  rw [R.step.a] at hc
  exact hc.mono fun e w' hd => R.does hd
/-- A call that returns a bool and changes the arena. -/
def BoolRes (g : Ghost) (w : World) (b : Nat) (h : Ghost) (W : World) (c : Ct.St × Bool) (e : Ending) (w' : World) : Prop :=
  ∃ vn vc N s' r, e = .returned (.bool r) ∧ Hid (c = (s', r)) ∧ Run g w b ⟨g.a, vn, vc, N⟩ w' s' ∧ Mv h W ⟨g.a, vn, vc, N⟩ w'
theorem Run.cas {g : Ghost} {w : World} {b : Nat} {h : Ghost} {W : World} {s : Ct.St} {n : Nat} (R : Run g w b h W s) (hf : Fin n s) (hn : 100 ≤ n) (c o x : Int) :
    Calls Tryz.prog 262 #[.pointer (some ⟨g.a, 0, none⟩), .int .i64 c, .int .i64 o, .int .i64 x] W (BoolRes g w b h W (s.cas c o x)) := by
  have hc := cas_any h W s c o x R.arena (hf.Room hn)
  rw [R.step.a] at hc
  refine hc.mono ?_
  rintro e w' ⟨rfl, ⟨a', vn, vc, N⟩, ha, hs⟩
  have hA : a' = g.a := hs.a.trans R.step.a
  subst hA
  exact ⟨vn, vc, N, _, _, rfl, Lib.hid rfl, R.next ha hs, Mv.step R.arena hs⟩

theorem rank_pos (k : Ct.K) : 1 ≤ k.rank := by cases k <;> simp only [Ct.K.rank] <;> omega

set_option maxRecDepth 100000 in
set_option maxHeartbeats 800000 in
theorem followed_load (c : Int) (k : Ct.K) (g : Ghost) (w : World) (s : Ct.St) (fn : FuncId) (fc : Array Value) (h : ArenaAt g w s) (hfin : Fin (1000 * k.rank + 1) s) (kr : KRep g.sv g.N w (.func (.func fn) #[] fc) k) (ih : CallRef k) :
    Calls Tryz.prog 36 #[g.sv, .agg (loadCells c (.func (.func fn) #[] fc)).toArray] w (RetCode g w (Ct.step (.load c k) s)) := by
  have hrk := rank_pos k
  have hNW := ((News.nil w).alloc (.cells (loadCells c (.func (.func fn) #[] fc)).toArray 100)).alloc (.cells zeroCode 100) |>.alloc (.cells #[.int .i64 1, .int .i64 c, .int .i64 0, .int .i64 0] 48)
  obtain ⟨W0, hW0⟩ : ∃ W, ((w.alloc (.cells (loadCells c (.func (.func fn) #[] fc)).toArray 100)).alloc (.cells zeroCode 100)).alloc (.cells #[.int .i64 1, .int .i64 c, .int .i64 0, .int .i64 0] 48) = W := ⟨_, rfl⟩
  rw [hW0] at hNW
  have z := hNW.size
  simp at z
  have hR0 := Run.start h hNW (b := w.heap.size + 1) 1 rfl rfl
  have hM0 : Mv g w (g.plus (w.heap.size + 1)) W0 := Mv.plus hNW.below (by omega)
  have B0 := Lib.hid (blk_plus h (b := w.heap.size) (c := w.heap.size + 1) (by omega) (by omega) (hNW.at_ 0 _ rfl))
  have KR := Lib.hid (kr.mv hM0)
  have hent := kr.enters
  unfold Ent at hent
  have R0 := Lib.hid hR0
  have HW := Lib.hid hW0
  have FI := Lib.hid hfin
  have hmf : ∀ (fn : Fn) (first cap : Array Value) (w : World), (Instr.makeFunc fn first cap).run Tryz.prog w = .ok (.func fn first cap) w := fun _ _ _ _ => rfl
  have hnil : ∀ (fn : Fn) (first cap : Array Value) (w : World), (binOp BinOp.eql 97 (.func fn first cap) .nilFunc).run Tryz.prog w = .ok (.bool false) w := fun _ _ _ _ => by kernel_rfl
  have hnil2 : ∀ (T : TypeId) (v : Value) (w : World), (binOp BinOp.neq 88 (.iface T v) .nilIface).run Tryz.prog w = .ok (.bool true) w := fun _ _ _ => by kernel_rfl
  have hmL := meth_Load
  clear h hNW hW0 hR0 hM0 hfin kr z
  unfold loadCells resCells Ghost.sv
  go_enter_defers Tryz.func36, Tryz.ntmps36
  go_wp2_with fail
  refine (with_world HW.out (R0.out.load FI.out (by omega) c)).mono ?_
  rintro e w1 ⟨vn1, vc1, N1, s1, r1, rfl, E1, hR, hM⟩
  have F1 : Hid (Fin (1000 * k.rank) s1) := Fin.load FI.out E1.out
  have R1 := Lib.hid hR; have B1 := Lib.hid (B0.out.mv hM); have KR1 := Lib.hid (KR.out.mv hM)
  clear hR hM KR B0
  have c1 := (B1.out).at0 4 (.func (.func fn) #[] fc) rfl
  go_wp2_with fail
  refine (ih _ _ _ _ _ r1 R1.out.arena F1.out KR1.out).mono ?_
  rintro e w2 hc
  obtain ⟨cs, h2, rfl, hC, hMC⟩ := R1.out.code2 hc
  have C := Lib.hid hC
  clear hc hC hMC
  go_wp2_with (refine wpList_store_row rfl 100 (.tmp 4) (.tmp 27) rfl (w.heap.size + 1) cs.toArray rfl rfl 100 zeroCode C.out.res C.out.info C.out.len.symm C.out.one ?_)
  refine leaves_cons (f := 53) (args := #[.pointer (some ⟨w.heap.size + 1, 0, none⟩)]) (by simp) (by simp [go_sem]) ?_
  refine (followedD_idle ⟨w.heap.size + 1, 0, none⟩ _).mono ?_
  rintro e u' w'' ⟨rfl, rfl, rfl⟩
  refine ⟨.agg cs.toArray, results_cell_row Tryz.results36 _ _ (w.heap.size + 1) 100 _ (0, 0) _ rfl (setRow_heap _ (w.heap.size + 1) _ _ _ _ C.out.res) Tryz.underlying100 rfl C.out.info, ?_⟩
  refine RetCode.eq ?_ C.out.ret
  simp only [Ct.step, E1.out]

set_option maxRecDepth 100000 in
set_option maxHeartbeats 800000 in
theorem followed_cas (c o x : Int) (k : Ct.K) (g : Ghost) (w : World) (s : Ct.St) (fn : FuncId) (fc : Array Value) (h : ArenaAt g w s) (hfin : Fin (1000 * k.rank + 1) s) (kr : KRep g.sv g.N w (.func (.func fn) #[] fc) k) (ih : CallBool k) :
    Calls Tryz.prog 36 #[g.sv, .agg (casCells c o x (.func (.func fn) #[] fc)).toArray] w (RetCode g w (Ct.step (.cas c o x k) s)) := by
  have hrk := rank_pos k
  have hNW := ((News.nil w).alloc (.cells (casCells c o x (.func (.func fn) #[] fc)).toArray 100)).alloc (.cells zeroCode 100) |>.alloc (.cells #[.int .i64 2, .int .i64 c, .int .i64 o, .int .i64 x] 48)
  obtain ⟨W0, hW0⟩ : ∃ W, ((w.alloc (.cells (casCells c o x (.func (.func fn) #[] fc)).toArray 100)).alloc (.cells zeroCode 100)).alloc (.cells #[.int .i64 2, .int .i64 c, .int .i64 o, .int .i64 x] 48) = W := ⟨_, rfl⟩
  rw [hW0] at hNW
  have z := hNW.size
  simp at z
  have hR0 := Run.start h hNW (b := w.heap.size + 1) 1 rfl rfl
  have hM0 : Mv g w (g.plus (w.heap.size + 1)) W0 := Mv.plus hNW.below (by omega)
  have B0 := Lib.hid (blk_plus h (b := w.heap.size) (c := w.heap.size + 1) (by omega) (by omega) (hNW.at_ 0 _ rfl))
  have KR := Lib.hid (kr.mv hM0)
  have hent := kr.enters
  unfold Ent at hent
  have R0 := Lib.hid hR0
  have HW := Lib.hid hW0
  have FI := Lib.hid hfin
  have hmf : ∀ (fn : Fn) (first cap : Array Value) (w : World), (Instr.makeFunc fn first cap).run Tryz.prog w = .ok (.func fn first cap) w := fun _ _ _ _ => rfl
  have hnil : ∀ (fn : Fn) (first cap : Array Value) (w : World), (binOp BinOp.eql 98 (.func fn first cap) .nilFunc).run Tryz.prog w = .ok (.bool false) w := fun _ _ _ _ => by kernel_rfl
  have hnil2 : ∀ (T : TypeId) (v : Value) (w : World), (binOp BinOp.neq 88 (.iface T v) .nilIface).run Tryz.prog w = .ok (.bool true) w := fun _ _ _ => by kernel_rfl
  have hmL := meth_CAS
  clear h hNW hW0 hR0 hM0 hfin kr z
  unfold casCells resCells Ghost.sv
  go_enter_defers Tryz.func36, Tryz.ntmps36
  go_wp2_with fail
  refine (with_world HW.out (R0.out.cas FI.out (by omega) c o x)).mono ?_
  rintro e w1 ⟨vn1, vc1, N1, s1, r1, rfl, E1, hR, hM⟩
  have F1 : Hid (Fin (1000 * k.rank) s1) := Fin.cas FI.out E1.out
  have R1 := Lib.hid hR; have B1 := Lib.hid (B0.out.mv hM); have KR1 := Lib.hid (KR.out.mv hM)
  clear hR hM KR B0
  have c1 := (B1.out).at0 5 (.func (.func fn) #[] fc) rfl
  go_wp2_with fail
  refine (ih _ _ _ _ _ r1 R1.out.arena F1.out KR1.out).mono ?_
  rintro e w2 hc
  obtain ⟨cs, h2, rfl, hC, hMC⟩ := R1.out.code2 hc
  have C := Lib.hid hC
  clear hc hC hMC
  go_wp2_with (refine wpList_store_row rfl 100 (.tmp 4) (.tmp 47) rfl (w.heap.size + 1) cs.toArray rfl rfl 100 zeroCode C.out.res C.out.info C.out.len.symm C.out.one ?_)
  refine leaves_cons (f := 53) (args := #[.pointer (some ⟨w.heap.size + 1, 0, none⟩)]) (by simp) (by simp [go_sem]) ?_
  refine (followedD_idle ⟨w.heap.size + 1, 0, none⟩ _).mono ?_
  rintro e u' w'' ⟨rfl, rfl, rfl⟩
  refine ⟨.agg cs.toArray, results_cell_row Tryz.results36 _ _ (w.heap.size + 1) 100 _ (0, 0) _ rfl (setRow_heap _ (w.heap.size + 1) _ _ _ _ C.out.res) Tryz.underlying100 rfl C.out.info, ?_⟩
  refine RetCode.eq ?_ C.out.ret
  simp only [Ct.step, E1.out]
end Go.Proofs.YtifehcegnofpkaaGreatDoor
