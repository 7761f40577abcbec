/- Parts of a proof: Fin2, Fresh. -/
import Derived.Test.YtjlgchdekhmnnaaGreatDoorM26
section
namespace Go.Proofs.YtjlgchdekhmnnaaGreatDoor
open Go.RowKit
set_option linter.unusedVariables false
def FinRes (g : Ghost) (w : World) (s : Ct.St) (hb m1 m2 m3 mask : Nat) (T : Ct.Tab) (r : Ct.Result) (e : Ending) (w' : World) : Prop :=
  e = .returned (.agg (resCells r).toArray) ∧ ArenaAt g w' s ∧ TabAt g w' hb m1 m2 m3 mask T ∧ Keep (fun k => k = m1 ∨ k = m2) w w'
set_option maxRecDepth 100000 in
set_option maxHeartbeats 3000000 in
theorem finish_freeze (g : Ghost) (w : World) (s : Ct.St) (hb m1 m2 m3 mask : Nat) (T : Ct.Tab) (th ix : Int) (t0 t : Ct.Trie) (fd : Bool) (va : Nat) (ky : ByteArray) (ct rf : Int) (h : ArenaAt g w s) (ht : TabAt g w hb m1 m2 m3 mask T) (hl : (T.ops.find? (fun p => p.1 == Ct.numberC th ix)).map (·.2) = some (9, t0, false)) :
    Calls Tryz.prog 47 #[.pointer (some ⟨hb, 0, none⟩), .int .i64 th, .int .i64 ix, .agg #[.int .i64 0, .bool fd, .int .u64 (va : Nat), .string ky, .int .i64 ct, .int .i64 rf, .int .i64 t.root, .bool t.readOnly]] w (FinRes g w s hb m1 m2 m3 mask { T with ops := bput T.ops (Ct.numberC th ix) (9, t0, true), tries := tput T.tries (Ct.numberC th ix) t } { found := fd, value := va, key := ky, count := ct }) := by
  have hNW := (((News.nil w).alloc (.cells #[.int .i64 0, .bool fd, .int .u64 (va : Nat), .string ky, .int .i64 ct, .int .i64 rf, .int .i64 t.root, .bool t.readOnly] 45)).alloc (.cells zeroRes 45)).alloc (.cells #[.int .i64 9, .int .i64 t0.root, .bool t0.readOnly, .bool true] 105)
  obtain ⟨W2, hW2⟩ : ∃ W, (((w.alloc (.cells #[.int .i64 0, .bool fd, .int .u64 (va : Nat), .string ky, .int .i64 ct, .int .i64 rf, .int .i64 t.root, .bool t.readOnly] 45)).alloc (.cells zeroRes 45)).alloc (.cells #[.int .i64 9, .int .i64 t0.root, .bool t0.readOnly, .bool true] 105)) = W := ⟨_, rfl⟩
  rw [hW2] at hNW
  have z := hNW.size
  simp at z
  have hB2 : Below w.heap.size w W2.drew := ⟨hNW.below.os, hNW.below.tape, hNW.below.output, hNW.below.size, hNW.below.block⟩
  have hbB : ∀ o o', Below w.heap.size w ((w.alloc o).alloc o') := fun o o' => ((Below.refl _ _).alloc (Nat.le_refl _) o).alloc (by simp) o'
  have cB := fun o o' => (ht.below (hbB o o')).c2
  have hzv : ∀ W : World, (zeroValue 105).run Tryz.prog W = .ok (.agg #[.int .i64 0, .int .i64 0, .bool false, .bool false]) W := fun _ => by kernel_rfl
  have hml : mlook (T.ops.map fun p => (p.1, valBegun p.2)) (Ct.numberC th ix) = some (.agg #[.int .i64 9, .int .i64 t0.root, .bool t0.readOnly, .bool false]) := by rw [mlook_map, hl]; rfl
  have lB : ∀ o o', (Instr.lookup 96 (.map (some m1)) (.int .i64 (Ct.numberC th ix)) true).run Tryz.prog ((w.alloc o).alloc o') = .ok (.tuple #[.agg #[.int .i64 9, .int .i64 t0.root, .bool t0.readOnly, .bool false], .bool true]) ((w.alloc o).alloc o') := fun o o' => by
    rw [run_lookup 96 3 105 Tryz.underlying96 Tryz.underlying3 ((w.alloc o).alloc o') m1 _ (ht.below (hbB o o')).ops _ (hzv _) _ true, hml]; rfl
  have hT3 := ht.below hB2
  have hA3 := h.below hB2
  obtain ⟨W4, hu4, hm4, hk4, hz4⟩ := run_update 96 3 105 Tryz.underlying96 Tryz.underlying3 W2.drew m1 _ hT3.ops (Ct.numberC th ix) (valBegun (9, t0, true))
  have hT4 := hT3.upd1 hk4 hm4
  have hA4 := hA3.other hk4 ht.inN.2.1 ht.out.2.1
  have hz4' : W4.heap.size = W2.heap.size := hz4
  have nb : ∀ k, w.heap.size ≤ k → k ≠ m1 := fun k hk e => by have := ht.ops.lt; omega
  have y12 : W2.drew.heap[w.heap.size + 2]? = some (.cells #[.int .i64 9, .int .i64 t0.root, .bool t0.readOnly, .bool true] 105 (0, 0)) := hNW.at_ 2 _ rfl
  have p12 : W4.heap[w.heap.size + 2]? = some (.cells #[.int .i64 9, .int .i64 t0.root, .bool t0.readOnly, .bool true] 105 (0, 0)) := by rw [hk4.block _ (by show _ < W2.heap.size; omega) (nb _ (by omega))]; exact y12
  have p0 : W4.heap[w.heap.size]? = some (.cells #[.int .i64 0, .bool fd, .int .u64 (va : Nat), .string ky, .int .i64 ct, .int .i64 rf, .int .i64 t.root, .bool t.readOnly] 45 (0, 0)) := by rw [hk4.block _ (by show _ < W2.heap.size; omega) (nb _ (by omega))]; exact hNW.at_ 0 _ rfl
  have p1 : W4.heap[w.heap.size + 1]? = some (.cells zeroRes 45 (0, 0)) := by rw [hk4.block _ (by show _ < W2.heap.size; omega) (nb _ (by omega))]; exact hNW.at_ 1 _ rfl
  have HC2 := Lib.hid (hT3.c2)
  have HG0 : Hid (W2.drew.cell? ⟨w.heap.size + 2, 0, none⟩ = some (.int .i64 9)) := cell_at y12 0
  have HG1 : Hid (W2.drew.cell? ⟨w.heap.size + 2, 1, none⟩ = some (.int .i64 t0.root)) := cell_at y12 1
  have HG2 : Hid (W2.drew.cell? ⟨w.heap.size + 2, 2, none⟩ = some (.bool t0.readOnly)) := cell_at y12 2
  have HG3 : Hid (W2.drew.cell? ⟨w.heap.size + 2, 3, none⟩ = some (.bool true)) := cell_at y12 3
  have HS4 : Hid (W4.cell? ⟨hb, 2, none⟩ = some (.map (some m1)) ∧ W4.cell? ⟨w.heap.size + 2, 0, none⟩ = some (.int .i64 9) ∧ W4.cell? ⟨w.heap.size + 2, 1, none⟩ = some (.int .i64 t0.root) ∧ W4.cell? ⟨w.heap.size + 2, 2, none⟩ = some (.bool t0.readOnly) ∧ W4.cell? ⟨w.heap.size + 2, 3, none⟩ = some (.bool true) ∧ True) := ⟨hT4.c2, cell_at p12 0, cell_at p12 1, cell_at p12 2, cell_at p12 3, trivial⟩
  have e0 := cell_at p0 0; have e6 := cell_at p0 6; have e7 := cell_at p0 7; have g0 := cell_at p12 0; have g1 := cell_at p12 1; have g2 := cell_at p12 2; have g3 := cell_at p12 3
  simp only [List.getElem?_toArray, List.getElem?_cons_zero, List.getElem?_cons_succ] at e0 e6 e7 g0 g1 g2 g3
  have HREV := Lib.hid (reveal_freeze g W4 s hb m1 m2 m3 mask _ (Ct.numberC th ix) t0 t true hA4 hT4)
  have HK4 : Hid (Keep (fun k => k = m1 ∨ k = m2) w W4) := (Keep.below hB2 (fun k => k = m1 ∨ k = m2)).trans (hk4.mono (fun k _ e => .inl e)) (fun k e => .inl e)
  have P0 := Lib.hid p0; have P1 := Lib.hid p1; have HM2 := Lib.hid (show m2 < w.heap.size from ht.tries.lt); have H := Lib.hid h; have HT := Lib.hid ht
  have HZ4 := Lib.hid hz4'; have HZ := Lib.hid z
  have HW2 := Lib.hid hW2
  have HN := Lib.hid (number_any th ix)
  unfold valBegun at hu4
  have HU4 := Lib.hid hu4
  clear h ht hl hNW hB2 hbB hzv hml hT3 hA3 hm4 hk4 hz4 hz4' hT4 hA4 nb y12 p12 p0 p1 hW2 z hu4
  generalize Ct.numberC th ix = num at *
  unfold zeroRes at HW2
  go_enter Tryz.func47, Tryz.ntmps47
  go_wp2_with (go_at_call 15; refine (HN.out _).mono ?_; rintro e w' ⟨rfl, rfl⟩)
  refine code_world HW2.out ?_
  have hu4 := HU4.out
  refine wp_region_held_drew (S := fun W' => W'.cell? ⟨hb, 2, none⟩ = some (.map (some m1)) ∧ W'.cell? ⟨w.heap.size + 2, 0, none⟩ = some (.int .i64 9) ∧ W'.cell? ⟨w.heap.size + 2, 1, none⟩ = some (.int .i64 t0.root) ∧ W'.cell? ⟨w.heap.size + 2, 2, none⟩ = some (.bool t0.readOnly) ∧ W'.cell? ⟨w.heap.size + 2, 3, none⟩ = some (.bool true) ∧ True) (by kernel_rfl) ⟨HC2.out, HG0.out, HG1.out, HG2.out, HG3.out, trivial⟩ (fun hS => ?_)
  refine wpAnyH_take (i := 0) (oi := { dst := (some 32), op := (Op.move (Operand.tmp 0)), type := 25, pos := "handle.go:170", after := #[], guard := none }) (v := .pointer (some ⟨hb, 0, none⟩)) rfl (by kernel_rfl) (by kernel_rfl) (by kernel_rfl) (fun _ _ _ h => h) (Or.inl ⟨by rfl, fun W' hW => ?_⟩) hS ?_
  · go_simp
  (try simp only [Act.put, sI, sZ, sS])
  refine wpAnyH_take (i := 1) (oi := { dst := (some 33), op := (Op.nilCheck (Operand.tmp 32)), type := 0, pos := "handle.go:170", after := #[⟨0, .data⟩], guard := none }) (v := .pointer (some ⟨hb, 0, none⟩)) rfl (by kernel_rfl) (by kernel_rfl) (by kernel_rfl) (fun _ _ _ h => h) (Or.inl ⟨by rfl, fun W' hW => ?_⟩) hS ?_
  · go_simp
  (try simp only [Act.put, sI, sZ, sS])
  refine wpAnyH_take (i := 2) (oi := { dst := (some 34), op := (Op.fieldAddr 100 (Operand.tmp 33) 2), type := 0, pos := "handle.go:170", after := #[⟨1, .data⟩], guard := none }) (v := .pointer (some ⟨hb, 2, none⟩)) rfl (by kernel_rfl) (by kernel_rfl) (by kernel_rfl) (fun _ _ _ h => h) (Or.inl ⟨by rfl, fun W' hW => ?_⟩) hS ?_
  · go_simp
  (try simp only [Act.put, sI, sZ, sS])
  refine wpAnyH_take (i := 3) (oi := { dst := (some 35), op := (Op.load 96 (Operand.tmp 34)), type := 96, pos := "handle.go:170", after := #[⟨2, .data⟩], guard := none }) (v := .map (some m1)) rfl (by kernel_rfl) (by kernel_rfl) (by kernel_rfl) (fun _ _ _ h => h) (Or.inl ⟨by rfl, fun W' hW => ?_⟩) hS ?_
  · go_simp
  (try simp only [Act.put, sI, sZ, sS])
  refine wpAnyH_take (i := 4) (oi := { dst := (some 36), op := (Op.move (Operand.tmp 9)), type := 3, pos := "handle.go:170", after := #[], guard := none }) (v := .int .i64 num) rfl (by kernel_rfl) (by kernel_rfl) (by kernel_rfl) (fun _ _ _ h => h) (Or.inl ⟨by rfl, fun W' hW => ?_⟩) hS ?_
  · go_simp
  (try simp only [Act.put, sI, sZ, sS])
  refine wpAnyH_take (i := 5) (oi := { dst := (some 37), op := (Op.load 105 (Operand.tmp 10)), type := 105, pos := "handle.go:170", after := #[], guard := none }) (v := .agg #[.int .i64 9, .int .i64 t0.root, .bool t0.readOnly, .bool true]) rfl (by kernel_rfl) (by kernel_rfl) (by kernel_rfl) (fun _ _ _ h => h) (Or.inl ⟨by rfl, fun W' hW => ?_⟩) hS ?_
  · go_simp
  (try simp only [Act.put, sI, sZ, sS])
  refine wpAnyH_ready (rs := [6]) (by kernel_rfl) (by simp) ?_
  refine AllReadyH.cons (o := { dst := none, op := (Op.mapUpdate 96 (Operand.tmp 35) (Operand.tmp 36) (Operand.tmp 37)), type := 0, pos := "handle.go:170", after := #[⟨3, .data⟩, ⟨4, .data⟩, ⟨5, .data⟩, ⟨0, .phase⟩, ⟨1, .phase⟩, ⟨2, .phase⟩, ⟨3, .phase⟩, ⟨4, .phase⟩, ⟨5, .phase⟩], guard := none }) rfl (fun K hK => ?_) AllReadyH.nil
  go_simp
  refine hK.out _ _ HS4.out (fun hS => ?_)
  clear hK K
  (try simp only [Act.put, sI, sZ, sS])
  refine wpAnyH_done (by kernel_rfl) ?_ _
  clear hu4
  go_wp2_with fail
  refine HREV.out.mono ?_
  rintro e w5 ⟨rfl, ha5, ht5, hk5⟩
  have q0 : w5.heap[w.heap.size]? = some (.cells #[.int .i64 0, .bool fd, .int .u64 (va : Nat), .string ky, .int .i64 ct, .int .i64 rf, .int .i64 t.root, .bool t.readOnly] 45 (0, 0)) := by rw [hk5.block _ (by rw [HZ4.out]; have := HZ.out; omega) (fun e => by have := HM2.out; omega)]; exact P0.out
  have q1 : w5.heap[w.heap.size + 1]? = some (.cells zeroRes 45 (0, 0)) := by rw [hk5.block _ (by rw [HZ4.out]; have := HZ.out; omega) (fun e => by have := HM2.out; omega)]; exact P1.out
  have Q0 := Lib.hid q0; have Q1 := Lib.hid q1
  have A5 := Lib.hid ha5; have T5 := Lib.hid ht5; have K5 := Lib.hid hk5
  have j0 := cell_at q0 0; have j1 := cell_at q0 1; have j2 := cell_at q0 2; have j3 := cell_at q0 3; have j4 := cell_at q0 4; have j5 := cell_at q0 5; have j6 := cell_at q0 6; have j7 := cell_at q0 7
  have fr := free_at q0
  have l0 := cell_at q1 0; have l1 := cell_at q1 1; have l2 := cell_at q1 2; have l3 := cell_at q1 3; have l4 := cell_at q1 4; have l5 := cell_at q1 5; have l6 := cell_at q1 6; have l7 := cell_at q1 7
  have fr1 := free_at q1
  unfold zeroRes at l0 l1 l2 l3 l4 l5 l6 l7
  simp only [List.getElem?_toArray, List.getElem?_cons_zero, List.getElem?_cons_succ] at j0 j1 j2 j3 j4 j5 j6 j7 l0 l1 l2 l3 l4 l5 l6 l7
  clear ha5 ht5 hk5 q0 q1
  go_wp2_with fail
  have b3 := heap_setCell_of (heap_setCell_of (heap_setCell_of Q1.out ⟨w.heap.size, 5, none⟩ (.int .i64 0) (by simp)) ⟨w.heap.size, 6, none⟩ (.int .i64 0) (by simp)) ⟨w.heap.size, 7, none⟩ (.bool false) (by simp)
  have x0 := heap_setCell_at _ (w.heap.size + 1) 0 (.int .i64 0) _ _ _ b3
  have x1 := heap_setCell_at _ (w.heap.size + 1) 1 (.bool fd) _ _ _ x0
  have x2 := heap_setCell_at _ (w.heap.size + 1) 2 (.int .u64 (va : Nat)) _ _ _ x1
  have x3 := heap_setCell_at _ (w.heap.size + 1) 3 (.string ky) _ _ _ x2
  have x4 := heap_setCell_at _ (w.heap.size + 1) 4 (.int .i64 ct) _ _ _ x3
  have x5 := heap_setCell_at _ (w.heap.size + 1) 5 (.int .i64 0) _ _ _ x4
  have x6 := heap_setCell_at _ (w.heap.size + 1) 6 (.int .i64 0) _ _ _ x5
  have x7 := heap_setCell_at _ (w.heap.size + 1) 7 (.bool false) _ _ _ x6
  refine bodyPost_ret (v := .agg (resCells { found := fd, value := va, key := ky, count := ct }).toArray) (results_cell_row Tryz.results47 _ _ (w.heap.size + 1) 45 _ (0, 0) _ rfl x7 Tryz.underlying45 rfl info_Result_size) rfl ?_
  have kc : Keep (fun k => w.heap.size ≤ k) w5 _ := (((((((((((Keep.setCell (F := fun k => w.heap.size ≤ k) w5 ⟨w.heap.size, 5, none⟩ (.int .i64 0) (Nat.le_refl _)).trans (Keep.setCell (F := fun k => w.heap.size ≤ k) _ ⟨w.heap.size, 6, none⟩ (.int .i64 0) (Nat.le_refl _)) (fun _ h => .inl h)).trans (Keep.setCell (F := fun k => w.heap.size ≤ k) _ ⟨w.heap.size, 7, none⟩ (.bool false) (Nat.le_refl _)) (fun _ h => .inl h)).trans (Keep.setCell (F := fun k => w.heap.size ≤ k) _ ⟨w.heap.size + 1, 0, none⟩ (.int .i64 0) (Nat.le_succ _)) (fun _ h => .inl h)).trans (Keep.setCell (F := fun k => w.heap.size ≤ k) _ ⟨w.heap.size + 1, 1, none⟩ (.bool fd) (Nat.le_succ _)) (fun _ h => .inl h)).trans (Keep.setCell (F := fun k => w.heap.size ≤ k) _ ⟨w.heap.size + 1, 2, none⟩ (.int .u64 (va : Nat)) (Nat.le_succ _)) (fun _ h => .inl h)).trans (Keep.setCell (F := fun k => w.heap.size ≤ k) _ ⟨w.heap.size + 1, 3, none⟩ (.string ky) (Nat.le_succ _)) (fun _ h => .inl h)).trans (Keep.setCell (F := fun k => w.heap.size ≤ k) _ ⟨w.heap.size + 1, 4, none⟩ (.int .i64 ct) (Nat.le_succ _)) (fun _ h => .inl h)).trans (Keep.setCell (F := fun k => w.heap.size ≤ k) _ ⟨w.heap.size + 1, 5, none⟩ (.int .i64 0) (Nat.le_succ _)) (fun _ h => .inl h)).trans (Keep.setCell (F := fun k => w.heap.size ≤ k) _ ⟨w.heap.size + 1, 6, none⟩ (.int .i64 0) (Nat.le_succ _)) (fun _ h => .inl h)).trans (Keep.setCell (F := fun k => w.heap.size ≤ k) _ ⟨w.heap.size + 1, 7, none⟩ (.bool false) (Nat.le_succ _)) (fun _ h => .inl h))
  have kall := (HK4.out.trans (K5.out.mono (G := fun k => k = m1 ∨ k = m2) (fun k _ e => .inr e)) (fun k e => .inl e)).trans kc (fun k hk => .inr hk)
  have htt := HT.out
  refine ⟨rfl, ?_, ?_, kall⟩
  · exact H.out.keep kall (N' := g.N) (fun k e hf => by rcases e with e | e <;> subst e; exact htt.out.2.1 hf; exact htt.out.2.2.1 hf) (fun k e => by rcases e with e | e <;> subst e; exact .inl htt.inN.2.1; exact .inl htt.inN.2.2.1) (fun _ h => .inl h) (fun _ h => h) (fun k hk => Nat.lt_of_lt_of_le (H.out.nlt k hk) kall.size)
  · exact T5.out.keep kc ⟨by have := htt.lt; omega, by have := htt.ops.lt; omega, by have := htt.tries.lt; omega, by have := htt.iters.lt; omega⟩ rfl (fun _ h => h) (fun _ h => .inl h)
end Go.Proofs.YtjlgchdekhmnnaaGreatDoor
end
section
namespace Go.Proofs.YtjlgchdekhmnnaaGreatDoor
open Go.RowKit
set_option linter.unusedVariables false
set_option linter.unusedVariables false
variable {O : Nat → Prop}
structure Fresh (B : Nat) (w0 : World) (g : Ghost) (w : World) : Prop where
  keep : Keep (fun k => B ≤ k) w0 w
  foot : ∀ k, g.Foot k → B ≤ k
  size : B ≤ w.heap.size
theorem Fresh.step {B : Nat} {w0 : World} {g g' : Ghost} {w w' : World} (h : Fresh B w0 g w) (hs : Step g w g' w') : Fresh B w0 g' w' :=
  ⟨h.keep.trans hs.keep (fun k hk => .inl (h.foot k hk)), fun k hk => (hs.foot k hk).elim (h.foot k) (fun h1 => Nat.le_trans h.size h1), Nat.le_trans h.size hs.keep.size⟩
theorem Fresh.stepT {B : Nat} {w0 : World} {tb : Nat} {g g' : Ghost} {w w' : World} (h : Fresh B w0 g w) (hs : StepT O tb g w g' w') (hX : B ≤ tb) (hO : ∀ k, O k → B ≤ k) : Fresh B w0 g' w' :=
  ⟨h.keep.trans hs.keep (fun k hk => .inl (hk.elim (h.foot k) (fun e => e.elim (fun e => e ▸ hX) (hO k)))), fun k hk => (hs.foot k hk).elim (h.foot k) (fun h1 => Nat.le_trans h.size h1), Nat.le_trans h.size hs.keep.size⟩
theorem Fresh.more {B : Nat} {w0 : World} {F : Nat → Prop} {g : Ghost} {w w' : World} (h : Fresh B w0 g w) (hk : Keep F w w') (hF : ∀ k, F k → B ≤ k ∨ w0.heap.size ≤ k) (h0 : B ≤ w0.heap.size) : Fresh B w0 g w' :=
  ⟨h.keep.trans hk (fun k hf => (hF k hf).imp id id), h.foot, Nat.le_trans h.size hk.size⟩
theorem Fresh.below {B : Nat} {w0 : World} {g : Ghost} {w w' : World} (h : Fresh B w0 g w) (hb : Below w.heap.size w w') : Fresh B w0 g w' :=
  ⟨h.keep.trans (Keep.below hb (fun _ => False)) (fun _ h => h.elim), h.foot, Nat.le_trans h.size hb.size⟩
theorem Fresh.toBelow {w0 : World} {g : Ghost} {w : World} (h : Fresh w0.heap.size w0 g w) : Below w0.heap.size w0 w := h.keep.toBelow _ (Nat.le_refl _) (fun k hk => hk)
theorem Fin.run : ∀ (m : Nat) (c : Ct.Code) (s : Ct.St) (n : Nat), c.wt → Fin (n + 11 * m) s → Fin n (Ct.runC m c s).2.2
  | 0, c, s, n, _, h => h
  | m + 1, .done r, s, n, _, h => h.less (by omega)
  | m + 1, .load c k, s, n, hw, h => Fin.run m _ _ n (Ct.step_wt (c := .load c k) s hw) (Fin.step (c := .load c k) hw (h.less (by omega)))
  | m + 1, .cas c o x k, s, n, hw, h => Fin.run m _ _ n (Ct.step_wt (c := .cas c o x k) s hw) (Fin.step (c := .cas c o x k) hw (h.less (by omega)))
theorem Fin.create {n : Nat} {s : Ct.St} (h : Fin (n + 6) s) : Fin n (Ct.createC s).2 :=
  Fin.newCell (Fin.begun (n := n + 1) (Fin.alloc' (nd := { kind := 3 }) (n := n + 4) h (by first | exact Ct.fits_small _ _ _ _ _ _ | exact Ct.fits_empty _)) rfl) rfl
theorem Fin.zero (n : Nat) (h : n ≤ 1000000) : Fin n {} := ⟨by simp [Ct.St.size]; omega, fun n hn => by cases hn⟩
theorem TabAt.stepT {tb : Nat} {g g' : Ghost} {w w' : World} {hb m1 m2 m3 mask : Nat} {T : Ct.Tab} (h : TabAt g w hb m1 m2 m3 mask T) (hs : StepT O tb g w g' w') (ne : hb ≠ tb ∧ m1 ≠ tb ∧ m2 ≠ tb ∧ m3 ≠ tb) (no : ¬ O hb ∧ ¬ O m1 ∧ ¬ O m2 ∧ ¬ O m3) : TabAt g' w' hb m1 m2 m3 mask T :=
  h.keep hs.keep ⟨fun hf => hf.elim h.out.1 (fun e => e.elim ne.1 no.1), fun hf => hf.elim h.out.2.1 (fun e => e.elim ne.2.1 no.2.1), fun hf => hf.elim h.out.2.2.1 (fun e => e.elim ne.2.2.1 no.2.2.1), fun hf => hf.elim h.out.2.2.2 (fun e => e.elim ne.2.2.2 no.2.2.2)⟩ hs.a hs.old hs.foot
theorem TaskAt.mv {g g' : Ghost} {w w' : World} {tb : Nat} {c : Ct.Code} {n : Nat} {F : Nat → Prop} (h : TaskAt O g w tb c n) (hk : Keep F w w') (hF : ¬ F tb) (hN : ∀ k, F k → g.N k ∨ w.heap.size ≤ k) (hOF : ∀ k, F k → ¬ O k ∨ w.heap.size ≤ k) (ea : g'.a = g.a) (new : ∀ k, g'.N k → g.N k ∨ w.heap.size ≤ k) (old : ∀ k, g.N k → g'.N k) (foot : ∀ k, g'.Foot k → g.Foot k ∨ (w.heap.size ≤ k ∧ ¬ O k)) : TaskAt O g' w' tb c n := by
  obtain ⟨⟨cs, hT, hC⟩, h1, h2, h4, h5⟩ := h
  have esv : g'.sv = g.sv := by unfold Ghost.sv; rw [ea]
  refine ⟨⟨cs, ?_, ?_⟩, old _ h1, fun hf => (foot _ hf).elim h2 (fun h3 => by have := hT.lt; omega), fun k hk => ⟨old k (h4 k hk).1, fun hf => (foot k hf).elim (h4 k hk).2 (fun h3 => h3.2 hk)⟩, h5⟩
  · rw [esv]; exact ⟨by rw [hk.block tb hT.lt hF]; exact hT.at_, hT.len⟩
  · rw [esv]; exact hC.keep hk hN new hOF
theorem TaskAt.below {g : Ghost} {w w' : World} {tb : Nat} {c : Ct.Code} {n : Nat} (h : TaskAt O g w tb c n) (hb : Below w.heap.size w w') : TaskAt O g w' tb c n :=
  h.mv (Keep.below hb (fun _ => False)) (fun h => h) (fun _ h => h.elim) (fun _ h => h.elim) rfl (fun _ h => .inl h) (fun _ h => h) (fun _ h => .inl h)
theorem taskDone_at (w : World) (tb : Nat) (g : Ghost) (c : Ct.Code) (n : Nat) (h : TaskAt O g w tb c n) :
    Calls Tryz.prog 48 #[.pointer (some ⟨tb, 0, none⟩)] w fun e w' => e = .returned (.bool (Code.isDone c)) ∧ w = w' := by
  obtain ⟨⟨cs, hT, hC⟩, _⟩ := h
  exact done_any w tb g cs n false c hT hC
def fr0 : Ct.Trie × Ct.St := Ct.createC {}
def fr1 : Ct.Code × Ct.St := Ct.apply Ct.stOps (.frz0 fr0.1) 0 fr0.2
def fr2 : Nat × Ct.Code × Ct.St := Ct.runC 20 fr1.1 fr1.2
attribute [irreducible] fr0 fr1 fr2
end Go.Proofs.YtjlgchdekhmnnaaGreatDoor
end
