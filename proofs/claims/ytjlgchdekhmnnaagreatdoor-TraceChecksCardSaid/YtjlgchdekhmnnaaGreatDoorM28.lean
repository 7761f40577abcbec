/- Parts of a proof: Zero. -/
import Derived.Test.YtjlgchdekhmnnaaGreatDoorM27
section
namespace Go.Ct
def trieOf (T : Tab) (h : Int) : Trie := ((T.tries.find? (fun p => p.1 == h)).map (·.2)).getD {}
end Go.Ct
namespace Go.Proofs.YtjlgchdekhmnnaaGreatDoor
open Go.RowKit
set_option linter.unusedVariables false
set_option maxRecDepth 100000 in
set_option maxHeartbeats 1600000 in
theorem refusal_zero (g : Ghost) (w : World) (hb m1 m2 m3 mask : Nat) (T : Ct.Tab) (th hd : Int) (key : ByteArray) (x y : Nat) (ht : TabAt g w hb m1 m2 m3 mask T) :
    Calls Tryz.prog 50 #[.pointer (some ⟨hb, 0, none⟩), .int .i64 th, .agg #[.int .i64 0, .int .i64 hd, .string key, .int .u64 (x : Nat), .int .u64 (y : Nat)]] w fun e w' => e = .returned (.int .i64 1) ∧ Below w.heap.size w w' := by
  clear ht
  go_enter Tryz.func50, Tryz.ntmps50
  go_wp2_with fail
  go_ret
  exact ⟨rfl, (Below.refl w.heap.size w).alloc (Nat.le_refl _) _⟩
set_option maxRecDepth 100000 in
set_option maxHeartbeats 3000000 in
theorem begin_zero (g : Ghost) (w : World) (s : Ct.St) (hb m1 m2 m3 mask : Nat) (T : Ct.Tab) (th ix hd : Int) (key : ByteArray) (x y : Nat) (t : Ct.Trie) (h : ArenaAt g w s) (ht : TabAt g w hb m1 m2 m3 mask T) (hfin : Fin 1000 s) (hn : 0 ≤ Ct.numberC th ix) (hnew : T.ops.find? (fun p => p.1 == Ct.numberC th ix) = none) (hl : Ct.trieOf T hd = t) :
    Calls Tryz.prog 12 #[.pointer (some ⟨hb, 0, none⟩), .int .i64 th, .int .i64 ix, .agg #[.int .i64 0, .int .i64 hd, .string key, .int .u64 (x : Nat), .int .u64 (y : Nat)]] w (BeginRes g w hb m1 m2 m3 mask { T with ops := bput T.ops (Ct.numberC th ix) (0, t, false) } ((.done { err := 1 }, s))) := by
  have hNW := (((News.nil w).alloc (.cells #[.int .i64 0, .int .i64 hd, .string key, .int .u64 (x : Nat), .int .u64 (y : Nat)] 35)).alloc (.cells #[.int .i64 0, .int .i64 0, .bool false, .bool false] 105)).alloc (.cells #[.int .i64 0, .int .i64 0, .bool false, .bool false] 105)
  have e2 : (((w.alloc (.cells #[.int .i64 0, .int .i64 hd, .string key, .int .u64 (x : Nat), .int .u64 (y : Nat)] 35)).alloc (.cells #[.int .i64 0, .int .i64 0, .bool false, .bool false] 105)).alloc (.cells #[.int .i64 0, .int .i64 0, .bool false, .bool false] 105)) = (((w.alloc (.cells #[.int .i64 0, .int .i64 hd, .string key, .int .u64 (x : Nat), .int .u64 (y : Nat)] 35)).alloc (.cells #[.int .i64 0, .int .i64 0, .bool false, .bool false] 105)).alloc (.cells #[.int .i64 0, .int .i64 0, .bool false, .bool false] 105)) := rfl
  obtain ⟨W2, hW2⟩ : ∃ W, (((w.alloc (.cells #[.int .i64 0, .int .i64 hd, .string key, .int .u64 (x : Nat), .int .u64 (y : Nat)] 35)).alloc (.cells #[.int .i64 0, .int .i64 0, .bool false, .bool false] 105)).alloc (.cells #[.int .i64 0, .int .i64 0, .bool false, .bool false] 105)) = W := ⟨_, rfl⟩
  rw [hW2] at hNW
  clear e2
  have z := hNW.size
  simp at z
  have hB2 : Below w.heap.size w W2.drew := ⟨hNW.below.os, hNW.below.tape, hNW.below.output, hNW.below.size, hNW.below.block⟩
  have hbA : ∀ o, Below w.heap.size w (w.alloc o) := fun o => (Below.refl _ _).alloc (Nat.le_refl _) o
  have hbB : ∀ o o', Below w.heap.size w ((w.alloc o).alloc o') := fun o o' => ((Below.refl _ _).alloc (Nat.le_refl _) o).alloc (by simp) o'
  have cA := fun o => (ht.below (hbA o)).c2
  have cB := fun o o' => (ht.below (hbB o o')).c2
  have hzv : ∀ W : World, (zeroValue 105).run Tryz.prog W = .ok (.agg #[.int .i64 0, .int .i64 0, .bool false, .bool false]) W := fun _ => by kernel_rfl
  have hzt : ∀ W : World, (zeroValue 43).run Tryz.prog W = .ok (.agg #[.int .i64 0, .bool false]) W := fun _ => by kernel_rfl
  have hml : mlook (T.ops.map fun p => (p.1, valBegun p.2)) (Ct.numberC th ix) = none := by rw [mlook_map, hnew]; rfl
  have lA : ∀ o, (Instr.lookup 96 (.map (some m1)) (.int .i64 (Ct.numberC th ix)) true).run Tryz.prog (w.alloc o) = .ok (.tuple #[.agg #[.int .i64 0, .int .i64 0, .bool false, .bool false], .bool false]) (w.alloc o) := fun o => by
    rw [run_lookup 96 3 105 Tryz.underlying96 Tryz.underlying3 (w.alloc o) m1 _ (ht.below (hbA o)).ops _ (hzv _) _ true, hml]; rfl
  have hnm : ∀ (m : Nat) (W : World), (binOp BinOp.eql 96 (.map (some m)) (.map none)).run Tryz.prog W = .ok (.bool false) W := fun _ _ => by kernel_rfl
  have hmt : (mlook (T.tries.map fun p => (p.1, valTrie p.2)) hd).getD (.agg #[.int .i64 0, .bool false]) = .agg #[.int .i64 t.root, .bool t.readOnly] := by rw [mlook_map]; subst hl; unfold Ct.trieOf; cases T.tries.find? (fun p => p.1 == hd) <;> rfl
  obtain ⟨xs, cl, hx1, hx2, hx3⟩ := (ht.below hB2).tries
  have HLK : Hid (∀ W' : World, W'.heap[m2]? = some (.map xs cl) → (Instr.lookup 97 (.map (some m2)) (.int .i64 hd) false).run Tryz.prog W' = .ok (.agg #[.int .i64 t.root, .bool t.readOnly]) W') := fun W' hW' => by
    rw [run_lookup 97 3 43 Tryz.underlying97 Tryz.underlying3 W' m2 _ ⟨xs, cl, hW', hx2, hx3⟩ _ (hzt _) hd false]; simp only [hmt]; rfl
  have x12 : W2.drew.heap[w.heap.size + 2]? = some (.cells #[.int .i64 0, .int .i64 0, .bool false, .bool false] 105 (0, 0)) := hNW.at_ 2 _ rfl
  have x0 : W2.drew.heap[w.heap.size]? = some (.cells #[.int .i64 0, .int .i64 hd, .string key, .int .u64 (x : Nat), .int .u64 (y : Nat)] 35 (0, 0)) := hNW.at_ 0 _ rfl
  have v1 : W2.cell? ⟨w.heap.size + 2, 1, none⟩ = some (.int .i64 0) := cell_at (hNW.at_ 2 _ rfl) 1
  have v2 : W2.cell? ⟨w.heap.size + 2, 2, none⟩ = some (.bool false) := cell_at (hNW.at_ 2 _ rfl) 2
  have u1 : W2.frozen? ⟨w.heap.size + 2, 1, none⟩ = false := free_at (hNW.at_ 2 _ rfl) 1
  have u2 : W2.frozen? ⟨w.heap.size + 2, 2, none⟩ = false := free_at (hNW.at_ 2 _ rfl) 2
  obtain ⟨W3, hW3⟩ : ∃ W, (W2.setCell ⟨w.heap.size + 2, 1, none⟩ (.int .i64 t.root)).setCell ⟨w.heap.size + 2, 2, none⟩ (.bool t.readOnly) = W := ⟨_, rfl⟩
  have k23 : Keep (fun k => k = w.heap.size + 2) W2 W3 := by rw [← hW3]; exact (Keep.setCell (F := fun k => k = w.heap.size + 2) W2 ⟨w.heap.size + 2, 1, none⟩ _ rfl).trans (Keep.setCell (F := fun k => k = w.heap.size + 2) _ ⟨w.heap.size + 2, 2, none⟩ _ rfl) (fun _ h => .inl h)
  have y12 : W3.heap[w.heap.size + 2]? = some (.cells #[.int .i64 0, .int .i64 t.root, .bool t.readOnly, .bool false] 105 (0, 0)) := by rw [← hW3, heap_setCell_at _ _ 2 _ _ _ _ (heap_setCell_at W2 (w.heap.size + 2) 1 _ _ _ _ (hNW.at_ 2 _ rfl))]; rfl
  have y0 : W3.heap[w.heap.size]? = some (.cells #[.int .i64 0, .int .i64 hd, .string key, .int .u64 (x : Nat), .int .u64 (y : Nat)] 35 (0, 0)) := by rw [k23.block _ (by omega) (by omega)]; exact hNW.at_ 0 _ rfl
  have hB3 : Below w.heap.size w W3 := ⟨k23.os.trans hNW.below.os, k23.tape.trans hNW.below.tape, k23.output.trans hNW.below.output, Nat.le_trans hNW.below.size k23.size, fun k hk => (k23.block k (by omega) (by omega)).trans (hNW.below.block k hk)⟩
  have hB3d : Below w.heap.size w W3.drew := ⟨hB3.os, hB3.tape, hB3.output, hB3.size, hB3.block⟩
  have hB3dd : Below w.heap.size w W3.drew.drew := ⟨hB3.os, hB3.tape, hB3.output, hB3.size, hB3.block⟩
  have hT3 := ht.below hB3dd
  have hA3 := h.below hB3dd
  obtain ⟨W4, hu4, hm4, hk4, hz4⟩ := run_update 96 3 105 Tryz.underlying96 Tryz.underlying3 W3.drew.drew m1 _ hT3.ops (Ct.numberC th ix) (valBegun (0, t, false))
  have hT4 := hT3.upd1 hk4 hm4
  have hA4 := hA3.other hk4 ht.inN.2.1 ht.out.2.1
  have hlt4 : w.heap.size + 2 < W4.heap.size := by rw [hz4]; exact Nat.lt_of_lt_of_le (by omega) k23.size
  have nb : ∀ k, w.heap.size ≤ k → k ≠ m1 := fun k hk e => by have := ht.ops.lt; omega
  have p12 : W4.heap[w.heap.size + 2]? = some (.cells #[.int .i64 0, .int .i64 t.root, .bool t.readOnly, .bool false] 105 (0, 0)) := by rw [hk4.block _ (by rw [← hz4]; exact hlt4) (nb _ (by omega))]; exact y12
  have p0 : W4.heap[w.heap.size]? = some (.cells #[.int .i64 0, .int .i64 hd, .string key, .int .u64 (x : Nat), .int .u64 (y : Nat)] 35 (0, 0)) := by rw [hk4.block _ (by rw [← hz4]; omega) (nb _ (by omega))]; exact y0
  have HC3 := Lib.hid ((ht.below hB2).c3); have HO1 : Hid (W2.drew.cell? ⟨w.heap.size, 1, none⟩ = some (.int .i64 hd)) := cell_at x0 1; have HM2 := Lib.hid hx1
  have HS3 : Hid (W3.drew.cell? ⟨hb, 3, none⟩ = some (.map (some m2)) ∧ W3.drew.cell? ⟨w.heap.size, 1, none⟩ = some (.int .i64 hd) ∧ W3.drew.heap[m2]? = some (.map xs cl) ∧ True) := ⟨(ht.below hB3d).c3, cell_at (w := W3) y0 1, by
    show W3.heap[m2]? = _
    rw [k23.block m2 (Nat.lt_of_lt_of_le ht.tries.lt hNW.below.size) (fun e => by have := ht.tries.lt; omega)]; exact hx1, trivial⟩
  rw [← hW3] at HS3
  have HC2 := Lib.hid (hT3.c2)
  have HG0 : Hid (W3.drew.drew.cell? ⟨w.heap.size + 2, 0, none⟩ = some (.int .i64 0)) := cell_at (w := W3) y12 0
  have HG1 : Hid (W3.drew.drew.cell? ⟨w.heap.size + 2, 1, none⟩ = some (.int .i64 t.root)) := cell_at (w := W3) y12 1
  have HG2 : Hid (W3.drew.drew.cell? ⟨w.heap.size + 2, 2, none⟩ = some (.bool t.readOnly)) := cell_at (w := W3) y12 2
  have HG3 : Hid (W3.drew.drew.cell? ⟨w.heap.size + 2, 3, none⟩ = some (.bool false)) := cell_at (w := W3) y12 3
  have HS4 : Hid (W4.cell? ⟨hb, 2, none⟩ = some (.map (some m1)) ∧ W4.cell? ⟨w.heap.size + 2, 0, none⟩ = some (.int .i64 0) ∧ W4.cell? ⟨w.heap.size + 2, 1, none⟩ = some (.int .i64 t.root) ∧ W4.cell? ⟨w.heap.size + 2, 2, none⟩ = some (.bool t.readOnly) ∧ W4.cell? ⟨w.heap.size + 2, 3, none⟩ = some (.bool false) ∧ True) := ⟨hT4.c2, cell_at p12 0, cell_at p12 1, cell_at p12 2, cell_at p12 3, trivial⟩
  have o0 := cell_at p0 0; have o1 := cell_at p0 1; have o2 := cell_at p0 2; have o3 := cell_at p0 3; have o4 := cell_at p0 4
  simp only [List.getElem?_toArray, List.getElem?_cons_zero, List.getElem?_cons_succ] at o0 o1 o2 o3 o4
  have HREF := Lib.hid (refusal_zero g W4 hb m1 m2 m3 mask _ th hd key x y hT4)
  have A4 := Lib.hid hA4; have T4 := Lib.hid hT4; have HK4 : Hid (Keep (fun k => g.Foot k ∨ k = m1) w W4) := (Keep.below hB3dd (fun k => g.Foot k ∨ k = m1)).trans (hk4.mono (fun k _ e => .inr e)) (fun k e => .inl e)
  have P12 := Lib.hid p12; have P0 := Lib.hid p0; have FI := Lib.hid hfin
  have HW2 := Lib.hid hW2; have HW3 : Hid ((W2.setCell ⟨w.heap.size + 2, 1, none⟩ (.int .i64 t.root)).setCell ⟨w.heap.size + 2, 2, none⟩ (.bool t.readOnly) = W3) := hW3
  have HN := Lib.hid (number_any th ix)
  have q1 : ¬ Ct.numberC th ix < 0 := by omega
  have hsz : Hid (w.heap.size ≤ W4.heap.size) := by show w.heap.size ≤ W4.heap.size; omega
  unfold valBegun at hu4
  have HU4 := Lib.hid hu4
  clear h ht hfin hnew hl hNW hB2 hbA hbB hzv hzt hml hmt hx1 hx2 hx3 x12 x0 k23 y12 y0 hB3 hB3d hB3dd hT3 hA3 hm4 hk4 hz4 hT4 hA4 hlt4 nb p12 p0 hW2 hW3 z hn hu4
  generalize Ct.numberC th ix = num at *
  go_enter Tryz.func12, Tryz.ntmps12
  go_wp2_with (go_at_call 15; refine (HN.out _).mono ?_; rintro e w' ⟨rfl, rfl⟩)
  refine code_world HW2.out ?_
  refine wp_region_held_drew (S := fun W' => W'.cell? ⟨hb, 3, none⟩ = some (.map (some m2)) ∧ W'.cell? ⟨w.heap.size, 1, none⟩ = some (.int .i64 hd) ∧ W'.heap[m2]? = some (.map xs cl) ∧ True) (by kernel_rfl) ⟨HC3.out, HO1.out, HM2.out, trivial⟩ (fun hS => ?_)
  refine wpAnyH_take (i := 0) (oi := { dst := (some 50), op := (Op.move (Operand.tmp 0)), type := 25, pos := "handle.go:73", after := #[], guard := none }) (v := .pointer (some ⟨hb, 0, none⟩)) rfl (by kernel_rfl) (by kernel_rfl) (by kernel_rfl) (fun _ _ _ h => h) (Or.inl ⟨by rfl, fun W' hW => ?_⟩) hS ?_
  · go_simp
  (try simp only [Act.put, sI, sZ, sS])
  refine wpAnyH_take (i := 1) (oi := { dst := (some 51), op := (Op.nilCheck (Operand.tmp 50)), type := 0, pos := "handle.go:73", after := #[⟨0, .data⟩], guard := none }) (v := .pointer (some ⟨hb, 0, none⟩)) rfl (by kernel_rfl) (by kernel_rfl) (by kernel_rfl) (fun _ _ _ h => h) (Or.inl ⟨by rfl, fun W' hW => ?_⟩) hS ?_
  · go_simp
  (try simp only [Act.put, sI, sZ, sS])
  refine wpAnyH_take (i := 2) (oi := { dst := (some 52), op := (Op.fieldAddr 100 (Operand.tmp 51) 3), type := 0, pos := "handle.go:73", after := #[⟨1, .data⟩], guard := none }) (v := .pointer (some ⟨hb, 3, none⟩)) rfl (by kernel_rfl) (by kernel_rfl) (by kernel_rfl) (fun _ _ _ h => h) (Or.inl ⟨by rfl, fun W' hW => ?_⟩) hS ?_
  · go_simp
  (try simp only [Act.put, sI, sZ, sS])
  refine wpAnyH_take (i := 3) (oi := { dst := (some 53), op := (Op.load 97 (Operand.tmp 52)), type := 97, pos := "handle.go:73", after := #[⟨2, .data⟩], guard := none }) (v := .map (some m2)) rfl (by kernel_rfl) (by kernel_rfl) (by kernel_rfl) (fun _ _ _ h => h) (Or.inl ⟨by rfl, fun W' hW => ?_⟩) hS ?_
  · go_simp
  (try simp only [Act.put, sI, sZ, sS])
  refine wpAnyH_take (i := 4) (oi := { dst := (some 54), op := (Op.fieldAddr 35 (Operand.tmp 7) 1), type := 0, pos := "handle.go:73", after := #[], guard := none }) (v := .pointer (some ⟨w.heap.size, 1, none⟩)) rfl (by kernel_rfl) (by kernel_rfl) (by kernel_rfl) (fun _ _ _ h => h) (Or.inl ⟨by rfl, fun W' hW => ?_⟩) hS ?_
  · go_simp
  (try simp only [Act.put, sI, sZ, sS])
  refine wpAnyH_take (i := 5) (oi := { dst := (some 55), op := (Op.load 3 (Operand.tmp 54)), type := 3, pos := "handle.go:73", after := #[⟨4, .data⟩], guard := none }) (v := .int .i64 hd) rfl (by kernel_rfl) (by kernel_rfl) (by kernel_rfl) (fun _ _ _ h => h) (Or.inl ⟨by rfl, fun W' hW => ?_⟩) hS ?_
  · go_simp
  (try simp only [Act.put, sI, sZ, sS])
  refine wpAnyH_take (i := 6) (oi := { dst := (some 56), op := (Op.lookup 97 (Operand.tmp 53) (Operand.tmp 55) false), type := 43, pos := "handle.go:73", after := #[⟨3, .data⟩, ⟨5, .data⟩], guard := none }) (v := .agg #[.int .i64 t.root, .bool t.readOnly]) rfl (by kernel_rfl) (by kernel_rfl) (by kernel_rfl) (fun _ _ _ h => h) (Or.inl ⟨by rfl, fun W' hW => ?_⟩) hS ?_
  · (have hlk := HLK.out W' hW.2.2.1; go_simp)
  (try simp only [Act.put, sI, sZ, sS])
  refine wpAnyH_take (i := 7) (oi := { dst := (some 57), op := (Op.fieldAddr 105 (Operand.tmp 12) 1), type := 0, pos := "handle.go:73", after := #[⟨0, .phase⟩, ⟨1, .phase⟩, ⟨2, .phase⟩, ⟨3, .phase⟩, ⟨4, .phase⟩, ⟨5, .phase⟩, ⟨6, .phase⟩], guard := none }) (v := .pointer (some ⟨w.heap.size + 2, 1, none⟩)) rfl (by kernel_rfl) (by kernel_rfl) (by kernel_rfl) (fun _ _ _ h => h) (Or.inl ⟨by rfl, fun W' hW => ?_⟩) hS ?_
  · go_simp
  (try simp only [Act.put, sI, sZ, sS])
  refine wpAnyH_ready (rs := [8]) (by kernel_rfl) (by simp) ?_
  refine AllReadyH.cons (o := { dst := none, op := (Op.store 43 (Operand.tmp 57) (Operand.tmp 56)), type := 0, pos := "handle.go:73", after := #[⟨7, .data⟩, ⟨6, .data⟩, ⟨0, .phase⟩, ⟨1, .phase⟩, ⟨2, .phase⟩, ⟨3, .phase⟩, ⟨4, .phase⟩, ⟨5, .phase⟩, ⟨6, .phase⟩], guard := none }) rfl (fun K hK => ?_) AllReadyH.nil
  go_simp
  refine hK.out _ _ HS3.out (fun hS => ?_)
  clear hK K
  (try simp only [Act.put, sI, sZ, sS])
  refine wpAnyH_done (by kernel_rfl) ?_ _
  go_wp2_with fail
  refine code_world (congrArg World.drew HW3.out) ?_
  have hu4 := HU4.out
  refine wp_region_held_drew (S := fun W' => W'.cell? ⟨hb, 2, none⟩ = some (.map (some m1)) ∧ W'.cell? ⟨w.heap.size + 2, 0, none⟩ = some (.int .i64 0) ∧ W'.cell? ⟨w.heap.size + 2, 1, none⟩ = some (.int .i64 t.root) ∧ W'.cell? ⟨w.heap.size + 2, 2, none⟩ = some (.bool t.readOnly) ∧ W'.cell? ⟨w.heap.size + 2, 3, none⟩ = some (.bool false) ∧ True) (by kernel_rfl) ⟨HC2.out, HG0.out, HG1.out, HG2.out, HG3.out, trivial⟩ (fun hS => ?_)
  refine wpAnyH_take (i := 0) (oi := { dst := (some 58), op := (Op.move (Operand.tmp 0)), type := 25, pos := "handle.go:75", after := #[], guard := none }) (v := .pointer (some ⟨hb, 0, none⟩)) rfl (by kernel_rfl) (by kernel_rfl) (by kernel_rfl) (fun _ _ _ h => h) (Or.inl ⟨by rfl, fun W' hW => ?_⟩) hS ?_
  · go_simp
  (try simp only [Act.put, sI, sZ, sS])
  refine wpAnyH_take (i := 1) (oi := { dst := (some 59), op := (Op.nilCheck (Operand.tmp 58)), type := 0, pos := "handle.go:75", after := #[⟨0, .data⟩], guard := none }) (v := .pointer (some ⟨hb, 0, none⟩)) rfl (by kernel_rfl) (by kernel_rfl) (by kernel_rfl) (fun _ _ _ h => h) (Or.inl ⟨by rfl, fun W' hW => ?_⟩) hS ?_
  · go_simp
  (try simp only [Act.put, sI, sZ, sS])
  refine wpAnyH_take (i := 2) (oi := { dst := (some 60), op := (Op.fieldAddr 100 (Operand.tmp 59) 2), type := 0, pos := "handle.go:75", after := #[⟨1, .data⟩], guard := none }) (v := .pointer (some ⟨hb, 2, none⟩)) rfl (by kernel_rfl) (by kernel_rfl) (by kernel_rfl) (fun _ _ _ h => h) (Or.inl ⟨by rfl, fun W' hW => ?_⟩) hS ?_
  · go_simp
  (try simp only [Act.put, sI, sZ, sS])
  refine wpAnyH_take (i := 3) (oi := { dst := (some 61), op := (Op.load 96 (Operand.tmp 60)), type := 96, pos := "handle.go:75", after := #[⟨2, .data⟩], guard := none }) (v := .map (some m1)) rfl (by kernel_rfl) (by kernel_rfl) (by kernel_rfl) (fun _ _ _ h => h) (Or.inl ⟨by rfl, fun W' hW => ?_⟩) hS ?_
  · go_simp
  (try simp only [Act.put, sI, sZ, sS])
  refine wpAnyH_take (i := 4) (oi := { dst := (some 62), op := (Op.move (Operand.tmp 9)), type := 3, pos := "handle.go:75", after := #[], guard := none }) (v := .int .i64 (num)) rfl (by kernel_rfl) (by kernel_rfl) (by kernel_rfl) (fun _ _ _ h => h) (Or.inl ⟨by rfl, fun W' hW => ?_⟩) hS ?_
  · go_simp
  (try simp only [Act.put, sI, sZ, sS])
  refine wpAnyH_take (i := 5) (oi := { dst := (some 63), op := (Op.load 105 (Operand.tmp 12)), type := 105, pos := "handle.go:75", after := #[], guard := none }) (v := .agg #[.int .i64 0, .int .i64 t.root, .bool t.readOnly, .bool false]) rfl (by kernel_rfl) (by kernel_rfl) (by kernel_rfl) (fun _ _ _ h => h) (Or.inl ⟨by rfl, fun W' hW => ?_⟩) hS ?_
  · go_simp
  (try simp only [Act.put, sI, sZ, sS])
  refine wpAnyH_ready (rs := [6]) (by kernel_rfl) (by simp) ?_
  refine AllReadyH.cons (o := { dst := none, op := (Op.mapUpdate 96 (Operand.tmp 61) (Operand.tmp 62) (Operand.tmp 63)), type := 0, pos := "handle.go:75", after := #[⟨3, .data⟩, ⟨4, .data⟩, ⟨5, .data⟩, ⟨0, .phase⟩, ⟨1, .phase⟩, ⟨2, .phase⟩, ⟨3, .phase⟩, ⟨4, .phase⟩, ⟨5, .phase⟩], guard := none }) rfl (fun K hK => ?_) AllReadyH.nil
  go_simp
  refine hK.out _ _ HS4.out (fun hS => ?_)
  clear hK K
  (try simp only [Act.put, sI, sZ, sS])
  refine wpAnyH_done (by kernel_rfl) ?_ _
  clear hu4
  go_wp2_with fail
  refine HREF.out.mono ?_
  rintro e w5 ⟨rfl, hb5⟩
  have B5 := Lib.hid hb5
  have HST := Lib.hid (finished_any g w5 s hb m1 m2 m3 mask _ { err := 1 } (A4.out.below B5.out) (T4.out.below B5.out) FI.out)
  clear hb5
  go_wp2_with fail
  refine HST.out.mono ?_
  rintro e w6 hr
  have HR := Lib.hid (BeginRes.of HK4.out hsz.out A4.out T4.out (MadeTask.below B5.out hr))
  obtain ⟨tb, vn, vc, N, O', rfl, _⟩ := hr
  go_wp2_with fail
  go_ret
  exact HR.out
set_option maxRecDepth 100000 in
set_option maxHeartbeats 3000000 in
theorem finish_err (g : Ghost) (w : World) (s : Ct.St) (hb m1 m2 m3 mask : Nat) (T : Ct.Tab) (th ix kd er : Int) (t0 t : Ct.Trie) (fd : Bool) (va : Nat) (ky : ByteArray) (ct rf : Int) (h : ArenaAt g w s) (ht : TabAt g w hb m1 m2 m3 mask T) (hl : (T.ops.find? (fun p => p.1 == Ct.numberC th ix)).map (·.2) = some (kd, t0, false)) (hne : er ≠ 0) :
    Calls Tryz.prog 47 #[.pointer (some ⟨hb, 0, none⟩), .int .i64 th, .int .i64 ix, .agg #[.int .i64 er, .bool fd, .int .u64 (va : Nat), .string ky, .int .i64 ct, .int .i64 rf, .int .i64 t.root, .bool t.readOnly]] w (FinRes g w s hb m1 m2 m3 mask { T with ops := bput T.ops (Ct.numberC th ix) (kd, t0, true) } { err := er, found := fd, value := va, key := ky, count := ct }) := by
  have hNW := (((News.nil w).alloc (.cells #[.int .i64 er, .bool fd, .int .u64 (va : Nat), .string ky, .int .i64 ct, .int .i64 rf, .int .i64 t.root, .bool t.readOnly] 45)).alloc (.cells zeroRes 45)).alloc (.cells #[.int .i64 kd, .int .i64 t0.root, .bool t0.readOnly, .bool true] 105)
  obtain ⟨W2, hW2⟩ : ∃ W, (((w.alloc (.cells #[.int .i64 er, .bool fd, .int .u64 (va : Nat), .string ky, .int .i64 ct, .int .i64 rf, .int .i64 t.root, .bool t.readOnly] 45)).alloc (.cells zeroRes 45)).alloc (.cells #[.int .i64 kd, .int .i64 t0.root, .bool t0.readOnly, .bool true] 105)) = W := ⟨_, rfl⟩
  rw [hW2] at hNW
  have qer : (er == 0) = false := by simpa using hne
  have z := hNW.size
  simp at z
  have hB2 : Below w.heap.size w W2.drew := ⟨hNW.below.os, hNW.below.tape, hNW.below.output, hNW.below.size, hNW.below.block⟩
  have hbB : ∀ o o', Below w.heap.size w ((w.alloc o).alloc o') := fun o o' => ((Below.refl _ _).alloc (Nat.le_refl _) o).alloc (by simp) o'
  have cB := fun o o' => (ht.below (hbB o o')).c2
  have hzv : ∀ W : World, (zeroValue 105).run Tryz.prog W = .ok (.agg #[.int .i64 0, .int .i64 0, .bool false, .bool false]) W := fun _ => by kernel_rfl
  have hml : mlook (T.ops.map fun p => (p.1, valBegun p.2)) (Ct.numberC th ix) = some (.agg #[.int .i64 kd, .int .i64 t0.root, .bool t0.readOnly, .bool false]) := by rw [mlook_map, hl]; rfl
  have lB : ∀ o o', (Instr.lookup 96 (.map (some m1)) (.int .i64 (Ct.numberC th ix)) true).run Tryz.prog ((w.alloc o).alloc o') = .ok (.tuple #[.agg #[.int .i64 kd, .int .i64 t0.root, .bool t0.readOnly, .bool false], .bool true]) ((w.alloc o).alloc o') := fun o o' => by
    rw [run_lookup 96 3 105 Tryz.underlying96 Tryz.underlying3 ((w.alloc o).alloc o') m1 _ (ht.below (hbB o o')).ops _ (hzv _) _ true, hml]; rfl
  have hT3 := ht.below hB2
  have hA3 := h.below hB2
  obtain ⟨W4, hu4, hm4, hk4, hz4⟩ := run_update 96 3 105 Tryz.underlying96 Tryz.underlying3 W2.drew m1 _ hT3.ops (Ct.numberC th ix) (valBegun (kd, t0, true))
  have hT4 := hT3.upd1 hk4 hm4
  have hA4 := hA3.other hk4 ht.inN.2.1 ht.out.2.1
  have hz4' : W4.heap.size = W2.heap.size := hz4
  have nb : ∀ k, w.heap.size ≤ k → k ≠ m1 := fun k hk e => by have := ht.ops.lt; omega
  have y12 : W2.drew.heap[w.heap.size + 2]? = some (.cells #[.int .i64 kd, .int .i64 t0.root, .bool t0.readOnly, .bool true] 105 (0, 0)) := hNW.at_ 2 _ rfl
  have p12 : W4.heap[w.heap.size + 2]? = some (.cells #[.int .i64 kd, .int .i64 t0.root, .bool t0.readOnly, .bool true] 105 (0, 0)) := by rw [hk4.block _ (by show _ < W2.heap.size; omega) (nb _ (by omega))]; exact y12
  have p0 : W4.heap[w.heap.size]? = some (.cells #[.int .i64 er, .bool fd, .int .u64 (va : Nat), .string ky, .int .i64 ct, .int .i64 rf, .int .i64 t.root, .bool t.readOnly] 45 (0, 0)) := by rw [hk4.block _ (by show _ < W2.heap.size; omega) (nb _ (by omega))]; exact hNW.at_ 0 _ rfl
  have p1 : W4.heap[w.heap.size + 1]? = some (.cells zeroRes 45 (0, 0)) := by rw [hk4.block _ (by show _ < W2.heap.size; omega) (nb _ (by omega))]; exact hNW.at_ 1 _ rfl
  have HC2 := Lib.hid (hT3.c2)
  have HG0 : Hid (W2.drew.cell? ⟨w.heap.size + 2, 0, none⟩ = some (.int .i64 kd)) := cell_at y12 0
  have HG1 : Hid (W2.drew.cell? ⟨w.heap.size + 2, 1, none⟩ = some (.int .i64 t0.root)) := cell_at y12 1
  have HG2 : Hid (W2.drew.cell? ⟨w.heap.size + 2, 2, none⟩ = some (.bool t0.readOnly)) := cell_at y12 2
  have HG3 : Hid (W2.drew.cell? ⟨w.heap.size + 2, 3, none⟩ = some (.bool true)) := cell_at y12 3
  have HS4 : Hid (W4.cell? ⟨hb, 2, none⟩ = some (.map (some m1)) ∧ W4.cell? ⟨w.heap.size + 2, 0, none⟩ = some (.int .i64 kd) ∧ W4.cell? ⟨w.heap.size + 2, 1, none⟩ = some (.int .i64 t0.root) ∧ W4.cell? ⟨w.heap.size + 2, 2, none⟩ = some (.bool t0.readOnly) ∧ W4.cell? ⟨w.heap.size + 2, 3, none⟩ = some (.bool true) ∧ True) := ⟨hT4.c2, cell_at p12 0, cell_at p12 1, cell_at p12 2, cell_at p12 3, trivial⟩
  have e0 := cell_at p0 0; have e6 := cell_at p0 6; have e7 := cell_at p0 7; have g0 := cell_at p12 0; have g1 := cell_at p12 1; have g2 := cell_at p12 2; have g3 := cell_at p12 3
  simp only [List.getElem?_toArray, List.getElem?_cons_zero, List.getElem?_cons_succ] at e0 e6 e7 g0 g1 g2 g3
  have HT4 := Lib.hid hT4
  have HK4 : Hid (Keep (fun k => k = m1 ∨ k = m2) w W4) := (Keep.below hB2 (fun k => k = m1 ∨ k = m2)).trans (hk4.mono (fun k _ e => .inl e)) (fun k e => .inl e)
  have P0 := Lib.hid p0; have P1 := Lib.hid p1; have HM2 := Lib.hid (show m2 < w.heap.size from ht.tries.lt); have H := Lib.hid h; have HT := Lib.hid ht
  have HZ4 := Lib.hid hz4'; have HZ := Lib.hid z
  have HW2 := Lib.hid hW2
  have HN := Lib.hid (number_any th ix)
  unfold valBegun at hu4
  have HU4 := Lib.hid hu4
  clear h ht hl hNW hB2 hbB hzv hml hT3 hA3 hm4 hk4 hz4 hz4' hT4 hA4 nb y12 p12 p0 p1 hW2 z hu4
  generalize Ct.numberC th ix = num at *
  unfold zeroRes at HW2
  go_enter Tryz.func47, Tryz.ntmps47
  go_wp2_with (go_at_call 15; refine (HN.out _).mono ?_; rintro e w' ⟨rfl, rfl⟩)
  refine code_world HW2.out ?_
  have hu4 := HU4.out
  refine wp_region_held_drew (S := fun W' => W'.cell? ⟨hb, 2, none⟩ = some (.map (some m1)) ∧ W'.cell? ⟨w.heap.size + 2, 0, none⟩ = some (.int .i64 kd) ∧ W'.cell? ⟨w.heap.size + 2, 1, none⟩ = some (.int .i64 t0.root) ∧ W'.cell? ⟨w.heap.size + 2, 2, none⟩ = some (.bool t0.readOnly) ∧ W'.cell? ⟨w.heap.size + 2, 3, none⟩ = some (.bool true) ∧ True) (by kernel_rfl) ⟨HC2.out, HG0.out, HG1.out, HG2.out, HG3.out, trivial⟩ (fun hS => ?_)
  refine wpAnyH_take (i := 0) (oi := { dst := (some 32), op := (Op.move (Operand.tmp 0)), type := 25, pos := "handle.go:170", after := #[], guard := none }) (v := .pointer (some ⟨hb, 0, none⟩)) rfl (by kernel_rfl) (by kernel_rfl) (by kernel_rfl) (fun _ _ _ h => h) (Or.inl ⟨by rfl, fun W' hW => ?_⟩) hS ?_
  · go_simp
  (try simp only [Act.put, sI, sZ, sS])
  refine wpAnyH_take (i := 1) (oi := { dst := (some 33), op := (Op.nilCheck (Operand.tmp 32)), type := 0, pos := "handle.go:170", after := #[⟨0, .data⟩], guard := none }) (v := .pointer (some ⟨hb, 0, none⟩)) rfl (by kernel_rfl) (by kernel_rfl) (by kernel_rfl) (fun _ _ _ h => h) (Or.inl ⟨by rfl, fun W' hW => ?_⟩) hS ?_
  · go_simp
  (try simp only [Act.put, sI, sZ, sS])
  refine wpAnyH_take (i := 2) (oi := { dst := (some 34), op := (Op.fieldAddr 100 (Operand.tmp 33) 2), type := 0, pos := "handle.go:170", after := #[⟨1, .data⟩], guard := none }) (v := .pointer (some ⟨hb, 2, none⟩)) rfl (by kernel_rfl) (by kernel_rfl) (by kernel_rfl) (fun _ _ _ h => h) (Or.inl ⟨by rfl, fun W' hW => ?_⟩) hS ?_
  · go_simp
  (try simp only [Act.put, sI, sZ, sS])
  refine wpAnyH_take (i := 3) (oi := { dst := (some 35), op := (Op.load 96 (Operand.tmp 34)), type := 96, pos := "handle.go:170", after := #[⟨2, .data⟩], guard := none }) (v := .map (some m1)) rfl (by kernel_rfl) (by kernel_rfl) (by kernel_rfl) (fun _ _ _ h => h) (Or.inl ⟨by rfl, fun W' hW => ?_⟩) hS ?_
  · go_simp
  (try simp only [Act.put, sI, sZ, sS])
  refine wpAnyH_take (i := 4) (oi := { dst := (some 36), op := (Op.move (Operand.tmp 9)), type := 3, pos := "handle.go:170", after := #[], guard := none }) (v := .int .i64 num) rfl (by kernel_rfl) (by kernel_rfl) (by kernel_rfl) (fun _ _ _ h => h) (Or.inl ⟨by rfl, fun W' hW => ?_⟩) hS ?_
  · go_simp
  (try simp only [Act.put, sI, sZ, sS])
  refine wpAnyH_take (i := 5) (oi := { dst := (some 37), op := (Op.load 105 (Operand.tmp 10)), type := 105, pos := "handle.go:170", after := #[], guard := none }) (v := .agg #[.int .i64 kd, .int .i64 t0.root, .bool t0.readOnly, .bool true]) rfl (by kernel_rfl) (by kernel_rfl) (by kernel_rfl) (fun _ _ _ h => h) (Or.inl ⟨by rfl, fun W' hW => ?_⟩) hS ?_
  · go_simp
  (try simp only [Act.put, sI, sZ, sS])
  refine wpAnyH_ready (rs := [6]) (by kernel_rfl) (by simp) ?_
  refine AllReadyH.cons (o := { dst := none, op := (Op.mapUpdate 96 (Operand.tmp 35) (Operand.tmp 36) (Operand.tmp 37)), type := 0, pos := "handle.go:170", after := #[⟨3, .data⟩, ⟨4, .data⟩, ⟨5, .data⟩, ⟨0, .phase⟩, ⟨1, .phase⟩, ⟨2, .phase⟩, ⟨3, .phase⟩, ⟨4, .phase⟩, ⟨5, .phase⟩], guard := none }) rfl (fun K hK => ?_) AllReadyH.nil
  go_simp
  refine hK.out _ _ HS4.out (fun hS => ?_)
  clear hK K
  (try simp only [Act.put, sI, sZ, sS])
  refine wpAnyH_done (by kernel_rfl) ?_ _
  clear hu4
  have q0 := P0.out
  have q1 := P1.out
  have Q0 := Lib.hid q0; have Q1 := Lib.hid q1
  skip
  have j0 := cell_at q0 0; have j1 := cell_at q0 1; have j2 := cell_at q0 2; have j3 := cell_at q0 3; have j4 := cell_at q0 4; have j5 := cell_at q0 5; have j6 := cell_at q0 6; have j7 := cell_at q0 7
  have fr := free_at q0
  have l0 := cell_at q1 0; have l1 := cell_at q1 1; have l2 := cell_at q1 2; have l3 := cell_at q1 3; have l4 := cell_at q1 4; have l5 := cell_at q1 5; have l6 := cell_at q1 6; have l7 := cell_at q1 7
  have fr1 := free_at q1
  unfold zeroRes at l0 l1 l2 l3 l4 l5 l6 l7
  simp only [List.getElem?_toArray, List.getElem?_cons_zero, List.getElem?_cons_succ] at j0 j1 j2 j3 j4 j5 j6 j7 l0 l1 l2 l3 l4 l5 l6 l7
  clear q0 q1
  go_wp2_with fail
  have b3 := heap_setCell_of (heap_setCell_of (heap_setCell_of Q1.out ⟨w.heap.size, 5, none⟩ (.int .i64 0) (by simp)) ⟨w.heap.size, 6, none⟩ (.int .i64 0) (by simp)) ⟨w.heap.size, 7, none⟩ (.bool false) (by simp)
  have x0 := heap_setCell_at _ (w.heap.size + 1) 0 (.int .i64 er) _ _ _ b3
  have x1 := heap_setCell_at _ (w.heap.size + 1) 1 (.bool fd) _ _ _ x0
  have x2 := heap_setCell_at _ (w.heap.size + 1) 2 (.int .u64 (va : Nat)) _ _ _ x1
  have x3 := heap_setCell_at _ (w.heap.size + 1) 3 (.string ky) _ _ _ x2
  have x4 := heap_setCell_at _ (w.heap.size + 1) 4 (.int .i64 ct) _ _ _ x3
  have x5 := heap_setCell_at _ (w.heap.size + 1) 5 (.int .i64 0) _ _ _ x4
  have x6 := heap_setCell_at _ (w.heap.size + 1) 6 (.int .i64 0) _ _ _ x5
  have x7 := heap_setCell_at _ (w.heap.size + 1) 7 (.bool false) _ _ _ x6
  refine bodyPost_ret (v := .agg (resCells { err := er, found := fd, value := va, key := ky, count := ct }).toArray) (results_cell_row Tryz.results47 _ _ (w.heap.size + 1) 45 _ (0, 0) _ rfl x7 Tryz.underlying45 rfl info_Result_size) rfl ?_
  have kc : Keep (fun k => w.heap.size ≤ k) W4 _ := (((((((((((Keep.setCell (F := fun k => w.heap.size ≤ k) W4 ⟨w.heap.size, 5, none⟩ (.int .i64 0) (Nat.le_refl _)).trans (Keep.setCell (F := fun k => w.heap.size ≤ k) _ ⟨w.heap.size, 6, none⟩ (.int .i64 0) (Nat.le_refl _)) (fun _ h => .inl h)).trans (Keep.setCell (F := fun k => w.heap.size ≤ k) _ ⟨w.heap.size, 7, none⟩ (.bool false) (Nat.le_refl _)) (fun _ h => .inl h)).trans (Keep.setCell (F := fun k => w.heap.size ≤ k) _ ⟨w.heap.size + 1, 0, none⟩ (.int .i64 er) (Nat.le_succ _)) (fun _ h => .inl h)).trans (Keep.setCell (F := fun k => w.heap.size ≤ k) _ ⟨w.heap.size + 1, 1, none⟩ (.bool fd) (Nat.le_succ _)) (fun _ h => .inl h)).trans (Keep.setCell (F := fun k => w.heap.size ≤ k) _ ⟨w.heap.size + 1, 2, none⟩ (.int .u64 (va : Nat)) (Nat.le_succ _)) (fun _ h => .inl h)).trans (Keep.setCell (F := fun k => w.heap.size ≤ k) _ ⟨w.heap.size + 1, 3, none⟩ (.string ky) (Nat.le_succ _)) (fun _ h => .inl h)).trans (Keep.setCell (F := fun k => w.heap.size ≤ k) _ ⟨w.heap.size + 1, 4, none⟩ (.int .i64 ct) (Nat.le_succ _)) (fun _ h => .inl h)).trans (Keep.setCell (F := fun k => w.heap.size ≤ k) _ ⟨w.heap.size + 1, 5, none⟩ (.int .i64 0) (Nat.le_succ _)) (fun _ h => .inl h)).trans (Keep.setCell (F := fun k => w.heap.size ≤ k) _ ⟨w.heap.size + 1, 6, none⟩ (.int .i64 0) (Nat.le_succ _)) (fun _ h => .inl h)).trans (Keep.setCell (F := fun k => w.heap.size ≤ k) _ ⟨w.heap.size + 1, 7, none⟩ (.bool false) (Nat.le_succ _)) (fun _ h => .inl h))
  have kall := HK4.out.trans kc (fun k hk => .inr hk)
  have htt := HT.out
  refine ⟨rfl, ?_, ?_, kall⟩
  · exact H.out.keep kall (N' := g.N) (fun k e hf => by rcases e with e | e <;> subst e; exact htt.out.2.1 hf; exact htt.out.2.2.1 hf) (fun k e => by rcases e with e | e <;> subst e; exact .inl htt.inN.2.1; exact .inl htt.inN.2.2.1) (fun _ h => .inl h) (fun _ h => h) (fun k hk => Nat.lt_of_lt_of_le (H.out.nlt k hk) kall.size)
  · exact HT4.out.keep kc ⟨by have := htt.lt; omega, by have := htt.ops.lt; omega, by have := htt.tries.lt; omega, by have := htt.iters.lt; omega⟩ rfl (fun _ h => h) (fun _ h => .inl h)
end Go.Proofs.YtjlgchdekhmnnaaGreatDoor
end
