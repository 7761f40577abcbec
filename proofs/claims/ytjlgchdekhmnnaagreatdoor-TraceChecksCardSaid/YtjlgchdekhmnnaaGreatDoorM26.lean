/- Parts of a proof: Begin3, Begin4, Fin1. -/
import Derived.Test.YtjlgchdekhmnnaaGreatDoorM25
import Derived.Deep.RegionHeld3
section
namespace Go.Proofs.YtjlgchdekhmnnaaGreatDoor
open Go.RowKit
set_option linter.unusedVariables false
structure StepF (X : Nat → Prop) (g : Ghost) (w : World) (g' : Ghost) (w' : World) : Prop where
  a : g'.a = g.a
  keep : Keep (fun k => g.Foot k ∨ X k) w w'
  new : ∀ k, g'.N k → g.N k ∨ w.heap.size ≤ k
  old : ∀ k, g.N k → g'.N k
  foot : ∀ k, g'.Foot k → g.Foot k ∨ w.heap.size ≤ k
def BeginRes (g : Ghost) (w : World) (hb m1 m2 m3 mask : Nat) (T : Ct.Tab) (c : Ct.Code × Ct.St) (e : Ending) (w' : World) : Prop :=
  ∃ tb vn vc N O', e = .returned (.pointer (some ⟨tb, 0, none⟩)) ∧ w.heap.size ≤ tb ∧ ArenaAt ⟨g.a, vn, vc, N⟩ w' c.2 ∧ TabAt ⟨g.a, vn, vc, N⟩ w' hb m1 m2 m3 mask T ∧ (∀ k, O' k → w.heap.size ≤ k) ∧ TaskAt O' ⟨g.a, vn, vc, N⟩ w' tb c.1 0 ∧ StepF (fun k => k = m1) g w ⟨g.a, vn, vc, N⟩ w'
theorem BeginRes.of {g : Ghost} {w W : World} {s : Ct.St} {hb m1 m2 m3 mask : Nat} {T : Ct.Tab} {c : Ct.Code × Ct.St} {e : Ending} {w' : World} (hk : Keep (fun k => g.Foot k ∨ k = m1) w W) (hs : w.heap.size ≤ W.heap.size) (ha : ArenaAt g W s) (ht : TabAt g W hb m1 m2 m3 mask T) (h : MadeTask g W c e w') : BeginRes g w hb m1 m2 m3 mask T c e w' := by
  obtain ⟨tb, vn, vc, N, O', rfl, htb, h1, h2, ho, h3⟩ := h
  refine ⟨tb, vn, vc, N, O', rfl, Nat.le_trans hs htb, h1, ht.step ha h2, fun k hk => Nat.le_trans hs (ho k hk), h3, ⟨rfl, hk.trans h2.keep (fun k h => .inl (.inl h)), fun k hk' => (h2.new k hk').imp id (fun h => Nat.le_trans hs h), h2.old, fun k hk' => (h2.foot k hk').imp id (fun h => Nat.le_trans hs h)⟩⟩
set_option maxRecDepth 100000 in
set_option maxHeartbeats 3000000 in
theorem begin_freeze (g : Ghost) (w : World) (s : Ct.St) (hb m1 m2 m3 mask : Nat) (T : Ct.Tab) (th ix hd : Int) (key : ByteArray) (x y : Nat) (t : Ct.Trie) (h : ArenaAt g w s) (ht : TabAt g w hb m1 m2 m3 mask T) (hfin : Fin 1000 s) (hn : 0 ≤ Ct.numberC th ix) (hnew : T.ops.find? (fun p => p.1 == Ct.numberC th ix) = none) (hl : (T.tries.find? (fun p => p.1 == hd)).map (·.2) = some t) :
    Calls Tryz.prog 12 #[.pointer (some ⟨hb, 0, none⟩), .int .i64 th, .int .i64 ix, .agg #[.int .i64 9, .int .i64 hd, .string key, .int .u64 (x : Nat), .int .u64 (y : Nat)]] w (BeginRes g w hb m1 m2 m3 mask { T with ops := bput T.ops (Ct.numberC th ix) (9, t, false) } (Ct.apply Ct.stOps (.frz0 t) 0 s)) := by
  have hNW := (((News.nil w).alloc (.cells #[.int .i64 9, .int .i64 hd, .string key, .int .u64 (x : Nat), .int .u64 (y : Nat)] 35)).alloc (.cells #[.int .i64 0, .int .i64 0, .bool false, .bool false] 105)).alloc (.cells #[.int .i64 9, .int .i64 0, .bool false, .bool false] 105)
  have e2 : (((w.alloc (.cells #[.int .i64 9, .int .i64 hd, .string key, .int .u64 (x : Nat), .int .u64 (y : Nat)] 35)).alloc (.cells #[.int .i64 0, .int .i64 0, .bool false, .bool false] 105)).alloc (.cells #[.int .i64 9, .int .i64 0, .bool false, .bool false] 105)) = (((w.alloc (.cells #[.int .i64 9, .int .i64 hd, .string key, .int .u64 (x : Nat), .int .u64 (y : Nat)] 35)).alloc (.cells #[.int .i64 0, .int .i64 0, .bool false, .bool false] 105)).alloc (.cells #[.int .i64 9, .int .i64 0, .bool false, .bool false] 105)) := rfl
  obtain ⟨W2, hW2⟩ : ∃ W, (((w.alloc (.cells #[.int .i64 9, .int .i64 hd, .string key, .int .u64 (x : Nat), .int .u64 (y : Nat)] 35)).alloc (.cells #[.int .i64 0, .int .i64 0, .bool false, .bool false] 105)).alloc (.cells #[.int .i64 9, .int .i64 0, .bool false, .bool false] 105)) = W := ⟨_, rfl⟩
  rw [hW2] at hNW
  clear e2
  have z := hNW.size
  simp at z
  have hB2 : Below w.heap.size w W2.drew := ⟨hNW.below.os, hNW.below.tape, hNW.below.output, hNW.below.size, hNW.below.block⟩
  have hbA : ∀ o, Below w.heap.size w (w.alloc o) := fun o => (Below.refl _ _).alloc (Nat.le_refl _) o
  have hbB : ∀ o o', Below w.heap.size w ((w.alloc o).alloc o') := fun o o' => ((Below.refl _ _).alloc (Nat.le_refl _) o).alloc (by simp) o'
  have cA := fun o => (ht.below (hbA o)).c2
  have cB := fun o o' => (ht.below (hbB o o')).c2
  have hzv : ∀ W : World, (zeroValue 105).run Tryz.prog W = .ok (.agg #[.int .i64 0, .int .i64 0, .bool false, .bool false]) W := fun _ => by kernel_rfl
  have hzt : ∀ W : World, (zeroValue 43).run Tryz.prog W = .ok (.agg #[.int .i64 0, .bool false]) W := fun _ => by kernel_rfl
  have hml : mlook (T.ops.map fun p => (p.1, valBegun p.2)) (Ct.numberC th ix) = none := by rw [mlook_map, hnew]; rfl
  have lA : ∀ o, (Instr.lookup 96 (.map (some m1)) (.int .i64 (Ct.numberC th ix)) true).run Tryz.prog (w.alloc o) = .ok (.tuple #[.agg #[.int .i64 0, .int .i64 0, .bool false, .bool false], .bool false]) (w.alloc o) := fun o => by
    rw [run_lookup 96 3 105 Tryz.underlying96 Tryz.underlying3 (w.alloc o) m1 _ (ht.below (hbA o)).ops _ (hzv _) _ true, hml]; rfl
  have hnm : ∀ (m : Nat) (W : World), (binOp BinOp.eql 96 (.map (some m)) (.map none)).run Tryz.prog W = .ok (.bool false) W := fun _ _ => by kernel_rfl
  have hmt : mlook (T.tries.map fun p => (p.1, valTrie p.2)) hd = some (.agg #[.int .i64 t.root, .bool t.readOnly]) := by rw [mlook_map, hl]; rfl
  obtain ⟨xs, cl, hx1, hx2, hx3⟩ := (ht.below hB2).tries
  have HLK : Hid (∀ W' : World, W'.heap[m2]? = some (.map xs cl) → (Instr.lookup 97 (.map (some m2)) (.int .i64 hd) false).run Tryz.prog W' = .ok (.agg #[.int .i64 t.root, .bool t.readOnly]) W') := fun W' hW' => by
    rw [run_lookup 97 3 43 Tryz.underlying97 Tryz.underlying3 W' m2 _ ⟨xs, cl, hW', hx2, hx3⟩ _ (hzt _) hd false, hmt]; rfl
  have x12 : W2.drew.heap[w.heap.size + 2]? = some (.cells #[.int .i64 9, .int .i64 0, .bool false, .bool false] 105 (0, 0)) := hNW.at_ 2 _ rfl
  have x0 : W2.drew.heap[w.heap.size]? = some (.cells #[.int .i64 9, .int .i64 hd, .string key, .int .u64 (x : Nat), .int .u64 (y : Nat)] 35 (0, 0)) := hNW.at_ 0 _ rfl
  have v1 : W2.cell? ⟨w.heap.size + 2, 1, none⟩ = some (.int .i64 0) := cell_at (hNW.at_ 2 _ rfl) 1
  have v2 : W2.cell? ⟨w.heap.size + 2, 2, none⟩ = some (.bool false) := cell_at (hNW.at_ 2 _ rfl) 2
  have u1 : W2.frozen? ⟨w.heap.size + 2, 1, none⟩ = false := free_at (hNW.at_ 2 _ rfl) 1
  have u2 : W2.frozen? ⟨w.heap.size + 2, 2, none⟩ = false := free_at (hNW.at_ 2 _ rfl) 2
  obtain ⟨W3, hW3⟩ : ∃ W, (W2.setCell ⟨w.heap.size + 2, 1, none⟩ (.int .i64 t.root)).setCell ⟨w.heap.size + 2, 2, none⟩ (.bool t.readOnly) = W := ⟨_, rfl⟩
  have k23 : Keep (fun k => k = w.heap.size + 2) W2 W3 := by rw [← hW3]; exact (Keep.setCell (F := fun k => k = w.heap.size + 2) W2 ⟨w.heap.size + 2, 1, none⟩ _ rfl).trans (Keep.setCell (F := fun k => k = w.heap.size + 2) _ ⟨w.heap.size + 2, 2, none⟩ _ rfl) (fun _ h => .inl h)
  have y12 : W3.heap[w.heap.size + 2]? = some (.cells #[.int .i64 9, .int .i64 t.root, .bool t.readOnly, .bool false] 105 (0, 0)) := by rw [← hW3, heap_setCell_at _ _ 2 _ _ _ _ (heap_setCell_at W2 (w.heap.size + 2) 1 _ _ _ _ (hNW.at_ 2 _ rfl))]; rfl
  have y0 : W3.heap[w.heap.size]? = some (.cells #[.int .i64 9, .int .i64 hd, .string key, .int .u64 (x : Nat), .int .u64 (y : Nat)] 35 (0, 0)) := by rw [k23.block _ (by omega) (by omega)]; exact hNW.at_ 0 _ rfl
  have hB3 : Below w.heap.size w W3 := ⟨k23.os.trans hNW.below.os, k23.tape.trans hNW.below.tape, k23.output.trans hNW.below.output, Nat.le_trans hNW.below.size k23.size, fun k hk => (k23.block k (by omega) (by omega)).trans (hNW.below.block k hk)⟩
  have hB3d : Below w.heap.size w W3.drew := ⟨hB3.os, hB3.tape, hB3.output, hB3.size, hB3.block⟩
  have hB3dd : Below w.heap.size w W3.drew.drew := ⟨hB3.os, hB3.tape, hB3.output, hB3.size, hB3.block⟩
  have hT3 := ht.below hB3dd
  have hA3 := h.below hB3dd
  obtain ⟨W4, hu4, hm4, hk4, hz4⟩ := run_update 96 3 105 Tryz.underlying96 Tryz.underlying3 W3.drew.drew m1 _ hT3.ops (Ct.numberC th ix) (valBegun (9, t, false))
  have hT4 := hT3.upd1 hk4 hm4
  have hA4 := hA3.other hk4 ht.inN.2.1 ht.out.2.1
  have hlt4 : w.heap.size + 2 < W4.heap.size := by rw [hz4]; exact Nat.lt_of_lt_of_le (by omega) k23.size
  have nb : ∀ k, w.heap.size ≤ k → k ≠ m1 := fun k hk e => by have := ht.ops.lt; omega
  have p12 : W4.heap[w.heap.size + 2]? = some (.cells #[.int .i64 9, .int .i64 t.root, .bool t.readOnly, .bool false] 105 (0, 0)) := by rw [hk4.block _ (by rw [← hz4]; exact hlt4) (nb _ (by omega))]; exact y12
  have p0 : W4.heap[w.heap.size]? = some (.cells #[.int .i64 9, .int .i64 hd, .string key, .int .u64 (x : Nat), .int .u64 (y : Nat)] 35 (0, 0)) := by rw [hk4.block _ (by rw [← hz4]; omega) (nb _ (by omega))]; exact y0
  have HC3 := Lib.hid ((ht.below hB2).c3); have HO1 : Hid (W2.drew.cell? ⟨w.heap.size, 1, none⟩ = some (.int .i64 hd)) := cell_at x0 1; have HM2 := Lib.hid hx1
  have HS3 : Hid (W3.drew.cell? ⟨hb, 3, none⟩ = some (.map (some m2)) ∧ W3.drew.cell? ⟨w.heap.size, 1, none⟩ = some (.int .i64 hd) ∧ W3.drew.heap[m2]? = some (.map xs cl) ∧ True) := ⟨(ht.below hB3d).c3, cell_at (w := W3) y0 1, by
    show W3.heap[m2]? = _
    rw [k23.block m2 (Nat.lt_of_lt_of_le ht.tries.lt hNW.below.size) (fun e => by have := ht.tries.lt; omega)]; exact hx1, trivial⟩
  rw [← hW3] at HS3
  have HC2 := Lib.hid (hT3.c2)
  have HG0 : Hid (W3.drew.drew.cell? ⟨w.heap.size + 2, 0, none⟩ = some (.int .i64 9)) := cell_at (w := W3) y12 0
  have HG1 : Hid (W3.drew.drew.cell? ⟨w.heap.size + 2, 1, none⟩ = some (.int .i64 t.root)) := cell_at (w := W3) y12 1
  have HG2 : Hid (W3.drew.drew.cell? ⟨w.heap.size + 2, 2, none⟩ = some (.bool t.readOnly)) := cell_at (w := W3) y12 2
  have HG3 : Hid (W3.drew.drew.cell? ⟨w.heap.size + 2, 3, none⟩ = some (.bool false)) := cell_at (w := W3) y12 3
  have HS4 : Hid (W4.cell? ⟨hb, 2, none⟩ = some (.map (some m1)) ∧ W4.cell? ⟨w.heap.size + 2, 0, none⟩ = some (.int .i64 9) ∧ W4.cell? ⟨w.heap.size + 2, 1, none⟩ = some (.int .i64 t.root) ∧ W4.cell? ⟨w.heap.size + 2, 2, none⟩ = some (.bool t.readOnly) ∧ W4.cell? ⟨w.heap.size + 2, 3, none⟩ = some (.bool false) ∧ True) := ⟨hT4.c2, cell_at p12 0, cell_at p12 1, cell_at p12 2, cell_at p12 3, trivial⟩
  have o0 := cell_at p0 0; have o1 := cell_at p0 1; have o2 := cell_at p0 2; have o3 := cell_at p0 3; have o4 := cell_at p0 4
  simp only [List.getElem?_toArray, List.getElem?_cons_zero, List.getElem?_cons_succ] at o0 o1 o2 o3 o4
  have HREF := Lib.hid (refusal_freeze g W4 hb m1 m2 m3 mask _ th hd key x y t hT4 hl)
  have A4 := Lib.hid hA4; have T4 := Lib.hid hT4; have HK4 : Hid (Keep (fun k => g.Foot k ∨ k = m1) w W4) := (Keep.below hB3dd (fun k => g.Foot k ∨ k = m1)).trans (hk4.mono (fun k _ e => .inr e)) (fun k e => .inl e)
  have P12 := Lib.hid p12; have P0 := Lib.hid p0; have FI := Lib.hid hfin
  have HW2 := Lib.hid hW2; have HW3 : Hid ((W2.setCell ⟨w.heap.size + 2, 1, none⟩ (.int .i64 t.root)).setCell ⟨w.heap.size + 2, 2, none⟩ (.bool t.readOnly) = W3) := hW3
  have HN := Lib.hid (number_any th ix)
  have q1 : ¬ Ct.numberC th ix < 0 := by omega
  have hsz : Hid (w.heap.size ≤ W4.heap.size) := by show w.heap.size ≤ W4.heap.size; omega
  unfold valBegun at hu4
  have HU4 := Lib.hid hu4
  clear h ht hfin hnew hl hNW hB2 hbA hbB hzv hzt hml hmt hx1 hx2 hx3 x12 x0 k23 y12 y0 hB3 hB3d hB3dd hT3 hA3 hm4 hk4 hz4 hT4 hA4 hlt4 nb p12 p0 hW2 hW3 z hn hu4
  generalize Ct.numberC th ix = num at *
  go_enter Tryz.func12, Tryz.ntmps12
  go_wp2_with (go_at_call 15; refine (HN.out _).mono ?_; rintro e w' ⟨rfl, rfl⟩)
  refine code_world HW2.out ?_
  refine wp_region_held_drew (S := fun W' => W'.cell? ⟨hb, 3, none⟩ = some (.map (some m2)) ∧ W'.cell? ⟨w.heap.size, 1, none⟩ = some (.int .i64 hd) ∧ W'.heap[m2]? = some (.map xs cl) ∧ True) (by kernel_rfl) ⟨HC3.out, HO1.out, HM2.out, trivial⟩ (fun hS => ?_)
  refine wpAnyH_take (i := 0) (oi := { dst := (some 50), op := (Op.move (Operand.tmp 0)), type := 25, pos := "handle.go:73", after := #[], guard := none }) (v := .pointer (some ⟨hb, 0, none⟩)) rfl (by kernel_rfl) (by kernel_rfl) (by kernel_rfl) (fun _ _ _ h => h) (Or.inl ⟨by rfl, fun W' hW => ?_⟩) hS ?_
  · go_simp
  (try simp only [Act.put, sI, sZ, sS])
  refine wpAnyH_take (i := 1) (oi := { dst := (some 51), op := (Op.nilCheck (Operand.tmp 50)), type := 0, pos := "handle.go:73", after := #[⟨0, .data⟩], guard := none }) (v := .pointer (some ⟨hb, 0, none⟩)) rfl (by kernel_rfl) (by kernel_rfl) (by kernel_rfl) (fun _ _ _ h => h) (Or.inl ⟨by rfl, fun W' hW => ?_⟩) hS ?_
  · go_simp
  (try simp only [Act.put, sI, sZ, sS])
  refine wpAnyH_take (i := 2) (oi := { dst := (some 52), op := (Op.fieldAddr 100 (Operand.tmp 51) 3), type := 0, pos := "handle.go:73", after := #[⟨1, .data⟩], guard := none }) (v := .pointer (some ⟨hb, 3, none⟩)) rfl (by kernel_rfl) (by kernel_rfl) (by kernel_rfl) (fun _ _ _ h => h) (Or.inl ⟨by rfl, fun W' hW => ?_⟩) hS ?_
  · go_simp
  (try simp only [Act.put, sI, sZ, sS])
  refine wpAnyH_take (i := 3) (oi := { dst := (some 53), op := (Op.load 97 (Operand.tmp 52)), type := 97, pos := "handle.go:73", after := #[⟨2, .data⟩], guard := none }) (v := .map (some m2)) rfl (by kernel_rfl) (by kernel_rfl) (by kernel_rfl) (fun _ _ _ h => h) (Or.inl ⟨by rfl, fun W' hW => ?_⟩) hS ?_
  · go_simp
  (try simp only [Act.put, sI, sZ, sS])
  refine wpAnyH_take (i := 4) (oi := { dst := (some 54), op := (Op.fieldAddr 35 (Operand.tmp 7) 1), type := 0, pos := "handle.go:73", after := #[], guard := none }) (v := .pointer (some ⟨w.heap.size, 1, none⟩)) rfl (by kernel_rfl) (by kernel_rfl) (by kernel_rfl) (fun _ _ _ h => h) (Or.inl ⟨by rfl, fun W' hW => ?_⟩) hS ?_
  · go_simp
  (try simp only [Act.put, sI, sZ, sS])
  refine wpAnyH_take (i := 5) (oi := { dst := (some 55), op := (Op.load 3 (Operand.tmp 54)), type := 3, pos := "handle.go:73", after := #[⟨4, .data⟩], guard := none }) (v := .int .i64 hd) rfl (by kernel_rfl) (by kernel_rfl) (by kernel_rfl) (fun _ _ _ h => h) (Or.inl ⟨by rfl, fun W' hW => ?_⟩) hS ?_
  · go_simp
  (try simp only [Act.put, sI, sZ, sS])
  refine wpAnyH_take (i := 6) (oi := { dst := (some 56), op := (Op.lookup 97 (Operand.tmp 53) (Operand.tmp 55) false), type := 43, pos := "handle.go:73", after := #[⟨3, .data⟩, ⟨5, .data⟩], guard := none }) (v := .agg #[.int .i64 t.root, .bool t.readOnly]) rfl (by kernel_rfl) (by kernel_rfl) (by kernel_rfl) (fun _ _ _ h => h) (Or.inl ⟨by rfl, fun W' hW => ?_⟩) hS ?_
  · (have hlk := HLK.out W' hW.2.2.1; go_simp)
  (try simp only [Act.put, sI, sZ, sS])
  refine wpAnyH_take (i := 7) (oi := { dst := (some 57), op := (Op.fieldAddr 105 (Operand.tmp 12) 1), type := 0, pos := "handle.go:73", after := #[⟨0, .phase⟩, ⟨1, .phase⟩, ⟨2, .phase⟩, ⟨3, .phase⟩, ⟨4, .phase⟩, ⟨5, .phase⟩, ⟨6, .phase⟩], guard := none }) (v := .pointer (some ⟨w.heap.size + 2, 1, none⟩)) rfl (by kernel_rfl) (by kernel_rfl) (by kernel_rfl) (fun _ _ _ h => h) (Or.inl ⟨by rfl, fun W' hW => ?_⟩) hS ?_
  · go_simp
  (try simp only [Act.put, sI, sZ, sS])
  refine wpAnyH_ready (rs := [8]) (by kernel_rfl) (by simp) ?_
  refine AllReadyH.cons (o := { dst := none, op := (Op.store 43 (Operand.tmp 57) (Operand.tmp 56)), type := 0, pos := "handle.go:73", after := #[⟨7, .data⟩, ⟨6, .data⟩, ⟨0, .phase⟩, ⟨1, .phase⟩, ⟨2, .phase⟩, ⟨3, .phase⟩, ⟨4, .phase⟩, ⟨5, .phase⟩, ⟨6, .phase⟩], guard := none }) rfl (fun K hK => ?_) AllReadyH.nil
  go_simp
  refine hK.out _ _ HS3.out (fun hS => ?_)
  clear hK K
  (try simp only [Act.put, sI, sZ, sS])
  refine wpAnyH_done (by kernel_rfl) ?_ _
  go_wp2_with fail
  refine code_world (congrArg World.drew HW3.out) ?_
  have hu4 := HU4.out
  refine wp_region_held_drew (S := fun W' => W'.cell? ⟨hb, 2, none⟩ = some (.map (some m1)) ∧ W'.cell? ⟨w.heap.size + 2, 0, none⟩ = some (.int .i64 9) ∧ W'.cell? ⟨w.heap.size + 2, 1, none⟩ = some (.int .i64 t.root) ∧ W'.cell? ⟨w.heap.size + 2, 2, none⟩ = some (.bool t.readOnly) ∧ W'.cell? ⟨w.heap.size + 2, 3, none⟩ = some (.bool false) ∧ True) (by kernel_rfl) ⟨HC2.out, HG0.out, HG1.out, HG2.out, HG3.out, trivial⟩ (fun hS => ?_)
  refine wpAnyH_take (i := 0) (oi := { dst := (some 58), op := (Op.move (Operand.tmp 0)), type := 25, pos := "handle.go:75", after := #[], guard := none }) (v := .pointer (some ⟨hb, 0, none⟩)) rfl (by kernel_rfl) (by kernel_rfl) (by kernel_rfl) (fun _ _ _ h => h) (Or.inl ⟨by rfl, fun W' hW => ?_⟩) hS ?_
  · go_simp
  (try simp only [Act.put, sI, sZ, sS])
  refine wpAnyH_take (i := 1) (oi := { dst := (some 59), op := (Op.nilCheck (Operand.tmp 58)), type := 0, pos := "handle.go:75", after := #[⟨0, .data⟩], guard := none }) (v := .pointer (some ⟨hb, 0, none⟩)) rfl (by kernel_rfl) (by kernel_rfl) (by kernel_rfl) (fun _ _ _ h => h) (Or.inl ⟨by rfl, fun W' hW => ?_⟩) hS ?_
  · go_simp
  (try simp only [Act.put, sI, sZ, sS])
  refine wpAnyH_take (i := 2) (oi := { dst := (some 60), op := (Op.fieldAddr 100 (Operand.tmp 59) 2), type := 0, pos := "handle.go:75", after := #[⟨1, .data⟩], guard := none }) (v := .pointer (some ⟨hb, 2, none⟩)) rfl (by kernel_rfl) (by kernel_rfl) (by kernel_rfl) (fun _ _ _ h => h) (Or.inl ⟨by rfl, fun W' hW => ?_⟩) hS ?_
  · go_simp
  (try simp only [Act.put, sI, sZ, sS])
  refine wpAnyH_take (i := 3) (oi := { dst := (some 61), op := (Op.load 96 (Operand.tmp 60)), type := 96, pos := "handle.go:75", after := #[⟨2, .data⟩], guard := none }) (v := .map (some m1)) rfl (by kernel_rfl) (by kernel_rfl) (by kernel_rfl) (fun _ _ _ h => h) (Or.inl ⟨by rfl, fun W' hW => ?_⟩) hS ?_
  · go_simp
  (try simp only [Act.put, sI, sZ, sS])
  refine wpAnyH_take (i := 4) (oi := { dst := (some 62), op := (Op.move (Operand.tmp 9)), type := 3, pos := "handle.go:75", after := #[], guard := none }) (v := .int .i64 (num)) rfl (by kernel_rfl) (by kernel_rfl) (by kernel_rfl) (fun _ _ _ h => h) (Or.inl ⟨by rfl, fun W' hW => ?_⟩) hS ?_
  · go_simp
  (try simp only [Act.put, sI, sZ, sS])
  refine wpAnyH_take (i := 5) (oi := { dst := (some 63), op := (Op.load 105 (Operand.tmp 12)), type := 105, pos := "handle.go:75", after := #[], guard := none }) (v := .agg #[.int .i64 9, .int .i64 t.root, .bool t.readOnly, .bool false]) rfl (by kernel_rfl) (by kernel_rfl) (by kernel_rfl) (fun _ _ _ h => h) (Or.inl ⟨by rfl, fun W' hW => ?_⟩) hS ?_
  · go_simp
  (try simp only [Act.put, sI, sZ, sS])
  refine wpAnyH_ready (rs := [6]) (by kernel_rfl) (by simp) ?_
  refine AllReadyH.cons (o := { dst := none, op := (Op.mapUpdate 96 (Operand.tmp 61) (Operand.tmp 62) (Operand.tmp 63)), type := 0, pos := "handle.go:75", after := #[⟨3, .data⟩, ⟨4, .data⟩, ⟨5, .data⟩, ⟨0, .phase⟩, ⟨1, .phase⟩, ⟨2, .phase⟩, ⟨3, .phase⟩, ⟨4, .phase⟩, ⟨5, .phase⟩], guard := none }) rfl (fun K hK => ?_) AllReadyH.nil
  go_simp
  refine hK.out _ _ HS4.out (fun hS => ?_)
  clear hK K
  (try simp only [Act.put, sI, sZ, sS])
  refine wpAnyH_done (by kernel_rfl) ?_ _
  clear hu4
  go_wp2_with fail
  refine HREF.out.mono ?_
  rintro e w5 ⟨rfl, hb5⟩
  have B5 := Lib.hid hb5
  have p0 := seen_below P0.out B5.out; have p12 := seen_below P12.out B5.out
  have e0 := cell_at p0 0; have e1 := cell_at p0 1; have e2 := cell_at p0 2; have e3 := cell_at p0 3; have e4 := cell_at p0 4; have g1 := cell_at p12 1; have g2 := cell_at p12 2
  simp only [List.getElem?_toArray, List.getElem?_cons_zero, List.getElem?_cons_succ] at e0 e1 e2 e3 e4 g1 g2
  have HST := Lib.hid (start_freeze g w5 s hb m1 m2 m3 mask _ t hd key x y (A4.out.below B5.out) (T4.out.below B5.out) FI.out)
  clear p0 p12 hb5
  go_wp2_with fail
  refine HST.out.mono ?_
  rintro e w6 hr
  have HR := Lib.hid (BeginRes.of HK4.out hsz.out A4.out T4.out (MadeTask.below B5.out hr))
  obtain ⟨tb, vn, vc, N, O', rfl, _⟩ := hr
  go_wp2_with fail
  go_ret
  exact HR.out
end Go.Proofs.YtjlgchdekhmnnaaGreatDoor
end
section
namespace Go.Proofs.YtjlgchdekhmnnaaGreatDoor
open Go.RowKit
set_option linter.unusedVariables false
end Go.Proofs.YtjlgchdekhmnnaaGreatDoor
end
section
namespace Go.Proofs.YtjlgchdekhmnnaaGreatDoor
open Go.RowKit
set_option linter.unusedVariables false
def TabRes (g : Ghost) (w : World) (s : Ct.St) (hb m1 m2 m3 mask : Nat) (T : Ct.Tab) (X : Nat → Prop) (e : Ending) (w' : World) : Prop :=
  e = .returned (.tuple #[]) ∧ ArenaAt g w' s ∧ TabAt g w' hb m1 m2 m3 mask T ∧ Keep X w w'
set_option maxRecDepth 100000 in
set_option maxHeartbeats 1600000 in
theorem reveal_freeze (g : Ghost) (w : World) (s : Ct.St) (hb m1 m2 m3 mask : Nat) (T : Ct.Tab) (num : Int) (t0 t : Ct.Trie) (f : Bool) (h : ArenaAt g w s) (ht : TabAt g w hb m1 m2 m3 mask T) :
    Calls Tryz.prog 75 #[.pointer (some ⟨hb, 0, none⟩), .int .i64 num, .agg #[.int .i64 9, .int .i64 t0.root, .bool t0.readOnly, .bool f], .agg #[.int .i64 t.root, .bool t.readOnly]] w (TabRes g w s hb m1 m2 m3 mask { T with tries := tput T.tries num t } (fun k => k = m2)) := by
  have hNW := ((News.nil w).alloc (.cells #[.int .i64 9, .int .i64 t0.root, .bool t0.readOnly, .bool f] 105)).alloc (.cells #[.int .i64 t.root, .bool t.readOnly] 43)
  obtain ⟨W1, hW1⟩ : ∃ W, (w.alloc (.cells #[.int .i64 9, .int .i64 t0.root, .bool t0.readOnly, .bool f] 105)).alloc (.cells #[.int .i64 t.root, .bool t.readOnly] 43) = W := ⟨_, rfl⟩
  have hbB : ∀ o o', Below w.heap.size w ((w.alloc o).alloc o') := fun o o' => ((Below.refl _ _).alloc (Nat.le_refl _) o).alloc (by simp) o'
  have cB := fun o o' => (ht.below (hbB o o')).c3
  have hnm : ∀ (m : Nat) (W : World), (binOp BinOp.eql 97 (.map (some m)) (.map none)).run Tryz.prog W = .ok (.bool false) W := fun _ _ => by kernel_rfl
  rw [hW1] at hNW
  have z := hNW.size
  simp at z
  have hBd : Below w.heap.size w W1.drew := ⟨hNW.below.os, hNW.below.tape, hNW.below.output, hNW.below.size, hNW.below.block⟩
  have hT1 := ht.below hBd
  have hA1 := h.below hBd
  obtain ⟨W2, hu, hm, hk, hz⟩ := run_update 97 3 43 Tryz.underlying97 Tryz.underlying3 W1.drew m2 _ hT1.tries num (valTrie t)
  have hT2 := hT1.upd2 hk hm
  have hA2 := hA1.other hk ht.inN.2.2.1 ht.out.2.2.1
  have x1 : W1.drew.heap[w.heap.size + 1]? = some (.cells #[.int .i64 t.root, .bool t.readOnly] 43 (0, 0)) := hNW.at_ 1 _ rfl
  have x2 : W2.heap[w.heap.size + 1]? = some (.cells #[.int .i64 t.root, .bool t.readOnly] 43 (0, 0)) := by rw [hk.block _ (by show _ < W1.heap.size; omega) (fun e => by have := ht.tries.lt; omega)]; exact x1
  have HC3 := Lib.hid hT1.c3; have HG0 : Hid (W1.drew.cell? ⟨w.heap.size + 1, 0, none⟩ = some (.int .i64 t.root)) := cell_at x1 0; have HG1 : Hid (W1.drew.cell? ⟨w.heap.size + 1, 1, none⟩ = some (.bool t.readOnly)) := cell_at x1 1
  have HS4 : Hid (W2.cell? ⟨hb, 3, none⟩ = some (.map (some m2)) ∧ W2.cell? ⟨w.heap.size + 1, 0, none⟩ = some (.int .i64 t.root) ∧ W2.cell? ⟨w.heap.size + 1, 1, none⟩ = some (.bool t.readOnly) ∧ True) := ⟨hT2.c3, cell_at x2 0, cell_at x2 1, trivial⟩
  have HR : Hid (TabRes g w s hb m1 m2 m3 mask { T with tries := tput T.tries num t } (fun k => k = m2) (.returned (.tuple #[])) W2) := ⟨rfl, hA2, hT2, (Keep.below hBd (fun k => k = m2)).trans hk (fun k e => .inl e)⟩
  have HW := Lib.hid hW1
  unfold valTrie at hu
  have HU := Lib.hid hu
  clear h ht hNW hW1 hbB z hBd hT1 hA1 hm hk hz hT2 hA2 x1 x2 hu
  go_enter Tryz.func75, Tryz.ntmps75
  go_wp2_with fail
  refine code_world HW.out ?_
  have hu := HU.out
  refine wp_region_held_drew (S := fun W' => W'.cell? ⟨hb, 3, none⟩ = some (.map (some m2)) ∧ W'.cell? ⟨w.heap.size + 1, 0, none⟩ = some (.int .i64 t.root) ∧ W'.cell? ⟨w.heap.size + 1, 1, none⟩ = some (.bool t.readOnly) ∧ True) (by kernel_rfl) ⟨HC3.out, HG0.out, HG1.out, trivial⟩ (fun hS => ?_)
  refine wpAnyH_take (i := 0) (oi := { dst := (some 26), op := (Op.move (Operand.tmp 0)), type := 25, pos := "handle.go:187", after := #[], guard := none }) (v := .pointer (some ⟨hb, 0, none⟩)) rfl (by kernel_rfl) (by kernel_rfl) (by kernel_rfl) (fun _ _ _ h => h) (Or.inl ⟨by rfl, fun W' hW => ?_⟩) hS ?_
  · go_simp
  (try simp only [Act.put, sI, sZ, sS])
  refine wpAnyH_take (i := 1) (oi := { dst := (some 27), op := (Op.nilCheck (Operand.tmp 26)), type := 0, pos := "handle.go:187", after := #[⟨0, .data⟩], guard := none }) (v := .pointer (some ⟨hb, 0, none⟩)) rfl (by kernel_rfl) (by kernel_rfl) (by kernel_rfl) (fun _ _ _ h => h) (Or.inl ⟨by rfl, fun W' hW => ?_⟩) hS ?_
  · go_simp
  (try simp only [Act.put, sI, sZ, sS])
  refine wpAnyH_take (i := 2) (oi := { dst := (some 28), op := (Op.fieldAddr 100 (Operand.tmp 27) 3), type := 0, pos := "handle.go:187", after := #[⟨1, .data⟩], guard := none }) (v := .pointer (some ⟨hb, 3, none⟩)) rfl (by kernel_rfl) (by kernel_rfl) (by kernel_rfl) (fun _ _ _ h => h) (Or.inl ⟨by rfl, fun W' hW => ?_⟩) hS ?_
  · go_simp
  (try simp only [Act.put, sI, sZ, sS])
  refine wpAnyH_take (i := 3) (oi := { dst := (some 29), op := (Op.load 97 (Operand.tmp 28)), type := 97, pos := "handle.go:187", after := #[⟨2, .data⟩], guard := none }) (v := .map (some m2)) rfl (by kernel_rfl) (by kernel_rfl) (by kernel_rfl) (fun _ _ _ h => h) (Or.inl ⟨by rfl, fun W' hW => ?_⟩) hS ?_
  · go_simp
  (try simp only [Act.put, sI, sZ, sS])
  refine wpAnyH_take (i := 4) (oi := { dst := (some 30), op := (Op.move (Operand.tmp 1)), type := 3, pos := "handle.go:187", after := #[], guard := none }) (v := .int .i64 num) rfl (by kernel_rfl) (by kernel_rfl) (by kernel_rfl) (fun _ _ _ h => h) (Or.inl ⟨by rfl, fun W' hW => ?_⟩) hS ?_
  · go_simp
  (try simp only [Act.put, sI, sZ, sS])
  refine wpAnyH_take (i := 5) (oi := { dst := (some 31), op := (Op.load 43 (Operand.tmp 7)), type := 43, pos := "handle.go:187", after := #[], guard := none }) (v := .agg #[.int .i64 t.root, .bool t.readOnly]) rfl (by kernel_rfl) (by kernel_rfl) (by kernel_rfl) (fun _ _ _ h => h) (Or.inl ⟨by rfl, fun W' hW => ?_⟩) hS ?_
  · go_simp
  (try simp only [Act.put, sI, sZ, sS])
  refine wpAnyH_ready (rs := [6]) (by kernel_rfl) (by simp) ?_
  refine AllReadyH.cons (o := { dst := none, op := (Op.mapUpdate 97 (Operand.tmp 29) (Operand.tmp 30) (Operand.tmp 31)), type := 0, pos := "handle.go:187", after := #[⟨3, .data⟩, ⟨4, .data⟩, ⟨5, .data⟩, ⟨0, .phase⟩, ⟨1, .phase⟩, ⟨2, .phase⟩, ⟨3, .phase⟩, ⟨4, .phase⟩, ⟨5, .phase⟩], guard := none }) rfl (fun K hK => ?_) AllReadyH.nil
  go_simp
  refine hK.out _ _ HS4.out (fun hS => ?_)
  clear hK K
  (try simp only [Act.put, sI, sZ, sS])
  refine wpAnyH_done (by kernel_rfl) ?_ _
  clear hu
  go_wp2_with fail
  go_end0
  exact HR.out
end Go.Proofs.YtjlgchdekhmnnaaGreatDoor
end
