/- The walks of handle's reveal, Finish. -/
import Derived.Test.YtifehcegnofpkaaGreatDoorBegin4
namespace Go.Proofs.YtifehcegnofpkaaGreatDoor
open Go.RowKit
set_option linter.unusedVariables false

/-- A call that changes the table alone. -/
def TabRes (g : Ghost) (w : World) (s : Ct.St) (hb m1 m2 m3 mask : Nat) (T : Ct.Tab) (X : Nat → Prop) (e : Ending) (w' : World) : Prop :=
  e = .returned (.tuple #[]) ∧ ArenaAt g w' s ∧ TabAt g w' hb m1 m2 m3 mask T ∧ Keep X w w'

set_option maxRecDepth 100000 in
set_option maxHeartbeats 1600000 in
theorem reveal_snapshot (g : Ghost) (w : World) (s : Ct.St) (hb m1 m2 m3 mask : Nat) (T : Ct.Tab) (num : Int) (t0 t : Ct.Trie) (f : Bool) (h : ArenaAt g w s) (ht : TabAt g w hb m1 m2 m3 mask T) :
    Calls Tryz.prog 37 #[.pointer (some ⟨hb, 0, none⟩), .int .i64 num, .agg #[.int .i64 8, .int .i64 t0.root, .bool t0.readOnly, .bool f], .agg #[.int .i64 t.root, .bool t.readOnly]] w (TabRes g w s hb m1 m2 m3 mask { T with tries := tput T.tries num t } (fun k => k = m2)) := by
  have hNW := ((News.nil w).alloc (.cells #[.int .i64 8, .int .i64 t0.root, .bool t0.readOnly, .bool f] 106)).alloc (.cells #[.int .i64 t.root, .bool t.readOnly] 72)
  obtain ⟨W1, hW1⟩ : ∃ W, (w.alloc (.cells #[.int .i64 8, .int .i64 t0.root, .bool t0.readOnly, .bool f] 106)).alloc (.cells #[.int .i64 t.root, .bool t.readOnly] 72) = W := ⟨_, rfl⟩
  have hbB : ∀ o o', Below w.heap.size w ((w.alloc o).alloc o') := fun o o' => ((Below.refl _ _).alloc (Nat.le_refl _) o).alloc (by simp) o'
  have cB := fun o o' => (ht.below (hbB o o')).c3
  have hnm : ∀ (m : Nat) (W : World), (binOp BinOp.eql 90 (.map (some m)) (.map none)).run Tryz.prog W = .ok (.bool false) W := fun _ _ => by kernel_rfl
  rw [hW1] at hNW
  have z := hNW.size
  simp at z
  have hBd : Below w.heap.size w W1.drew := ⟨hNW.below.os, hNW.below.tape, hNW.below.output, hNW.below.size, hNW.below.block⟩
  have hT1 := ht.below hBd
  have hA1 := h.below hBd
  obtain ⟨W2, hu, hm, hk, hz⟩ := run_update 90 3 72 Tryz.underlying90 Tryz.underlying3 W1.drew m2 _ hT1.tries num (valTrie t)
  have hT2 := hT1.upd2 hk hm
  have hA2 := hA1.other hk ht.inN.2.2.1 ht.out.2.2.1
  have x1 : W1.drew.heap[w.heap.size + 1]? = some (.cells #[.int .i64 t.root, .bool t.readOnly] 72 (0, 0)) := hNW.at_ 1 _ rfl
  have x2 : W2.heap[w.heap.size + 1]? = some (.cells #[.int .i64 t.root, .bool t.readOnly] 72 (0, 0)) := by rw [hk.block _ (by show _ < W1.heap.size; omega) (fun e => by have := ht.tries.lt; omega)]; exact x1
  have HC3 := Lib.hid hT1.c3; have HG0 : Hid (W1.drew.cell? ⟨w.heap.size + 1, 0, none⟩ = some (.int .i64 t.root)) := cell_at x1 0; have HG1 : Hid (W1.drew.cell? ⟨w.heap.size + 1, 1, none⟩ = some (.bool t.readOnly)) := cell_at x1 1
  have HS4 : Hid (W2.cell? ⟨hb, 3, none⟩ = some (.map (some m2)) ∧ W2.cell? ⟨w.heap.size + 1, 0, none⟩ = some (.int .i64 t.root) ∧ W2.cell? ⟨w.heap.size + 1, 1, none⟩ = some (.bool t.readOnly) ∧ True) := ⟨hT2.c3, cell_at x2 0, cell_at x2 1, trivial⟩
  have HR : Hid (TabRes g w s hb m1 m2 m3 mask { T with tries := tput T.tries num t } (fun k => k = m2) (.returned (.tuple #[])) W2) := ⟨rfl, hA2, hT2, (Keep.below hBd (fun k => k = m2)).trans hk (fun k e => .inl e)⟩
  have HW := Lib.hid hW1
  unfold valTrie at hu
  have HU := Lib.hid hu
  clear h ht hNW hW1 hbB z hBd hT1 hA1 hm hk hz hT2 hA2 x1 x2 hu
  go_enter Tryz.func37, Tryz.ntmps37
  go_wp2_with fail
  refine code_world HW.out ?_
  have hu := HU.out
  refine wp_region_held_drew (S := fun W' => W'.cell? ⟨hb, 3, none⟩ = some (.map (some m2)) ∧ W'.cell? ⟨w.heap.size + 1, 0, none⟩ = some (.int .i64 t.root) ∧ W'.cell? ⟨w.heap.size + 1, 1, none⟩ = some (.bool t.readOnly) ∧ True) (by kernel_rfl) ⟨HC3.out, HG0.out, HG1.out, trivial⟩ (fun hS => ?_)
  refine wpAnyH_take (i := 0) (oi := { dst := (some 26), op := (Op.move (Operand.tmp 0)), type := 58, pos := "handle.go:187", after := #[], guard := none }) (v := .pointer (some ⟨hb, 0, none⟩)) rfl (by kernel_rfl) (by kernel_rfl) (by kernel_rfl) (fun _ _ _ h => h) (Or.inl ⟨by rfl, fun W' hW => ?_⟩) hS ?_
  · go_simp
  (try simp only [Act.put, List.setIfInBounds_toArray, List.set_cons_zero, List.set_cons_succ])
  refine wpAnyH_take (i := 1) (oi := { dst := (some 27), op := (Op.nilCheck (Operand.tmp 26)), type := 0, pos := "handle.go:187", after := #[{ on := 0, ground := Ground.data }], guard := none }) (v := .pointer (some ⟨hb, 0, none⟩)) rfl (by kernel_rfl) (by kernel_rfl) (by kernel_rfl) (fun _ _ _ h => h) (Or.inl ⟨by rfl, fun W' hW => ?_⟩) hS ?_
  · go_simp
  (try simp only [Act.put, List.setIfInBounds_toArray, List.set_cons_zero, List.set_cons_succ])
  refine wpAnyH_take (i := 2) (oi := { dst := (some 28), op := (Op.fieldAddr 93 (Operand.tmp 27) 3), type := 0, pos := "handle.go:187", after := #[{ on := 1, ground := Ground.data }], guard := none }) (v := .pointer (some ⟨hb, 3, none⟩)) rfl (by kernel_rfl) (by kernel_rfl) (by kernel_rfl) (fun _ _ _ h => h) (Or.inl ⟨by rfl, fun W' hW => ?_⟩) hS ?_
  · go_simp
  (try simp only [Act.put, List.setIfInBounds_toArray, List.set_cons_zero, List.set_cons_succ])
  refine wpAnyH_take (i := 3) (oi := { dst := (some 29), op := (Op.load 90 (Operand.tmp 28)), type := 90, pos := "handle.go:187", after := #[{ on := 2, ground := Ground.data }], guard := none }) (v := .map (some m2)) rfl (by kernel_rfl) (by kernel_rfl) (by kernel_rfl) (fun _ _ _ h => h) (Or.inl ⟨by rfl, fun W' hW => ?_⟩) hS ?_
  · go_simp
  (try simp only [Act.put, List.setIfInBounds_toArray, List.set_cons_zero, List.set_cons_succ])
  refine wpAnyH_take (i := 4) (oi := { dst := (some 30), op := (Op.move (Operand.tmp 1)), type := 3, pos := "handle.go:187", after := #[], guard := none }) (v := .int .i64 num) rfl (by kernel_rfl) (by kernel_rfl) (by kernel_rfl) (fun _ _ _ h => h) (Or.inl ⟨by rfl, fun W' hW => ?_⟩) hS ?_
  · go_simp
  (try simp only [Act.put, List.setIfInBounds_toArray, List.set_cons_zero, List.set_cons_succ])
  refine wpAnyH_take (i := 5) (oi := { dst := (some 31), op := (Op.load 72 (Operand.tmp 7)), type := 72, pos := "handle.go:187", after := #[], guard := none }) (v := .agg #[.int .i64 t.root, .bool t.readOnly]) rfl (by kernel_rfl) (by kernel_rfl) (by kernel_rfl) (fun _ _ _ h => h) (Or.inl ⟨by rfl, fun W' hW => ?_⟩) hS ?_
  · go_simp
  (try simp only [Act.put, List.setIfInBounds_toArray, List.set_cons_zero, List.set_cons_succ])
  refine wpAnyH_ready (rs := [6]) (by kernel_rfl) (by simp) ?_
  refine AllReadyH.cons (o := { dst := none, op := (Op.mapUpdate 90 (Operand.tmp 29) (Operand.tmp 30) (Operand.tmp 31)), type := 0, pos := "handle.go:187", after := #[{ on := 3, ground := Ground.data }, { on := 4, ground := Ground.data }, { on := 5, ground := Ground.data }, { on := 0, ground := Ground.phase }, { on := 1, ground := Ground.phase }, { on := 2, ground := Ground.phase }, { on := 3, ground := Ground.phase }, { on := 4, ground := Ground.phase }, { on := 5, ground := Ground.phase }], guard := none }) rfl (fun K hK => ?_) AllReadyH.nil
  go_simp
  refine hK.out _ _ HS4.out (fun hS => ?_)
  clear hK K
  (try simp only [Act.put, List.setIfInBounds_toArray, List.set_cons_zero, List.set_cons_succ])
  refine wpAnyH_done (by kernel_rfl) ?_ _
  clear hu
  go_wp2_with fail
  go_end0
  exact HR.out

set_option maxRecDepth 100000 in
set_option maxHeartbeats 1600000 in
theorem reveal_freeze (g : Ghost) (w : World) (s : Ct.St) (hb m1 m2 m3 mask : Nat) (T : Ct.Tab) (num : Int) (t0 t : Ct.Trie) (f : Bool) (h : ArenaAt g w s) (ht : TabAt g w hb m1 m2 m3 mask T) :
    Calls Tryz.prog 37 #[.pointer (some ⟨hb, 0, none⟩), .int .i64 num, .agg #[.int .i64 9, .int .i64 t0.root, .bool t0.readOnly, .bool f], .agg #[.int .i64 t.root, .bool t.readOnly]] w (TabRes g w s hb m1 m2 m3 mask { T with tries := tput T.tries num t } (fun k => k = m2)) := by
  have hNW := ((News.nil w).alloc (.cells #[.int .i64 9, .int .i64 t0.root, .bool t0.readOnly, .bool f] 106)).alloc (.cells #[.int .i64 t.root, .bool t.readOnly] 72)
  obtain ⟨W1, hW1⟩ : ∃ W, (w.alloc (.cells #[.int .i64 9, .int .i64 t0.root, .bool t0.readOnly, .bool f] 106)).alloc (.cells #[.int .i64 t.root, .bool t.readOnly] 72) = W := ⟨_, rfl⟩
  have hbB : ∀ o o', Below w.heap.size w ((w.alloc o).alloc o') := fun o o' => ((Below.refl _ _).alloc (Nat.le_refl _) o).alloc (by simp) o'
  have cB := fun o o' => (ht.below (hbB o o')).c3
  have hnm : ∀ (m : Nat) (W : World), (binOp BinOp.eql 90 (.map (some m)) (.map none)).run Tryz.prog W = .ok (.bool false) W := fun _ _ => by kernel_rfl
  rw [hW1] at hNW
  have z := hNW.size
  simp at z
  have hBd : Below w.heap.size w W1.drew := ⟨hNW.below.os, hNW.below.tape, hNW.below.output, hNW.below.size, hNW.below.block⟩
  have hT1 := ht.below hBd
  have hA1 := h.below hBd
  obtain ⟨W2, hu, hm, hk, hz⟩ := run_update 90 3 72 Tryz.underlying90 Tryz.underlying3 W1.drew m2 _ hT1.tries num (valTrie t)
  have hT2 := hT1.upd2 hk hm
  have hA2 := hA1.other hk ht.inN.2.2.1 ht.out.2.2.1
  have x1 : W1.drew.heap[w.heap.size + 1]? = some (.cells #[.int .i64 t.root, .bool t.readOnly] 72 (0, 0)) := hNW.at_ 1 _ rfl
  have x2 : W2.heap[w.heap.size + 1]? = some (.cells #[.int .i64 t.root, .bool t.readOnly] 72 (0, 0)) := by rw [hk.block _ (by show _ < W1.heap.size; omega) (fun e => by have := ht.tries.lt; omega)]; exact x1
  have HC3 := Lib.hid hT1.c3; have HG0 : Hid (W1.drew.cell? ⟨w.heap.size + 1, 0, none⟩ = some (.int .i64 t.root)) := cell_at x1 0; have HG1 : Hid (W1.drew.cell? ⟨w.heap.size + 1, 1, none⟩ = some (.bool t.readOnly)) := cell_at x1 1
  have HS4 : Hid (W2.cell? ⟨hb, 3, none⟩ = some (.map (some m2)) ∧ W2.cell? ⟨w.heap.size + 1, 0, none⟩ = some (.int .i64 t.root) ∧ W2.cell? ⟨w.heap.size + 1, 1, none⟩ = some (.bool t.readOnly) ∧ True) := ⟨hT2.c3, cell_at x2 0, cell_at x2 1, trivial⟩
  have HR : Hid (TabRes g w s hb m1 m2 m3 mask { T with tries := tput T.tries num t } (fun k => k = m2) (.returned (.tuple #[])) W2) := ⟨rfl, hA2, hT2, (Keep.below hBd (fun k => k = m2)).trans hk (fun k e => .inl e)⟩
  have HW := Lib.hid hW1
  unfold valTrie at hu
  have HU := Lib.hid hu
  clear h ht hNW hW1 hbB z hBd hT1 hA1 hm hk hz hT2 hA2 x1 x2 hu
  go_enter Tryz.func37, Tryz.ntmps37
  go_wp2_with fail
  refine code_world HW.out ?_
  have hu := HU.out
  refine wp_region_held_drew (S := fun W' => W'.cell? ⟨hb, 3, none⟩ = some (.map (some m2)) ∧ W'.cell? ⟨w.heap.size + 1, 0, none⟩ = some (.int .i64 t.root) ∧ W'.cell? ⟨w.heap.size + 1, 1, none⟩ = some (.bool t.readOnly) ∧ True) (by kernel_rfl) ⟨HC3.out, HG0.out, HG1.out, trivial⟩ (fun hS => ?_)
  refine wpAnyH_take (i := 0) (oi := { dst := (some 26), op := (Op.move (Operand.tmp 0)), type := 58, pos := "handle.go:187", after := #[], guard := none }) (v := .pointer (some ⟨hb, 0, none⟩)) rfl (by kernel_rfl) (by kernel_rfl) (by kernel_rfl) (fun _ _ _ h => h) (Or.inl ⟨by rfl, fun W' hW => ?_⟩) hS ?_
  · go_simp
  (try simp only [Act.put, List.setIfInBounds_toArray, List.set_cons_zero, List.set_cons_succ])
  refine wpAnyH_take (i := 1) (oi := { dst := (some 27), op := (Op.nilCheck (Operand.tmp 26)), type := 0, pos := "handle.go:187", after := #[{ on := 0, ground := Ground.data }], guard := none }) (v := .pointer (some ⟨hb, 0, none⟩)) rfl (by kernel_rfl) (by kernel_rfl) (by kernel_rfl) (fun _ _ _ h => h) (Or.inl ⟨by rfl, fun W' hW => ?_⟩) hS ?_
  · go_simp
  (try simp only [Act.put, List.setIfInBounds_toArray, List.set_cons_zero, List.set_cons_succ])
  refine wpAnyH_take (i := 2) (oi := { dst := (some 28), op := (Op.fieldAddr 93 (Operand.tmp 27) 3), type := 0, pos := "handle.go:187", after := #[{ on := 1, ground := Ground.data }], guard := none }) (v := .pointer (some ⟨hb, 3, none⟩)) rfl (by kernel_rfl) (by kernel_rfl) (by kernel_rfl) (fun _ _ _ h => h) (Or.inl ⟨by rfl, fun W' hW => ?_⟩) hS ?_
  · go_simp
  (try simp only [Act.put, List.setIfInBounds_toArray, List.set_cons_zero, List.set_cons_succ])
  refine wpAnyH_take (i := 3) (oi := { dst := (some 29), op := (Op.load 90 (Operand.tmp 28)), type := 90, pos := "handle.go:187", after := #[{ on := 2, ground := Ground.data }], guard := none }) (v := .map (some m2)) rfl (by kernel_rfl) (by kernel_rfl) (by kernel_rfl) (fun _ _ _ h => h) (Or.inl ⟨by rfl, fun W' hW => ?_⟩) hS ?_
  · go_simp
  (try simp only [Act.put, List.setIfInBounds_toArray, List.set_cons_zero, List.set_cons_succ])
  refine wpAnyH_take (i := 4) (oi := { dst := (some 30), op := (Op.move (Operand.tmp 1)), type := 3, pos := "handle.go:187", after := #[], guard := none }) (v := .int .i64 num) rfl (by kernel_rfl) (by kernel_rfl) (by kernel_rfl) (fun _ _ _ h => h) (Or.inl ⟨by rfl, fun W' hW => ?_⟩) hS ?_
  · go_simp
  (try simp only [Act.put, List.setIfInBounds_toArray, List.set_cons_zero, List.set_cons_succ])
  refine wpAnyH_take (i := 5) (oi := { dst := (some 31), op := (Op.load 72 (Operand.tmp 7)), type := 72, pos := "handle.go:187", after := #[], guard := none }) (v := .agg #[.int .i64 t.root, .bool t.readOnly]) rfl (by kernel_rfl) (by kernel_rfl) (by kernel_rfl) (fun _ _ _ h => h) (Or.inl ⟨by rfl, fun W' hW => ?_⟩) hS ?_
  · go_simp
  (try simp only [Act.put, List.setIfInBounds_toArray, List.set_cons_zero, List.set_cons_succ])
  refine wpAnyH_ready (rs := [6]) (by kernel_rfl) (by simp) ?_
  refine AllReadyH.cons (o := { dst := none, op := (Op.mapUpdate 90 (Operand.tmp 29) (Operand.tmp 30) (Operand.tmp 31)), type := 0, pos := "handle.go:187", after := #[{ on := 3, ground := Ground.data }, { on := 4, ground := Ground.data }, { on := 5, ground := Ground.data }, { on := 0, ground := Ground.phase }, { on := 1, ground := Ground.phase }, { on := 2, ground := Ground.phase }, { on := 3, ground := Ground.phase }, { on := 4, ground := Ground.phase }, { on := 5, ground := Ground.phase }], guard := none }) rfl (fun K hK => ?_) AllReadyH.nil
  go_simp
  refine hK.out _ _ HS4.out (fun hS => ?_)
  clear hK K
  (try simp only [Act.put, List.setIfInBounds_toArray, List.set_cons_zero, List.set_cons_succ])
  refine wpAnyH_done (by kernel_rfl) ?_ _
  clear hu
  go_wp2_with fail
  go_end0
  exact HR.out

end Go.Proofs.YtifehcegnofpkaaGreatDoor
