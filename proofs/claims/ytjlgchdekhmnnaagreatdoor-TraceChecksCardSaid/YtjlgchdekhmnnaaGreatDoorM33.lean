/- Parts of a proof: Lk2. -/
import Derived.Test.YtjlgchdekhmnnaaGreatDoorM32
section
namespace Go.Proofs.YtjlgchdekhmnnaaGreatDoor
open Go.RowKit
set_option linter.unusedVariables false
theorem cells_afterL {g g' : Ghost} {w W w' : World} {s : Ct.St} {hb m1 m2 m3 mask : Nat} {T : Ct.Tab} {t : Ct.Trie} {k hd x y : Value} {key : ByteArray} (hB : Below w.heap.size w W) (h : ArenaAt g w s) (ht : TabAt g w hb m1 m2 m3 mask T) (hx : W.heap[w.heap.size]? = some (.cells #[.int .i64 t.root, .bool t.readOnly] 43 (0, 0))) (hy : W.heap[w.heap.size + 1]? = some (.cells #[k, hd, .string key, x, y] 35 (0, 0))) (hs : Step g W g' w') :
    w'.cell? ⟨hb, 0, none⟩ = some (.iface 23 (.pointer (some ⟨g.a, 0, none⟩))) ∧ w'.cell? ⟨w.heap.size, 0, none⟩ = some (.int .i64 t.root) ∧ w'.cell? ⟨w.heap.size, 1, none⟩ = some (.bool t.readOnly) ∧ w'.cell? ⟨hb, 1, none⟩ = some (.int .u64 (mask : Nat)) ∧ w'.cell? ⟨w.heap.size + 1, 2, none⟩ = some (.string key) ∧ True := by
  have hlt := (Array.getElem?_eq_some_iff.1 hx).1
  have hlt2 := (Array.getElem?_eq_some_iff.1 hy).1
  have hx' : w'.heap[w.heap.size]? = some (.cells #[.int .i64 t.root, .bool t.readOnly] 43 (0, 0)) := by rw [hs.keep.block _ hlt (fun hf => absurd (h.nlt _ (h.foot _ hf)) (by omega))]; exact hx
  have hy' : w'.heap[w.heap.size + 1]? = some (.cells #[k, hd, .string key, x, y] 35 (0, 0)) := by rw [hs.keep.block _ hlt2 (fun hf => absurd (h.nlt _ (h.foot _ hf)) (by omega))]; exact hy
  have hb' : w'.heap[hb]? = some (.cells #[g.sv, .int .u64 (mask : Nat), .map (some m1), .map (some m2), .map (some m3)] 100 (0, 0)) := by rw [hs.keep.block _ (ht.below hB).lt ht.out.1]; exact (ht.below hB).blk
  exact ⟨cell_at hb' 0, cell_at hx' 0, cell_at hx' 1, cell_at hb' 1, cell_at hy' 2, trivial⟩
set_option maxRecDepth 100000 in
set_option maxHeartbeats 800000 in
theorem start_lookup (g : Ghost) (w : World) (s : Ct.St) (hb m1 m2 m3 mask : Nat) (T : Ct.Tab) (t : Ct.Trie) (hd : Int) (key : ByteArray) (x y : Nat) (h : ArenaAt g w s) (ht : TabAt g w hb m1 m2 m3 mask T) (hfin : Fin 1000 s) (hk : key.size ≤ 64) (hm : mask < 18446744073709551616) :
    Calls Tryz.prog 51 #[.pointer (some ⟨hb, 0, none⟩), .agg #[.int .i64 t.root, .bool t.readOnly], .agg #[.int .i64 7, .int .i64 hd, .string key, .int .u64 (x : Nat), .int .u64 (y : Nat)]] w (MadeTask g w (Ct.apply Ct.stOps (.fnd0 t { key := key, hash := Ct.hashOf key mask }) 0 s)) := by
  have hNW := ((News.nil w).alloc (.cells #[.int .i64 t.root, .bool t.readOnly] 43)).alloc (.cells #[.int .i64 7, .int .i64 hd, .string key, .int .u64 (x : Nat), .int .u64 (y : Nat)] 35)
  obtain ⟨W0, hW0⟩ : ∃ W, (w.alloc (.cells #[.int .i64 t.root, .bool t.readOnly] 43)).alloc (.cells #[.int .i64 7, .int .i64 hd, .string key, .int .u64 (x : Nat), .int .u64 (y : Nat)] 35) = W := ⟨_, rfl⟩
  rw [hW0] at hNW
  have hB0 : Below w.heap.size w W0.drew := ⟨hNW.below.os, hNW.below.tape, hNW.below.output, hNW.below.size, hNW.below.block⟩
  have hf := lookup_any g W0.drew s t mask key (by omega) hm (h.below hB0) hfin
  have hx : W0.drew.heap[w.heap.size]? = some (.cells #[.int .i64 t.root, .bool t.readOnly] 43 (0, 0)) := hNW.at_ 0 _ rfl
  have hy : W0.drew.heap[w.heap.size + 1]? = some (.cells #[.int .i64 7, .int .i64 hd, .string key, .int .u64 (x : Nat), .int .u64 (y : Nat)] 35 (0, 0)) := hNW.at_ 1 _ rfl
  have HC : Hid (W0.drew.cell? ⟨hb, 0, none⟩ = some (g.sv) ∧ W0.drew.cell? ⟨w.heap.size, 0, none⟩ = some (.int .i64 t.root) ∧ W0.drew.cell? ⟨w.heap.size, 1, none⟩ = some (.bool t.readOnly) ∧ W0.drew.cell? ⟨hb, 1, none⟩ = some (.int .u64 (mask : Nat)) ∧ W0.drew.cell? ⟨w.heap.size + 1, 2, none⟩ = some (.string key) ∧ True) := ⟨(ht.below hB0).c0, cell_at hx 0, cell_at hx 1, (ht.below hB0).c1, cell_at hy 2, trivial⟩
  have HF := Lib.hid hf; have HB := Lib.hid hB0; have HB0 := Lib.hid hB0; have HX := Lib.hid hx; have HY := Lib.hid hy
  have HT := Lib.hid ht; have H := Lib.hid h; have HW := Lib.hid hW0
  clear h ht hfin hNW hW0 hB0 hf hx hy
  unfold Ghost.sv at HC HF
  go_enter Tryz.func51, Tryz.ntmps51
  go_wp2_with fail
  refine code_world HW.out ?_
  refine wp_region_held_drew (S := fun W' => W'.cell? ⟨hb, 0, none⟩ = some (.iface 23 (.pointer (some ⟨g.a, 0, none⟩))) ∧ W'.cell? ⟨w.heap.size, 0, none⟩ = some (.int .i64 t.root) ∧ W'.cell? ⟨w.heap.size, 1, none⟩ = some (.bool t.readOnly) ∧ W'.cell? ⟨hb, 1, none⟩ = some (.int .u64 (mask : Nat)) ∧ W'.cell? ⟨w.heap.size + 1, 2, none⟩ = some (.string key) ∧ True) (by kernel_rfl) HC.out (fun hS => ?_)
  refine wpAnyH_take (i := 0) (oi := { dst := (some 55), op := (Op.move (Operand.tmp 0)), type := 25, pos := "handle.go:134", after := #[], guard := none }) (v := .pointer (some ⟨hb, 0, none⟩)) rfl (by kernel_rfl) (by kernel_rfl) (by kernel_rfl) (fun _ _ _ h => h) (Or.inl ⟨by rfl, fun W' hW => ?_⟩) hS ?_
  · go_simp
  (try simp only [Act.put, sI, sZ, sS])
  refine wpAnyH_take (i := 1) (oi := { dst := (some 56), op := (Op.nilCheck (Operand.tmp 55)), type := 0, pos := "handle.go:134", after := #[⟨0, .data⟩], guard := none }) (v := .pointer (some ⟨hb, 0, none⟩)) rfl (by kernel_rfl) (by kernel_rfl) (by kernel_rfl) (fun _ _ _ h => h) (Or.inl ⟨by rfl, fun W' hW => ?_⟩) hS ?_
  · go_simp
  (try simp only [Act.put, sI, sZ, sS])
  refine wpAnyH_take (i := 2) (oi := { dst := (some 57), op := (Op.fieldAddr 100 (Operand.tmp 56) 0), type := 0, pos := "handle.go:134", after := #[⟨1, .data⟩], guard := none }) (v := .pointer (some ⟨hb, 0, none⟩)) rfl (by kernel_rfl) (by kernel_rfl) (by kernel_rfl) (fun _ _ _ h => h) (Or.inl ⟨by rfl, fun W' hW => ?_⟩) hS ?_
  · go_simp
  (try simp only [Act.put, sI, sZ, sS])
  refine wpAnyH_take (i := 3) (oi := { dst := (some 58), op := (Op.load 95 (Operand.tmp 57)), type := 95, pos := "handle.go:134", after := #[⟨2, .data⟩], guard := none }) (v := .iface 23 (.pointer (some ⟨g.a, 0, none⟩))) rfl (by kernel_rfl) (by kernel_rfl) (by kernel_rfl) (fun _ _ _ h => h) (Or.inl ⟨by rfl, fun W' hW => ?_⟩) hS ?_
  · go_simp
  (try simp only [Act.put, sI, sZ, sS])
  refine wpAnyH_take (i := 4) (oi := { dst := (some 59), op := (Op.load 43 (Operand.tmp 4)), type := 43, pos := "handle.go:134", after := #[], guard := none }) (v := .agg #[.int .i64 t.root, .bool t.readOnly]) rfl (by kernel_rfl) (by kernel_rfl) (by kernel_rfl) (fun _ _ _ h => h) (Or.inl ⟨by rfl, fun W' hW => ?_⟩) hS ?_
  · go_simp
  (try simp only [Act.put, sI, sZ, sS])
  refine wpAnyH_take (i := 5) (oi := { dst := (some 60), op := (Op.move (Operand.tmp 0)), type := 25, pos := "handle.go:134", after := #[], guard := none }) (v := .pointer (some ⟨hb, 0, none⟩)) rfl (by kernel_rfl) (by kernel_rfl) (by kernel_rfl) (fun _ _ _ h => h) (Or.inl ⟨by rfl, fun W' hW => ?_⟩) hS ?_
  · go_simp
  (try simp only [Act.put, sI, sZ, sS])
  refine wpAnyH_take (i := 6) (oi := { dst := (some 61), op := (Op.nilCheck (Operand.tmp 60)), type := 0, pos := "handle.go:134", after := #[⟨5, .data⟩], guard := none }) (v := .pointer (some ⟨hb, 0, none⟩)) rfl (by kernel_rfl) (by kernel_rfl) (by kernel_rfl) (fun _ _ _ h => h) (Or.inl ⟨by rfl, fun W' hW => ?_⟩) hS ?_
  · go_simp
  (try simp only [Act.put, sI, sZ, sS])
  refine wpAnyH_take (i := 7) (oi := { dst := (some 62), op := (Op.fieldAddr 100 (Operand.tmp 61) 1), type := 0, pos := "handle.go:134", after := #[⟨6, .data⟩], guard := none }) (v := .pointer (some ⟨hb, 1, none⟩)) rfl (by kernel_rfl) (by kernel_rfl) (by kernel_rfl) (fun _ _ _ h => h) (Or.inl ⟨by rfl, fun W' hW => ?_⟩) hS ?_
  · go_simp
  (try simp only [Act.put, sI, sZ, sS])
  refine wpAnyH_take (i := 8) (oi := { dst := (some 63), op := (Op.load 27 (Operand.tmp 62)), type := 27, pos := "handle.go:134", after := #[⟨7, .data⟩], guard := none }) (v := .int .u64 (mask : Nat)) rfl (by kernel_rfl) (by kernel_rfl) (by kernel_rfl) (fun _ _ _ h => h) (Or.inl ⟨by rfl, fun W' hW => ?_⟩) hS ?_
  · go_simp
  (try simp only [Act.put, sI, sZ, sS])
  refine wpAnyH_take (i := 9) (oi := { dst := (some 64), op := (Op.fieldAddr 35 (Operand.tmp 5) 2), type := 0, pos := "handle.go:134", after := #[], guard := none }) (v := .pointer (some ⟨w.heap.size + 1, 2, none⟩)) rfl (by kernel_rfl) (by kernel_rfl) (by kernel_rfl) (fun _ _ _ h => h) (Or.inl ⟨by rfl, fun W' hW => ?_⟩) hS ?_
  · go_simp
  (try simp only [Act.put, sI, sZ, sS])
  refine wpAnyH_take (i := 10) (oi := { dst := (some 65), op := (Op.load 9 (Operand.tmp 64)), type := 9, pos := "handle.go:134", after := #[⟨9, .data⟩], guard := none }) (v := .string key) rfl (by kernel_rfl) (by kernel_rfl) (by kernel_rfl) (fun _ _ _ h => h) (Or.inl ⟨by rfl, fun W' hW => ?_⟩) hS ?_
  · go_simp
  (try simp only [Act.put, sI, sZ, sS])
  refine wpAnyH_ready (rs := [11]) (by kernel_rfl) (by simp) ?_
  refine AllReadyH.cons (o := { dst := (some 66), op := (Op.call { callee := (Callee.value (Operand.func 84)), args := #[(Operand.tmp 58), (Operand.tmp 59), (Operand.tmp 63), (Operand.tmp 65)], argTypes := #[95, 43, 27, 9] }), type := 29, pos := "handle.go:134", after := #[⟨3, .data⟩, ⟨4, .data⟩, ⟨8, .data⟩, ⟨10, .data⟩], guard := none }) rfl (fun K hK => ?_) AllReadyH.nil
  go_simp
  refine HF.out.mono ?_
  rintro e w1 hr
  have HR := Lib.hid (MadeTask.below HB.out hr)
  obtain ⟨tb, vn, vc, N, O', rfl, htb, ha, hs, ho, htk⟩ := hr
  have HCC := Lib.hid (cells_afterL HB0.out H.out HT.out HX.out HY.out hs)
  clear htb ha hs ho htk
  refine hK.out _ _ HCC.out (fun hS => ?_)
  clear hK K
  (try simp only [Act.put, sI, sZ, sS])
  refine wpAnyH_ready (rs := [12]) (by kernel_rfl) (by simp) ?_
  refine AllReadyH.cons (o := { dst := (some 6), op := (Op.assign (Operand.tmp 66)), type := 29, pos := "handle.go:134", after := #[⟨11, .data⟩, ⟨11, .chain⟩, ⟨0, .phase⟩, ⟨1, .phase⟩, ⟨2, .phase⟩, ⟨3, .phase⟩, ⟨4, .phase⟩, ⟨5, .phase⟩, ⟨6, .phase⟩, ⟨7, .phase⟩, ⟨8, .phase⟩, ⟨9, .phase⟩, ⟨10, .phase⟩, ⟨11, .phase⟩], guard := none }) rfl (fun K hK => ?_) AllReadyH.nil
  go_simp
  refine hK.out _ _ hS (fun hS => ?_)
  clear hK K
  (try simp only [Act.put, sI, sZ, sS])
  refine wpAnyH_done (by kernel_rfl) ?_ _
  go_wp2_with fail
  go_ret
  exact HR.out
set_option maxRecDepth 100000 in
set_option maxHeartbeats 1600000 in
theorem refusal_lookup (g : Ghost) (w : World) (hb m1 m2 m3 mask : Nat) (T : Ct.Tab) (th hd : Int) (key : ByteArray) (x y : Nat) (t : Ct.Trie) (hk : key.size ≤ 64) (ht : TabAt g w hb m1 m2 m3 mask T) (hl : (T.tries.find? (fun p => p.1 == hd)).map (·.2) = some t) :
    Calls Tryz.prog 50 #[.pointer (some ⟨hb, 0, none⟩), .int .i64 th, .agg #[.int .i64 7, .int .i64 hd, .string key, .int .u64 (x : Nat), .int .u64 (y : Nat)]] w fun e w' => e = .returned (.int .i64 0) ∧ Below w.heap.size w w' := by
  have hbA : ∀ o, Below w.heap.size w (w.alloc o) := fun o => (Below.refl _ _).alloc (Nat.le_refl _) o
  have hbB : ∀ o o', Below w.heap.size w ((w.alloc o).alloc o') := fun o o' => ((Below.refl _ _).alloc (Nat.le_refl _) o).alloc (by simp) o'
  have cA := fun o => (ht.below (hbA o)).c3
  have cB := fun o o' => (ht.below (hbB o o')).c3
  have hzv : ∀ W : World, (zeroValue 43).run Tryz.prog W = .ok (.agg #[.int .i64 0, .bool false]) W := fun _ => by kernel_rfl
  have hml : mlook (T.tries.map fun p => (p.1, valTrie p.2)) hd = some (.agg #[.int .i64 t.root, .bool t.readOnly]) := by rw [mlook_map, hl]; rfl
  have lA : ∀ o, (Instr.lookup 97 (.map (some m2)) (.int .i64 hd) true).run Tryz.prog ((w.alloc o).drew) = .ok (.tuple #[.agg #[.int .i64 t.root, .bool t.readOnly], .bool true]) ((w.alloc o).drew) := fun o => by
    rw [run_lookup 97 3 43 Tryz.underlying97 Tryz.underlying3 ((w.alloc o).drew) m2 _ ((ht.below (hbA o)).tries.below ⟨rfl, rfl, rfl, Nat.le_refl _, fun _ _ => rfl⟩) _ (hzv _) hd true, hml]; rfl
  have lB : ∀ o o', (Instr.lookup 97 (.map (some m2)) (.int .i64 hd) true).run Tryz.prog (((w.alloc o).alloc o').drew) = .ok (.tuple #[.agg #[.int .i64 t.root, .bool t.readOnly], .bool true]) (((w.alloc o).alloc o').drew) := fun o o' => by
    rw [run_lookup 97 3 43 Tryz.underlying97 Tryz.underlying3 (((w.alloc o).alloc o').drew) m2 _ ((ht.below (hbB o o')).tries.below ⟨rfl, rfl, rfl, Nat.le_refl _, fun _ _ => rfl⟩) _ (hzv _) hd true, hml]; rfl
  have HV : Hid (∀ W, Calls Tryz.prog 80 #[.string key] W fun e w' => e = .returned (.bool true) ∧ W = w') := fun W => valid_any key W hk
  clear ht hl hml hzv hbA hbB
  go_enter Tryz.func50, Tryz.ntmps50
  go_wp2_with fail
  go_region
  all_goals
    go_wp2_with (go_at_call 80; refine (HV.out _).mono ?_; rintro e w' ⟨rfl, rfl⟩)
    go_ret
    exact ⟨rfl, (((Below.refl w.heap.size w).alloc (Nat.le_refl _) _).alloc (by simp) _).drew⟩
set_option maxRecDepth 100000 in
set_option maxHeartbeats 3000000 in
theorem begin_lookup (g : Ghost) (w : World) (s : Ct.St) (hb m1 m2 m3 mask : Nat) (T : Ct.Tab) (th ix hd : Int) (key : ByteArray) (x y : Nat) (t : Ct.Trie) (h : ArenaAt g w s) (ht : TabAt g w hb m1 m2 m3 mask T) (hfin : Fin 1000 s) (hn : 0 ≤ Ct.numberC th ix) (hnew : T.ops.find? (fun p => p.1 == Ct.numberC th ix) = none) (hl : (T.tries.find? (fun p => p.1 == hd)).map (·.2) = some t) (hk : key.size ≤ 64) (hm : mask < 18446744073709551616) :
    Calls Tryz.prog 12 #[.pointer (some ⟨hb, 0, none⟩), .int .i64 th, .int .i64 ix, .agg #[.int .i64 7, .int .i64 hd, .string key, .int .u64 (x : Nat), .int .u64 (y : Nat)]] w (BeginRes g w hb m1 m2 m3 mask { T with ops := bput T.ops (Ct.numberC th ix) (7, t, false) } (Ct.apply Ct.stOps (.fnd0 t { key := key, hash := Ct.hashOf key mask }) 0 s)) := by
  have hNW := (((News.nil w).alloc (.cells #[.int .i64 7, .int .i64 hd, .string key, .int .u64 (x : Nat), .int .u64 (y : Nat)] 35)).alloc (.cells #[.int .i64 0, .int .i64 0, .bool false, .bool false] 105)).alloc (.cells #[.int .i64 7, .int .i64 0, .bool false, .bool false] 105)
  have e2 : (((w.alloc (.cells #[.int .i64 7, .int .i64 hd, .string key, .int .u64 (x : Nat), .int .u64 (y : Nat)] 35)).alloc (.cells #[.int .i64 0, .int .i64 0, .bool false, .bool false] 105)).alloc (.cells #[.int .i64 7, .int .i64 0, .bool false, .bool false] 105)) = (((w.alloc (.cells #[.int .i64 7, .int .i64 hd, .string key, .int .u64 (x : Nat), .int .u64 (y : Nat)] 35)).alloc (.cells #[.int .i64 0, .int .i64 0, .bool false, .bool false] 105)).alloc (.cells #[.int .i64 7, .int .i64 0, .bool false, .bool false] 105)) := rfl
  obtain ⟨W2, hW2⟩ : ∃ W, (((w.alloc (.cells #[.int .i64 7, .int .i64 hd, .string key, .int .u64 (x : Nat), .int .u64 (y : Nat)] 35)).alloc (.cells #[.int .i64 0, .int .i64 0, .bool false, .bool false] 105)).alloc (.cells #[.int .i64 7, .int .i64 0, .bool false, .bool false] 105)) = W := ⟨_, rfl⟩
  rw [hW2] at hNW
  clear e2
  have z := hNW.size
  simp at z
  have hB2 : Below w.heap.size w W2.drew := ⟨hNW.below.os, hNW.below.tape, hNW.below.output, hNW.below.size, hNW.below.block⟩
  have hbA : ∀ o, Below w.heap.size w (w.alloc o) := fun o => (Below.refl _ _).alloc (Nat.le_refl _) o
  have hbB : ∀ o o', Below w.heap.size w ((w.alloc o).alloc o') := fun o o' => ((Below.refl _ _).alloc (Nat.le_refl _) o).alloc (by simp) o'
  have cA := fun o => (ht.below (hbA o)).c2
  have cB := fun o o' => (ht.below (hbB o o')).c2
  have hzv : ∀ W : World, (zeroValue 105).run Tryz.prog W = .ok (.agg #[.int .i64 0, .int .i64 0, .bool false, .bool false]) W := fun _ => by kernel_rfl
  have hzt : ∀ W : World, (zeroValue 43).run Tryz.prog W = .ok (.agg #[.int .i64 0, .bool false]) W := fun _ => by kernel_rfl
  have hml : mlook (T.ops.map fun p => (p.1, valBegun p.2)) (Ct.numberC th ix) = none := by rw [mlook_map, hnew]; rfl
  have lA : ∀ o, (Instr.lookup 96 (.map (some m1)) (.int .i64 (Ct.numberC th ix)) true).run Tryz.prog (w.alloc o) = .ok (.tuple #[.agg #[.int .i64 0, .int .i64 0, .bool false, .bool false], .bool false]) (w.alloc o) := fun o => by
    rw [run_lookup 96 3 105 Tryz.underlying96 Tryz.underlying3 (w.alloc o) m1 _ (ht.below (hbA o)).ops _ (hzv _) _ true, hml]; rfl
  have hnm : ∀ (m : Nat) (W : World), (binOp BinOp.eql 96 (.map (some m)) (.map none)).run Tryz.prog W = .ok (.bool false) W := fun _ _ => by kernel_rfl
  have hmt : mlook (T.tries.map fun p => (p.1, valTrie p.2)) hd = some (.agg #[.int .i64 t.root, .bool t.readOnly]) := by rw [mlook_map, hl]; rfl
  obtain ⟨xs, cl, hx1, hx2, hx3⟩ := (ht.below hB2).tries
  have HLK : Hid (∀ W' : World, W'.heap[m2]? = some (.map xs cl) → (Instr.lookup 97 (.map (some m2)) (.int .i64 hd) false).run Tryz.prog W' = .ok (.agg #[.int .i64 t.root, .bool t.readOnly]) W') := fun W' hW' => by
    rw [run_lookup 97 3 43 Tryz.underlying97 Tryz.underlying3 W' m2 _ ⟨xs, cl, hW', hx2, hx3⟩ _ (hzt _) hd false, hmt]; rfl
  have x12 : W2.drew.heap[w.heap.size + 2]? = some (.cells #[.int .i64 7, .int .i64 0, .bool false, .bool false] 105 (0, 0)) := hNW.at_ 2 _ rfl
  have x0 : W2.drew.heap[w.heap.size]? = some (.cells #[.int .i64 7, .int .i64 hd, .string key, .int .u64 (x : Nat), .int .u64 (y : Nat)] 35 (0, 0)) := hNW.at_ 0 _ rfl
  have v1 : W2.cell? ⟨w.heap.size + 2, 1, none⟩ = some (.int .i64 0) := cell_at (hNW.at_ 2 _ rfl) 1
  have v2 : W2.cell? ⟨w.heap.size + 2, 2, none⟩ = some (.bool false) := cell_at (hNW.at_ 2 _ rfl) 2
  have u1 : W2.frozen? ⟨w.heap.size + 2, 1, none⟩ = false := free_at (hNW.at_ 2 _ rfl) 1
  have u2 : W2.frozen? ⟨w.heap.size + 2, 2, none⟩ = false := free_at (hNW.at_ 2 _ rfl) 2
  obtain ⟨W3, hW3⟩ : ∃ W, (W2.setCell ⟨w.heap.size + 2, 1, none⟩ (.int .i64 t.root)).setCell ⟨w.heap.size + 2, 2, none⟩ (.bool t.readOnly) = W := ⟨_, rfl⟩
  have k23 : Keep (fun k => k = w.heap.size + 2) W2 W3 := by rw [← hW3]; exact (Keep.setCell (F := fun k => k = w.heap.size + 2) W2 ⟨w.heap.size + 2, 1, none⟩ _ rfl).trans (Keep.setCell (F := fun k => k = w.heap.size + 2) _ ⟨w.heap.size + 2, 2, none⟩ _ rfl) (fun _ h => .inl h)
  have y12 : W3.heap[w.heap.size + 2]? = some (.cells #[.int .i64 7, .int .i64 t.root, .bool t.readOnly, .bool false] 105 (0, 0)) := by rw [← hW3, heap_setCell_at _ _ 2 _ _ _ _ (heap_setCell_at W2 (w.heap.size + 2) 1 _ _ _ _ (hNW.at_ 2 _ rfl))]; rfl
  have y0 : W3.heap[w.heap.size]? = some (.cells #[.int .i64 7, .int .i64 hd, .string key, .int .u64 (x : Nat), .int .u64 (y : Nat)] 35 (0, 0)) := by rw [k23.block _ (by omega) (by omega)]; exact hNW.at_ 0 _ rfl
  have hB3 : Below w.heap.size w W3 := ⟨k23.os.trans hNW.below.os, k23.tape.trans hNW.below.tape, k23.output.trans hNW.below.output, Nat.le_trans hNW.below.size k23.size, fun k hk => (k23.block k (by omega) (by omega)).trans (hNW.below.block k hk)⟩
  have hB3d : Below w.heap.size w W3.drew := ⟨hB3.os, hB3.tape, hB3.output, hB3.size, hB3.block⟩
  have hB3dd : Below w.heap.size w W3.drew.drew := ⟨hB3.os, hB3.tape, hB3.output, hB3.size, hB3.block⟩
  have hT3 := ht.below hB3dd
  have hA3 := h.below hB3dd
  obtain ⟨W4, hu4, hm4, hk4, hz4⟩ := run_update 96 3 105 Tryz.underlying96 Tryz.underlying3 W3.drew.drew m1 _ hT3.ops (Ct.numberC th ix) (valBegun (7, t, false))
  have hT4 := hT3.upd1 hk4 hm4
  have hA4 := hA3.other hk4 ht.inN.2.1 ht.out.2.1
  have hlt4 : w.heap.size + 2 < W4.heap.size := by rw [hz4]; exact Nat.lt_of_lt_of_le (by omega) k23.size
  have nb : ∀ k, w.heap.size ≤ k → k ≠ m1 := fun k hk e => by have := ht.ops.lt; omega
  have p12 : W4.heap[w.heap.size + 2]? = some (.cells #[.int .i64 7, .int .i64 t.root, .bool t.readOnly, .bool false] 105 (0, 0)) := by rw [hk4.block _ (by rw [← hz4]; exact hlt4) (nb _ (by omega))]; exact y12
  have p0 : W4.heap[w.heap.size]? = some (.cells #[.int .i64 7, .int .i64 hd, .string key, .int .u64 (x : Nat), .int .u64 (y : Nat)] 35 (0, 0)) := by rw [hk4.block _ (by rw [← hz4]; omega) (nb _ (by omega))]; exact y0
  have HC3 := Lib.hid ((ht.below hB2).c3); have HO1 : Hid (W2.drew.cell? ⟨w.heap.size, 1, none⟩ = some (.int .i64 hd)) := cell_at x0 1; have HM2 := Lib.hid hx1
  have HS3 : Hid (W3.drew.cell? ⟨hb, 3, none⟩ = some (.map (some m2)) ∧ W3.drew.cell? ⟨w.heap.size, 1, none⟩ = some (.int .i64 hd) ∧ W3.drew.heap[m2]? = some (.map xs cl) ∧ True) := ⟨(ht.below hB3d).c3, cell_at (w := W3) y0 1, by
    show W3.heap[m2]? = _
    rw [k23.block m2 (Nat.lt_of_lt_of_le ht.tries.lt hNW.below.size) (fun e => by have := ht.tries.lt; omega)]; exact hx1, trivial⟩
  rw [← hW3] at HS3
  have HC2 := Lib.hid (hT3.c2)
  have HG0 : Hid (W3.drew.drew.cell? ⟨w.heap.size + 2, 0, none⟩ = some (.int .i64 7)) := cell_at (w := W3) y12 0
  have HG1 : Hid (W3.drew.drew.cell? ⟨w.heap.size + 2, 1, none⟩ = some (.int .i64 t.root)) := cell_at (w := W3) y12 1
  have HG2 : Hid (W3.drew.drew.cell? ⟨w.heap.size + 2, 2, none⟩ = some (.bool t.readOnly)) := cell_at (w := W3) y12 2
  have HG3 : Hid (W3.drew.drew.cell? ⟨w.heap.size + 2, 3, none⟩ = some (.bool false)) := cell_at (w := W3) y12 3
  have HS4 : Hid (W4.cell? ⟨hb, 2, none⟩ = some (.map (some m1)) ∧ W4.cell? ⟨w.heap.size + 2, 0, none⟩ = some (.int .i64 7) ∧ W4.cell? ⟨w.heap.size + 2, 1, none⟩ = some (.int .i64 t.root) ∧ W4.cell? ⟨w.heap.size + 2, 2, none⟩ = some (.bool t.readOnly) ∧ W4.cell? ⟨w.heap.size + 2, 3, none⟩ = some (.bool false) ∧ True) := ⟨hT4.c2, cell_at p12 0, cell_at p12 1, cell_at p12 2, cell_at p12 3, trivial⟩
  have o0 := cell_at p0 0; have o1 := cell_at p0 1; have o2 := cell_at p0 2; have o3 := cell_at p0 3; have o4 := cell_at p0 4
  simp only [List.getElem?_toArray, List.getElem?_cons_zero, List.getElem?_cons_succ] at o0 o1 o2 o3 o4
  have HREF := Lib.hid (refusal_lookup g W4 hb m1 m2 m3 mask _ th hd key x y t hk hT4 hl)
  have A4 := Lib.hid hA4; have T4 := Lib.hid hT4; have HK4 : Hid (Keep (fun k => g.Foot k ∨ k = m1) w W4) := (Keep.below hB3dd (fun k => g.Foot k ∨ k = m1)).trans (hk4.mono (fun k _ e => .inr e)) (fun k e => .inl e)
  have P12 := Lib.hid p12; have P0 := Lib.hid p0; have FI := Lib.hid hfin
  have HW2 := Lib.hid hW2; have HW3 : Hid ((W2.setCell ⟨w.heap.size + 2, 1, none⟩ (.int .i64 t.root)).setCell ⟨w.heap.size + 2, 2, none⟩ (.bool t.readOnly) = W3) := hW3
  have HN := Lib.hid (number_any th ix)
  have q1 : ¬ Ct.numberC th ix < 0 := by omega
  have hsz : Hid (w.heap.size ≤ W4.heap.size) := by show w.heap.size ≤ W4.heap.size; omega
  unfold valBegun at hu4
  have HU4 := Lib.hid hu4
  clear h ht hfin hnew hl hNW hB2 hbA hbB hzv hzt hml hmt hx1 hx2 hx3 x12 x0 k23 y12 y0 hB3 hB3d hB3dd hT3 hA3 hm4 hk4 hz4 hT4 hA4 hlt4 nb p12 p0 hW2 hW3 z hn hu4
  generalize Ct.numberC th ix = num at *
  go_enter Tryz.func12, Tryz.ntmps12
  go_wp2_with (go_at_call 15; refine (HN.out _).mono ?_; rintro e w' ⟨rfl, rfl⟩)
  refine code_world HW2.out ?_
  refine wp_region_held_drew (S := fun W' => W'.cell? ⟨hb, 3, none⟩ = some (.map (some m2)) ∧ W'.cell? ⟨w.heap.size, 1, none⟩ = some (.int .i64 hd) ∧ W'.heap[m2]? = some (.map xs cl) ∧ True) (by kernel_rfl) ⟨HC3.out, HO1.out, HM2.out, trivial⟩ (fun hS => ?_)
  refine wpAnyH_take (i := 0) (oi := { dst := (some 50), op := (Op.move (Operand.tmp 0)), type := 25, pos := "handle.go:73", after := #[], guard := none }) (v := .pointer (some ⟨hb, 0, none⟩)) rfl (by kernel_rfl) (by kernel_rfl) (by kernel_rfl) (fun _ _ _ h => h) (Or.inl ⟨by rfl, fun W' hW => ?_⟩) hS ?_
  · go_simp
  (try simp only [Act.put, sI, sZ, sS])
  refine wpAnyH_take (i := 1) (oi := { dst := (some 51), op := (Op.nilCheck (Operand.tmp 50)), type := 0, pos := "handle.go:73", after := #[⟨0, .data⟩], guard := none }) (v := .pointer (some ⟨hb, 0, none⟩)) rfl (by kernel_rfl) (by kernel_rfl) (by kernel_rfl) (fun _ _ _ h => h) (Or.inl ⟨by rfl, fun W' hW => ?_⟩) hS ?_
  · go_simp
  (try simp only [Act.put, sI, sZ, sS])
  refine wpAnyH_take (i := 2) (oi := { dst := (some 52), op := (Op.fieldAddr 100 (Operand.tmp 51) 3), type := 0, pos := "handle.go:73", after := #[⟨1, .data⟩], guard := none }) (v := .pointer (some ⟨hb, 3, none⟩)) rfl (by kernel_rfl) (by kernel_rfl) (by kernel_rfl) (fun _ _ _ h => h) (Or.inl ⟨by rfl, fun W' hW => ?_⟩) hS ?_
  · go_simp
  (try simp only [Act.put, sI, sZ, sS])
  refine wpAnyH_take (i := 3) (oi := { dst := (some 53), op := (Op.load 97 (Operand.tmp 52)), type := 97, pos := "handle.go:73", after := #[⟨2, .data⟩], guard := none }) (v := .map (some m2)) rfl (by kernel_rfl) (by kernel_rfl) (by kernel_rfl) (fun _ _ _ h => h) (Or.inl ⟨by rfl, fun W' hW => ?_⟩) hS ?_
  · go_simp
  (try simp only [Act.put, sI, sZ, sS])
  refine wpAnyH_take (i := 4) (oi := { dst := (some 54), op := (Op.fieldAddr 35 (Operand.tmp 7) 1), type := 0, pos := "handle.go:73", after := #[], guard := none }) (v := .pointer (some ⟨w.heap.size, 1, none⟩)) rfl (by kernel_rfl) (by kernel_rfl) (by kernel_rfl) (fun _ _ _ h => h) (Or.inl ⟨by rfl, fun W' hW => ?_⟩) hS ?_
  · go_simp
  (try simp only [Act.put, sI, sZ, sS])
  refine wpAnyH_take (i := 5) (oi := { dst := (some 55), op := (Op.load 3 (Operand.tmp 54)), type := 3, pos := "handle.go:73", after := #[⟨4, .data⟩], guard := none }) (v := .int .i64 hd) rfl (by kernel_rfl) (by kernel_rfl) (by kernel_rfl) (fun _ _ _ h => h) (Or.inl ⟨by rfl, fun W' hW => ?_⟩) hS ?_
  · go_simp
  (try simp only [Act.put, sI, sZ, sS])
  refine wpAnyH_take (i := 6) (oi := { dst := (some 56), op := (Op.lookup 97 (Operand.tmp 53) (Operand.tmp 55) false), type := 43, pos := "handle.go:73", after := #[⟨3, .data⟩, ⟨5, .data⟩], guard := none }) (v := .agg #[.int .i64 t.root, .bool t.readOnly]) rfl (by kernel_rfl) (by kernel_rfl) (by kernel_rfl) (fun _ _ _ h => h) (Or.inl ⟨by rfl, fun W' hW => ?_⟩) hS ?_
  · (have hlk := HLK.out W' hW.2.2.1; go_simp)
  (try simp only [Act.put, sI, sZ, sS])
  refine wpAnyH_take (i := 7) (oi := { dst := (some 57), op := (Op.fieldAddr 105 (Operand.tmp 12) 1), type := 0, pos := "handle.go:73", after := #[⟨0, .phase⟩, ⟨1, .phase⟩, ⟨2, .phase⟩, ⟨3, .phase⟩, ⟨4, .phase⟩, ⟨5, .phase⟩, ⟨6, .phase⟩], guard := none }) (v := .pointer (some ⟨w.heap.size + 2, 1, none⟩)) rfl (by kernel_rfl) (by kernel_rfl) (by kernel_rfl) (fun _ _ _ h => h) (Or.inl ⟨by rfl, fun W' hW => ?_⟩) hS ?_
  · go_simp
  (try simp only [Act.put, sI, sZ, sS])
  refine wpAnyH_ready (rs := [8]) (by kernel_rfl) (by simp) ?_
  refine AllReadyH.cons (o := { dst := none, op := (Op.store 43 (Operand.tmp 57) (Operand.tmp 56)), type := 0, pos := "handle.go:73", after := #[⟨7, .data⟩, ⟨6, .data⟩, ⟨0, .phase⟩, ⟨1, .phase⟩, ⟨2, .phase⟩, ⟨3, .phase⟩, ⟨4, .phase⟩, ⟨5, .phase⟩, ⟨6, .phase⟩], guard := none }) rfl (fun K hK => ?_) AllReadyH.nil
  go_simp
  refine hK.out _ _ HS3.out (fun hS => ?_)
  clear hK K
  (try simp only [Act.put, sI, sZ, sS])
  refine wpAnyH_done (by kernel_rfl) ?_ _
  go_wp2_with fail
  refine code_world (congrArg World.drew HW3.out) ?_
  have hu4 := HU4.out
  refine wp_region_held_drew (S := fun W' => W'.cell? ⟨hb, 2, none⟩ = some (.map (some m1)) ∧ W'.cell? ⟨w.heap.size + 2, 0, none⟩ = some (.int .i64 7) ∧ W'.cell? ⟨w.heap.size + 2, 1, none⟩ = some (.int .i64 t.root) ∧ W'.cell? ⟨w.heap.size + 2, 2, none⟩ = some (.bool t.readOnly) ∧ W'.cell? ⟨w.heap.size + 2, 3, none⟩ = some (.bool false) ∧ True) (by kernel_rfl) ⟨HC2.out, HG0.out, HG1.out, HG2.out, HG3.out, trivial⟩ (fun hS => ?_)
  refine wpAnyH_take (i := 0) (oi := { dst := (some 58), op := (Op.move (Operand.tmp 0)), type := 25, pos := "handle.go:75", after := #[], guard := none }) (v := .pointer (some ⟨hb, 0, none⟩)) rfl (by kernel_rfl) (by kernel_rfl) (by kernel_rfl) (fun _ _ _ h => h) (Or.inl ⟨by rfl, fun W' hW => ?_⟩) hS ?_
  · go_simp
  (try simp only [Act.put, sI, sZ, sS])
  refine wpAnyH_take (i := 1) (oi := { dst := (some 59), op := (Op.nilCheck (Operand.tmp 58)), type := 0, pos := "handle.go:75", after := #[⟨0, .data⟩], guard := none }) (v := .pointer (some ⟨hb, 0, none⟩)) rfl (by kernel_rfl) (by kernel_rfl) (by kernel_rfl) (fun _ _ _ h => h) (Or.inl ⟨by rfl, fun W' hW => ?_⟩) hS ?_
  · go_simp
  (try simp only [Act.put, sI, sZ, sS])
  refine wpAnyH_take (i := 2) (oi := { dst := (some 60), op := (Op.fieldAddr 100 (Operand.tmp 59) 2), type := 0, pos := "handle.go:75", after := #[⟨1, .data⟩], guard := none }) (v := .pointer (some ⟨hb, 2, none⟩)) rfl (by kernel_rfl) (by kernel_rfl) (by kernel_rfl) (fun _ _ _ h => h) (Or.inl ⟨by rfl, fun W' hW => ?_⟩) hS ?_
  · go_simp
  (try simp only [Act.put, sI, sZ, sS])
  refine wpAnyH_take (i := 3) (oi := { dst := (some 61), op := (Op.load 96 (Operand.tmp 60)), type := 96, pos := "handle.go:75", after := #[⟨2, .data⟩], guard := none }) (v := .map (some m1)) rfl (by kernel_rfl) (by kernel_rfl) (by kernel_rfl) (fun _ _ _ h => h) (Or.inl ⟨by rfl, fun W' hW => ?_⟩) hS ?_
  · go_simp
  (try simp only [Act.put, sI, sZ, sS])
  refine wpAnyH_take (i := 4) (oi := { dst := (some 62), op := (Op.move (Operand.tmp 9)), type := 3, pos := "handle.go:75", after := #[], guard := none }) (v := .int .i64 (num)) rfl (by kernel_rfl) (by kernel_rfl) (by kernel_rfl) (fun _ _ _ h => h) (Or.inl ⟨by rfl, fun W' hW => ?_⟩) hS ?_
  · go_simp
  (try simp only [Act.put, sI, sZ, sS])
  refine wpAnyH_take (i := 5) (oi := { dst := (some 63), op := (Op.load 105 (Operand.tmp 12)), type := 105, pos := "handle.go:75", after := #[], guard := none }) (v := .agg #[.int .i64 7, .int .i64 t.root, .bool t.readOnly, .bool false]) rfl (by kernel_rfl) (by kernel_rfl) (by kernel_rfl) (fun _ _ _ h => h) (Or.inl ⟨by rfl, fun W' hW => ?_⟩) hS ?_
  · go_simp
  (try simp only [Act.put, sI, sZ, sS])
  refine wpAnyH_ready (rs := [6]) (by kernel_rfl) (by simp) ?_
  refine AllReadyH.cons (o := { dst := none, op := (Op.mapUpdate 96 (Operand.tmp 61) (Operand.tmp 62) (Operand.tmp 63)), type := 0, pos := "handle.go:75", after := #[⟨3, .data⟩, ⟨4, .data⟩, ⟨5, .data⟩, ⟨0, .phase⟩, ⟨1, .phase⟩, ⟨2, .phase⟩, ⟨3, .phase⟩, ⟨4, .phase⟩, ⟨5, .phase⟩], guard := none }) rfl (fun K hK => ?_) AllReadyH.nil
  go_simp
  refine hK.out _ _ HS4.out (fun hS => ?_)
  clear hK K
  (try simp only [Act.put, sI, sZ, sS])
  refine wpAnyH_done (by kernel_rfl) ?_ _
  clear hu4
  go_wp2_with fail
  refine HREF.out.mono ?_
  rintro e w5 ⟨rfl, hb5⟩
  have B5 := Lib.hid hb5
  have p0 := seen_below P0.out B5.out; have p12 := seen_below P12.out B5.out
  have e0 := cell_at p0 0; have e1 := cell_at p0 1; have e2 := cell_at p0 2; have e3 := cell_at p0 3; have e4 := cell_at p0 4; have g1 := cell_at p12 1; have g2 := cell_at p12 2
  simp only [List.getElem?_toArray, List.getElem?_cons_zero, List.getElem?_cons_succ] at e0 e1 e2 e3 e4 g1 g2
  have HST := Lib.hid (start_lookup g w5 s hb m1 m2 m3 mask _ t hd key x y (A4.out.below B5.out) (T4.out.below B5.out) FI.out hk hm)
  clear p0 p12 hb5
  go_wp2_with fail
  refine HST.out.mono ?_
  rintro e w6 hr
  have HR := Lib.hid (BeginRes.of HK4.out hsz.out A4.out T4.out (MadeTask.below B5.out hr))
  obtain ⟨tb, vn, vc, N, O', rfl, _⟩ := hr
  go_wp2_with fail
  go_ret
  exact HR.out
end Go.Proofs.YtjlgchdekhmnnaaGreatDoor
end
