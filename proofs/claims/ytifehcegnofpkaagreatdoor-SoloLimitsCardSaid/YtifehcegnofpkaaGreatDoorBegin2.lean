/- The walks of handle's refusal, at some operations. -/
import Derived.Test.YtifehcegnofpkaaGreatDoorBegin1
import Derived.RegionTactic
namespace Go.Proofs.YtifehcegnofpkaaGreatDoor
open Go.RowKit
set_option linter.unusedVariables false

theorem Below.drew {B : Nat} {w w' : World} (h : Below B w w') : Below B w w'.drew := ⟨h.os, h.tape, h.output, h.size, h.block⟩
theorem valid_any (key : ByteArray) (w : World) (hk : key.size ≤ 64) : Calls Tryz.prog 43 #[.string key] w fun e w' => e = .returned (.bool true) ∧ w = w' := by
  have q : decide ((key.size : Int) ≤ 64) = true := by simp; omega
  go_enter Tryz.func43, Tryz.ntmps43
  go_wp2_with fail
  go_ret
  exact ⟨rfl, rfl⟩

set_option maxRecDepth 100000 in
set_option maxHeartbeats 1600000 in
theorem refusal_snapshot (g : Ghost) (w : World) (hb m1 m2 m3 mask : Nat) (T : Ct.Tab) (th hd : Int) (key : ByteArray) (x y : Nat) (t : Ct.Trie) (ht : TabAt g w hb m1 m2 m3 mask T) (hl : (T.tries.find? (fun p => p.1 == hd)).map (·.2) = some t) :
    Calls Tryz.prog 34 #[.pointer (some ⟨hb, 0, none⟩), .int .i64 th, .agg #[.int .i64 8, .int .i64 hd, .string key, .int .u64 (x : Nat), .int .u64 (y : Nat)]] w fun e w' => e = .returned (.int .i64 0) ∧ Below w.heap.size w w' := by
  have hbA : ∀ o, Below w.heap.size w (w.alloc o) := fun o => (Below.refl _ _).alloc (Nat.le_refl _) o
  have hbB : ∀ o o', Below w.heap.size w ((w.alloc o).alloc o') := fun o o' => ((Below.refl _ _).alloc (Nat.le_refl _) o).alloc (by simp) o'
  have cA := fun o => (ht.below (hbA o)).c3
  have cB := fun o o' => (ht.below (hbB o o')).c3
  have hzv : ∀ W : World, (zeroValue 72).run Tryz.prog W = .ok (.agg #[.int .i64 0, .bool false]) W := fun _ => by kernel_rfl
  have hml : mlook (T.tries.map fun p => (p.1, valTrie p.2)) hd = some (.agg #[.int .i64 t.root, .bool t.readOnly]) := by rw [mlook_map, hl]; rfl
  have lA : ∀ o, (Instr.lookup 90 (.map (some m2)) (.int .i64 hd) true).run Tryz.prog ((w.alloc o).drew) = .ok (.tuple #[.agg #[.int .i64 t.root, .bool t.readOnly], .bool true]) ((w.alloc o).drew) := fun o => by
    rw [run_lookup 90 3 72 Tryz.underlying90 Tryz.underlying3 ((w.alloc o).drew) m2 _ ((ht.below (hbA o)).tries.below ⟨rfl, rfl, rfl, Nat.le_refl _, fun _ _ => rfl⟩) _ (hzv _) hd true, hml]; rfl
  have lB : ∀ o o', (Instr.lookup 90 (.map (some m2)) (.int .i64 hd) true).run Tryz.prog (((w.alloc o).alloc o').drew) = .ok (.tuple #[.agg #[.int .i64 t.root, .bool t.readOnly], .bool true]) (((w.alloc o).alloc o').drew) := fun o o' => by
    rw [run_lookup 90 3 72 Tryz.underlying90 Tryz.underlying3 (((w.alloc o).alloc o').drew) m2 _ ((ht.below (hbB o o')).tries.below ⟨rfl, rfl, rfl, Nat.le_refl _, fun _ _ => rfl⟩) _ (hzv _) hd true, hml]; rfl
  have HV := Lib.hid (valid_any .empty w (by decide))
  clear ht hl hml hzv hbA hbB
  go_enter Tryz.func34, Tryz.ntmps34
  go_wp2_with fail
  go_region
  all_goals
    go_wp2_with (go_at_call 43; refine HV.out.mono ?_; rintro e w' ⟨rfl, rfl⟩)
    go_ret
    exact ⟨rfl, (((Below.refl w.heap.size w).alloc (Nat.le_refl _) _).alloc (by simp) _).drew⟩

set_option maxRecDepth 100000 in
set_option maxHeartbeats 1600000 in
theorem refusal_freeze (g : Ghost) (w : World) (hb m1 m2 m3 mask : Nat) (T : Ct.Tab) (th hd : Int) (key : ByteArray) (x y : Nat) (t : Ct.Trie) (ht : TabAt g w hb m1 m2 m3 mask T) (hl : (T.tries.find? (fun p => p.1 == hd)).map (·.2) = some t) :
    Calls Tryz.prog 34 #[.pointer (some ⟨hb, 0, none⟩), .int .i64 th, .agg #[.int .i64 9, .int .i64 hd, .string key, .int .u64 (x : Nat), .int .u64 (y : Nat)]] w fun e w' => e = .returned (.int .i64 0) ∧ Below w.heap.size w w' := by
  have hbA : ∀ o, Below w.heap.size w (w.alloc o) := fun o => (Below.refl _ _).alloc (Nat.le_refl _) o
  have hbB : ∀ o o', Below w.heap.size w ((w.alloc o).alloc o') := fun o o' => ((Below.refl _ _).alloc (Nat.le_refl _) o).alloc (by simp) o'
  have cA := fun o => (ht.below (hbA o)).c3
  have cB := fun o o' => (ht.below (hbB o o')).c3
  have hzv : ∀ W : World, (zeroValue 72).run Tryz.prog W = .ok (.agg #[.int .i64 0, .bool false]) W := fun _ => by kernel_rfl
  have hml : mlook (T.tries.map fun p => (p.1, valTrie p.2)) hd = some (.agg #[.int .i64 t.root, .bool t.readOnly]) := by rw [mlook_map, hl]; rfl
  have lA : ∀ o, (Instr.lookup 90 (.map (some m2)) (.int .i64 hd) true).run Tryz.prog ((w.alloc o).drew) = .ok (.tuple #[.agg #[.int .i64 t.root, .bool t.readOnly], .bool true]) ((w.alloc o).drew) := fun o => by
    rw [run_lookup 90 3 72 Tryz.underlying90 Tryz.underlying3 ((w.alloc o).drew) m2 _ ((ht.below (hbA o)).tries.below ⟨rfl, rfl, rfl, Nat.le_refl _, fun _ _ => rfl⟩) _ (hzv _) hd true, hml]; rfl
  have lB : ∀ o o', (Instr.lookup 90 (.map (some m2)) (.int .i64 hd) true).run Tryz.prog (((w.alloc o).alloc o').drew) = .ok (.tuple #[.agg #[.int .i64 t.root, .bool t.readOnly], .bool true]) (((w.alloc o).alloc o').drew) := fun o o' => by
    rw [run_lookup 90 3 72 Tryz.underlying90 Tryz.underlying3 (((w.alloc o).alloc o').drew) m2 _ ((ht.below (hbB o o')).tries.below ⟨rfl, rfl, rfl, Nat.le_refl _, fun _ _ => rfl⟩) _ (hzv _) hd true, hml]; rfl
  have HV := Lib.hid (valid_any .empty w (by decide))
  clear ht hl hml hzv hbA hbB
  go_enter Tryz.func34, Tryz.ntmps34
  go_wp2_with fail
  go_region
  all_goals
    go_wp2_with (go_at_call 43; refine HV.out.mono ?_; rintro e w' ⟨rfl, rfl⟩)
    go_ret
    exact ⟨rfl, (((Below.refl w.heap.size w).alloc (Nat.le_refl _) _).alloc (by simp) _).drew⟩

set_option maxRecDepth 100000 in
set_option maxHeartbeats 1600000 in
theorem refusal_insertRO (g : Ghost) (w : World) (hb m1 m2 m3 mask : Nat) (T : Ct.Tab) (th hd : Int) (key : ByteArray) (x y : Nat) (rt : Int) (ht : TabAt g w hb m1 m2 m3 mask T) (hl : (T.tries.find? (fun p => p.1 == hd)).map (·.2) = some { root := rt, readOnly := true }) (hk : key.size ≤ 64) :
    Calls Tryz.prog 34 #[.pointer (some ⟨hb, 0, none⟩), .int .i64 th, .agg #[.int .i64 1, .int .i64 hd, .string key, .int .u64 (x : Nat), .int .u64 (y : Nat)]] w fun e w' => e = .returned (.int .i64 6) ∧ Below w.heap.size w w' := by
  have hbA : ∀ o, Below w.heap.size w (w.alloc o) := fun o => (Below.refl _ _).alloc (Nat.le_refl _) o
  have hbB : ∀ o o', Below w.heap.size w ((w.alloc o).alloc o') := fun o o' => ((Below.refl _ _).alloc (Nat.le_refl _) o).alloc (by simp) o'
  have cA := fun o => (ht.below (hbA o)).c3
  have cB := fun o o' => (ht.below (hbB o o')).c3
  have hzv : ∀ W : World, (zeroValue 72).run Tryz.prog W = .ok (.agg #[.int .i64 0, .bool false]) W := fun _ => by kernel_rfl
  have hml : mlook (T.tries.map fun p => (p.1, valTrie p.2)) hd = some (.agg #[.int .i64 rt, .bool true]) := by rw [mlook_map, hl]; rfl
  have lA : ∀ o, (Instr.lookup 90 (.map (some m2)) (.int .i64 hd) true).run Tryz.prog ((w.alloc o).drew) = .ok (.tuple #[.agg #[.int .i64 rt, .bool true], .bool true]) ((w.alloc o).drew) := fun o => by
    rw [run_lookup 90 3 72 Tryz.underlying90 Tryz.underlying3 ((w.alloc o).drew) m2 _ ((ht.below (hbA o)).tries.below ⟨rfl, rfl, rfl, Nat.le_refl _, fun _ _ => rfl⟩) _ (hzv _) hd true, hml]; rfl
  have lB : ∀ o o', (Instr.lookup 90 (.map (some m2)) (.int .i64 hd) true).run Tryz.prog (((w.alloc o).alloc o').drew) = .ok (.tuple #[.agg #[.int .i64 rt, .bool true], .bool true]) (((w.alloc o).alloc o').drew) := fun o o' => by
    rw [run_lookup 90 3 72 Tryz.underlying90 Tryz.underlying3 (((w.alloc o).alloc o').drew) m2 _ ((ht.below (hbB o o')).tries.below ⟨rfl, rfl, rfl, Nat.le_refl _, fun _ _ => rfl⟩) _ (hzv _) hd true, hml]; rfl
  clear ht hl hml hzv hbA hbB
  go_enter Tryz.func34, Tryz.ntmps34
  go_wp2_with fail
  go_region
  all_goals
    go_wp2_with (go_at_call 43; refine (valid_any key _ hk).mono ?_; rintro e w' ⟨rfl, rfl⟩)
    go_ret
    exact ⟨rfl, (((Below.refl w.heap.size w).alloc (Nat.le_refl _) _).alloc (by simp) _).drew⟩

end Go.Proofs.YtifehcegnofpkaaGreatDoor
