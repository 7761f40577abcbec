/- The walks of Mod, Trie, and Finish of an operation that is unknown or finished. -/
import Derived.Test.YtahfjiloddfjaaaGreatDoorNum
namespace Go.Proofs.YtahfjiloddfjaaaGreatDoor
open Go.RowKit
set_option linter.unusedVariables false

theorem results_row_tmp {P : Program} {fn : Func} {p u : Tmp} {ty : TypeId} (h : fn.results = #[.cell p ty, .tmp u]) (tmps : Array Value) (w : World) (g : Nat) (t : TypeId) (cs : Array Value) (fr : Nat × Nat) (d : TypeDesc)
    (hp : tmps.getD p undef = .pointer (some ⟨g, 0, none⟩)) (hg : w.heap[g]? = some (.cells cs t fr))
    (hu : P.underlying ty = some d) (hd : (match d with | .struct _ | .array _ _ => true | _ => false) = true) (hi : (P.info? ty).map (·.size) = some cs.size) :
    (results fn tmps).run P w = .ok (.tuple #[.agg cs, tmps.getD u undef]) w := by
  have hp' : tmps[p]?.getD undef = .pointer (some ⟨g, 0, none⟩) := by simpa using hp
  simp [results, h, hp', asAddr, run_loadVar_row w g t ty cs fr d hg hu hd hi, Result.andThen]

theorem mod_eq8 (a : Int) : wrap64 ((IntKind.u64.wrap a).tmod 8) = a % 8 := by
  have e : IntKind.u64.wrap a = a % 18446744073709551616 := rfl
  rw [e, Int.tmod_eq_emod_of_nonneg (by omega)]
  unfold wrap64
  omega
theorem mod_eq16 (a : Int) : wrap64 ((IntKind.u64.wrap a).tmod 16) = a % 16 := by
  have e : IntKind.u64.wrap a = a % 18446744073709551616 := rfl
  rw [e, Int.tmod_eq_emod_of_nonneg (by omega)]
  unfold wrap64
  omega
theorem mod8_any (a : Int) (w : World) (h1 : -9223372036854775808 ≤ a) (h2 : a ≤ 9223372036854775807) : Calls Tryz.prog 10 #[.int .i64 a, .int .i64 8] w fun e w' => e = .returned (.int .i64 (a % 8)) ∧ w = w' := by
  go_enter Tryz.func10, Tryz.ntmps10
  go_wp2_with fail
  go_ret
  exact ⟨ret_int (mod_eq8 a), rfl⟩
theorem mod16_any (a : Int) (w : World) (h1 : -9223372036854775808 ≤ a) (h2 : a ≤ 9223372036854775807) : Calls Tryz.prog 10 #[.int .i64 a, .int .i64 16] w fun e w' => e = .returned (.int .i64 (a % 16)) ∧ w = w' := by
  go_enter Tryz.func10, Tryz.ntmps10
  go_wp2_with fail
  go_ret
  exact ⟨ret_int (mod_eq16 a), rfl⟩

set_option maxRecDepth 100000 in
set_option maxHeartbeats 3000000 in
theorem trie_some (g : Ghost) (w : World) (hb m1 m2 m3 mask : Nat) (T : Ct.Tab) (n : Int) (t : Ct.Trie) (ht : TabAt g w hb m1 m2 m3 mask T) (hl : (T.tries.find? (fun p => p.1 == n)).map (·.2) = some t) :
    Calls Tryz.prog 14 #[.pointer (some ⟨hb, 0, none⟩), .int .i64 n] w fun e w' => e = .returned (.tuple #[.agg #[.int .i64 t.root, .bool t.readOnly], .bool true]) ∧ Below w.heap.size w w' := by
  have hbB : ∀ o, Below w.heap.size w (w.alloc o) := fun o => (Below.refl _ _).alloc (Nat.le_refl _) o
  have cB := fun o => (ht.below (hbB o)).c3
  have hzv : ∀ W : World, (zeroValue 30).run Tryz.prog W = .ok (.agg #[.int .i64 0, .bool false]) W := fun _ => by kernel_rfl
  have lB : ∀ o, (Instr.lookup 54 (.map (some m2)) (.int .i64 n) true).run Tryz.prog (w.alloc o) = .ok (.tuple #[.agg #[.int .i64 t.root, .bool t.readOnly], .bool true]) (w.alloc o) := fun o => by
    rw [run_lookup 54 3 30 Tryz.underlying54 Tryz.underlying3 (w.alloc o) m2 _ (ht.below (hbB o)).tries _ (hzv _) _ true, mlook_map, hl]; rfl
  clear ht hl hbB hzv
  go_enter Tryz.func14, Tryz.ntmps14
  go_wp2_with fail
  refine bodyPost_ret (v := .tuple #[.agg #[.int .i64 t.root, .bool t.readOnly], .bool true]) (results_row_tmp Tryz.results14 _ _ w.heap.size 30 _ (0, 0) _ rfl (heap_alloc_of (heap_alloc_at w _) _) Tryz.underlying30 rfl info_Trie_size) rfl ?_
  exact ⟨rfl, (((Below.refl _ _).alloc (Nat.le_refl _) _).alloc (by simp) _)⟩

set_option maxRecDepth 100000 in
set_option maxHeartbeats 3000000 in
theorem trie_none (g : Ghost) (w : World) (hb m1 m2 m3 mask : Nat) (T : Ct.Tab) (n : Int) (ht : TabAt g w hb m1 m2 m3 mask T) (hl : (T.tries.find? (fun p => p.1 == n)).map (·.2) = none) :
    Calls Tryz.prog 14 #[.pointer (some ⟨hb, 0, none⟩), .int .i64 n] w fun e w' => e = .returned (.tuple #[.agg #[.int .i64 0, .bool false], .bool false]) ∧ Below w.heap.size w w' := by
  have hbB : ∀ o, Below w.heap.size w (w.alloc o) := fun o => (Below.refl _ _).alloc (Nat.le_refl _) o
  have cB := fun o => (ht.below (hbB o)).c3
  have hzv : ∀ W : World, (zeroValue 30).run Tryz.prog W = .ok (.agg #[.int .i64 0, .bool false]) W := fun _ => by kernel_rfl
  have lB : ∀ o, (Instr.lookup 54 (.map (some m2)) (.int .i64 n) true).run Tryz.prog (w.alloc o) = .ok (.tuple #[.agg #[.int .i64 0, .bool false], .bool false]) (w.alloc o) := fun o => by
    rw [run_lookup 54 3 30 Tryz.underlying54 Tryz.underlying3 (w.alloc o) m2 _ (ht.below (hbB o)).tries _ (hzv _) _ true, mlook_map, hl]; rfl
  clear ht hl hbB hzv
  go_enter Tryz.func14, Tryz.ntmps14
  go_wp2_with fail
  refine bodyPost_ret (v := .tuple #[.agg #[.int .i64 0, .bool false], .bool false]) (results_row_tmp Tryz.results14 _ _ w.heap.size 30 _ (0, 0) _ rfl (heap_alloc_of (heap_alloc_at w _) _) Tryz.underlying30 rfl info_Trie_size) rfl ?_
  exact ⟨rfl, (((Below.refl _ _).alloc (Nat.le_refl _) _).alloc (by simp) _)⟩

set_option maxRecDepth 100000 in
set_option maxHeartbeats 3000000 in
theorem finish_unknown (g : Ghost) (w : World) (hb m1 m2 m3 mask : Nat) (T : Ct.Tab) (th ix : Int)  (c0 c1 c2 c3 c4 c5 c6 c7 : Value) (ht : TabAt g w hb m1 m2 m3 mask T) (hl : (T.ops.find? (fun p => p.1 == Ct.numberC th ix)).map (·.2) = none) :
    Calls Tryz.prog 11 #[.pointer (some ⟨hb, 0, none⟩), .int .i64 th, .int .i64 ix, .agg #[c0, c1, c2, c3, c4, c5, c6, c7]] w fun e w' => e = .returned (.agg (resCells {}).toArray) ∧ Below w.heap.size w w' := by
  have hbB : ∀ o o', Below w.heap.size w ((w.alloc o).alloc o') := fun o o' => ((Below.refl _ _).alloc (Nat.le_refl _) o).alloc (by simp) o'
  have cB := fun o o' => (ht.below (hbB o o')).c2
  have hzv : ∀ W : World, (zeroValue 60).run Tryz.prog W = .ok (.agg #[.int .i64 0, .int .i64 0, .bool false, .bool false]) W := fun _ => by kernel_rfl
  have lB : ∀ o o', (Instr.lookup 53 (.map (some m1)) (.int .i64 (Ct.numberC th ix)) true).run Tryz.prog ((w.alloc o).alloc o') = .ok (.tuple #[.agg #[.int .i64 0, .int .i64 0, .bool false, .bool false], .bool false]) ((w.alloc o).alloc o') := fun o o' => by
    rw [run_lookup 53 3 60 Tryz.underlying53 Tryz.underlying3 ((w.alloc o).alloc o') m1 _ (ht.below (hbB o o')).ops _ (hzv _) _ true, mlook_map, hl]; rfl
  have HN := Lib.hid (number_any th ix)
  have hNW := (((News.nil w).alloc (.cells #[c0, c1, c2, c3, c4, c5, c6, c7] 32)).alloc (.cells zeroRes 32)).alloc (.cells #[.int .i64 0, .int .i64 0, .bool false, .bool false] 60)
  have HNW := Lib.hid hNW
  clear ht hl hbB hzv hNW
  generalize Ct.numberC th ix = num at *
  go_enter Tryz.func11, Tryz.ntmps11
  go_wp2_with (go_at_call 5; refine (HN.out _).mono ?_; rintro e w' ⟨rfl, rfl⟩)
  refine bodyPost_ret (v := .agg (resCells {}).toArray) (results_cell_row Tryz.results11 _ _ (w.heap.size + 1) 32 _ (0, 0) _ rfl (HNW.out.at_ 1 _ rfl) Tryz.underlying32 rfl info_Result_size) rfl ?_
  exact ⟨rfl, HNW.out.below⟩

set_option maxRecDepth 100000 in
set_option maxHeartbeats 3000000 in
theorem finish_again (g : Ghost) (w : World) (hb m1 m2 m3 mask : Nat) (T : Ct.Tab) (th ix : Int) (kd : Int) (t0 : Ct.Trie) (c0 c1 c2 c3 c4 c5 c6 c7 : Value) (ht : TabAt g w hb m1 m2 m3 mask T) (hl : (T.ops.find? (fun p => p.1 == Ct.numberC th ix)).map (·.2) = some (kd, t0, true)) :
    Calls Tryz.prog 11 #[.pointer (some ⟨hb, 0, none⟩), .int .i64 th, .int .i64 ix, .agg #[c0, c1, c2, c3, c4, c5, c6, c7]] w fun e w' => e = .returned (.agg (resCells {}).toArray) ∧ Below w.heap.size w w' := by
  have hbB : ∀ o o', Below w.heap.size w ((w.alloc o).alloc o') := fun o o' => ((Below.refl _ _).alloc (Nat.le_refl _) o).alloc (by simp) o'
  have cB := fun o o' => (ht.below (hbB o o')).c2
  have hzv : ∀ W : World, (zeroValue 60).run Tryz.prog W = .ok (.agg #[.int .i64 0, .int .i64 0, .bool false, .bool false]) W := fun _ => by kernel_rfl
  have lB : ∀ o o', (Instr.lookup 53 (.map (some m1)) (.int .i64 (Ct.numberC th ix)) true).run Tryz.prog ((w.alloc o).alloc o') = .ok (.tuple #[.agg #[.int .i64 kd, .int .i64 t0.root, .bool t0.readOnly, .bool true], .bool true]) ((w.alloc o).alloc o') := fun o o' => by
    rw [run_lookup 53 3 60 Tryz.underlying53 Tryz.underlying3 ((w.alloc o).alloc o') m1 _ (ht.below (hbB o o')).ops _ (hzv _) _ true, mlook_map, hl]; rfl
  have HN := Lib.hid (number_any th ix)
  have hNW := (((News.nil w).alloc (.cells #[c0, c1, c2, c3, c4, c5, c6, c7] 32)).alloc (.cells zeroRes 32)).alloc (.cells #[.int .i64 kd, .int .i64 t0.root, .bool t0.readOnly, .bool true] 60)
  have HNW := Lib.hid hNW
  clear ht hl hbB hzv hNW
  generalize Ct.numberC th ix = num at *
  go_enter Tryz.func11, Tryz.ntmps11
  go_wp2_with (go_at_call 5; refine (HN.out _).mono ?_; rintro e w' ⟨rfl, rfl⟩)
  refine bodyPost_ret (v := .agg (resCells {}).toArray) (results_cell_row Tryz.results11 _ _ (w.heap.size + 1) 32 _ (0, 0) _ rfl (HNW.out.at_ 1 _ rfl) Tryz.underlying32 rfl info_Result_size) rfl ?_
  exact ⟨rfl, HNW.out.below⟩

end Go.Proofs.YtahfjiloddfjaaaGreatDoor
