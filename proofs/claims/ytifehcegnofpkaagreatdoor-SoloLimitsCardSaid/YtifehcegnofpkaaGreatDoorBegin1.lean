/- The walks of handle's Number, refusal, start. -/
import Derived.Test.YtifehcegnofpkaaGreatDoorOpsT
namespace Go.Ct
def numberC (t i : Int) : Int := if t < 0 ∨ 8 ≤ t ∨ i < 0 ∨ 16 ≤ i then -1 else 1 + 16 * t + i
end Go.Ct
namespace Go.Proofs.YtifehcegnofpkaaGreatDoor
open Go.RowKit
set_option linter.unusedVariables false

theorem ret_int {k : IntKind} {a b : Int} (h : a = b) : Ending.returned (.int k a) = .returned (.int k b) := by rw [h]
theorem number_any (t i : Int) (w : World) : Calls Tryz.prog 32 #[.int .i64 t, .int .i64 i] w fun e w' => e = .returned (.int .i64 (Ct.numberC t i)) ∧ w = w' := by
  by_cases h1 : t < 0
  · have HE := Lib.hid (show Ct.numberC t i = -1 by unfold Ct.numberC; rw [if_pos (by omega)])
    go_enter Tryz.func32, Tryz.ntmps32
    go_wp2_with fail
    go_ret
    exact ⟨ret_int HE.out.symm, rfl⟩
  · by_cases h2 : 8 ≤ t
    · have HE := Lib.hid (show Ct.numberC t i = -1 by unfold Ct.numberC; rw [if_pos (by omega)])
      go_enter Tryz.func32, Tryz.ntmps32
      go_wp2_with fail
      go_ret
      exact ⟨ret_int HE.out.symm, rfl⟩
    · by_cases h3 : i < 0
      · have HE := Lib.hid (show Ct.numberC t i = -1 by unfold Ct.numberC; rw [if_pos (by omega)])
        go_enter Tryz.func32, Tryz.ntmps32
        go_wp2_with fail
        go_ret
        exact ⟨ret_int HE.out.symm, rfl⟩
      · by_cases h4 : 16 ≤ i
        · have HE := Lib.hid (show Ct.numberC t i = -1 by unfold Ct.numberC; rw [if_pos (by omega)])
          go_enter Tryz.func32, Tryz.ntmps32
          go_wp2_with fail
          go_ret
          exact ⟨ret_int HE.out.symm, rfl⟩
        · have HE := Lib.hid (show Ct.numberC t i = 1 + t * 16 + i by unfold Ct.numberC; rw [if_neg (by omega)]; omega)
          have b1 : 0 ≤ t := by omega
          have b2 : t ≤ 7 := by omega
          have b3 : 0 ≤ i := by omega
          have b4 : i ≤ 15 := by omega
          clear h1 h2 h3 h4
          have q1 : ¬ t < 0 := by omega
          have q2 : ¬ 8 ≤ t := by omega
          have q3 : ¬ i < 0 := by omega
          have q4 : ¬ 16 ≤ i := by omega
          go_enter Tryz.func32, Tryz.ntmps32
          go_wp2_with fail
          go_ret
          exact ⟨ret_int HE.out.symm, rfl⟩

theorem MadeTask.below {g : Ghost} {w W : World} {c : Ct.Code × Ct.St} {e : Ending} {w' : World} (hb : Below w.heap.size w W) (h : MadeTask g W c e w') : MadeTask g w c e w' := by
  obtain ⟨tb, vn, vc, N, rfl, ht, ha, hs, htk⟩ := h
  exact ⟨tb, vn, vc, N, rfl, Nat.le_trans hb.size ht, ha, (Step.below hb).trans hs, htk⟩
theorem cells_after {g g' : Ghost} {w W w' : World} {s : Ct.St} {hb m1 m2 m3 mask : Nat} {T : Ct.Tab} {t : Ct.Trie} (hB : Below w.heap.size w W) (h : ArenaAt g w s) (ht : TabAt g w hb m1 m2 m3 mask T) (hx : W.heap[w.heap.size]? = some (.cells #[.int .i64 t.root, .bool t.readOnly] 72 (0, 0))) (hs : Step g W g' w') :
    w'.cell? ⟨hb, 0, none⟩ = some (.iface 56 (.pointer (some ⟨g.a, 0, none⟩))) ∧ w'.cell? ⟨w.heap.size, 0, none⟩ = some (.int .i64 t.root) ∧ w'.cell? ⟨w.heap.size, 1, none⟩ = some (.bool t.readOnly) ∧ True := by
  have hlt := (Array.getElem?_eq_some_iff.1 hx).1
  have hx' : w'.heap[w.heap.size]? = some (.cells #[.int .i64 t.root, .bool t.readOnly] 72 (0, 0)) := by rw [hs.keep.block _ hlt (fun hf => absurd (h.nlt _ (h.foot _ hf)) (by omega))]; exact hx
  have hb' : w'.heap[hb]? = some (.cells #[g.sv, .int .u64 (mask : Nat), .map (some m1), .map (some m2), .map (some m3)] 93 (0, 0)) := by rw [hs.keep.block _ (ht.below hB).lt ht.out.1]; exact (ht.below hB).blk
  exact ⟨cell_at hb' 0, cell_at hx' 0, cell_at hx' 1, trivial⟩

set_option maxRecDepth 100000 in
set_option maxHeartbeats 800000 in
theorem start_freeze (g : Ghost) (w : World) (s : Ct.St) (hb m1 m2 m3 mask : Nat) (T : Ct.Tab) (t : Ct.Trie) (hd : Int) (key : ByteArray) (x y : Nat) (h : ArenaAt g w s) (ht : TabAt g w hb m1 m2 m3 mask T) (hfin : Fin 1000 s) :
    Calls Tryz.prog 35 #[.pointer (some ⟨hb, 0, none⟩), .agg #[.int .i64 t.root, .bool t.readOnly], .agg #[.int .i64 9, .int .i64 hd, .string key, .int .u64 (x : Nat), .int .u64 (y : Nat)]] w (MadeTask g w (Ct.apply Ct.stOps (.frz0 t) 0 s)) := by
  have hNW := ((News.nil w).alloc (.cells #[.int .i64 t.root, .bool t.readOnly] 72)).alloc (.cells #[.int .i64 9, .int .i64 hd, .string key, .int .u64 (x : Nat), .int .u64 (y : Nat)] 53)
  obtain ⟨W0, hW0⟩ : ∃ W, (w.alloc (.cells #[.int .i64 t.root, .bool t.readOnly] 72)).alloc (.cells #[.int .i64 9, .int .i64 hd, .string key, .int .u64 (x : Nat), .int .u64 (y : Nat)] 53) = W := ⟨_, rfl⟩
  rw [hW0] at hNW
  have hB0 : Below w.heap.size w W0.drew := ⟨hNW.below.os, hNW.below.tape, hNW.below.output, hNW.below.size, hNW.below.block⟩
  have hf := freeze_any g W0.drew s t (h.below hB0) hfin
  have hx : W0.drew.heap[w.heap.size]? = some (.cells #[.int .i64 t.root, .bool t.readOnly] 72 (0, 0)) := hNW.at_ 0 _ rfl
  have HC0 := Lib.hid ((ht.below hB0).c0); have HC1 : Hid (W0.drew.cell? ⟨w.heap.size, 0, none⟩ = some (.int .i64 t.root)) := cell_at hx 0; have HC2 : Hid (W0.drew.cell? ⟨w.heap.size, 1, none⟩ = some (.bool t.readOnly)) := cell_at hx 1
  have HF := Lib.hid hf; have HB := Lib.hid hB0; have HB0 := Lib.hid hB0; have HX := Lib.hid hx
  have HT := Lib.hid ht; have H := Lib.hid h; have HW := Lib.hid hW0
  clear h ht hfin hNW hW0 hB0 hf hx
  unfold Ghost.sv at HC0 HF
  go_enter Tryz.func35, Tryz.ntmps35
  go_wp2_with fail
  refine code_world HW.out ?_
  refine wp_region_held_drew (S := fun W' => W'.cell? ⟨hb, 0, none⟩ = some (.iface 56 (.pointer (some ⟨g.a, 0, none⟩))) ∧ W'.cell? ⟨w.heap.size, 0, none⟩ = some (.int .i64 t.root) ∧ W'.cell? ⟨w.heap.size, 1, none⟩ = some (.bool t.readOnly) ∧ True) (by kernel_rfl) ⟨HC0.out, HC1.out, HC2.out, trivial⟩ (fun hS => ?_)
  refine wpAnyH_take (i := 0) (oi := { dst := (some 77), op := (Op.move (Operand.tmp 0)), type := 58, pos := "handle.go:138", after := #[], guard := none }) (v := .pointer (some ⟨hb, 0, none⟩)) rfl (by kernel_rfl) (by kernel_rfl) (by kernel_rfl) (fun _ _ _ h => h) (Or.inl ⟨by rfl, fun W' hW => ?_⟩) hS ?_
  · go_simp
  (try simp only [Act.put, List.setIfInBounds_toArray, List.set_cons_zero, List.set_cons_succ])
  refine wpAnyH_take (i := 1) (oi := { dst := (some 78), op := (Op.nilCheck (Operand.tmp 77)), type := 0, pos := "handle.go:138", after := #[{ on := 0, ground := Ground.data }], guard := none }) (v := .pointer (some ⟨hb, 0, none⟩)) rfl (by kernel_rfl) (by kernel_rfl) (by kernel_rfl) (fun _ _ _ h => h) (Or.inl ⟨by rfl, fun W' hW => ?_⟩) hS ?_
  · go_simp
  (try simp only [Act.put, List.setIfInBounds_toArray, List.set_cons_zero, List.set_cons_succ])
  refine wpAnyH_take (i := 2) (oi := { dst := (some 79), op := (Op.fieldAddr 93 (Operand.tmp 78) 0), type := 0, pos := "handle.go:138", after := #[{ on := 1, ground := Ground.data }], guard := none }) (v := .pointer (some ⟨hb, 0, none⟩)) rfl (by kernel_rfl) (by kernel_rfl) (by kernel_rfl) (fun _ _ _ h => h) (Or.inl ⟨by rfl, fun W' hW => ?_⟩) hS ?_
  · go_simp
  (try simp only [Act.put, List.setIfInBounds_toArray, List.set_cons_zero, List.set_cons_succ])
  refine wpAnyH_take (i := 3) (oi := { dst := (some 80), op := (Op.load 88 (Operand.tmp 79)), type := 88, pos := "handle.go:138", after := #[{ on := 2, ground := Ground.data }], guard := none }) (v := .iface 56 (.pointer (some ⟨g.a, 0, none⟩))) rfl (by kernel_rfl) (by kernel_rfl) (by kernel_rfl) (fun _ _ _ h => h) (Or.inl ⟨by rfl, fun W' hW => ?_⟩) hS ?_
  · go_simp
  (try simp only [Act.put, List.setIfInBounds_toArray, List.set_cons_zero, List.set_cons_succ])
  refine wpAnyH_take (i := 4) (oi := { dst := (some 81), op := (Op.load 72 (Operand.tmp 4)), type := 72, pos := "handle.go:138", after := #[], guard := none }) (v := .agg #[.int .i64 t.root, .bool t.readOnly]) rfl (by kernel_rfl) (by kernel_rfl) (by kernel_rfl) (fun _ _ _ h => h) (Or.inl ⟨by rfl, fun W' hW => ?_⟩) hS ?_
  · go_simp
  (try simp only [Act.put, List.setIfInBounds_toArray, List.set_cons_zero, List.set_cons_succ])
  refine wpAnyH_ready (rs := [5]) (by kernel_rfl) (by simp) ?_
  refine AllReadyH.cons (o := { dst := (some 82), op := (Op.call { callee := (Callee.value (Operand.func 49)), args := #[(Operand.tmp 80), (Operand.tmp 81)], argTypes := #[88, 72] }), type := 66, pos := "handle.go:138", after := #[{ on := 3, ground := Ground.data }, { on := 4, ground := Ground.data }], guard := none }) rfl (fun K hK => ?_) AllReadyH.nil
  go_simp
  refine HF.out.mono ?_
  rintro e w1 hr
  have HR := Lib.hid (MadeTask.below HB.out hr)
  obtain ⟨tb, vn, vc, N, rfl, htb, ha, hs, htk⟩ := hr
  have HCC := Lib.hid (cells_after HB0.out H.out HT.out HX.out hs)
  clear htb ha hs htk
  refine hK.out _ _ HCC.out (fun hS => ?_)
  clear hK K
  (try simp only [Act.put, List.setIfInBounds_toArray, List.set_cons_zero, List.set_cons_succ])
  refine wpAnyH_ready (rs := [6]) (by kernel_rfl) (by simp) ?_
  refine AllReadyH.cons (o := { dst := (some 6), op := (Op.assign (Operand.tmp 82)), type := 66, pos := "handle.go:138", after := #[{ on := 5, ground := Ground.data }, { on := 5, ground := Ground.chain }, { on := 0, ground := Ground.phase }, { on := 1, ground := Ground.phase }, { on := 2, ground := Ground.phase }, { on := 3, ground := Ground.phase }, { on := 4, ground := Ground.phase }, { on := 5, ground := Ground.phase }], guard := none }) rfl (fun K hK => ?_) AllReadyH.nil
  go_simp
  refine hK.out _ _ hS (fun hS => ?_)
  clear hK K
  (try simp only [Act.put, List.setIfInBounds_toArray, List.set_cons_zero, List.set_cons_succ])
  refine wpAnyH_done (by kernel_rfl) ?_ _
  go_wp2_with fail
  go_ret
  exact HR.out

set_option maxRecDepth 100000 in
set_option maxHeartbeats 800000 in
theorem start_snapshot (g : Ghost) (w : World) (s : Ct.St) (hb m1 m2 m3 mask : Nat) (T : Ct.Tab) (t : Ct.Trie) (hd : Int) (key : ByteArray) (x y : Nat) (h : ArenaAt g w s) (ht : TabAt g w hb m1 m2 m3 mask T) (hfin : Fin 1000 s) :
    Calls Tryz.prog 35 #[.pointer (some ⟨hb, 0, none⟩), .agg #[.int .i64 t.root, .bool t.readOnly], .agg #[.int .i64 8, .int .i64 hd, .string key, .int .u64 (x : Nat), .int .u64 (y : Nat)]] w (MadeTask g w (Ct.apply Ct.stOps (.snap0 t) 0 s)) := by
  have hNW := ((News.nil w).alloc (.cells #[.int .i64 t.root, .bool t.readOnly] 72)).alloc (.cells #[.int .i64 8, .int .i64 hd, .string key, .int .u64 (x : Nat), .int .u64 (y : Nat)] 53)
  obtain ⟨W0, hW0⟩ : ∃ W, (w.alloc (.cells #[.int .i64 t.root, .bool t.readOnly] 72)).alloc (.cells #[.int .i64 8, .int .i64 hd, .string key, .int .u64 (x : Nat), .int .u64 (y : Nat)] 53) = W := ⟨_, rfl⟩
  rw [hW0] at hNW
  have hB0 : Below w.heap.size w W0.drew := ⟨hNW.below.os, hNW.below.tape, hNW.below.output, hNW.below.size, hNW.below.block⟩
  have hf := snapshot_any g W0.drew s t (h.below hB0) hfin
  have hx : W0.drew.heap[w.heap.size]? = some (.cells #[.int .i64 t.root, .bool t.readOnly] 72 (0, 0)) := hNW.at_ 0 _ rfl
  have HC0 := Lib.hid ((ht.below hB0).c0); have HC1 : Hid (W0.drew.cell? ⟨w.heap.size, 0, none⟩ = some (.int .i64 t.root)) := cell_at hx 0; have HC2 : Hid (W0.drew.cell? ⟨w.heap.size, 1, none⟩ = some (.bool t.readOnly)) := cell_at hx 1
  have HF := Lib.hid hf; have HB := Lib.hid hB0; have HB0 := Lib.hid hB0; have HX := Lib.hid hx
  have HT := Lib.hid ht; have H := Lib.hid h; have HW := Lib.hid hW0
  clear h ht hfin hNW hW0 hB0 hf hx
  unfold Ghost.sv at HC0 HF
  go_enter Tryz.func35, Tryz.ntmps35
  go_wp2_with fail
  refine code_world HW.out ?_
  refine wp_region_held_drew (S := fun W' => W'.cell? ⟨hb, 0, none⟩ = some (.iface 56 (.pointer (some ⟨g.a, 0, none⟩))) ∧ W'.cell? ⟨w.heap.size, 0, none⟩ = some (.int .i64 t.root) ∧ W'.cell? ⟨w.heap.size, 1, none⟩ = some (.bool t.readOnly) ∧ True) (by kernel_rfl) ⟨HC0.out, HC1.out, HC2.out, trivial⟩ (fun hS => ?_)
  refine wpAnyH_take (i := 0) (oi := { dst := (some 69), op := (Op.move (Operand.tmp 0)), type := 58, pos := "handle.go:136", after := #[], guard := none }) (v := .pointer (some ⟨hb, 0, none⟩)) rfl (by kernel_rfl) (by kernel_rfl) (by kernel_rfl) (fun _ _ _ h => h) (Or.inl ⟨by rfl, fun W' hW => ?_⟩) hS ?_
  · go_simp
  (try simp only [Act.put, List.setIfInBounds_toArray, List.set_cons_zero, List.set_cons_succ])
  refine wpAnyH_take (i := 1) (oi := { dst := (some 70), op := (Op.nilCheck (Operand.tmp 69)), type := 0, pos := "handle.go:136", after := #[{ on := 0, ground := Ground.data }], guard := none }) (v := .pointer (some ⟨hb, 0, none⟩)) rfl (by kernel_rfl) (by kernel_rfl) (by kernel_rfl) (fun _ _ _ h => h) (Or.inl ⟨by rfl, fun W' hW => ?_⟩) hS ?_
  · go_simp
  (try simp only [Act.put, List.setIfInBounds_toArray, List.set_cons_zero, List.set_cons_succ])
  refine wpAnyH_take (i := 2) (oi := { dst := (some 71), op := (Op.fieldAddr 93 (Operand.tmp 70) 0), type := 0, pos := "handle.go:136", after := #[{ on := 1, ground := Ground.data }], guard := none }) (v := .pointer (some ⟨hb, 0, none⟩)) rfl (by kernel_rfl) (by kernel_rfl) (by kernel_rfl) (fun _ _ _ h => h) (Or.inl ⟨by rfl, fun W' hW => ?_⟩) hS ?_
  · go_simp
  (try simp only [Act.put, List.setIfInBounds_toArray, List.set_cons_zero, List.set_cons_succ])
  refine wpAnyH_take (i := 3) (oi := { dst := (some 72), op := (Op.load 88 (Operand.tmp 71)), type := 88, pos := "handle.go:136", after := #[{ on := 2, ground := Ground.data }], guard := none }) (v := .iface 56 (.pointer (some ⟨g.a, 0, none⟩))) rfl (by kernel_rfl) (by kernel_rfl) (by kernel_rfl) (fun _ _ _ h => h) (Or.inl ⟨by rfl, fun W' hW => ?_⟩) hS ?_
  · go_simp
  (try simp only [Act.put, List.setIfInBounds_toArray, List.set_cons_zero, List.set_cons_succ])
  refine wpAnyH_take (i := 4) (oi := { dst := (some 73), op := (Op.load 72 (Operand.tmp 4)), type := 72, pos := "handle.go:136", after := #[], guard := none }) (v := .agg #[.int .i64 t.root, .bool t.readOnly]) rfl (by kernel_rfl) (by kernel_rfl) (by kernel_rfl) (fun _ _ _ h => h) (Or.inl ⟨by rfl, fun W' hW => ?_⟩) hS ?_
  · go_simp
  (try simp only [Act.put, List.setIfInBounds_toArray, List.set_cons_zero, List.set_cons_succ])
  refine wpAnyH_ready (rs := [5]) (by kernel_rfl) (by simp) ?_
  refine AllReadyH.cons (o := { dst := (some 74), op := (Op.call { callee := (Callee.value (Operand.func 48)), args := #[(Operand.tmp 72), (Operand.tmp 73)], argTypes := #[88, 72] }), type := 66, pos := "handle.go:136", after := #[{ on := 3, ground := Ground.data }, { on := 4, ground := Ground.data }], guard := none }) rfl (fun K hK => ?_) AllReadyH.nil
  go_simp
  refine HF.out.mono ?_
  rintro e w1 hr
  have HR := Lib.hid (MadeTask.below HB.out hr)
  obtain ⟨tb, vn, vc, N, rfl, htb, ha, hs, htk⟩ := hr
  have HCC := Lib.hid (cells_after HB0.out H.out HT.out HX.out hs)
  clear htb ha hs htk
  refine hK.out _ _ HCC.out (fun hS => ?_)
  clear hK K
  (try simp only [Act.put, List.setIfInBounds_toArray, List.set_cons_zero, List.set_cons_succ])
  refine wpAnyH_ready (rs := [6]) (by kernel_rfl) (by simp) ?_
  refine AllReadyH.cons (o := { dst := (some 6), op := (Op.assign (Operand.tmp 74)), type := 66, pos := "handle.go:136", after := #[{ on := 5, ground := Ground.data }, { on := 5, ground := Ground.chain }, { on := 0, ground := Ground.phase }, { on := 1, ground := Ground.phase }, { on := 2, ground := Ground.phase }, { on := 3, ground := Ground.phase }, { on := 4, ground := Ground.phase }, { on := 5, ground := Ground.phase }], guard := none }) rfl (fun K hK => ?_) AllReadyH.nil
  go_simp
  refine hK.out _ _ hS (fun hS => ?_)
  clear hK K
  (try simp only [Act.put, List.setIfInBounds_toArray, List.set_cons_zero, List.set_cons_succ])
  refine wpAnyH_done (by kernel_rfl) ?_ _
  go_wp2_with fail
  go_ret
  exact HR.out

end Go.Proofs.YtifehcegnofpkaaGreatDoor
