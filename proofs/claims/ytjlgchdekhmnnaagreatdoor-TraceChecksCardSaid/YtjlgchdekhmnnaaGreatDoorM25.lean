/- Parts of a proof: OpsT, Begin1, Begin2. -/
import Derived.Test.YtjlgchdekhmnnaaGreatDoorM24
import Derived.RegionTactic
section
namespace Go.Proofs.YtjlgchdekhmnnaaGreatDoor
open Go.RowKit
set_option linter.unusedVariables false
set_option linter.unusedVariables false
variable {O : Nat → Prop}
def MadeTask (g : Ghost) (w : World) (c : Ct.Code × Ct.St) (e : Ending) (w' : World) : Prop :=
  ∃ tb vn vc N O', e = .returned (.pointer (some ⟨tb, 0, none⟩)) ∧ w.heap.size ≤ tb ∧ ArenaAt ⟨g.a, vn, vc, N⟩ w' c.2 ∧ Step g w ⟨g.a, vn, vc, N⟩ w' ∧ (∀ k, O' k → w.heap.size ≤ k) ∧ TaskAt O' ⟨g.a, vn, vc, N⟩ w' tb c.1 0
theorem MadeTask.of {g g1 : Ghost} {w W : World} {tb : Nat} {c : Ct.Code × Ct.St} {e : Ending} {w' : World} (hst : Step g w g1 W) (ht : W.heap.size ≤ tb) (hO : ∀ k, O k → w.heap.size ≤ k) (h : TaskRes O tb g1 W (.pointer (some ⟨tb, 0, none⟩)) c 0 e w') : MadeTask g w c e w' := by
  obtain ⟨rfl, vn, vc, N, O', ha, hs, ho, htk⟩ := h
  rw [hst.a] at ha hs htk
  refine ⟨tb, vn, vc, N, O', rfl, Nat.le_trans hst.keep.size ht, ha, ⟨rfl, ?_, fun k hk => ?_, fun k hk => hs.old k (hst.old k hk), fun k hk => ?_⟩, fun k hk => (ho k hk).elim (hO k) (fun h => Nat.le_trans hst.keep.size h), htk⟩
  · exact hst.keep.trans hs.keep (fun k h1 => h1.elim (hst.foot k) (fun e => .inr (e.elim (fun e => by have := hst.keep.size; omega) (hO k))))
  · exact (hs.new k hk).elim (hst.new k) (fun h => .inr (Nat.le_trans hst.keep.size h))
  · exact (hs.foot k hk).elim (hst.foot k) (fun h => .inr (Nat.le_trans hst.keep.size h))
set_option maxRecDepth 100000 in
set_option maxHeartbeats 400000 in
theorem freeze_any (g : Ghost) (w : World) (s : Ct.St) (t : Ct.Trie) (h : ArenaAt g w s) (hfin : Fin 1000 s) :
    Calls Tryz.prog 86 #[g.sv, .agg #[.int .i64 t.root, .bool t.readOnly]] w (MadeTask g w (Ct.apply Ct.stOps (.frz0 t) 0 s)) := by
  have hNW := (((News.nil w).alloc (.cells #[g.sv] 95)).alloc (.cells #[.int .i64 t.root, .bool t.readOnly] 43)).alloc (.cells (opCells g.sv t) 181)
  obtain ⟨W0, hW0⟩ : ∃ W, ((w.alloc (.cells #[g.sv] 95)).alloc (.cells #[.int .i64 t.root, .bool t.readOnly] 43)).alloc (.cells (opCells g.sv t) 181) = W := ⟨_, rfl⟩
  rw [hW0] at hNW
  have hk : KRep g.sv g.N (fun _ => False) W0 (.func (.func 120) #[] #[ptr (w.heap.size + 1), ptr w.heap.size, ptr (w.heap.size + 2)]) (.frz0 t) :=
    ⟨_, _, _, rfl, blk_new h (by omega) (hNW.at_ 1 _ rfl), blk_new h (by omega) (hNW.at_ 0 _ rfl), blk_new h (by omega) (hNW.at_ 2 _ rfl)⟩
  have hc := taskNew_any (.frz0 t) g W0 s _ _ _ ⟨(h.below hNW.below), fun _ h => h.elim⟩ hfin hk (clo_frz0 t)
  have HC := Lib.hid (with_world hW0 hc); have HB := Lib.hid hNW.below
  have hmf := hmfG
  clear h hfin hNW hW0 hk hc
  unfold Ghost.sv
  go_enter Tryz.func86, Tryz.ntmps86
  go_wp2_with fail
  refine HC.out.mono ?_
  rintro e w1 hr
  have HR := Lib.hid (MadeTask.of (Step.below HB.out) (Nat.le_refl _) (fun _ h => h.elim) hr)
  obtain ⟨rfl, _⟩ := hr
  go_wp2_with fail
  go_ret
  exact HR.out
set_option maxRecDepth 100000 in
set_option maxHeartbeats 400000 in
theorem finished_any (g : Ghost) (w : World) (s : Ct.St) (hb m1 m2 m3 mask : Nat) (T : Ct.Tab) (r : Ct.Result) (h : ArenaAt g w s) (ht : TabAt g w hb m1 m2 m3 mask T) (hfin : Fin 1000 s) :
    Calls Tryz.prog 49 #[.pointer (some ⟨hb, 0, none⟩), .agg (resCells r).toArray] w (MadeTask g w (.done r, s)) := by
  have hbel := (Below.refl w.heap.size w).alloc (Nat.le_refl _) (.cells (resCells r).toArray 45)
  obtain ⟨W0, hW0⟩ : ∃ W, w.alloc (.cells (resCells r).toArray 45) = W := ⟨_, rfl⟩
  have hx := heap_alloc_at w (.cells (resCells r).toArray 45)
  have c0 : (w.alloc (.cells (resCells r).toArray 45)).cell? ⟨hb, 0, none⟩ = some g.sv := (ht.below hbel).c0
  rw [hW0] at hbel hx
  have hk : KRep g.sv g.N (fun _ => False) W0 (.func (.func 77) #[] #[ptr w.heap.size]) (.fin r) := ⟨_, rfl, blk_new h (Nat.le_refl _) hx⟩
  have hc := taskNew_any (.fin r) g W0 s _ _ _ ⟨(h.below hbel), fun _ h => h.elim⟩ hfin hk (clo_fin r)
  have HC := Lib.hid (with_world hW0 hc); have HB := Lib.hid hbel
  have hmf := hmfG
  unfold resCells at c0
  clear h hfin hW0 hk hc hx hbel ht
  unfold Ghost.sv at c0
  unfold resCells
  go_enter Tryz.func49, Tryz.ntmps49
  go_wp2_with fail
  refine HC.out.mono ?_
  rintro e w1 hr
  have HR := Lib.hid (MadeTask.of (Step.below HB.out) (Nat.le_refl _) (fun _ h => h.elim) hr)
  obtain ⟨rfl, _⟩ := hr
  go_wp2_with fail
  go_ret
  exact HR.out
end Go.Proofs.YtjlgchdekhmnnaaGreatDoor
end
section
namespace Go.Ct
def numberC (t i : Int) : Int := if t < 0 ∨ 8 ≤ t ∨ i < 0 ∨ 16 ≤ i then -1 else 1 + 16 * t + i
end Go.Ct
namespace Go.Proofs.YtjlgchdekhmnnaaGreatDoor
open Go.RowKit
set_option linter.unusedVariables false
theorem ret_int {k : IntKind} {a b : Int} (h : a = b) : Ending.returned (.int k a) = .returned (.int k b) := by rw [h]
theorem number_any (t i : Int) (w : World) : Calls Tryz.prog 15 #[.int .i64 t, .int .i64 i] w fun e w' => e = .returned (.int .i64 (Ct.numberC t i)) ∧ w = w' := by
  by_cases h1 : t < 0
  · have HE := Lib.hid (show Ct.numberC t i = -1 by unfold Ct.numberC; rw [if_pos (by omega)])
    go_enter Tryz.func15, Tryz.ntmps15
    go_wp2_with fail
    go_ret
    exact ⟨ret_int HE.out.symm, rfl⟩
  · by_cases h2 : 8 ≤ t
    · have HE := Lib.hid (show Ct.numberC t i = -1 by unfold Ct.numberC; rw [if_pos (by omega)])
      go_enter Tryz.func15, Tryz.ntmps15
      go_wp2_with fail
      go_ret
      exact ⟨ret_int HE.out.symm, rfl⟩
    · by_cases h3 : i < 0
      · have HE := Lib.hid (show Ct.numberC t i = -1 by unfold Ct.numberC; rw [if_pos (by omega)])
        go_enter Tryz.func15, Tryz.ntmps15
        go_wp2_with fail
        go_ret
        exact ⟨ret_int HE.out.symm, rfl⟩
      · by_cases h4 : 16 ≤ i
        · have HE := Lib.hid (show Ct.numberC t i = -1 by unfold Ct.numberC; rw [if_pos (by omega)])
          go_enter Tryz.func15, Tryz.ntmps15
          go_wp2_with fail
          go_ret
          exact ⟨ret_int HE.out.symm, rfl⟩
        · have HE := Lib.hid (show Ct.numberC t i = 1 + t * 16 + i by unfold Ct.numberC; rw [if_neg (by omega)]; omega)
          have b1 : 0 ≤ t := by omega
          have b2 : t ≤ 7 := by omega
          have b3 : 0 ≤ i := by omega
          have b4 : i ≤ 15 := by omega
          clear h1 h2 h3 h4
          have q1 : ¬ t < 0 := by omega
          have q2 : ¬ 8 ≤ t := by omega
          have q3 : ¬ i < 0 := by omega
          have q4 : ¬ 16 ≤ i := by omega
          go_enter Tryz.func15, Tryz.ntmps15
          go_wp2_with fail
          go_ret
          exact ⟨ret_int HE.out.symm, rfl⟩
theorem MadeTask.below {g : Ghost} {w W : World} {c : Ct.Code × Ct.St} {e : Ending} {w' : World} (hb : Below w.heap.size w W) (h : MadeTask g W c e w') : MadeTask g w c e w' := by
  obtain ⟨tb, vn, vc, N, O', rfl, ht, ha, hs, ho, htk⟩ := h
  exact ⟨tb, vn, vc, N, O', rfl, Nat.le_trans hb.size ht, ha, (Step.below hb).trans hs, fun k hk => Nat.le_trans hb.size (ho k hk), htk⟩
theorem cells_after {g g' : Ghost} {w W w' : World} {s : Ct.St} {hb m1 m2 m3 mask : Nat} {T : Ct.Tab} {t : Ct.Trie} (hB : Below w.heap.size w W) (h : ArenaAt g w s) (ht : TabAt g w hb m1 m2 m3 mask T) (hx : W.heap[w.heap.size]? = some (.cells #[.int .i64 t.root, .bool t.readOnly] 43 (0, 0))) (hs : Step g W g' w') :
    w'.cell? ⟨hb, 0, none⟩ = some (.iface 23 (.pointer (some ⟨g.a, 0, none⟩))) ∧ w'.cell? ⟨w.heap.size, 0, none⟩ = some (.int .i64 t.root) ∧ w'.cell? ⟨w.heap.size, 1, none⟩ = some (.bool t.readOnly) ∧ True := by
  have hlt := (Array.getElem?_eq_some_iff.1 hx).1
  have hx' : w'.heap[w.heap.size]? = some (.cells #[.int .i64 t.root, .bool t.readOnly] 43 (0, 0)) := by rw [hs.keep.block _ hlt (fun hf => absurd (h.nlt _ (h.foot _ hf)) (by omega))]; exact hx
  have hb' : w'.heap[hb]? = some (.cells #[g.sv, .int .u64 (mask : Nat), .map (some m1), .map (some m2), .map (some m3)] 100 (0, 0)) := by rw [hs.keep.block _ (ht.below hB).lt ht.out.1]; exact (ht.below hB).blk
  exact ⟨cell_at hb' 0, cell_at hx' 0, cell_at hx' 1, trivial⟩
set_option maxRecDepth 100000 in
set_option maxHeartbeats 800000 in
theorem start_freeze (g : Ghost) (w : World) (s : Ct.St) (hb m1 m2 m3 mask : Nat) (T : Ct.Tab) (t : Ct.Trie) (hd : Int) (key : ByteArray) (x y : Nat) (h : ArenaAt g w s) (ht : TabAt g w hb m1 m2 m3 mask T) (hfin : Fin 1000 s) :
    Calls Tryz.prog 51 #[.pointer (some ⟨hb, 0, none⟩), .agg #[.int .i64 t.root, .bool t.readOnly], .agg #[.int .i64 9, .int .i64 hd, .string key, .int .u64 (x : Nat), .int .u64 (y : Nat)]] w (MadeTask g w (Ct.apply Ct.stOps (.frz0 t) 0 s)) := by
  have hNW := ((News.nil w).alloc (.cells #[.int .i64 t.root, .bool t.readOnly] 43)).alloc (.cells #[.int .i64 9, .int .i64 hd, .string key, .int .u64 (x : Nat), .int .u64 (y : Nat)] 35)
  obtain ⟨W0, hW0⟩ : ∃ W, (w.alloc (.cells #[.int .i64 t.root, .bool t.readOnly] 43)).alloc (.cells #[.int .i64 9, .int .i64 hd, .string key, .int .u64 (x : Nat), .int .u64 (y : Nat)] 35) = W := ⟨_, rfl⟩
  rw [hW0] at hNW
  have hB0 : Below w.heap.size w W0.drew := ⟨hNW.below.os, hNW.below.tape, hNW.below.output, hNW.below.size, hNW.below.block⟩
  have hf := freeze_any g W0.drew s t (h.below hB0) hfin
  have hx : W0.drew.heap[w.heap.size]? = some (.cells #[.int .i64 t.root, .bool t.readOnly] 43 (0, 0)) := hNW.at_ 0 _ rfl
  have HC0 := Lib.hid ((ht.below hB0).c0); have HC1 : Hid (W0.drew.cell? ⟨w.heap.size, 0, none⟩ = some (.int .i64 t.root)) := cell_at hx 0; have HC2 : Hid (W0.drew.cell? ⟨w.heap.size, 1, none⟩ = some (.bool t.readOnly)) := cell_at hx 1
  have HF := Lib.hid hf; have HB := Lib.hid hB0; have HB0 := Lib.hid hB0; have HX := Lib.hid hx
  have HT := Lib.hid ht; have H := Lib.hid h; have HW := Lib.hid hW0
  clear h ht hfin hNW hW0 hB0 hf hx
  unfold Ghost.sv at HC0 HF
  go_enter Tryz.func51, Tryz.ntmps51
  go_wp2_with fail
  refine code_world HW.out ?_
  refine wp_region_held_drew (S := fun W' => W'.cell? ⟨hb, 0, none⟩ = some (.iface 23 (.pointer (some ⟨g.a, 0, none⟩))) ∧ W'.cell? ⟨w.heap.size, 0, none⟩ = some (.int .i64 t.root) ∧ W'.cell? ⟨w.heap.size, 1, none⟩ = some (.bool t.readOnly) ∧ True) (by kernel_rfl) ⟨HC0.out, HC1.out, HC2.out, trivial⟩ (fun hS => ?_)
  refine wpAnyH_take (i := 0) (oi := { dst := (some 77), op := (Op.move (Operand.tmp 0)), type := 25, pos := "handle.go:138", after := #[], guard := none }) (v := .pointer (some ⟨hb, 0, none⟩)) rfl (by kernel_rfl) (by kernel_rfl) (by kernel_rfl) (fun _ _ _ h => h) (Or.inl ⟨by rfl, fun W' hW => ?_⟩) hS ?_
  · go_simp
  (try simp only [Act.put, sI, sZ, sS])
  refine wpAnyH_take (i := 1) (oi := { dst := (some 78), op := (Op.nilCheck (Operand.tmp 77)), type := 0, pos := "handle.go:138", after := #[⟨0, .data⟩], guard := none }) (v := .pointer (some ⟨hb, 0, none⟩)) rfl (by kernel_rfl) (by kernel_rfl) (by kernel_rfl) (fun _ _ _ h => h) (Or.inl ⟨by rfl, fun W' hW => ?_⟩) hS ?_
  · go_simp
  (try simp only [Act.put, sI, sZ, sS])
  refine wpAnyH_take (i := 2) (oi := { dst := (some 79), op := (Op.fieldAddr 100 (Operand.tmp 78) 0), type := 0, pos := "handle.go:138", after := #[⟨1, .data⟩], guard := none }) (v := .pointer (some ⟨hb, 0, none⟩)) rfl (by kernel_rfl) (by kernel_rfl) (by kernel_rfl) (fun _ _ _ h => h) (Or.inl ⟨by rfl, fun W' hW => ?_⟩) hS ?_
  · go_simp
  (try simp only [Act.put, sI, sZ, sS])
  refine wpAnyH_take (i := 3) (oi := { dst := (some 80), op := (Op.load 95 (Operand.tmp 79)), type := 95, pos := "handle.go:138", after := #[⟨2, .data⟩], guard := none }) (v := .iface 23 (.pointer (some ⟨g.a, 0, none⟩))) rfl (by kernel_rfl) (by kernel_rfl) (by kernel_rfl) (fun _ _ _ h => h) (Or.inl ⟨by rfl, fun W' hW => ?_⟩) hS ?_
  · go_simp
  (try simp only [Act.put, sI, sZ, sS])
  refine wpAnyH_take (i := 4) (oi := { dst := (some 81), op := (Op.load 43 (Operand.tmp 4)), type := 43, pos := "handle.go:138", after := #[], guard := none }) (v := .agg #[.int .i64 t.root, .bool t.readOnly]) rfl (by kernel_rfl) (by kernel_rfl) (by kernel_rfl) (fun _ _ _ h => h) (Or.inl ⟨by rfl, fun W' hW => ?_⟩) hS ?_
  · go_simp
  (try simp only [Act.put, sI, sZ, sS])
  refine wpAnyH_ready (rs := [5]) (by kernel_rfl) (by simp) ?_
  refine AllReadyH.cons (o := { dst := (some 82), op := (Op.call { callee := (Callee.value (Operand.func 86)), args := #[(Operand.tmp 80), (Operand.tmp 81)], argTypes := #[95, 43] }), type := 29, pos := "handle.go:138", after := #[⟨3, .data⟩, ⟨4, .data⟩], guard := none }) rfl (fun K hK => ?_) AllReadyH.nil
  go_simp
  refine HF.out.mono ?_
  rintro e w1 hr
  have HR := Lib.hid (MadeTask.below HB.out hr)
  obtain ⟨tb, vn, vc, N, O', rfl, htb, ha, hs, ho, htk⟩ := hr
  have HCC := Lib.hid (cells_after HB0.out H.out HT.out HX.out hs)
  clear htb ha hs htk
  refine hK.out _ _ HCC.out (fun hS => ?_)
  clear hK K
  (try simp only [Act.put, sI, sZ, sS])
  refine wpAnyH_ready (rs := [6]) (by kernel_rfl) (by simp) ?_
  refine AllReadyH.cons (o := { dst := (some 6), op := (Op.assign (Operand.tmp 82)), type := 29, pos := "handle.go:138", after := #[⟨5, .data⟩, ⟨5, .chain⟩, ⟨0, .phase⟩, ⟨1, .phase⟩, ⟨2, .phase⟩, ⟨3, .phase⟩, ⟨4, .phase⟩, ⟨5, .phase⟩], guard := none }) rfl (fun K hK => ?_) AllReadyH.nil
  go_simp
  refine hK.out _ _ hS (fun hS => ?_)
  clear hK K
  (try simp only [Act.put, sI, sZ, sS])
  refine wpAnyH_done (by kernel_rfl) ?_ _
  go_wp2_with fail
  go_ret
  exact HR.out
end Go.Proofs.YtjlgchdekhmnnaaGreatDoor
end
section
namespace Go.Proofs.YtjlgchdekhmnnaaGreatDoor
open Go.RowKit
set_option linter.unusedVariables false
theorem Below.drew {B : Nat} {w w' : World} (h : Below B w w') : Below B w w'.drew := ⟨h.os, h.tape, h.output, h.size, h.block⟩
theorem valid_any (key : ByteArray) (w : World) (hk : key.size ≤ 64) : Calls Tryz.prog 80 #[.string key] w fun e w' => e = .returned (.bool true) ∧ w = w' := by
  have q : decide ((key.size : Int) ≤ 64) = true := by simp; omega
  go_enter Tryz.func80, Tryz.ntmps80
  go_wp2_with fail
  go_ret
  exact ⟨rfl, rfl⟩
set_option maxRecDepth 100000 in
set_option maxHeartbeats 1600000 in
theorem refusal_freeze (g : Ghost) (w : World) (hb m1 m2 m3 mask : Nat) (T : Ct.Tab) (th hd : Int) (key : ByteArray) (x y : Nat) (t : Ct.Trie) (ht : TabAt g w hb m1 m2 m3 mask T) (hl : (T.tries.find? (fun p => p.1 == hd)).map (·.2) = some t) :
    Calls Tryz.prog 50 #[.pointer (some ⟨hb, 0, none⟩), .int .i64 th, .agg #[.int .i64 9, .int .i64 hd, .string key, .int .u64 (x : Nat), .int .u64 (y : Nat)]] w fun e w' => e = .returned (.int .i64 0) ∧ Below w.heap.size w w' := by
  have hbA : ∀ o, Below w.heap.size w (w.alloc o) := fun o => (Below.refl _ _).alloc (Nat.le_refl _) o
  have hbB : ∀ o o', Below w.heap.size w ((w.alloc o).alloc o') := fun o o' => ((Below.refl _ _).alloc (Nat.le_refl _) o).alloc (by simp) o'
  have cA := fun o => (ht.below (hbA o)).c3
  have cB := fun o o' => (ht.below (hbB o o')).c3
  have hzv : ∀ W : World, (zeroValue 43).run Tryz.prog W = .ok (.agg #[.int .i64 0, .bool false]) W := fun _ => by kernel_rfl
  have hml : mlook (T.tries.map fun p => (p.1, valTrie p.2)) hd = some (.agg #[.int .i64 t.root, .bool t.readOnly]) := by rw [mlook_map, hl]; rfl
  have lA : ∀ o, (Instr.lookup 97 (.map (some m2)) (.int .i64 hd) true).run Tryz.prog ((w.alloc o).drew) = .ok (.tuple #[.agg #[.int .i64 t.root, .bool t.readOnly], .bool true]) ((w.alloc o).drew) := fun o => by
    rw [run_lookup 97 3 43 Tryz.underlying97 Tryz.underlying3 ((w.alloc o).drew) m2 _ ((ht.below (hbA o)).tries.below ⟨rfl, rfl, rfl, Nat.le_refl _, fun _ _ => rfl⟩) _ (hzv _) hd true, hml]; rfl
  have lB : ∀ o o', (Instr.lookup 97 (.map (some m2)) (.int .i64 hd) true).run Tryz.prog (((w.alloc o).alloc o').drew) = .ok (.tuple #[.agg #[.int .i64 t.root, .bool t.readOnly], .bool true]) (((w.alloc o).alloc o').drew) := fun o o' => by
    rw [run_lookup 97 3 43 Tryz.underlying97 Tryz.underlying3 (((w.alloc o).alloc o').drew) m2 _ ((ht.below (hbB o o')).tries.below ⟨rfl, rfl, rfl, Nat.le_refl _, fun _ _ => rfl⟩) _ (hzv _) hd true, hml]; rfl
  have HV := Lib.hid (valid_any .empty w (by decide))
  clear ht hl hml hzv hbA hbB
  go_enter Tryz.func50, Tryz.ntmps50
  go_wp2_with fail
  go_region
  all_goals
    go_wp2_with (go_at_call 80; refine HV.out.mono ?_; rintro e w' ⟨rfl, rfl⟩)
    go_ret
    exact ⟨rfl, (((Below.refl w.heap.size w).alloc (Nat.le_refl _) _).alloc (by simp) _).drew⟩
end Go.Proofs.YtjlgchdekhmnnaaGreatDoor
end
