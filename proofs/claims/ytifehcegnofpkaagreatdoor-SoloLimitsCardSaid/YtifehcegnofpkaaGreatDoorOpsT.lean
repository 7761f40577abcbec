/- The walks of snap.Freeze, Snapshot, wipe.Clear, handle.finished: they make tasks. -/
import Derived.Test.YtifehcegnofpkaaGreatDoorTab
namespace Go.Proofs.YtifehcegnofpkaaGreatDoor
open Go.RowKit
set_option linter.unusedVariables false

/-- A call that makes a task. -/
def MadeTask (g : Ghost) (w : World) (c : Ct.Code × Ct.St) (e : Ending) (w' : World) : Prop :=
  ∃ tb vn vc N, e = .returned (.pointer (some ⟨tb, 0, none⟩)) ∧ w.heap.size ≤ tb ∧ ArenaAt ⟨g.a, vn, vc, N⟩ w' c.2 ∧ Step g w ⟨g.a, vn, vc, N⟩ w' ∧ TaskAt ⟨g.a, vn, vc, N⟩ w' tb c.1 0
theorem MadeTask.of {g : Ghost} {w W : World} {tb : Nat} {c : Ct.Code × Ct.St} {e : Ending} {w' : World} (hb : Below w.heap.size w W) (ht : W.heap.size ≤ tb) (h : TaskRes tb g W (.pointer (some ⟨tb, 0, none⟩)) c 0 e w') : MadeTask g w c e w' := by
  obtain ⟨rfl, vn, vc, N, ha, hs, htk⟩ := h
  refine ⟨tb, vn, vc, N, rfl, Nat.le_trans hb.size ht, ha, ⟨hs.a, ?_, fun k hk => ?_, hs.old, fun k hk => ?_⟩, htk⟩
  · exact (Keep.below hb g.Foot).trans hs.keep (fun k h1 => h1.elim .inl (fun e => .inr (by have := hb.size; omega)))
  · exact (hs.new k hk).imp id (fun h => Nat.le_trans hb.size h)
  · exact (hs.foot k hk).imp id (fun h => Nat.le_trans hb.size h)

set_option maxRecDepth 100000 in
set_option maxHeartbeats 400000 in
theorem freeze_any (g : Ghost) (w : World) (s : Ct.St) (t : Ct.Trie) (h : ArenaAt g w s) (hfin : Fin 1000 s) :
    Calls Tryz.prog 49 #[g.sv, .agg #[.int .i64 t.root, .bool t.readOnly]] w (MadeTask g w (Ct.apply Ct.stOps (.frz0 t) 0 s)) := by
  have hNW := (((News.nil w).alloc (.cells #[g.sv] 88)).alloc (.cells #[.int .i64 t.root, .bool t.readOnly] 72)).alloc (.cells (opCells g.sv t) 138)
  obtain ⟨W0, hW0⟩ : ∃ W, ((w.alloc (.cells #[g.sv] 88)).alloc (.cells #[.int .i64 t.root, .bool t.readOnly] 72)).alloc (.cells (opCells g.sv t) 138) = W := ⟨_, rfl⟩
  rw [hW0] at hNW
  have hk : KRep g.sv g.N W0 (.func (.func 76) #[] #[ptr (w.heap.size + 1), ptr w.heap.size, ptr (w.heap.size + 2)]) (.frz0 t) :=
    ⟨_, _, _, rfl, blk_new h (by omega) (hNW.at_ 1 _ rfl), blk_new h (by omega) (hNW.at_ 0 _ rfl), blk_new h (by omega) (hNW.at_ 2 _ rfl)⟩
  have hc := taskNew_any (.frz0 t) g W0 s _ _ (h.below hNW.below) hfin hk (clo_frz0 t)
  have HC := Lib.hid (with_world hW0 hc); have HB := Lib.hid hNW.below
  have hmf : ∀ (fn : Fn) (first cap : Array Value) (w : World), (Instr.makeFunc fn first cap).run Tryz.prog w = .ok (.func fn first cap) w := fun _ _ _ _ => rfl
  clear h hfin hNW hW0 hk hc
  unfold Ghost.sv
  go_enter Tryz.func49, Tryz.ntmps49
  go_wp2_with fail
  refine HC.out.mono ?_
  rintro e w1 hr
  have HR := Lib.hid (MadeTask.of HB.out (Nat.le_refl _) hr)
  obtain ⟨rfl, _⟩ := hr
  go_wp2_with fail
  go_ret
  exact HR.out

set_option maxRecDepth 100000 in
set_option maxHeartbeats 400000 in
theorem snapshot_any (g : Ghost) (w : World) (s : Ct.St) (t : Ct.Trie) (h : ArenaAt g w s) (hfin : Fin 1000 s) :
    Calls Tryz.prog 48 #[g.sv, .agg #[.int .i64 t.root, .bool t.readOnly]] w (MadeTask g w (Ct.apply Ct.stOps (.snap0 t) 0 s)) := by
  have hNW := (((News.nil w).alloc (.cells #[g.sv] 88)).alloc (.cells #[.int .i64 t.root, .bool t.readOnly] 72)).alloc (.cells (opCells g.sv t) 138)
  obtain ⟨W0, hW0⟩ : ∃ W, ((w.alloc (.cells #[g.sv] 88)).alloc (.cells #[.int .i64 t.root, .bool t.readOnly] 72)).alloc (.cells (opCells g.sv t) 138) = W := ⟨_, rfl⟩
  rw [hW0] at hNW
  have hk : KRep g.sv g.N W0 (.func (.func 68) #[] #[ptr (w.heap.size + 1), ptr (w.heap.size + 2), ptr w.heap.size]) (.snap0 t) :=
    ⟨_, _, _, rfl, blk_new h (by omega) (hNW.at_ 1 _ rfl), blk_new h (by omega) (hNW.at_ 2 _ rfl), blk_new h (by omega) (hNW.at_ 0 _ rfl)⟩
  have hc := taskNew_any (.snap0 t) g W0 s _ _ (h.below hNW.below) hfin hk (clo_snap0 t)
  have HC := Lib.hid (with_world hW0 hc); have HB := Lib.hid hNW.below
  have hmf : ∀ (fn : Fn) (first cap : Array Value) (w : World), (Instr.makeFunc fn first cap).run Tryz.prog w = .ok (.func fn first cap) w := fun _ _ _ _ => rfl
  clear h hfin hNW hW0 hk hc
  unfold Ghost.sv
  go_enter Tryz.func48, Tryz.ntmps48
  go_wp2_with fail
  refine HC.out.mono ?_
  rintro e w1 hr
  have HR := Lib.hid (MadeTask.of HB.out (Nat.le_refl _) hr)
  obtain ⟨rfl, _⟩ := hr
  go_wp2_with fail
  go_ret
  exact HR.out

set_option maxRecDepth 100000 in
set_option maxHeartbeats 400000 in
theorem finished_any (g : Ghost) (w : World) (s : Ct.St) (hb m1 m2 m3 mask : Nat) (T : Ct.Tab) (r : Ct.Result) (h : ArenaAt g w s) (ht : TabAt g w hb m1 m2 m3 mask T) (hfin : Fin 1000 s) :
    Calls Tryz.prog 33 #[.pointer (some ⟨hb, 0, none⟩), .agg (resCells r).toArray] w (MadeTask g w (.done r, s)) := by
  have hbel := (Below.refl w.heap.size w).alloc (Nat.le_refl _) (.cells (resCells r).toArray 74)
  obtain ⟨W0, hW0⟩ : ∃ W, w.alloc (.cells (resCells r).toArray 74) = W := ⟨_, rfl⟩
  have hx := heap_alloc_at w (.cells (resCells r).toArray 74)
  have c0 : (w.alloc (.cells (resCells r).toArray 74)).cell? ⟨hb, 0, none⟩ = some g.sv := (ht.below hbel).c0
  rw [hW0] at hbel hx
  have hk : KRep g.sv g.N W0 (.func (.func 40) #[] #[ptr w.heap.size]) (.fin r) := ⟨_, rfl, blk_new h (Nat.le_refl _) hx⟩
  have hc := taskNew_any (.fin r) g W0 s _ _ (h.below hbel) hfin hk (clo_fin r)
  have HC := Lib.hid (with_world hW0 hc); have HB := Lib.hid hbel
  have hmf : ∀ (fn : Fn) (first cap : Array Value) (w : World), (Instr.makeFunc fn first cap).run Tryz.prog w = .ok (.func fn first cap) w := fun _ _ _ _ => rfl
  unfold resCells at c0
  clear h hfin hW0 hk hc hx hbel ht
  unfold Ghost.sv at c0
  unfold resCells
  go_enter Tryz.func33, Tryz.ntmps33
  go_wp2_with fail
  refine HC.out.mono ?_
  rintro e w1 hr
  have HR := Lib.hid (MadeTask.of HB.out (Nat.le_refl _) hr)
  obtain ⟨rfl, _⟩ := hr
  go_wp2_with fail
  go_ret
  exact HR.out
end Go.Proofs.YtifehcegnofpkaaGreatDoor
