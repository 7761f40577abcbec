/- The walks of task.New, Run, Result. -/
import Derived.Test.YtifehcegnofpkaaGreatDoorTaskS
namespace Go.Ct

/-- At most m steps of a code: how many were made, the code, the state. -/
def runC : Nat → Code → St → Nat × Code × St
  | 0, c, s => (0, c, s)
  | _ + 1, .done r, s => (0, .done r, s)
  | m + 1, c, s => ((runC m (step c s).1 (step c s).2).1 + 1, (runC m (step c s).1 (step c s).2).2)
theorem step_wt {c : Code} (s : St) (h : c.wt) : (step c s).1.wt := by
  cases c with
  | done r => exact h
  | load c k => exact apply_wt _ k h.2 _ _
  | cas c o x k => exact apply_wt _ k h.2 _ _
theorem step_rank {c : Code} (s : St) (h : c.rank ≤ 60) : (step c s).1.rank ≤ 60 := by
  cases c with
  | done r => exact h
  | load c k => exact Nat.le_trans (apply_rank _ k _ _) (by simp only [Code.rank] at h; omega)
  | cas c o x k => exact Nat.le_trans (apply_rank _ k _ _) (by simp only [Code.rank] at h; omega)
end Go.Ct
namespace Go.Proofs.YtifehcegnofpkaaGreatDoor
open Go.RowKit
set_option linter.unusedVariables false

theorem Fin.alloc' {n : Nat} {s : Ct.St} {nd : Ct.Node} {x : Int} (h : Fin (n + 2) s) (l1 : nd.branches.length ≤ 1000000) (l2 : nd.pairs.length ≤ 1000000) : Fin n (s.alloc nd x).1 := Fin.alloc h l1 l2 rfl
theorem Fin.apply2 (k : Ct.K) (x y : Int) (s : Ct.St) (n : Nat) (h : Fin (n + 10) s) : Fin n (Ct.apply2 Ct.stOps k x y s).2 := by
  unfold Ct.apply2
  split
  · exact Fin.newCell (s := _) ((Fin.begun (m := y) (s := s) (h.less (by omega) : Fin (n + 1 + 3) s) rfl)) rfl
  · exact Fin.newCell (s := s) (h.less (by omega)) rfl
  · exact h.less (by omega)
theorem Fin.apply (k : Ct.K) : ∀ (x : Int) (s : Ct.St) (n : Nat), Fin (n + 10) s → Fin n (Ct.apply Ct.stOps k x s).2 := by
  induction k <;> intro x s n h <;> simp only [Ct.apply, Ct.readC, Ct.settleC, Ct.backC, Ct.decideC, Ct.rootC, Ct.completeC, Ct.helpC, Ct.rdecideC, Ct.replaceC, Ct.clearC, Ct.partedC] <;> (repeat' split) <;>
    first
    | exact h.less (by omega)
    | (rename_i ih; exact ih _ _ _ h)
    | (rename_i ih _; exact ih _ _ _ h)
    | (rename_i ih _ _; exact ih _ _ _ h)
    | (rename_i ih _ _ _; exact ih _ _ _ h)
    | exact Fin.alloc' (h.less (by omega)) (Nat.zero_le _) (Nat.zero_le _)
    | exact Fin.alloc' (nd := { kind := 8, old := _, expected := _, new := _ }) (Fin.alloc' (nd := { kind := 2, gen := _ }) (Fin.newGen (s := (s.alloc { kind := 3 } 0).1) (Fin.alloc' (nd := { kind := 3 }) (n := n + 5) (h.less (by omega)) (Nat.zero_le _) (Nat.zero_le _)) rfl) (Nat.zero_le _) (Nat.zero_le _)) (Nat.zero_le _) (Nat.zero_le _)
    | exact Fin.alloc' (nd := { kind := 8, old := _, expected := _, new := _ }) (Fin.begun (n := n + 2) (h.less (by omega)) rfl) (Nat.zero_le _) (Nat.zero_le _)
    | exact Fin.apply2 _ _ _ s n h
    | exact Fin.newCell (s := _) ((Fin.begun (s := s) (h.less (by omega) : Fin (n + 1 + 3) s) rfl)) rfl
    | exact Fin.newCell (s := s) (h.less (by omega)) rfl
theorem Fin.step {c : Ct.Code} {s : Ct.St} {n : Nat} (h : Fin (n + 11) s) : Fin n (Ct.step c s).2 := by
  cases c with
  | done r => exact h.less (by omega)
  | load c k => exact Fin.apply k _ _ _ (Fin.load (s := s) (c := c) h rfl)
  | cas c o x k => exact Fin.apply k _ _ _ (Fin.cas (s := s) (c := c) (o := o) (x := x) h rfl)

set_option maxRecDepth 100000 in
set_option maxHeartbeats 800000 in
theorem taskNew_any (k : Ct.K) (g : Ghost) (w : World) (s : Ct.St) (fn : FuncId) (fc : Array Value) (h : ArenaAt g w s) (hfin : Fin (1000 * k.rank) s) (kr : KRep g.sv g.N w (.func (.func fn) #[] fc) k) (ih : CallThunk k) :
    Calls Tryz.prog 39 #[g.sv, .func (.func fn) #[] fc] w (TaskRes w.heap.size g w (.pointer (some ⟨w.heap.size, 0, none⟩)) (Ct.apply Ct.stOps k 0 s) 0) := by
  have hb := (Below.refl w.heap.size w).alloc (Nat.le_refl _) (.cells (taskCells g.sv (doneCells {}) 0 false).toArray 102)
  have hT0 : TaskBlk (w.alloc (.cells (taskCells g.sv (doneCells {}) 0 false).toArray 102)) w.heap.size g.sv (doneCells {}) 0 false := ⟨heap_alloc_at w _, rfl⟩
  obtain ⟨W0, hW0⟩ : ∃ W, w.alloc (.cells (taskCells g.sv (doneCells {}) 0 false).toArray 102) = W := ⟨_, rfl⟩
  have hz : w.heap.size < (w.alloc (.cells (taskCells g.sv (doneCells {}) 0 false).toArray 102)).heap.size := by simp
  rw [hW0] at hb hT0 hz
  have hcall := taskBegun_any k (g.plus w.heap.size) W0 s fn fc (arena_plus h hb (Nat.le_refl _) hz) hfin (kr.mv (Mv.plus hb (Nat.le_refl _))) ih
  have HC := Lib.hid (with_world hW0 hcall); have H := Lib.hid h; have HB := Lib.hid hb; have T0 := Lib.hid hT0
  clear h hfin kr ih hb hcall hT0 hW0 hz
  unfold Ghost.sv
  go_enter Tryz.func39, Tryz.ntmps39
  go_wp2_with fail
  refine HC.out.mono ?_
  rintro e w1 ⟨cs, g1, rfl, ha, hs, hr⟩
  have hnf : ¬ (g.plus w.heap.size).Foot w.heap.size := fun hf => absurd (H.out.nlt _ (H.out.foot _ hf)) (by omega)
  have T1 := Lib.hid (T0.out.step hs hnf)
  have A1 := Lib.hid ha; have S1 := Lib.hid hs; have C1 := Lib.hid hr; have NF := Lib.hid hnf
  clear ha hs hr hnf
  go_wp2_with (refine wpList_store_mid rfl 100 (.tmp 13) (.tmp 11) rfl w.heap.size 1 cs.toArray rfl rfl (T1.out.there C1.out.length) C1.out.info (all_one C1.out.one) ?_)
  go_ret
  refine ⟨rfl, ?_⟩
  obtain ⟨a', vn, vc, N⟩ := g1
  have hA : a' = g.a := S1.out.a
  subst hA
  have hN1 : N w.heap.size := S1.out.old _ (.inr rfl)
  have hF1 : ¬ Ghost.Foot ⟨g.a, vn, vc, N⟩ w.heap.size := fun hf => by
    rcases S1.out.foot _ hf with h1 | h1
    · exact NF.out h1
    · have := T0.out.lt; omega
  have hk2 : Keep (fun k => k = w.heap.size) w1 (w1.setCells w.heap.size 1 cs) := Keep.setCells (F := fun k => k = w.heap.size) w.heap.size rfl cs 1 w1
  have hT2 := T1.out.put C1.out.length
  refine ⟨vn, vc, N, A1.out.own hk2 hN1 hF1, ⟨rfl, ?_, fun k h1 => ?_, fun k h1 => S1.out.old k (.inl h1), fun k h1 => ?_⟩, ⟨⟨cs, hT2, C1.out.own hk2 hN1⟩, hN1, hF1⟩⟩
  · exact ((Keep.below HB.out (fun k => g.Foot k ∨ k = w.heap.size)).trans S1.out.keep (fun k h1 => .inl (.inl h1))).trans hk2 (fun k e => .inl (.inr e))
  · rcases S1.out.new k h1 with (h2 | h2) | h2
    · exact .inl h2
    · exact .inr (by omega)
    · exact .inr (Nat.le_trans HB.out.size h2)
  · rcases S1.out.foot k h1 with h2 | h2
    · exact .inl h2
    · exact .inr (Nat.le_trans HB.out.size h2)
end Go.Proofs.YtifehcegnofpkaaGreatDoor
