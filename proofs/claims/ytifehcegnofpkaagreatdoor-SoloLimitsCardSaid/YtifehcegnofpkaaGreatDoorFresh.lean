/- What a run of tasks leaves; the run of a freeze in the empty trie. -/
import Derived.Test.YtifehcegnofpkaaGreatDoorFin2
namespace Go.Proofs.YtifehcegnofpkaaGreatDoor
open Go.RowKit
set_option linter.unusedVariables false

/-- All that has changed since w0 lies in blocks from B on. -/
structure Fresh (B : Nat) (w0 : World) (g : Ghost) (w : World) : Prop where
  keep : Keep (fun k => B ≤ k) w0 w
  foot : ∀ k, g.Foot k → B ≤ k
  size : B ≤ w.heap.size
theorem Fresh.stepF {B : Nat} {w0 : World} {X : Nat → Prop} {g g' : Ghost} {w w' : World} (h : Fresh B w0 g w) (hs : StepF X g w g' w') (hX : ∀ k, X k → B ≤ k) : Fresh B w0 g' w' :=
  ⟨h.keep.trans hs.keep (fun k hk => .inl (hk.elim (h.foot k) (hX k))), fun k hk => (hs.foot k hk).elim (h.foot k) (fun h1 => Nat.le_trans h.size h1), Nat.le_trans h.size hs.keep.size⟩
theorem Fresh.step {B : Nat} {w0 : World} {g g' : Ghost} {w w' : World} (h : Fresh B w0 g w) (hs : Step g w g' w') : Fresh B w0 g' w' :=
  ⟨h.keep.trans hs.keep (fun k hk => .inl (h.foot k hk)), fun k hk => (hs.foot k hk).elim (h.foot k) (fun h1 => Nat.le_trans h.size h1), Nat.le_trans h.size hs.keep.size⟩
theorem Fresh.stepT {B : Nat} {w0 : World} {tb : Nat} {g g' : Ghost} {w w' : World} (h : Fresh B w0 g w) (hs : StepT tb g w g' w') (hX : B ≤ tb) : Fresh B w0 g' w' :=
  ⟨h.keep.trans hs.keep (fun k hk => .inl (hk.elim (h.foot k) (fun e => e ▸ hX))), fun k hk => (hs.foot k hk).elim (h.foot k) (fun h1 => Nat.le_trans h.size h1), Nat.le_trans h.size hs.keep.size⟩
theorem Fresh.more {B : Nat} {w0 : World} {F : Nat → Prop} {g : Ghost} {w w' : World} (h : Fresh B w0 g w) (hk : Keep F w w') (hF : ∀ k, F k → B ≤ k ∨ w0.heap.size ≤ k) (h0 : B ≤ w0.heap.size) : Fresh B w0 g w' :=
  ⟨h.keep.trans hk (fun k hf => (hF k hf).imp id id), h.foot, Nat.le_trans h.size hk.size⟩
theorem Fresh.below {B : Nat} {w0 : World} {g : Ghost} {w w' : World} (h : Fresh B w0 g w) (hb : Below w.heap.size w w') : Fresh B w0 g w' :=
  ⟨h.keep.trans (Keep.below hb (fun _ => False)) (fun _ h => h.elim), h.foot, Nat.le_trans h.size hb.size⟩
theorem Fresh.toBelow {w0 : World} {g : Ghost} {w : World} (h : Fresh w0.heap.size w0 g w) : Below w0.heap.size w0 w := h.keep.toBelow _ (Nat.le_refl _) (fun k hk => hk)

theorem Fin.run : ∀ (m : Nat) (c : Ct.Code) (s : Ct.St) (n : Nat), Fin (n + 11 * m) s → Fin n (Ct.runC m c s).2.2
  | 0, c, s, n, h => h
  | m + 1, .done r, s, n, h => h.less (by omega)
  | m + 1, .load c k, s, n, h => Fin.run m _ _ n (Fin.step (c := .load c k) (h.less (by omega)))
  | m + 1, .cas c o x k, s, n, h => Fin.run m _ _ n (Fin.step (c := .cas c o x k) (h.less (by omega)))
theorem Fin.create {n : Nat} {s : Ct.St} (h : Fin (n + 6) s) : Fin n (Ct.createC s).2 :=
  Fin.newCell (Fin.begun (n := n + 1) (Fin.alloc' (nd := { kind := 3 }) (n := n + 4) h (Nat.zero_le _) (Nat.zero_le _)) rfl) rfl
theorem Fin.zero (n : Nat) (h : n ≤ 1000000) : Fin n {} := ⟨by simp [Ct.St.size]; omega, fun n hn => by cases hn⟩

/-- What a task leaves to the table. -/
theorem TabAt.stepT {tb : Nat} {g g' : Ghost} {w w' : World} {hb m1 m2 m3 mask : Nat} {T : Ct.Tab} (h : TabAt g w hb m1 m2 m3 mask T) (hs : StepT tb g w g' w') (ne : hb ≠ tb ∧ m1 ≠ tb ∧ m2 ≠ tb ∧ m3 ≠ tb) : TabAt g' w' hb m1 m2 m3 mask T :=
  h.keep hs.keep ⟨fun hf => hf.elim h.out.1 ne.1, fun hf => hf.elim h.out.2.1 ne.2.1, fun hf => hf.elim h.out.2.2.1 ne.2.2.1, fun hf => hf.elim h.out.2.2.2 ne.2.2.2⟩ hs.a hs.old hs.foot
theorem TaskAt.mv {g g' : Ghost} {w w' : World} {tb : Nat} {c : Ct.Code} {n : Nat} {F : Nat → Prop} (h : TaskAt g w tb c n) (hk : Keep F w w') (hF : ¬ F tb) (hN : ∀ k, F k → g.N k ∨ w.heap.size ≤ k) (ea : g'.a = g.a) (new : ∀ k, g'.N k → g.N k ∨ w.heap.size ≤ k) (old : ∀ k, g.N k → g'.N k) (foot : ∀ k, g'.Foot k → g.Foot k ∨ w.heap.size ≤ k) : TaskAt g' w' tb c n := by
  obtain ⟨⟨cs, hT, hC⟩, h1, h2⟩ := h
  have esv : g'.sv = g.sv := by unfold Ghost.sv; rw [ea]
  refine ⟨⟨cs, ?_, ?_⟩, old _ h1, fun hf => (foot _ hf).elim h2 (fun h3 => by have := hT.lt; omega)⟩
  · rw [esv]; exact ⟨by rw [hk.block tb hT.lt hF]; exact hT.at_, hT.len⟩
  · rw [esv]; exact hC.keep hk hN new
theorem TaskAt.below {g : Ghost} {w w' : World} {tb : Nat} {c : Ct.Code} {n : Nat} (h : TaskAt g w tb c n) (hb : Below w.heap.size w w') : TaskAt g w' tb c n :=
  h.mv (Keep.below hb (fun _ => False)) (fun h => h) (fun _ h => h.elim) rfl (fun _ h => .inl h) (fun _ h => h) (fun _ h => .inl h)

theorem taskDone_at (w : World) (tb : Nat) (g : Ghost) (c : Ct.Code) (n : Nat) (h : TaskAt g w tb c n) :
    Calls Tryz.prog 26 #[.pointer (some ⟨tb, 0, none⟩)] w fun e w' => e = .returned (.bool (Code.isDone c)) ∧ w = w' := by
  obtain ⟨⟨cs, hT, hC⟩, _, _⟩ := h
  exact done_any w tb g cs n false c hT hC

/-- The empty trie and the run of its freeze. -/
def a0 : Ct.Trie × Ct.St := Ct.createC {}
def a1 : Ct.Code × Ct.St := Ct.apply Ct.stOps (.frz0 a0.1) 0 a0.2
def a2 : Nat × Ct.Code × Ct.St := Ct.runC 20 a1.1 a1.2
theorem a2_1 : a2.1 = 9 := by kernel_rfl
theorem a2_2 : a2.2.1 = .done { found := true, trie := { root := 6, readOnly := true } } := by kernel_rfl
theorem a2_eq : Ct.runC 20 a1.1 a1.2 = (9, .done { found := true, trie := { root := 6, readOnly := true } }, a2.2.2) := by
  have e : Ct.runC 20 a1.1 a1.2 = a2 := rfl
  rw [e]
  exact Prod.ext a2_1 (Prod.ext a2_2 rfl)
theorem a1_wt : a1.1.wt := Ct.apply_wt _ (.frz0 a0.1) trivial _ _
theorem a1_rank : a1.1.rank ≤ 60 := Nat.le_trans (Ct.apply_rank _ _ _ _) (by decide)
theorem a0_fin : Fin 100000 a0.2 := Fin.create (Fin.zero _ (by decide))
theorem a1_fin : Fin 99990 a1.2 := Fin.apply _ _ _ _ a0_fin
theorem a2_fin : Fin 90000 a2.2.2 := Fin.run 20 _ _ _ (a1_fin.less (by decide))
attribute [irreducible] a0 a1 a2

end Go.Proofs.YtifehcegnofpkaaGreatDoor
