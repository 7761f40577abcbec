/- The walk of ctrielaw23.awake. -/
import Derived.Test.YtahfjiloddfjaaaGreatDoorFin2
namespace Go.Proofs.YtahfjiloddfjaaaGreatDoor
open Go.RowKit
set_option linter.unusedVariables false

/-- All that has changed since w0 lies in blocks from B on. -/
structure Fresh (B : Nat) (w0 : World) (g : Ghost) (w : World) : Prop where
  keep : Keep (fun k => B ≤ k) w0 w
  foot : ∀ k, g.Foot k → B ≤ k
  size : B ≤ w.heap.size
theorem Fresh.stepF {B : Nat} {w0 : World} {X : Nat → Prop} {g g' : Ghost} {w w' : World} (h : Fresh B w0 g w) (hs : StepF X g w g' w') (hX : ∀ k, X k → B ≤ k) : Fresh B w0 g' w' :=
  ⟨h.keep.trans hs.keep (fun k hk => .inl (hk.elim (h.foot k) (hX k))), fun k hk => (hs.foot k hk).elim (h.foot k) (fun h1 => Nat.le_trans h.size h1), Nat.le_trans h.size hs.keep.size⟩
theorem Fresh.step {B : Nat} {w0 : World} {g g' : Ghost} {w w' : World} (h : Fresh B w0 g w) (hs : Step g w g' w') : Fresh B w0 g' w' :=
  ⟨h.keep.trans hs.keep (fun k hk => .inl (h.foot k hk)), fun k hk => (hs.foot k hk).elim (h.foot k) (fun h1 => Nat.le_trans h.size h1), Nat.le_trans h.size hs.keep.size⟩
theorem Fresh.stepT {B : Nat} {w0 : World} {tb : Nat} {g g' : Ghost} {w w' : World} (h : Fresh B w0 g w) (hs : StepT tb g w g' w') (hX : B ≤ tb) : Fresh B w0 g' w' :=
  ⟨h.keep.trans hs.keep (fun k hk => .inl (hk.elim (h.foot k) (fun e => e ▸ hX))), fun k hk => (hs.foot k hk).elim (h.foot k) (fun h1 => Nat.le_trans h.size h1), Nat.le_trans h.size hs.keep.size⟩
theorem Fresh.more {B : Nat} {w0 : World} {F : Nat → Prop} {g : Ghost} {w w' : World} (h : Fresh B w0 g w) (hk : Keep F w w') (hF : ∀ k, F k → B ≤ k ∨ w0.heap.size ≤ k) (h0 : B ≤ w0.heap.size) : Fresh B w0 g w' :=
  ⟨h.keep.trans hk (fun k hf => (hF k hf).imp id id), h.foot, Nat.le_trans h.size hk.size⟩
theorem Fresh.below {B : Nat} {w0 : World} {g : Ghost} {w w' : World} (h : Fresh B w0 g w) (hb : Below w.heap.size w w') : Fresh B w0 g w' :=
  ⟨h.keep.trans (Keep.below hb (fun _ => False)) (fun _ h => h.elim), h.foot, Nat.le_trans h.size hb.size⟩
theorem Fresh.toBelow {w0 : World} {g : Ghost} {w : World} (h : Fresh w0.heap.size w0 g w) : Below w0.heap.size w0 w := h.keep.toBelow _ (Nat.le_refl _) (fun k hk => hk)

theorem Fin.run : ∀ (m : Nat) (c : Ct.Code) (s : Ct.St) (n : Nat), Fin (n + 11 * m) s → Fin n (Ct.runC m c s).2.2
  | 0, c, s, n, h => h
  | m + 1, .done r, s, n, h => h.less (by omega)
  | m + 1, .load c k, s, n, h => Fin.run m _ _ n (Fin.step (c := .load c k) (h.less (by omega)))
  | m + 1, .cas c o x k, s, n, h => Fin.run m _ _ n (Fin.step (c := .cas c o x k) (h.less (by omega)))
theorem Fin.create {n : Nat} {s : Ct.St} (h : Fin (n + 6) s) : Fin n (Ct.createC s).2 :=
  Fin.newCell (Fin.begun (n := n + 1) (Fin.alloc' (nd := { kind := 3 }) (n := n + 4) h (Nat.zero_le _) (Nat.zero_le _)) rfl) rfl
theorem Fin.zero (n : Nat) (h : n ≤ 1000000) : Fin n {} := ⟨by simp [Ct.St.size]; omega, fun n hn => by cases hn⟩

/-- What a task leaves to the table. -/
theorem TabAt.stepT {tb : Nat} {g g' : Ghost} {w w' : World} {hb m1 m2 m3 mask : Nat} {T : Ct.Tab} (h : TabAt g w hb m1 m2 m3 mask T) (hs : StepT tb g w g' w') (ne : hb ≠ tb ∧ m1 ≠ tb ∧ m2 ≠ tb ∧ m3 ≠ tb) : TabAt g' w' hb m1 m2 m3 mask T :=
  h.keep hs.keep ⟨fun hf => hf.elim h.out.1 ne.1, fun hf => hf.elim h.out.2.1 ne.2.1, fun hf => hf.elim h.out.2.2.1 ne.2.2.1, fun hf => hf.elim h.out.2.2.2 ne.2.2.2⟩ hs.a hs.old hs.foot
theorem TaskAt.mv {g g' : Ghost} {w w' : World} {tb : Nat} {c : Ct.Code} {n : Nat} {F : Nat → Prop} (h : TaskAt g w tb c n) (hk : Keep F w w') (hF : ¬ F tb) (hN : ∀ k, F k → g.N k ∨ w.heap.size ≤ k) (ea : g'.a = g.a) (new : ∀ k, g'.N k → g.N k ∨ w.heap.size ≤ k) (old : ∀ k, g.N k → g'.N k) (foot : ∀ k, g'.Foot k → g.Foot k ∨ w.heap.size ≤ k) : TaskAt g' w' tb c n := by
  obtain ⟨⟨cs, hT, hC⟩, h1, h2⟩ := h
  have esv : g'.sv = g.sv := by unfold Ghost.sv; rw [ea]
  refine ⟨⟨cs, ?_, ?_⟩, old _ h1, fun hf => (foot _ hf).elim h2 (fun h3 => by have := hT.lt; omega)⟩
  · rw [esv]; exact ⟨by rw [hk.block tb hT.lt hF]; exact hT.at_, hT.len⟩
  · rw [esv]; exact hC.keep hk hN new
theorem TaskAt.below {g : Ghost} {w w' : World} {tb : Nat} {c : Ct.Code} {n : Nat} (h : TaskAt g w tb c n) (hb : Below w.heap.size w w') : TaskAt g w' tb c n :=
  h.mv (Keep.below hb (fun _ => False)) (fun h => h) (fun _ h => h.elim) rfl (fun _ h => .inl h) (fun _ h => h) (fun _ h => .inl h)

theorem taskDone_at (w : World) (tb : Nat) (g : Ghost) (c : Ct.Code) (n : Nat) (h : TaskAt g w tb c n) :
    Calls Tryz.prog 16 #[.pointer (some ⟨tb, 0, none⟩)] w fun e w' => e = .returned (.bool (Code.isDone c)) ∧ w = w' := by
  obtain ⟨⟨cs, hT, hC⟩, _, _⟩ := h
  exact done_any w tb g cs n false c hT hC

/-- The empty trie and the run of its freeze. -/
def a0 : Ct.Trie × Ct.St := Ct.createC {}
def a1 : Ct.Code × Ct.St := Ct.apply Ct.stOps (.frz0 a0.1) 0 a0.2
def a2 : Nat × Ct.Code × Ct.St := Ct.runC 20 a1.1 a1.2
theorem a2_1 : a2.1 = 9 := by kernel_rfl
theorem a2_2 : a2.2.1 = .done { found := true, trie := { root := 6, readOnly := true } } := by kernel_rfl
theorem a2_eq : Ct.runC 20 a1.1 a1.2 = (9, .done { found := true, trie := { root := 6, readOnly := true } }, a2.2.2) := by
  have e : Ct.runC 20 a1.1 a1.2 = a2 := rfl
  rw [e]
  exact Prod.ext a2_1 (Prod.ext a2_2 rfl)
theorem a1_wt : a1.1.wt := Ct.apply_wt _ (.frz0 a0.1) trivial _ _
theorem a1_rank : a1.1.rank ≤ 60 := Nat.le_trans (Ct.apply_rank _ _ _ _) (by decide)
theorem a0_fin : Fin 100000 a0.2 := Fin.create (Fin.zero _ (by decide))
theorem a1_fin : Fin 99990 a1.2 := Fin.apply _ _ _ _ a0_fin
theorem a2_fin : Fin 90000 a2.2.2 := Fin.run 20 _ _ _ (a1_fin.less (by decide))
attribute [irreducible] a0 a1 a2

theorem cmp_found (W : World) : (binOp BinOp.neq 32 (.agg (resCells { found := true, value := 0, key := .empty, count := 0 }).toArray) (.agg #[.int .i64 0, .bool true, .int .u64 0, .string ⟨#[]⟩, .int .i64 0, .int .i64 0, .int .i64 0, .bool false])).run Tryz.prog W = .ok (.bool false) W := by kernel_rfl
theorem cmp_err6 (W : World) : (binOp BinOp.eql 32 (.agg (resCells { err := 6 }).toArray) (.agg #[.int .i64 6, .bool false, .int .u64 0, .string ⟨#[]⟩, .int .i64 0, .int .i64 0, .int .i64 0, .bool false])).run Tryz.prog W = .ok (.bool true) W := by kernel_rfl

set_option maxRecDepth 100000 in
set_option maxHeartbeats 3000000 in
theorem awake_any (w : World) : Calls Tryz.prog 6 #[] w fun e w' => e = .returned (.bool true) ∧ Below w.heap.size w w' := by
  go_enter Tryz.func6, Tryz.ntmps6
  go_wp2_with fail
  refine (arenaNew_any w).mono ?_
  rintro e w1 ⟨rfl, ha, hb, hz⟩
  have hfr : Fresh w.heap.size w (newGhost w.heap.size) w1 := ⟨Keep.below hb _, fun k hk => by
    have := ha.foot k hk
    have : k = w.heap.size := this
    omega, hb.size⟩
  have A1 := Lib.hid ha; have R1 := Lib.hid hfr; have Z1 := Lib.hid hz
  clear ha hb hfr hz
  go_wp2_with fail
  refine (handleNew_any (newGhost w.heap.size) w1 {} 63 A1.out (Fin.zero _ (by decide))).mono ?_
  rintro e w2 ⟨rfl, vn2, vc2, N2, ha, ht, hs⟩
  have ea0 : Ct.createC {} = a0 := by unfold a0; rfl
  rw [ea0] at ha ht
  have A2 := Lib.hid ha; have T2 := Lib.hid ht; have R2 := Lib.hid (R1.out.step hs)
  have HZ := Lib.hid R1.out.size
  clear ha ht hs
  go_wp2_with fail
  refine (begin_freeze ⟨(newGhost w.heap.size).a, vn2, vc2, N2⟩ w2 a0.2 (w1.heap.size + 3) w1.heap.size (w1.heap.size + 1) (w1.heap.size + 2) 63 _ 0 0 0 ⟨#[]⟩ 0 0 a0.1 A2.out T2.out (a0_fin.less (by decide)) (by decide) rfl rfl).mono ?_
  rintro e w3 ⟨tb, vn3, vc3, N3, rfl, htb, ha, ht, htk, hs⟩
  have ea1 : Ct.apply Ct.stOps (.frz0 a0.1) 0 a0.2 = a1 := by unfold a1; rfl
  rw [ea1] at ha htk
  have hrun := run_any tb _ w3 a1.2 a1.1 0 20 ha htk a1_wt a1_rank (a1_fin.less (by decide)) (by decide)
  unfold RunRes at hrun
  rw [a2_eq] at hrun
  have HRUN := Lib.hid hrun
  have T3 := Lib.hid ht; have R3 := Lib.hid (R2.out.stepF hs (fun k e => by have := HZ.out; omega))
  have TB := Lib.hid htb; have L3 := Lib.hid (show w1.heap.size + 3 < w2.heap.size from T2.out.lt); have L3' := Lib.hid (show w1.heap.size + 2 < w2.heap.size from T2.out.iters.lt)
  clear ha ht htk hs hrun htb ea1
  go_wp2_with fail
  refine HRUN.out.mono ?_
  rintro e w4 ⟨rfl, vn4, vc4, N4, ha, hs, htk⟩
  have T4 := Lib.hid (T3.out.stepT hs ⟨by have := TB.out; have := L3.out; omega, by have := TB.out; have := L3.out; omega, by have := TB.out; have := L3.out; omega, by have := TB.out; have := L3'.out; omega⟩)
  have R4 := Lib.hid (R3.out.stepT hs (by have := TB.out; have := R2.out.size; omega))
  have A4 := Lib.hid ha; have K4 := Lib.hid htk
  have HD := Lib.hid (show Calls Tryz.prog 16 #[.pointer (some ⟨tb, 0, none⟩)] w4 (fun e w' => e = .returned (.bool true) ∧ w4 = w') from taskDone_at w4 tb _ _ _ htk)
  clear ha hs htk
  go_wp2_with fail
  refine HD.out.mono ?_
  rintro e w' ⟨rfl, rfl⟩
  go_wp2_with fail
  refine (result_done w4 tb _ _ _ K4.out).mono ?_
  rintro e w5 ⟨rfl, hb5⟩
  have A5 := Lib.hid (A4.out.below hb5); have T5 := Lib.hid (T4.out.below hb5); have R5 := Lib.hid (R4.out.below hb5)
  clear hb5
  go_wp2_with fail
  refine (finish_freeze ⟨(newGhost w.heap.size).a, vn4, vc4, N4⟩ w5 a2.2.2 (w1.heap.size + 3) w1.heap.size (w1.heap.size + 1) (w1.heap.size + 2) 63 _ 0 0 a0.1 { root := 6, readOnly := true } true 0 .empty 0 0 A5.out T5.out rfl).mono ?_
  rintro e w6 ⟨rfl, ha, ht, hk⟩
  have A6 := Lib.hid ha; have T6 := Lib.hid ht
  have R6 := Lib.hid (R5.out.more hk (fun k e => .inl (by have := HZ.out; omega)) (Nat.le_refl _))
  clear ha ht hk
  obtain ⟨RR, hRR⟩ : ∃ RR, (resCells { found := true, value := 0, key := .empty, count := 0 }).toArray = RR := ⟨_, rfl⟩
  have hcmp : ∀ W, (binOp BinOp.neq 32 (.agg RR) (.agg #[.int .i64 0, .bool true, .int .u64 0, .string ⟨#[]⟩, .int .i64 0, .int .i64 0, .int .i64 0, .bool false])).run Tryz.prog W = .ok (.bool false) W := by
    rw [← hRR]; exact cmp_found
  rw [hRR]
  clear hRR
  go_wp2_with fail
  refine (begin_insertRO ⟨(newGhost w.heap.size).a, vn4, vc4, N4⟩ w6 a2.2.2 (w1.heap.size + 3) w1.heap.size (w1.heap.size + 1) (w1.heap.size + 2) 63 _ 1 0 1 ⟨#[97]⟩ 0 0 6 A6.out T6.out (a2_fin.less (by decide)) (by decide) rfl rfl (by decide)).mono ?_
  rintro e w7 ⟨tb7, vn7, vc7, N7, rfl, htb7, ha7, ht7, htk7, hs7⟩
  have R7 := Lib.hid (R6.out.stepF hs7 (fun k e => by have := HZ.out; omega))
  have K7 := Lib.hid htk7
  have HD7 := Lib.hid (show Calls Tryz.prog 16 #[.pointer (some ⟨tb7, 0, none⟩)] w7 (fun e w' => e = .returned (.bool true) ∧ w7 = w') from taskDone_at w7 tb7 _ _ _ htk7)
  clear htb7 ha7 ht7 htk7 hs7
  have HNU := Lib.hid (show ∀ W, Calls Tryz.prog 5 #[.int .i64 1, .int .i64 2] W (fun e w' => e = .returned (.int .i64 19) ∧ W = w') from fun W => number_any 1 2 W)
  go_wp2_with fail
  refine (HNU.out w7).mono ?_
  rintro e w' ⟨rfl, rfl⟩
  go_wp2_with fail
  refine HD7.out.mono ?_
  rintro e w' ⟨rfl, rfl⟩
  go_wp2_with fail
  refine (result_done w7 tb7 _ _ _ K7.out).mono ?_
  rintro e w8 ⟨rfl, hb8⟩
  have R8 := Lib.hid (R7.out.below hb8)
  clear hb8
  obtain ⟨QQ, hQQ⟩ : ∃ QQ, (resCells { err := 6 }).toArray = QQ := ⟨_, rfl⟩
  have hcmq : ∀ W, (binOp BinOp.eql 32 (.agg QQ) (.agg #[.int .i64 6, .bool false, .int .u64 0, .string ⟨#[]⟩, .int .i64 0, .int .i64 0, .int .i64 0, .bool false])).run Tryz.prog W = .ok (.bool true) W := by
    rw [← hQQ]; exact cmp_err6
  rw [hQQ]
  clear hQQ
  go_wp2_with fail
  go_ret
  exact ⟨rfl, R8.out.toBelow⟩
end Go.Proofs.YtahfjiloddfjaaaGreatDoor
