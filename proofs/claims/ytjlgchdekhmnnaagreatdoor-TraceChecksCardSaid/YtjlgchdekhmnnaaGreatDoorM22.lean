/- Parts of a proof: TaskS. -/
import Derived.Test.YtjlgchdekhmnnaaGreatDoorM21
import Derived.Deep.MidRow
section
namespace Go.Proofs.YtjlgchdekhmnnaaGreatDoor
open Go.RowKit
set_option linter.unusedVariables false
set_option linter.unusedVariables false
variable {O : Nat → Prop}
def taskCells (sv : Value) (cs : List Value) (n : Nat) (busy : Bool) : List Value := sv :: (cs ++ [.int .i64 (n : Nat), .bool busy])
structure TaskBlk (w : World) (tb : Nat) (sv : Value) (cs : List Value) (n : Nat) (busy : Bool) : Prop where
  at_ : w.heap[tb]? = some (.cells (taskCells sv cs n busy).toArray 117 (0, 0))
  len : cs.length = 14
theorem TaskBlk.lt {w : World} {tb : Nat} {sv : Value} {cs : List Value} {n : Nat} {busy : Bool} (h : TaskBlk w tb sv cs n busy) : tb < w.heap.size := (Array.getElem?_eq_some_iff.1 h.at_).1
theorem TaskBlk.cell {w : World} {tb : Nat} {sv : Value} {cs : List Value} {n : Nat} {busy : Bool} (h : TaskBlk w tb sv cs n busy) (i : Nat) : w.cell? ⟨tb, i, none⟩ = (taskCells sv cs n busy)[i]? := by
  rw [cell_at h.at_ i]; simp
theorem TaskBlk.store {w : World} {tb : Nat} {sv : Value} {cs : List Value} {n : Nat} {busy : Bool} (h : TaskBlk w tb sv cs n busy) : w.cell? ⟨tb, 0, none⟩ = some sv := by rw [h.cell 0]; rfl
theorem TaskBlk.code {w : World} {tb : Nat} {sv : Value} {cs : List Value} {n : Nat} {busy : Bool} (h : TaskBlk w tb sv cs n busy) (j : Nat) (hj : j < 14) : w.cell? ⟨tb, 1 + j, none⟩ = cs[j]? := by
  rw [h.cell (1 + j), taskCells, Nat.add_comm, List.getElem?_cons_succ, List.getElem?_append_left (by rw [h.len]; exact hj)]
theorem TaskBlk.steps {w : World} {tb : Nat} {sv : Value} {cs : List Value} {n : Nat} {busy : Bool} (h : TaskBlk w tb sv cs n busy) : w.cell? ⟨tb, 15, none⟩ = some (.int .i64 (n : Nat)) := by
  rw [h.cell 15, taskCells, List.getElem?_cons_succ, List.getElem?_append_right (by rw [h.len]; omega), h.len]; rfl
theorem TaskBlk.busy {w : World} {tb : Nat} {sv : Value} {cs : List Value} {n : Nat} {busy : Bool} (h : TaskBlk w tb sv cs n busy) : w.cell? ⟨tb, 16, none⟩ = some (.bool busy) := by
  rw [h.cell 16, taskCells, List.getElem?_cons_succ, List.getElem?_append_right (by rw [h.len]; omega), h.len]; rfl
theorem TaskBlk.free {w : World} {tb : Nat} {sv : Value} {cs : List Value} {n : Nat} {busy : Bool} (h : TaskBlk w tb sv cs n busy) (i : Nat) : w.frozen? ⟨tb, i, none⟩ = false := free_at h.at_ i
theorem TaskBlk.range {w : World} {tb : Nat} {sv : Value} {cs : List Value} {n : Nat} {busy : Bool} (h : TaskBlk w tb sv cs n busy) : w.rangeAt tb 1 cs := fun j v hv => by
  rw [h.code j (by rw [← h.len]; exact (List.getElem?_eq_some_iff.1 hv).1)]; exact hv
theorem TaskBlk.there {w : World} {tb : Nat} {sv : Value} {cs cs' : List Value} {n : Nat} {busy : Bool} (h : TaskBlk w tb sv cs n busy) (hl : cs'.length = 14) : w.there tb 1 cs'.toArray.size := fun j hj => by
  simp [hl] at hj
  refine ⟨?_, h.free _⟩
  rw [h.code j hj]
  simp [h.len, hj]
theorem heap_setCells_at (b : Nat) (t : TypeId) (fr : Nat × Nat) : ∀ (vs : List Value) (o : Nat) (w : World) (C : List Value), w.heap[b]? = some (.cells C.toArray t fr) → o + vs.length ≤ C.length →
    (w.setCells b o vs).heap[b]? = some (.cells (C.take o ++ vs ++ C.drop (o + vs.length)).toArray t fr)
  | [], o, w, C, h, _ => by simp [World.setCells, h]
  | v :: r, o, w, C, h, hl => by
    simp only [List.length_cons] at hl
    have h1 := heap_setCell_at w b o v _ _ _ h
    rw [show (C.toArray.setIfInBounds o v) = (C.set o v).toArray by simp] at h1
    have ih := heap_setCells_at b t fr r (o + 1) (w.setCell ⟨b, o, none⟩ v) (C.set o v) h1 (by simp; omega)
    have e1 : (C.set o v).take (o + 1) = C.take o ++ [v] := by
      rw [List.take_succ_eq_append_getElem (by simp; omega), List.take_set_of_le (Nat.le_refl o)]
      simp
    have e2 : (C.set o v).drop (o + 1 + r.length) = C.drop (o + (r.length + 1)) := by
      rw [List.drop_set_of_lt (by omega)]
      congr 1
      omega
    simp only [World.setCells, ih, e1, e2, List.length_cons]
    simp
theorem Keep.setCells {F : Nat → Prop} (b : Nat) (hp : F b) : ∀ (vs : List Value) (o : Nat) (w : World), Keep F w (w.setCells b o vs)
  | [], _, w => Keep.refl F w
  | v :: r, o, w => (Keep.setCell w ⟨b, o, none⟩ v hp).trans (Keep.setCells b hp r (o + 1) _) (fun i h => .inl h)
theorem TaskBlk.put {w : World} {tb : Nat} {sv : Value} {cs cs' : List Value} {n : Nat} {busy : Bool} (h : TaskBlk w tb sv cs n busy) (hl : cs'.length = 14) : TaskBlk (w.setCells tb 1 cs') tb sv cs' n busy := by
  refine ⟨?_, hl⟩
  rw [heap_setCells_at tb _ _ cs' 1 w _ h.at_ (by simp [taskCells, h.len, hl])]
  congr 2
  simp [taskCells, hl, h.len]
theorem TaskBlk.setBusy {w : World} {tb : Nat} {sv : Value} {cs : List Value} {n : Nat} {busy : Bool} (h : TaskBlk w tb sv cs n busy) (x : Bool) : TaskBlk (w.setCell ⟨tb, 16, none⟩ (.bool x)) tb sv cs n x := by
  refine ⟨?_, h.len⟩
  rw [heap_setCell_at w tb 16 _ _ _ _ h.at_]
  congr 2
  simp [taskCells, h.len]
theorem TaskBlk.setSteps {w : World} {tb : Nat} {sv : Value} {cs : List Value} {n : Nat} {busy : Bool} (h : TaskBlk w tb sv cs n busy) (x : Nat) : TaskBlk (w.setCell ⟨tb, 15, none⟩ (.int .i64 (x : Nat))) tb sv cs x busy := by
  refine ⟨?_, h.len⟩
  rw [heap_setCell_at w tb 15 _ _ _ _ h.at_]
  congr 2
  simp [taskCells, h.len]
theorem TaskBlk.step {g g' : Ghost} {w w' : World} {tb : Nat} {sv : Value} {cs : List Value} {n : Nat} {busy : Bool} (h : TaskBlk w tb sv cs n busy) (hs : Step g w g' w') (hn : ¬ g.Foot tb) : TaskBlk w' tb sv cs n busy :=
  ⟨by rw [hs.keep.block tb h.lt hn]; exact h.at_, h.len⟩
theorem CodeRep.info {sv : Value} {N : Nat → Prop} {w : World} {cs : List Value} {c : Ct.Code} (h : CodeRep sv N O w cs c) : (Tryz.prog.info? 115).map (·.size) = some cs.toArray.size := by
  rw [List.size_toArray, h.length]; exact info_Code_size
structure TaskAt (O : Nat → Prop) (g : Ghost) (w : World) (tb : Nat) (c : Ct.Code) (n : Nat) : Prop where
  ex : ∃ cs, TaskBlk w tb g.sv cs n false ∧ CodeRep g.sv g.N O w cs c
  inN : g.N tb
  out : ¬ g.Foot tb
  own : ∀ k, O k → g.N k ∧ ¬ g.Foot k
  self : ¬ O tb
structure StepT (O : Nat → Prop) (tb : Nat) (g : Ghost) (w : World) (g' : Ghost) (w' : World) : Prop where
  a : g'.a = g.a
  keep : Keep (fun k => g.Foot k ∨ (k = tb ∨ O k)) w w'
  new : ∀ k, g'.N k → g.N k ∨ w.heap.size ≤ k
  old : ∀ k, g.N k → g'.N k
  foot : ∀ k, g'.Foot k → g.Foot k ∨ w.heap.size ≤ k
theorem StepT.refl (tb : Nat) (g : Ghost) (w : World) : StepT O tb g w g w := ⟨rfl, Keep.refl _ _, fun _ h => .inl h, fun _ h => h, fun _ h => .inl h⟩
theorem StepT.trans {tb : Nat} {g g1 g2 : Ghost} {w w1 w2 : World} {O1 : Nat → Prop} (h : StepT O tb g w g1 w1) (k : StepT O1 tb g1 w1 g2 w2) (hO : ∀ k, O1 k → O k ∨ w.heap.size ≤ k) : StepT O tb g w g2 w2 := by
  refine ⟨k.a.trans h.a, h.keep.trans k.keep (fun i hi => ?_), fun i hi => ?_, fun i hi => k.old i (h.old i hi), fun i hi => ?_⟩
  · rcases hi with h1 | h1 | h1
    · rcases h.foot i h1 with h2 | h2
      · exact .inl (.inl h2)
      · exact .inr h2
    · exact .inl (.inr (.inl h1))
    · exact (hO i h1).imp (fun h => .inr (.inr h)) id
  · rcases k.new i hi with h1 | h1
    · exact h.new i h1
    · exact .inr (Nat.le_trans h.keep.size h1)
  · rcases k.foot i hi with h1 | h1
    · exact h.foot i h1
    · exact .inr (Nat.le_trans h.keep.size h1)
def TaskRes (O : Nat → Prop) (tb : Nat) (g : Ghost) (w : World) (v : Value) (c : Ct.Code × Ct.St) (n : Nat) (e : Ending) (w' : World) : Prop :=
  e = .returned v ∧ ∃ vn vc N O', ArenaAt ⟨g.a, vn, vc, N⟩ w' c.2 ∧ StepT O tb g w ⟨g.a, vn, vc, N⟩ w' ∧ (∀ k, O' k → O k ∨ w.heap.size ≤ k) ∧ TaskAt O' ⟨g.a, vn, vc, N⟩ w' tb c.1 n
def Code.isDone : Ct.Code → Bool
  | .done _ => true
  | _ => false
theorem CodeRep.kind {sv : Value} {N : Nat → Prop} {w : World} {cs : List Value} {c : Ct.Code} (h : CodeRep sv N O w cs c) : ∃ x : Int, cs[0]? = some (.int .i64 x) ∧ (x == 0) = Code.isDone c := by
  cases c with
  | done r => rw [h]; exact ⟨0, rfl, rfl⟩
  | load c k => obtain ⟨f, e, _⟩ := h; rw [e]; exact ⟨1, rfl, rfl⟩
  | cas c o x k => obtain ⟨f, e, _⟩ := h; rw [e]; exact ⟨2, rfl, rfl⟩
theorem done_any (w : World) (tb : Nat) (g : Ghost) (cs : List Value) (n : Nat) (busy : Bool) (c : Ct.Code) (h : TaskBlk w tb g.sv cs n busy) (hc : CodeRep g.sv g.N O w cs c) :
    Calls Tryz.prog 48 #[.pointer (some ⟨tb, 0, none⟩)] w fun e w' => e = .returned (.bool (Code.isDone c)) ∧ w = w' := by
  obtain ⟨x, hx, hd⟩ := hc.kind
  have c1 := h.code 0 (by omega)
  rw [hx] at c1
  have HD := Lib.hid hd
  clear h hc hd hx
  go_enter Tryz.func48, Tryz.ntmps48
  go_wp2_with fail
  go_ret
  exact ⟨by rw [← HD.out]; rfl, rfl⟩
theorem followed_any (g : Ghost) (w : World) (s : Ct.St) (c : Ct.Code) (cs : List Value) (h : ArenaO O g w s) (hc : CodeRep g.sv g.N O w cs c) (hw : c.wt) (hd : Code.isDone c = false) (hf : Fin (1000 * c.rank + 1) s) :
    Calls Tryz.prog 90 #[g.sv, .agg cs.toArray] w (RetCode O g w (Ct.step c s)) := by
  cases c with
  | done r => cases hd
  | load c k =>
    obtain ⟨f, rfl, kr⟩ := hc
    obtain ⟨fn, ff, fc, rfl⟩ := kr.func
    exact followed_load c k g w s fn ff fc h hf kr ((call_all k hw.2).ref hw.1)
  | cas c o x k =>
    obtain ⟨f, rfl, kr⟩ := hc
    obtain ⟨fn, ff, fc, rfl⟩ := kr.func
    exact followed_cas c o x k g w s fn ff fc h hf kr ((call_all k hw.2).bool hw.1)
theorem ArenaAt.own {g : Ghost} {w w' : World} {s : Ct.St} {tb : Nat} (h : ArenaAt g w s) (hk : Keep (fun k => k = tb) w w') (hN : g.N tb) (hF : ¬ g.Foot tb) : ArenaAt g w' s :=
  h.keep hk (N' := g.N) (fun k e hf => hF (e ▸ hf)) (fun k e => .inl (e ▸ hN)) (fun _ h => .inl h) (fun _ h => h) (fun k hk' => Nat.lt_of_lt_of_le (h.nlt k hk') hk.size)
theorem CodeRep.own {sv : Value} {g : Ghost} {w w' : World} {cs : List Value} {c : Ct.Code} {tb : Nat} (h : CodeRep sv g.N O w cs c) (hk : Keep (fun k => k = tb) w w') (hN : g.N tb) (hO : ¬ O tb) : CodeRep sv g.N O w' cs c :=
  h.keep hk (fun k e => .inl (e ▸ hN)) (fun _ h => .inl h) (fun k e => .inl (e ▸ hO))
theorem TaskBlk.stepO {g g' : Ghost} {w w' : World} {tb : Nat} {sv : Value} {cs : List Value} {n : Nat} {busy : Bool} (h : TaskBlk w tb sv cs n busy) (hs : StepO O g w g' w') (hn : ¬ g.Foot tb) (ho : ¬ O tb) : TaskBlk w' tb sv cs n busy :=
  ⟨by rw [hs.keep.block tb h.lt (fun h => h.elim hn ho)]; exact h.at_, h.len⟩
theorem stepDrew {g g' : Ghost} {w w' : World} (h : StepO O g w.drew g' w') : StepO O g w g' w' := ⟨h.a, ⟨h.keep.os, h.keep.tape, h.keep.output, h.keep.size, h.keep.block⟩, h.new, h.old, h.foot⟩
theorem TaskRes.fin {tb : Nat} {g g2 : Ghost} {w W1 w2 : World} {s : Ct.St} {c : Ct.Code × Ct.St} {n : Nat} {cs : List Value} {O' : Nat → Prop} (h : ArenaAt g w s) (hk : Keep (fun k => k = tb) w W1) (hN : g.N tb) (hF : ¬ g.Foot tb) (hS : ¬ O tb) (ha : ArenaO O' g2 w2 c.2) (hs : StepO O g W1 g2 w2) (hO : ∀ k, O' k → O k ∨ W1.heap.size ≤ k)
    (hT : TaskBlk (w2.setCells tb 1 cs) tb g.sv cs n true) (hC : CodeRep g.sv g2.N O' w2 cs c.1) :
    ∃ vn vc N O', ArenaAt ⟨g.a, vn, vc, N⟩ ((w2.setCells tb 1 cs).setCell ⟨tb, 16, none⟩ (.bool false)) c.2 ∧ StepT O tb g w ⟨g.a, vn, vc, N⟩ ((w2.setCells tb 1 cs).setCell ⟨tb, 16, none⟩ (.bool false)) ∧ (∀ k, O' k → O k ∨ w.heap.size ≤ k) ∧ TaskAt O' ⟨g.a, vn, vc, N⟩ ((w2.setCells tb 1 cs).setCell ⟨tb, 16, none⟩ (.bool false)) tb c.1 n := by
  obtain ⟨a', vn, vc, N⟩ := g2
  have hA : a' = g.a := hs.a
  subst hA
  have hlt := Nat.lt_of_lt_of_le (h.nlt tb hN) hk.size
  have hN2 := hs.old tb hN
  have hF2 : ¬ Ghost.Foot ⟨g.a, vn, vc, N⟩ tb := fun hf => by
    rcases hs.foot tb hf with h1 | h1
    · exact hF h1
    · omega
  have hS2 : ¬ O' tb := fun ho => (hO tb ho).elim hS (fun h1 => by omega)
  have hk2 : Keep (fun k => k = tb) w2 ((w2.setCells tb 1 cs).setCell ⟨tb, 16, none⟩ (.bool false)) := (Keep.setCells (F := fun k => k = tb) tb rfl cs 1 w2).trans (Keep.setCell (F := fun k => k = tb) _ ⟨tb, 16, none⟩ _ rfl) (fun _ h => .inl h)
  refine ⟨vn, vc, N, O', ha.toArenaAt.own hk2 hN2 hF2, ⟨rfl, ?_, fun k h1 => ?_, hs.old, fun k h1 => ?_⟩, fun k hk' => (hO k hk').imp id (fun h => Nat.le_trans hk.size h), ⟨⟨cs, hT.setBusy false, hC.own hk2 hN2 hS2⟩, hN2, hF2, ha.own, hS2⟩⟩
  · exact ((hk.mono (fun k _ e => .inr (.inl e))).trans hs.keep (fun k h1 => .inl (h1.imp id .inr))).trans hk2 (fun k e => .inl (.inr (.inl e)))
  · rcases hs.new k h1 with h2 | h2
    · exact .inl h2
    · exact .inr (Nat.le_trans hk.size h2)
  · rcases hs.foot k h1 with h2 | h2
    · exact .inl h2
    · exact .inr (Nat.le_trans hk.size h2)
set_option maxRecDepth 100000 in
set_option maxHeartbeats 1600000 in
theorem step_any (tb : Nat) (g : Ghost) (w : World) (s : Ct.St) (c : Ct.Code) (n : Nat) (h : ArenaAt g w s) (ht : TaskAt O g w tb c n) (hw : c.wt) (hd : Code.isDone c = false) (hf : Fin (1000 * c.rank + 1) s) (hn : n ≤ 274877906944) :
    Calls Tryz.prog 52 #[.pointer (some ⟨tb, 0, none⟩)] w (TaskRes O tb g w (.tuple #[]) (Ct.step c s) (n + 1)) := by
  obtain ⟨⟨cs, hT, hC⟩, hN, hF, hOW, hS⟩ := ht
  have hb := hT.busy; have hfz := hT.free 16; have hfz2 := hT.free 15
  have hT1 := (hT.setBusy true).setSteps (n + 1)
  have hst := (hT.setBusy true).steps
  have hst' : (w.setCell ⟨tb, 16, none⟩ (.bool true)).cell? ⟨tb, 15, none⟩ = some (.int .i64 (n : Nat)) := hst
  have hk1 : Keep (fun k => k = tb) w ((w.setCell ⟨tb, 16, none⟩ (.bool true)).setCell ⟨tb, 15, none⟩ (.int .i64 ((n + 1 : Nat) : Int))) := (Keep.setCell (F := fun k => k = tb) w ⟨tb, 16, none⟩ _ rfl).trans (Keep.setCell (F := fun k => k = tb) _ ⟨tb, 15, none⟩ _ rfl) (fun _ h => .inl h)
  have hdn := done_any w tb g cs n false c hT hC
  rw [hd] at hdn
  obtain ⟨W1, hW1⟩ : ∃ W, (w.setCell ⟨tb, 16, none⟩ (.bool true)).setCell ⟨tb, 15, none⟩ (.int .i64 ((n + 1 : Nat) : Int)) = W := ⟨_, rfl⟩
  rw [hW1] at hT1 hk1
  have hA1 := h.own hk1 hN hF
  have hC1 := hC.own hk1 hN hS
  have hO1 : ArenaO O g W1 s := ⟨hA1, hOW⟩
  have HFOL := Lib.hid (with_world (show W1.drew = W1.drew from rfl) (followed_any g W1.drew s c cs (hO1.below ⟨rfl, rfl, rfl, Nat.le_refl _, fun _ _ => rfl⟩) (hC1.mv (Mv.drew g W1)) hw hd hf))
  have HRG : Hid (W1.drew.rangeAt tb 1 cs) := by have := hT1.range; unfold World.rangeAt at *; exact this
  have HIL : Hid ((Tryz.prog.info? 115).map (·.size) = some cs.length) := by have := hC.info; rw [List.size_toArray] at this; exact this
  have c0 := hT1.store
  unfold Ghost.sv at c0
  have HD := Lib.hid hdn; have TB1 := Lib.hid hT1; have HNF := Lib.hid hF; have HS := Lib.hid hS; have HN := Lib.hid hN; have HW1 := Lib.hid hW1; have HK1 := Lib.hid hk1
  have H := Lib.hid h
  have A1 := Lib.hid hA1
  clear hT hC hN hF hOW hS hO1 hst hT1 hk1 hdn hW1 hA1 hC1 h hw hd hf
  unfold Ghost.sv at HFOL
  go_enter Tryz.func52, Tryz.ntmps52
  go_wp2_with (go_at_call 48; refine HD.out.mono ?_; rintro e w' ⟨rfl, rfl⟩)
  refine code_world (W := W1) HW1.out ?_
  refine wp_region_any (by kernel_rfl) ?_
  show wpAny _ _ _ _ _ _ _ W1.drew
  refine wpAny_take (i := 0) (oi := { dst := (some 20), op := (Op.move (Operand.tmp 0)), type := 29, pos := "task.go:106", after := #[], guard := none }) (v := .pointer (some ⟨tb, 0, none⟩)) rfl (by kernel_rfl) (by kernel_rfl) (by kernel_rfl) (fun _ _ _ h => h) (Or.inl ⟨by rfl, fun W' => ?_⟩) ?_
  · go_simp
  (try simp only [Act.put, sI, sZ, sS])
  refine wpAny_take (i := 1) (oi := { dst := (some 21), op := (Op.move (Operand.tmp 0)), type := 29, pos := "task.go:106", after := #[], guard := none }) (v := .pointer (some ⟨tb, 0, none⟩)) rfl (by kernel_rfl) (by kernel_rfl) (by kernel_rfl) (fun _ _ _ h => h) (Or.inl ⟨by rfl, fun W' => ?_⟩) ?_
  · go_simp
  (try simp only [Act.put, sI, sZ, sS])
  refine wpAny_take (i := 2) (oi := { dst := (some 22), op := (Op.nilCheck (Operand.tmp 21)), type := 0, pos := "task.go:106", after := #[⟨1, .data⟩], guard := none }) (v := .pointer (some ⟨tb, 0, none⟩)) rfl (by kernel_rfl) (by kernel_rfl) (by kernel_rfl) (fun _ _ _ h => h) (Or.inl ⟨by rfl, fun W' => ?_⟩) ?_
  · go_simp
  (try simp only [Act.put, sI, sZ, sS])
  refine wpAny_take (i := 3) (oi := { dst := (some 23), op := (Op.fieldAddr 117 (Operand.tmp 22) 0), type := 0, pos := "task.go:106", after := #[⟨2, .data⟩], guard := none }) (v := .pointer (some ⟨tb, 0, none⟩)) rfl (by kernel_rfl) (by kernel_rfl) (by kernel_rfl) (fun _ _ _ h => h) (Or.inl ⟨by rfl, fun W' => ?_⟩) ?_
  · go_simp
  (try simp only [Act.put, sI, sZ, sS])
  refine wpAny_take (i := 5) (oi := { dst := (some 25), op := (Op.move (Operand.tmp 0)), type := 29, pos := "task.go:106", after := #[], guard := none }) (v := .pointer (some ⟨tb, 0, none⟩)) rfl (by kernel_rfl) (by kernel_rfl) (by kernel_rfl) (fun _ _ _ h => h) (Or.inl ⟨by rfl, fun W' => ?_⟩) ?_
  · go_simp
  (try simp only [Act.put, sI, sZ, sS])
  refine wpAny_take (i := 6) (oi := { dst := (some 26), op := (Op.nilCheck (Operand.tmp 25)), type := 0, pos := "task.go:106", after := #[⟨5, .data⟩], guard := none }) (v := .pointer (some ⟨tb, 0, none⟩)) rfl (by kernel_rfl) (by kernel_rfl) (by kernel_rfl) (fun _ _ _ h => h) (Or.inl ⟨by rfl, fun W' => ?_⟩) ?_
  · go_simp
  (try simp only [Act.put, sI, sZ, sS])
  refine wpAny_take (i := 7) (oi := { dst := (some 27), op := (Op.fieldAddr 117 (Operand.tmp 26) 1), type := 0, pos := "task.go:106", after := #[⟨6, .data⟩], guard := none }) (v := .pointer (some ⟨tb, 1, none⟩)) rfl (by kernel_rfl) (by kernel_rfl) (by kernel_rfl) (fun _ _ _ h => h) (Or.inl ⟨by rfl, fun W' => ?_⟩) ?_
  · go_simp
  (try simp only [Act.put, sI, sZ, sS])
  refine wpAny_ready (rs := [4, 8]) (by kernel_rfl) (by simp) ?_
  refine AllReady.cons (o := { dst := (some 24), op := (Op.load 95 (Operand.tmp 23)), type := 95, pos := "task.go:106", after := #[⟨3, .data⟩], guard := none }) rfl (fun K hK => ?_) (AllReady.cons (o := { dst := (some 28), op := (Op.load 115 (Operand.tmp 27)), type := 115, pos := "task.go:106", after := #[⟨7, .data⟩], guard := none }) rfl (fun K hK => ?_) AllReady.nil)
  · rw [if_pos (by rfl)]; go_simp; refine hK _ _ ?_; clear hK K; (try simp only [Act.put, sI, sZ, sS]); refine wpAny_ready (rs := [8]) (by kernel_rfl) (by simp) ?_; refine AllReady.cons (o := { dst := (some 28), op := (Op.load 115 (Operand.tmp 27)), type := 115, pos := "task.go:106", after := #[⟨7, .data⟩], guard := none }) rfl (fun K hK => ?_) AllReady.nil; rw [if_pos (by rfl)]; refine wp_load_mid 115 (.tmp 27) rfl tb 1 rfl cs _ HRG.out Tryz.underlying115 rfl HIL.out ?_; refine hK _ _ ?_; clear hK K; (try simp only [Act.put, sI, sZ, sS])
    refine wpAny_ready (rs := [9]) (by kernel_rfl) (by simp) ?_
    refine AllReady.cons (o := { dst := (some 29), op := (Op.call { callee := (Callee.value (Operand.func 90)), args := #[(Operand.tmp 24), (Operand.tmp 28)], argTypes := #[95, 115] }), type := 115, pos := "task.go:106", after := #[⟨4, .data⟩, ⟨8, .data⟩], guard := none }) rfl (fun K hK => ?_) AllReady.nil
    go_simp
    refine (HFOL.out).mono ?_
    rintro e w2 hc
    obtain ⟨cs2, g2, O2, rfl, ha2, hs2, ho2, hr2⟩ := hc
    have A2 := Lib.hid ha2; have S2 := Lib.hid hs2; have C2 := Lib.hid hr2; have OO2 := Lib.hid ho2
    clear ha2 hs2 hr2 ho2
    have TB2 := Lib.hid (TB1.out.stepO (g := g) (w := W1) (stepDrew S2.out) HNF.out HS.out)
    refine hK _ _ ?_; clear hK K
    (try simp only [Act.put, sI, sZ, sS])
    refine wpAny_take (i := 10) (oi := { dst := (some 30), op := (Op.nilCheck (Operand.tmp 20)), type := 0, pos := "task.go:106", after := #[⟨0, .data⟩, ⟨0, .phase⟩, ⟨1, .phase⟩, ⟨2, .phase⟩, ⟨3, .phase⟩, ⟨4, .phase⟩, ⟨5, .phase⟩, ⟨6, .phase⟩, ⟨7, .phase⟩, ⟨8, .phase⟩, ⟨9, .phase⟩], guard := none }) (v := .pointer (some ⟨tb, 0, none⟩)) rfl (by kernel_rfl) (by kernel_rfl) (by kernel_rfl) (fun _ _ _ h => h) (Or.inl ⟨by rfl, fun W' => ?_⟩) ?_
    · go_simp
    (try simp only [Act.put, sI, sZ, sS])
    refine wpAny_take (i := 11) (oi := { dst := (some 31), op := (Op.fieldAddr 117 (Operand.tmp 30) 1), type := 0, pos := "task.go:106", after := #[⟨10, .data⟩, ⟨0, .phase⟩, ⟨1, .phase⟩, ⟨2, .phase⟩, ⟨3, .phase⟩, ⟨4, .phase⟩, ⟨5, .phase⟩, ⟨6, .phase⟩, ⟨7, .phase⟩, ⟨8, .phase⟩, ⟨9, .phase⟩], guard := none }) (v := .pointer (some ⟨tb, 1, none⟩)) rfl (by kernel_rfl) (by kernel_rfl) (by kernel_rfl) (fun _ _ _ h => h) (Or.inl ⟨by rfl, fun W' => ?_⟩) ?_
    · go_simp
    (try simp only [Act.put, sI, sZ, sS])
    refine wpAny_ready (rs := [12]) (by kernel_rfl) (by simp) ?_
    refine AllReady.cons (o := { dst := none, op := (Op.store 115 (Operand.tmp 31) (Operand.tmp 29)), type := 0, pos := "task.go:106", after := #[⟨11, .data⟩, ⟨9, .data⟩, ⟨9, .chain⟩, ⟨0, .phase⟩, ⟨1, .phase⟩, ⟨2, .phase⟩, ⟨3, .phase⟩, ⟨4, .phase⟩, ⟨5, .phase⟩, ⟨6, .phase⟩, ⟨7, .phase⟩, ⟨8, .phase⟩, ⟨9, .phase⟩], guard := none }) rfl (fun K hK => ?_) AllReady.nil
    rw [if_pos (by rfl)]
    refine wp_store_mid 115 (.tmp 31) (.tmp 29) rfl tb 1 cs2.toArray rfl rfl (TB2.out.there C2.out.length) (C2.out.info) (all_one C2.out.one) ?_
    refine hK _ _ ?_; clear hK K
    refine wpAny_done (by kernel_rfl) ?_ _
    have TB3 := Lib.hid (TB2.out.put C2.out.length)
    have f3 := TB3.out.free 16; have d3 := TB3.out.busy
    go_wp2_with fail
    go_end0
    refine ⟨rfl, ?_⟩
    exact TaskRes.fin H.out HK1.out HN.out HNF.out HS.out A2.out (stepDrew S2.out) OO2.out TB3.out C2.out
  · rw [if_pos (by rfl)]; refine wp_load_mid 115 (.tmp 27) rfl tb 1 rfl cs _ HRG.out Tryz.underlying115 rfl HIL.out ?_; refine hK _ _ ?_; clear hK K; (try simp only [Act.put, sI, sZ, sS]); refine wpAny_ready (rs := [4]) (by kernel_rfl) (by simp) ?_; refine AllReady.cons (o := { dst := (some 24), op := (Op.load 95 (Operand.tmp 23)), type := 95, pos := "task.go:106", after := #[⟨3, .data⟩], guard := none }) rfl (fun K hK => ?_) AllReady.nil; rw [if_pos (by rfl)]; go_simp; refine hK _ _ ?_; clear hK K; (try simp only [Act.put, sI, sZ, sS])
    refine wpAny_ready (rs := [9]) (by kernel_rfl) (by simp) ?_
    refine AllReady.cons (o := { dst := (some 29), op := (Op.call { callee := (Callee.value (Operand.func 90)), args := #[(Operand.tmp 24), (Operand.tmp 28)], argTypes := #[95, 115] }), type := 115, pos := "task.go:106", after := #[⟨4, .data⟩, ⟨8, .data⟩], guard := none }) rfl (fun K hK => ?_) AllReady.nil
    go_simp
    refine (HFOL.out).mono ?_
    rintro e w2 hc
    obtain ⟨cs2, g2, O2, rfl, ha2, hs2, ho2, hr2⟩ := hc
    have A2 := Lib.hid ha2; have S2 := Lib.hid hs2; have C2 := Lib.hid hr2; have OO2 := Lib.hid ho2
    clear ha2 hs2 hr2 ho2
    have TB2 := Lib.hid (TB1.out.stepO (g := g) (w := W1) (stepDrew S2.out) HNF.out HS.out)
    refine hK _ _ ?_; clear hK K
    (try simp only [Act.put, sI, sZ, sS])
    refine wpAny_take (i := 10) (oi := { dst := (some 30), op := (Op.nilCheck (Operand.tmp 20)), type := 0, pos := "task.go:106", after := #[⟨0, .data⟩, ⟨0, .phase⟩, ⟨1, .phase⟩, ⟨2, .phase⟩, ⟨3, .phase⟩, ⟨4, .phase⟩, ⟨5, .phase⟩, ⟨6, .phase⟩, ⟨7, .phase⟩, ⟨8, .phase⟩, ⟨9, .phase⟩], guard := none }) (v := .pointer (some ⟨tb, 0, none⟩)) rfl (by kernel_rfl) (by kernel_rfl) (by kernel_rfl) (fun _ _ _ h => h) (Or.inl ⟨by rfl, fun W' => ?_⟩) ?_
    · go_simp
    (try simp only [Act.put, sI, sZ, sS])
    refine wpAny_take (i := 11) (oi := { dst := (some 31), op := (Op.fieldAddr 117 (Operand.tmp 30) 1), type := 0, pos := "task.go:106", after := #[⟨10, .data⟩, ⟨0, .phase⟩, ⟨1, .phase⟩, ⟨2, .phase⟩, ⟨3, .phase⟩, ⟨4, .phase⟩, ⟨5, .phase⟩, ⟨6, .phase⟩, ⟨7, .phase⟩, ⟨8, .phase⟩, ⟨9, .phase⟩], guard := none }) (v := .pointer (some ⟨tb, 1, none⟩)) rfl (by kernel_rfl) (by kernel_rfl) (by kernel_rfl) (fun _ _ _ h => h) (Or.inl ⟨by rfl, fun W' => ?_⟩) ?_
    · go_simp
    (try simp only [Act.put, sI, sZ, sS])
    refine wpAny_ready (rs := [12]) (by kernel_rfl) (by simp) ?_
    refine AllReady.cons (o := { dst := none, op := (Op.store 115 (Operand.tmp 31) (Operand.tmp 29)), type := 0, pos := "task.go:106", after := #[⟨11, .data⟩, ⟨9, .data⟩, ⟨9, .chain⟩, ⟨0, .phase⟩, ⟨1, .phase⟩, ⟨2, .phase⟩, ⟨3, .phase⟩, ⟨4, .phase⟩, ⟨5, .phase⟩, ⟨6, .phase⟩, ⟨7, .phase⟩, ⟨8, .phase⟩, ⟨9, .phase⟩], guard := none }) rfl (fun K hK => ?_) AllReady.nil
    rw [if_pos (by rfl)]
    refine wp_store_mid 115 (.tmp 31) (.tmp 29) rfl tb 1 cs2.toArray rfl rfl (TB2.out.there C2.out.length) (C2.out.info) (all_one C2.out.one) ?_
    refine hK _ _ ?_; clear hK K
    refine wpAny_done (by kernel_rfl) ?_ _
    have TB3 := Lib.hid (TB2.out.put C2.out.length)
    have f3 := TB3.out.free 16; have d3 := TB3.out.busy
    go_wp2_with fail
    go_end0
    refine ⟨rfl, ?_⟩
    exact TaskRes.fin H.out HK1.out HN.out HNF.out HS.out A2.out (stepDrew S2.out) OO2.out TB3.out C2.out
end Go.Proofs.YtjlgchdekhmnnaaGreatDoor
end
