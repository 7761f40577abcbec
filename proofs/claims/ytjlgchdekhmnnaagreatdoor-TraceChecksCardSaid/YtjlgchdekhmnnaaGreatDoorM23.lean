/- Parts of a proof: TaskR, TaskQ, Map. -/
import Derived.Test.YtjlgchdekhmnnaaGreatDoorM22
import Derived.MapKept
section
namespace Go.Ct
def runC : Nat → Code → St → Nat × Code × St
  | 0, c, s => (0, c, s)
  | _ + 1, .done r, s => (0, .done r, s)
  | m + 1, c, s => ((runC m (step c s).1 (step c s).2).1 + 1, (runC m (step c s).1 (step c s).2).2)
theorem step_wt {c : Code} (s : St) (h : c.wt) : (step c s).1.wt := by
  cases c with
  | done r => exact h
  | load c k => exact apply_wt _ k h.2 _ _
  | cas c o x k => exact apply_wt _ k h.2 _ _
theorem step_rank {c : Code} (s : St) (h : c.rank ≤ 60) : (step c s).1.rank ≤ 60 := by
  cases c with
  | done r => exact h
  | load c k => exact Nat.le_trans (apply_rank _ k _ _) (by simp only [Code.rank] at h; omega)
  | cas c o x k => exact Nat.le_trans (apply_rank _ k _ _) (by simp only [Code.rank] at h; omega)
end Go.Ct
namespace Go.Proofs.YtjlgchdekhmnnaaGreatDoor
open Go.RowKit
set_option linter.unusedVariables false
set_option linter.unusedVariables false
variable {O : Nat → Prop}
theorem Fin.alloc' {n : Nat} {s : Ct.St} {nd : Ct.Node} {x : Int} (h : Fin (n + 2) s) (l : nd.fits s.added.length) : Fin n (s.alloc nd x).1 := Fin.alloc h l rfl
theorem Fin.apply2 (k : Ct.K) (x y : Int) (s : Ct.St) (n : Nat) (h : Fin (n + 10) s) : Fin n (Ct.apply2 Ct.stOps k x y s).2 := by
  unfold Ct.apply2
  split
  · exact Fin.newCell (s := _) ((Fin.begun (m := y) (s := s) (h.less (by omega) : Fin (n + 1 + 3) s) rfl)) rfl
  · exact Fin.newCell (s := s) (h.less (by omega)) rfl
  · exact h.less (by omega)
theorem fndVisit_st (t : Ct.Trie) (l : Ct.Look) (level x : Int) (s : Ct.St) : (Ct.fndVisit Ct.stOps t l level x s).2 = s := by
  unfold Ct.fndVisit; repeat' split
  all_goals rfl
theorem Fin.apply (k : Ct.K) : k.wt → ∀ (x : Int) (s : Ct.St) (n : Nat), Fin (n + 10) s → Fin n (Ct.apply Ct.stOps k x s).2 := by
  induction k <;> intro hk x s n h
  case fnd0 => unfold Ct.apply; split <;> exact h.less (by omega)
  case fnd1 => exact h.less (by omega)
  case fnd2 => unfold Ct.apply; rw [fndVisit_st]; exact h.less (by omega)
  all_goals try exact False.elim hk
  all_goals simp only [Ct.apply, Ct.readC, Ct.settleC, Ct.backC, Ct.decideC, Ct.rootC, Ct.completeC, Ct.helpC, Ct.rdecideC, Ct.replaceC, Ct.clearC, Ct.partedC] <;> (repeat' split) <;>
    first
    | exact h.less (by omega)
    | (rename_i ih; exact ih hk.2 _ _ _ h)
    | (rename_i ih _; exact ih hk.2 _ _ _ h)
    | (rename_i ih _ _; exact ih hk.2 _ _ _ h)
    | (rename_i ih _ _ _; exact ih hk.2 _ _ _ h)
    | exact Fin.alloc' (h.less (by omega)) (by first | exact Ct.fits_small _ _ _ _ _ _ | exact Ct.fits_empty _)
    | exact Fin.alloc' (nd := { kind := 8, old := _, expected := _, new := _ }) (Fin.alloc' (nd := { kind := 2, gen := _ }) (Fin.newGen (s := (s.alloc { kind := 3 } 0).1) (Fin.alloc' (nd := { kind := 3 }) (n := n + 5) (h.less (by omega)) (by first | exact Ct.fits_small _ _ _ _ _ _ | exact Ct.fits_empty _)) rfl) (by first | exact Ct.fits_small _ _ _ _ _ _ | exact Ct.fits_empty _)) (by first | exact Ct.fits_small _ _ _ _ _ _ | exact Ct.fits_empty _)
    | exact Fin.alloc' (nd := { kind := 8, old := _, expected := _, new := _ }) (Fin.begun (n := n + 2) (h.less (by omega)) rfl) (by first | exact Ct.fits_small _ _ _ _ _ _ | exact Ct.fits_empty _)
    | exact Fin.apply2 _ _ _ s n h
    | exact Fin.newCell (s := _) ((Fin.begun (s := s) (h.less (by omega) : Fin (n + 1 + 3) s) rfl)) rfl
    | exact Fin.newCell (s := s) (h.less (by omega)) rfl
theorem Fin.step {c : Ct.Code} {s : Ct.St} {n : Nat} (hw : c.wt) (h : Fin (n + 11) s) : Fin n (Ct.step c s).2 := by
  cases c with
  | done r => exact h.less (by omega)
  | load c k => exact Fin.apply k hw.2 _ _ _ (Fin.load (s := s) (c := c) h rfl)
  | cas c o x k => exact Fin.apply k hw.2 _ _ _ (Fin.cas (s := s) (c := c) (o := o) (x := x) h rfl)
set_option maxRecDepth 100000 in
set_option maxHeartbeats 800000 in
theorem taskNew_any (k : Ct.K) (g : Ghost) (w : World) (s : Ct.St) (fn : FuncId) (ff fc : Array Value) (h : ArenaO O g w s) (hfin : Fin (1000 * k.rank) s) (kr : KRep g.sv g.N O w (.func (.func fn) ff fc) k) (ih : CallThunk k) :
    Calls Tryz.prog 76 #[g.sv, .func (.func fn) ff fc] w (TaskRes O w.heap.size g w (.pointer (some ⟨w.heap.size, 0, none⟩)) (Ct.apply Ct.stOps k 0 s) 0) := by
  have hb := (Below.refl w.heap.size w).alloc (Nat.le_refl _) (.cells (taskCells g.sv (doneCells {}) 0 false).toArray 117)
  have hT0 : TaskBlk (w.alloc (.cells (taskCells g.sv (doneCells {}) 0 false).toArray 117)) w.heap.size g.sv (doneCells {}) 0 false := ⟨heap_alloc_at w _, rfl⟩
  obtain ⟨W0, hW0⟩ : ∃ W, w.alloc (.cells (taskCells g.sv (doneCells {}) 0 false).toArray 117) = W := ⟨_, rfl⟩
  have hz : w.heap.size < (w.alloc (.cells (taskCells g.sv (doneCells {}) 0 false).toArray 117)).heap.size := by simp
  rw [hW0] at hb hT0 hz
  have hcall := taskBegun_any k (g.plus w.heap.size) W0 s fn ff fc (arenaO_plus h hb (Nat.le_refl _) hz) hfin (kr.mv (Mv.plus hb (Nat.le_refl _))) ih
  have HC := Lib.hid (with_world hW0 hcall); have H := Lib.hid h; have HB := Lib.hid hb; have T0 := Lib.hid hT0
  clear h hfin kr ih hb hcall hT0 hW0 hz
  unfold Ghost.sv
  go_enter Tryz.func76, Tryz.ntmps76
  go_wp2_with fail
  refine HC.out.mono ?_
  rintro e w1 ⟨cs, g1, O1, rfl, ha, hs, ho, hr⟩
  have hnf : ¬ (g.plus w.heap.size).Foot w.heap.size := fun hf => absurd (H.out.nlt _ (H.out.foot _ hf)) (by omega)
  have hno : ¬ O w.heap.size := fun ho => absurd (H.out.lt _ ho) (by omega)
  have T1 := Lib.hid (T0.out.stepO hs hnf hno)
  have OO := Lib.hid ho; have NO := Lib.hid hno
  have A1 := Lib.hid ha; have S1 := Lib.hid hs; have C1 := Lib.hid hr; have NF := Lib.hid hnf
  clear ha hs hr hnf ho hno
  go_wp2_with (refine wpList_store_mid rfl 115 (.tmp 13) (.tmp 11) rfl w.heap.size 1 cs.toArray rfl rfl (T1.out.there C1.out.length) C1.out.info (all_one C1.out.one) ?_)
  go_ret
  refine ⟨rfl, ?_⟩
  obtain ⟨a', vn, vc, N⟩ := g1
  have hA : a' = g.a := S1.out.a
  subst hA
  have hN1 : N w.heap.size := S1.out.old _ (.inr rfl)
  have hF1 : ¬ Ghost.Foot ⟨g.a, vn, vc, N⟩ w.heap.size := fun hf => by
    rcases S1.out.foot _ hf with h1 | h1
    · exact NF.out h1
    · have := T0.out.lt; omega
  have hk2 : Keep (fun k => k = w.heap.size) w1 (w1.setCells w.heap.size 1 cs) := Keep.setCells (F := fun k => k = w.heap.size) w.heap.size rfl cs 1 w1
  have hT2 := T1.out.put C1.out.length
  have hS1 : ¬ O1 w.heap.size := fun ho => (OO.out _ ho).elim NO.out (fun h1 => by have := T0.out.lt; omega)
  refine ⟨vn, vc, N, O1, A1.out.toArenaAt.own hk2 hN1 hF1, ⟨rfl, ?_, fun k h1 => ?_, fun k h1 => S1.out.old k (.inl h1), fun k h1 => ?_⟩, fun k h1 => (OO.out k h1).imp id (fun h => Nat.le_trans HB.out.size h), ⟨⟨cs, hT2, C1.out.own hk2 hN1 hS1⟩, hN1, hF1, A1.out.own, hS1⟩⟩
  · exact ((Keep.below HB.out (fun k => g.Foot k ∨ (k = w.heap.size ∨ O k))).trans S1.out.keep (fun k h1 => .inl (h1.imp id .inr))).trans hk2 (fun k e => .inl (.inr (.inl e)))
  · rcases S1.out.new k h1 with (h2 | h2) | h2
    · exact .inl h2
    · exact .inr (by omega)
    · exact .inr (Nat.le_trans HB.out.size h2)
  · rcases S1.out.foot k h1 with h2 | h2
    · exact .inl h2
    · exact .inr (Nat.le_trans HB.out.size h2)
end Go.Proofs.YtjlgchdekhmnnaaGreatDoor
end
section
namespace Go.Proofs.YtjlgchdekhmnnaaGreatDoor
open Go.RowKit
set_option linter.unusedVariables false
set_option linter.unusedVariables false
variable {O : Nat → Prop}
def zeroRes : Array Value := #[.int .i64 0, .bool false, .int .u64 0, .string ⟨#[]⟩, .int .i64 0, .int .i64 0, .int .i64 0, .bool false]
def Code.result : Ct.Code → Ct.Result
  | .done r => r
  | _ => {}
theorem resCells_one (r : Ct.Result) : (resCells r).toArray.all (·.oneCell') = true := by
  apply all_one
  intro v hv
  simp only [resCells, List.mem_cons, List.not_mem_nil, or_false] at hv
  rcases hv with rfl | rfl | rfl | rfl | rfl | rfl | rfl | rfl <;> rfl
theorem TaskBlk.res {w : World} {tb : Nat} {sv : Value} {r : Ct.Result} {n : Nat} {busy : Bool} (h : TaskBlk w tb sv (doneCells r) n busy) : w.rangeAt tb 7 (resCells r) := fun j v hv => by
  have hj := (List.getElem?_eq_some_iff.1 hv).1
  have h8 : (resCells r).length = 8 := rfl
  have := h.code (6 + j) (by omega)
  rw [show 7 + j = 1 + (6 + j) by omega, this, doneCells, List.getElem?_append_right (by simp), ← hv]
  congr 1
  simp
set_option maxRecDepth 100000 in
set_option maxHeartbeats 400000 in
theorem result_done (w : World) (tb : Nat) (g : Ghost) (r : Ct.Result) (n : Nat) (h : TaskAt O g w tb (.done r) n) :
    Calls Tryz.prog 18 #[.pointer (some ⟨tb, 0, none⟩)] w (RetCells w (resCells r)) := by
  obtain ⟨⟨cs, hT, hC⟩, _, _, _, _⟩ := h
  have hdn := done_any (O := O) (w.alloc (.cells zeroRes 45)) tb g cs n false (.done r) ⟨heap_alloc_of hT.at_ _, hT.len⟩ hC
  have ecs : cs = doneCells r := hC
  subst ecs
  have HD := Lib.hid hdn
  have HRG : Hid ((w.alloc (.cells zeroRes 45)).rangeAt tb 7 (resCells r)) := TaskBlk.res ⟨heap_alloc_of hT.at_ _, hT.len⟩
  have HA := Lib.hid (heap_alloc_at w (.cells zeroRes 45))
  have HB := Lib.hid (below_result w zeroRes (resCells r).toArray 45)
  have HL : Hid ((Tryz.prog.info? 45).map (·.size) = some (resCells r).length) := info_Result_size
  clear hT hC hdn
  go_enter Tryz.func18, Tryz.ntmps18
  go_wp2_with (first
    | (go_at_call 48; refine HD.out.mono ?_; rintro e w' ⟨rfl, rfl⟩)
    | (refine wpList_load_mid rfl 45 (.tmp 10) rfl tb 7 rfl (resCells r) _ HRG.out Tryz.underlying45 rfl HL.out ?_)
    | (refine wpList_store_row rfl 45 (.tmp 2) (.tmp 11) rfl w.heap.size (resCells r).toArray rfl rfl 45 zeroRes HA.out info_Result_size rfl (resCells_one r) ?_))
  refine bodyPost_ret (v := .agg (resCells r).toArray) (results_cell_row Tryz.results18 _ _ w.heap.size 45 _ (0, 0) _ rfl (setRow_heap _ w.heap.size _ _ _ _ HA.out) Tryz.underlying45 rfl info_Result_size) rfl ?_
  exact ⟨rfl, HB.out⟩
structure RunRel (O : Nat → Prop) (tb : Nat) (g : Ghost) (w : World) (c0 : Ct.Code) (s0 : Ct.St) (n most : Nat) (v : Value) (W : World) (k : Nat) (c : Ct.Code) (s : Ct.St) (vn vc : Value) (N O1 : Nat → Prop) : Prop where
  v : v = .int .i64 (k : Nat)
  le : k ≤ most
  arena : ArenaAt ⟨g.a, vn, vc, N⟩ W s
  step : StepT O tb g w ⟨g.a, vn, vc, N⟩ W
  own : ∀ k, O1 k → O k ∨ w.heap.size ≤ k
  task : TaskAt O1 ⟨g.a, vn, vc, N⟩ W tb c (n + k)
  eq : Ct.runC most c0 s0 = (k + (Ct.runC (most - k) c s).1, (Ct.runC (most - k) c s).2)
  wt : c.wt
  rank : c.rank ≤ 60
  fin : Fin (60001 + 11 * (most - k)) s
end Go.Proofs.YtjlgchdekhmnnaaGreatDoor
end
section
namespace Go.Proofs.YtjlgchdekhmnnaaGreatDoor
open Go.RowKit
set_option linter.unusedVariables false
def mlook (es : List (Int × Value)) (k : Int) : Option Value := (es.find? (fun p => p.1 == k)).map (·.2)
def mput (es : List (Int × Value)) (k : Int) (v : Value) : List (Int × Value) := if es.any (fun p => p.1 == k) then es.map (fun p => if p.1 == k then (k, v) else p) else es ++ [(k, v)]
def entryOf (e : MapEntry) : Value × Value := (e.key, e.val)
def MapAt (w : World) (m : Nat) (es : List (Int × Value)) : Prop :=
  ∃ (xs : Array MapEntry) (clock : Nat), w.heap[m]? = some (.map xs clock) ∧ xs.toList.map entryOf = es.map (fun p => (Value.int .i64 p.1, p.2)) ∧ (es.map (·.1)).Nodup
theorem MapAt.lt {w : World} {m : Nat} {es : List (Int × Value)} (h : MapAt w m es) : m < w.heap.size := by obtain ⟨xs, cl, h, _⟩ := h; exact (Array.getElem?_eq_some_iff.1 h).1
theorem MapAt.keep {F : Nat → Prop} {w w' : World} {m : Nat} {es : List (Int × Value)} (h : MapAt w m es) (hk : Keep F w w') (hF : ¬ F m) : MapAt w' m es := by
  have hlt := h.lt
  obtain ⟨xs, cl, h, h2⟩ := h
  exact ⟨xs, cl, by rw [hk.block m hlt hF]; exact h, h2⟩
theorem MapAt.below {w w' : World} {m : Nat} {es : List (Int × Value)} (h : MapAt w m es) (hb : Below w.heap.size w w') : MapAt w' m es := h.keep (Keep.below hb (fun _ => False)) (fun h => h)
theorem findNow_int (k : Int) : ∀ (l : List MapEntry) (es : List (Int × Value)) (i : Nat), l.map entryOf = es.map (fun p => (Value.int .i64 p.1, p.2)) →
    ∃ r, Instr.findNow (.int .i64) (.int .i64 k) l i = some r ∧ r.map (·.2) = mlook es k ∧ (r.map (·.1) = (es.findIdx? (fun p => p.1 == k)).map (· + i))
  | [], es, i, h => by
    have : es = [] := by simpa using h.symm
    subst this
    exact ⟨none, rfl, rfl, rfl⟩
  | e :: l, [], i, h => by simp at h
  | e :: l, p :: es, i, h => by
    simp only [List.map_cons, List.cons.injEq] at h
    obtain ⟨h1, h2⟩ := h
    have ek : e.key = .int .i64 p.1 := congrArg Prod.fst h1
    have ev : e.val = p.2 := congrArg Prod.snd h1
    unfold Instr.findNow
    rw [ek]
    simp only [Instr.sameNow, if_true]
    by_cases hk : k = p.1
    · subst hk
      refine ⟨some (i, e.val), by simp, ?_, ?_⟩
      · simp [mlook, ev]
      · simp [List.findIdx?_cons]
    · obtain ⟨r, r1, r2, r3⟩ := findNow_int k l es (i + 1) h2
      have hb : (k == p.1) = false := by simpa using hk
      have hb' : (p.1 == k) = false := by simpa using fun e => hk e.symm
      refine ⟨r, by simp only [hb]; exact r1, ?_, ?_⟩
      · rw [r2]; simp [mlook, hb']
      · rw [r3]
        simp only [List.findIdx?_cons, hb']
        cases es.findIdx? (fun p => p.1 == k) <;> simp <;> omega
theorem run_lookup (T K E : TypeId) (hT : Tryz.prog.underlying T = some (.map K E)) (hK : Tryz.prog.underlying K = some (.int .i64)) (w : World) (m : Nat) (es : List (Int × Value)) (h : MapAt w m es) (z : Value) (hz : (zeroValue E).run Tryz.prog w = .ok z w) (k : Int) (ok : Bool) :
    (Instr.lookup T (.map (some m)) (.int .i64 k) ok).run Tryz.prog w = .ok (if ok then .tuple #[(mlook es k).getD z, .bool (mlook es k).isSome] else (mlook es k).getD z) w := by
  obtain ⟨xs, cl, h1, h2, _⟩ := h
  obtain ⟨r, r1, r2, _⟩ := findNow_int k xs.toList es 0 h2
  have hck : (Instr.checkKey xs.isEmpty 10000 K (.int .i64 k)).run Tryz.prog w = .ok () w := MapKept.run_checkKey hK (by constructor) _ _
  have hfk : (Instr.findKey K (.int .i64 k) xs.toList).run Tryz.prog w = .ok r w := by simp [Instr.findKey, run_underlying hK, r1, Result.andThen]
  cases r with
  | none =>
    have hn : mlook es k = none := by rw [← r2]; rfl
    cases ok <;> simp [Instr.lookup, run_underlying hT, MapKept.run_getObj_map h1, hck, hfk, hz, hn, Result.andThen]
  | some q =>
    have hn : mlook es k = some q.2 := by rw [← r2]; rfl
    cases ok <;> simp [Instr.lookup, run_underlying hT, MapKept.run_getObj_map h1, hck, hfk, hn, Result.andThen]
theorem run_update (T K E : TypeId) (hT : Tryz.prog.underlying T = some (.map K E)) (hK : Tryz.prog.underlying K = some (.int .i64)) (w : World) (m : Nat) (es : List (Int × Value)) (h : MapAt w m es) (k : Int) (v : Value) :
    ∃ W, (Instr.mapUpdate T (.map (some m)) (.int .i64 k) v).run Tryz.prog w = .ok () W ∧ MapAt W m (mput es k v) ∧ Keep (fun b => b = m) w W ∧ W.heap.size = w.heap.size := by
  obtain ⟨xs, cl, h1, h2, hnd⟩ := h
  obtain ⟨r, r1, r2, r3⟩ := findNow_int k xs.toList es 0 h2
  have hlt := (Array.getElem?_eq_some_iff.1 h1).1
  have hck : (Instr.checkKey false 10000 K (.int .i64 k)).run Tryz.prog w = .ok () w := MapKept.run_checkKey hK (by constructor) _ _
  have hfk : (Instr.findKey K (.int .i64 k) xs.toList).run Tryz.prog w = .ok r w := by simp [Instr.findKey, run_underlying hK, r1, Result.andThen]
  have hkeep : ∀ o, Keep (fun b => b = m) w { w with heap := w.heap.setIfInBounds m o } := fun o => ⟨rfl, rfl, rfl, by simp, fun b _ hn => by rw [Array.getElem?_setIfInBounds, if_neg (fun e => hn e.symm)]⟩
  have hat : ∀ o, ({ w with heap := w.heap.setIfInBounds m o } : World).heap[m]? = some o := fun o => by simp [hlt]
  cases r with
  | none =>
    have hn : es.findIdx? (fun p => p.1 == k) = none := by
      cases hq : es.findIdx? (fun p => p.1 == k) with
      | none => rfl
      | some j => rw [hq] at r3; cases r3
    have hany : es.any (fun p => p.1 == k) = false := by
      rw [List.findIdx?_eq_none_iff] at hn
      simpa using hn
    refine ⟨_, by simp only [Instr.mapUpdate, Sem.run_bind, run_underlying hT, Result.andThen, MapKept.run_getObj_map h1, hck, hfk, MapKept.run_setObj_map _ h1]; rfl, ⟨_, _, hat _, ?_, ?_⟩, hkeep _, by simp⟩
    · unfold mput
      rw [hany]
      simp [h2, entryOf]
    · unfold mput
      rw [hany]
      simp only [Bool.false_eq_true, if_false, List.map_append, List.map_cons, List.map_nil]
      rw [List.nodup_append]
      refine ⟨hnd, by simp, fun a ha b hb e => ?_⟩
      simp at hb
      subst hb
      subst e
      simp only [List.any_eq_false, beq_iff_eq] at hany
      obtain ⟨p, hp, hp2⟩ := List.mem_map.1 ha
      exact hany p hp hp2
  | some q =>
    have hj : es.findIdx? (fun p => p.1 == k) = some q.1 := by
      cases hq : es.findIdx? (fun p => p.1 == k) with
      | none => rw [hq] at r3; cases r3
      | some j => rw [hq] at r3; simp at r3; rw [r3]
    obtain ⟨hj1, hj2, _⟩ := List.findIdx?_eq_some_iff_getElem.1 hj
    have hany : es.any (fun p => p.1 == k) = true := by
      rw [List.any_eq_true]; exact ⟨es[q.1], List.getElem_mem _, hj2⟩
    have hlen : xs.size = es.length := by have := congrArg List.length h2; simpa using this
    have hjx : q.1 < xs.size := by omega
    have hkey : xs[q.1].key = .int .i64 k := by
      have e1 : (xs.toList.map entryOf)[q.1]? = (es.map (fun p => (Value.int .i64 p.1, p.2)))[q.1]? := by rw [h2]
      simp [hjx, hj1, entryOf] at e1
      rw [e1.1]
      simp at hj2
      rw [hj2]
    have hks : (Instr.keyThatStays (((xs[q.1]?).map (·.key)).getD (.int .i64 k)) (.int .i64 k)).run Tryz.prog w = .ok (.int .i64 k) w := by
      have e1 : ((xs[q.1]?).map (·.key)).getD (.int .i64 k) = .int .i64 k := by simp [hjx, hkey]
      rw [e1]
      simp [Instr.keyThatStays, Instr.sameBits]
    refine ⟨_, by simp only [Instr.mapUpdate, Sem.run_bind, run_underlying hT, Result.andThen, MapKept.run_getObj_map h1, hck, hfk, hks, MapKept.run_setObj_map _ h1]; rfl, ⟨_, _, hat _, ?_, ?_⟩, hkeep _, by simp⟩
    · unfold mput
      rw [hany]
      simp only [if_true]
      apply List.ext_getElem?
      intro i
      have hi := congrArg (fun l => l[i]?) h2
      simp only [List.getElem?_map, Array.toList_modify, List.getElem?_modify] at hi ⊢
      by_cases hiq : q.1 = i
      · subst hiq
        simp at hj2
        simp [hjx, hj1, entryOf, hj2]
      · simp only [hiq, if_false]
        rw [show ((fun a : MapEntry => a) <$> xs.toList[i]?) = xs.toList[i]? from by cases xs.toList[i]? <;> rfl, hi]
        cases hes : es[i]? with
        | none => rfl
        | some p =>
          simp only [Option.map_some]
          have hne : (p.1 == k) = false := by
            have hp : i < es.length := (List.getElem?_eq_some_iff.1 hes).1
            have hpe : es[i] = p := (List.getElem?_eq_some_iff.1 hes).2
            simp only [beq_eq_false_iff_ne]
            intro e
            simp at hj2
            have := List.pairwise_iff_getElem.1 hnd
            rcases Nat.lt_or_ge q.1 i with hlt' | hge'
            · exact this q.1 i (by simpa using hj1) (by simpa using hp) hlt' (by simp [hj2, hpe, e])
            · exact this i q.1 (by simpa using hp) (by simpa using hj1) (by omega) (by simp [hj2, hpe, e])
          simp [hne]
    · unfold mput
      rw [hany]
      simp only [if_true]
      have : (es.map (fun p => if p.1 == k then (k, v) else p)).map (·.1) = es.map (·.1) := by
        rw [List.map_map]
        apply List.map_congr_left
        intro p _
        simp only [Function.comp]
        split
        · rename_i h; simpa using (by simpa using h : p.1 = k).symm
        · rfl
      rw [this]
      exact hnd
end Go.Proofs.YtjlgchdekhmnnaaGreatDoor
end
