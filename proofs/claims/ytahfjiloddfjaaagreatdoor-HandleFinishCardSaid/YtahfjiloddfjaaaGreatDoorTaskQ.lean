/- The walks of task.Result, Run. -/
import Derived.Test.YtahfjiloddfjaaaGreatDoorTaskR
namespace Go.Proofs.YtahfjiloddfjaaaGreatDoor
open Go.RowKit
set_option linter.unusedVariables false

def zeroRes : Array Value := #[.int .i64 0, .bool false, .int .u64 0, .string ⟨#[]⟩, .int .i64 0, .int .i64 0, .int .i64 0, .bool false]
def Code.result : Ct.Code → Ct.Result
  | .done r => r
  | _ => {}

theorem resCells_one (r : Ct.Result) : (resCells r).toArray.all (·.oneCell') = true := by
  apply all_one
  intro v hv
  simp only [resCells, List.mem_cons, List.not_mem_nil, or_false] at hv
  rcases hv with rfl | rfl | rfl | rfl | rfl | rfl | rfl | rfl <;> rfl

theorem TaskBlk.res {w : World} {tb : Nat} {sv : Value} {r : Ct.Result} {n : Nat} {busy : Bool} (h : TaskBlk w tb sv (doneCells r) n busy) : w.rangeAt tb 7 (resCells r) := fun j v hv => by
  have hj := (List.getElem?_eq_some_iff.1 hv).1
  have h8 : (resCells r).length = 8 := rfl
  have := h.code (6 + j) (by omega)
  rw [show 7 + j = 1 + (6 + j) by omega, this, doneCells, List.getElem?_append_right (by simp), ← hv]
  congr 1
  simp

set_option maxRecDepth 100000 in
set_option maxHeartbeats 400000 in
theorem result_done (w : World) (tb : Nat) (g : Ghost) (r : Ct.Result) (n : Nat) (h : TaskAt g w tb (.done r) n) :
    Calls Tryz.prog 15 #[.pointer (some ⟨tb, 0, none⟩)] w (RetCells w (resCells r)) := by
  obtain ⟨⟨cs, hT, hC⟩, _, _⟩ := h
  have hdn := done_any (w.alloc (.cells zeroRes 32)) tb g cs n false (.done r) ⟨heap_alloc_of hT.at_ _, hT.len⟩ hC
  have ecs : cs = doneCells r := hC
  subst ecs
  have HD := Lib.hid hdn
  have HRG : Hid ((w.alloc (.cells zeroRes 32)).rangeAt tb 7 (resCells r)) := TaskBlk.res ⟨heap_alloc_of hT.at_ _, hT.len⟩
  have HA := Lib.hid (heap_alloc_at w (.cells zeroRes 32))
  have HB := Lib.hid (below_result w zeroRes (resCells r).toArray 32)
  have HL : Hid ((Tryz.prog.info? 32).map (·.size) = some (resCells r).length) := info_Result_size
  clear hT hC hdn
  go_enter Tryz.func15, Tryz.ntmps15
  go_wp2_with (first
    | (go_at_call 16; refine HD.out.mono ?_; rintro e w' ⟨rfl, rfl⟩)
    | (refine wpList_load_mid rfl 32 (.tmp 10) rfl tb 7 rfl (resCells r) _ HRG.out Tryz.underlying32 rfl HL.out ?_)
    | (refine wpList_store_row rfl 32 (.tmp 2) (.tmp 11) rfl w.heap.size (resCells r).toArray rfl rfl 32 zeroRes HA.out info_Result_size rfl (resCells_one r) ?_))
  refine bodyPost_ret (v := .agg (resCells r).toArray) (results_cell_row Tryz.results15 _ _ w.heap.size 32 _ (0, 0) _ rfl (setRow_heap _ w.heap.size _ _ _ _ HA.out) Tryz.underlying32 rfl info_Result_size) rfl ?_
  exact ⟨rfl, HB.out⟩

/-- What holds of a run behind k rounds. -/
structure RunRel (tb : Nat) (g : Ghost) (w : World) (c0 : Ct.Code) (s0 : Ct.St) (n most : Nat) (v : Value) (W : World) (k : Nat) (c : Ct.Code) (s : Ct.St) (vn vc : Value) (N : Nat → Prop) : Prop where
  v : v = .int .i64 (k : Nat)
  le : k ≤ most
  arena : ArenaAt ⟨g.a, vn, vc, N⟩ W s
  step : StepT tb g w ⟨g.a, vn, vc, N⟩ W
  task : TaskAt ⟨g.a, vn, vc, N⟩ W tb c (n + k)
  eq : Ct.runC most c0 s0 = (k + (Ct.runC (most - k) c s).1, (Ct.runC (most - k) c s).2)
  wt : c.wt
  rank : c.rank ≤ 60
  fin : Fin (60001 + 11 * (most - k)) s

def RunLoop (tb : Nat) (g : Ghost) (w : World) (c0 : Ct.Code) (s0 : Ct.St) (n most : Nat) (v : Value) (W : World) : Prop :=
  ∃ k c s vn vc N, RunRel tb g w c0 s0 n most v W k c s vn vc N

def RunRes (tb : Nat) (g : Ghost) (w : World) (r : Nat × Ct.Code × Ct.St) (n : Nat) (e : Ending) (w' : World) : Prop :=
  TaskRes tb g w (.int .i64 (r.1 : Nat)) r.2 (n + r.1) e w'

set_option maxRecDepth 100000 in
set_option maxHeartbeats 1600000 in
theorem run_any (tb : Nat) (g : Ghost) (w : World) (s : Ct.St) (c : Ct.Code) (n most : Nat) (h : ArenaAt g w s) (ht : TaskAt g w tb c n) (hw : c.wt) (hr : c.rank ≤ 60) (hf : Fin (60001 + 11 * most) s) (hn : n + most ≤ 274877906944) :
    Calls Tryz.prog 13 #[.pointer (some ⟨tb, 0, none⟩), .int .i64 (most : Nat)] w (RunRes tb g w (Ct.runC most c s) n) := by
  have hst : RunLoop tb g w c s n most (.int .i64 0) w := ⟨0, c, s, g.vn, g.vc, g.N, rfl, Nat.zero_le _, h, StepT.refl tb g w, ht, by simp, hw, hr, hf⟩
  have HST := Lib.hid hst
  clear h ht hw hr hf hst
  go_enter Tryz.func13, Tryz.ntmps13
  go_wp2_with fail
  go_loopw [5] (fun v wr => RunLoop tb g w c s n most v wr) (fun v _ => most - (intOf v).toNat)
  case atStart => exact HST.out
  case round =>
    obtain ⟨k, c1, s1, vn, vc, N, R⟩ := hrel
    obtain ⟨rfl, hle, ha, hs, ht, he, hwt, hrk, hf⟩ := R
    have hT := ht
    obtain ⟨⟨cs, hT, hC⟩, hN, hF⟩ := hT
    have hdn := done_any wr tb ⟨g.a, vn, vc, N⟩ cs (n + k) false c1 hT hC
    have hbz := hT.busy
    have HD := Lib.hid hdn
    by_cases hlt : k < most
    · cases hd : Code.isDone c1
      · rw [hd] at hdn
        have HD := Lib.hid hdn
        have hstep := step_any tb ⟨g.a, vn, vc, N⟩ wr s1 c1 (n + k) ha ht hwt hd (hf.less (by omega)) (by omega)
        have HS := Lib.hid hstep
        have HSS := Lib.hid hs
        have HE : Hid (Ct.runC most c s = (k + 1 + (Ct.runC (most - (k + 1)) (Ct.step c1 s1).1 (Ct.step c1 s1).2).1, (Ct.runC (most - (k + 1)) (Ct.step c1 s1).1 (Ct.step c1 s1).2).2)) := by
          rw [he, show most - k = (most - (k + 1)) + 1 by omega]
          cases c1 with
          | done r => cases hd
          | load _ _ => simp only [Ct.runC]; congr 1; omega
          | cas _ _ _ _ => simp only [Ct.runC]; congr 1; omega
        have HW := Lib.hid (Ct.step_wt s1 hwt); have HR := Lib.hid (Ct.step_rank s1 hrk)
        have HF : Hid (Fin (60001 + 11 * (most - (k + 1))) (Ct.step c1 s1).2) := Fin.step (hf.less (by omega))
        clear hle ha hs ht he hwt hrk hf hT hC hN hF hdn hd hstep
        generalize Ct.step c1 s1 = cc at HE HW HR HF HS
        go_wp2_with (first
          | (go_at_call 16; refine HD.out.mono ?_; rintro e w' ⟨rfl, rfl⟩)
          | (go_at_call 22; refine HS.out.mono ?_; rintro e w2 ⟨rfl, vn2, vc2, N2, ha2, hs2, ht2⟩; have A2 := Lib.hid ha2; have S2 := Lib.hid hs2; have T2 := Lib.hid ht2; clear ha2 hs2 ht2))
        go_roundw
        case rel => exact ⟨k + 1, cc.1, cc.2, vn2, vc2, N2, by go_num, by omega, A2.out, HSS.out.trans S2.out, T2.out, HE.out, HW.out, HR.out, HF.out⟩
        case measure => simp [intOf]; omega
      · have HE : Hid (Ct.runC most c s = (k, c1, s1)) := by
          rw [he]
          cases c1 with
          | done r => cases hm : most - k with
            | zero => simp only [Ct.runC]; rfl
            | succ m => simp only [Ct.runC]; rfl
          | load _ _ => cases hd
          | cas _ _ _ _ => cases hd
        rw [hd] at hdn
        have HD := Lib.hid hdn
        have A1 := Lib.hid ha; have S1 := Lib.hid hs; have T1 := Lib.hid ht
        clear hle ha hs ht he hwt hrk hf hT hC hN hF hdn hd
        go_wp2_with (go_at_call 16; refine HD.out.mono ?_; rintro e w' ⟨rfl, rfl⟩)
        go_ret
        unfold RunRes
        rw [HE.out]
        exact ⟨rfl, vn, vc, N, A1.out, S1.out, T1.out⟩
    · have hk : k = most := by omega
      have HE : Hid (Ct.runC most c s = (k, c1, s1)) := by rw [he, hk, Nat.sub_self]; simp only [Ct.runC]; rfl
      have A1 := Lib.hid ha; have S1 := Lib.hid hs; have T1 := Lib.hid ht
      clear hle ha hs ht he hwt hrk hf hT hC hN hF hdn hk
      go_wp2_with (go_at_call 16; refine HD.out.mono ?_; rintro e w' ⟨rfl, rfl⟩)
      go_ret
      unfold RunRes
      rw [HE.out]
      exact ⟨rfl, vn, vc, N, A1.out, S1.out, T1.out⟩
end Go.Proofs.YtahfjiloddfjaaaGreatDoor
