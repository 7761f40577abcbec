/- The walk of snap.begun. -/
import Derived.Test.YtifehcegnofpkaaGreatDoorEnt
import Derived.Deep.RegionWith
namespace Go.Proofs.YtifehcegnofpkaaGreatDoor
open Go.RowKit

theorem Does.mv {g : Ghost} {w : World} {s' : Ct.St} {v : Value} {e : Ending} {w' : World} (h : Does g w v s' e w') : ∃ vn vc N, e = .returned v ∧ ArenaAt ⟨g.a, vn, vc, N⟩ w' s' ∧ Step g w ⟨g.a, vn, vc, N⟩ w' := by
  obtain ⟨rfl, ⟨a', vn, vc, N⟩, h1, h2⟩ := h
  have hA : a' = g.a := h2.a
  subst hA
  exact ⟨vn, vc, N, rfl, h1, h2⟩

theorem below_drew {w w' : World} (h : Below w.drew.heap.size w.drew w') : Below w.heap.size w w' := ⟨h.os, h.tape, h.output, h.size, h.block⟩
theorem nil_Node (a : Addr) (w : World) : (nilAhead 379 56 (.pointer (some a)) "Node").run Tryz.prog w = .ok (some false) w := by kernel_rfl
theorem nil_Alloc (a : Addr) (w : World) : (nilAhead 379 56 (.pointer (some a)) "Alloc").run Tryz.prog w = .ok (some false) w := by kernel_rfl
theorem nil_NewCell (a : Addr) (w : World) : (nilAhead 379 56 (.pointer (some a)) "NewCell").run Tryz.prog w = .ok (some false) w := by kernel_rfl
theorem nil_CAS (a : Addr) (w : World) : (nilAhead 379 56 (.pointer (some a)) "CAS").run Tryz.prog w = .ok (some false) w := by kernel_rfl
theorem nil_Load (a : Addr) (w : World) : (nilAhead 379 56 (.pointer (some a)) "Load").run Tryz.prog w = .ok (some false) w := by kernel_rfl

set_option maxRecDepth 100000 in
set_option maxHeartbeats 400000 in
theorem begun_any (g : Ghost) (w : World) (s : Ct.St) (m : Int) (h : ArenaAt g w s) (hfin : Fin 300 s) :
    Calls Tryz.prog 57 #[g.sv, .int .i64 m] w (Does g w (.int .i64 (Ct.begunC Ct.stOps m s).1) (Ct.begunC Ct.stOps m s).2) := by
  have H := Lib.hid h; have FI := Lib.hid hfin
  have hmf : ∀ (fn : Fn) (first cap : Array Value) (w : World), (Instr.makeFunc fn first cap).run Tryz.prog w = .ok (.func fn first cap) w := fun _ _ _ _ => rfl
  have hmG := meth_NewGen; have hmA := meth_Alloc; have hnA := nil_Alloc
  clear h hfin
  unfold Ghost.sv
  go_enter Tryz.func57, Tryz.ntmps57
  go_wp2_with fail
  refine (newGen_any g w s H.out (FI.out.Room (by decide))).mono ?_
  rintro e w1 hd
  obtain ⟨vn, vc, N, rfl, ha, hs⟩ := hd.mv
  have F1 : Hid (Fin 299 s.newGen.1) := Fin.newGen (FI.out.less (by decide)) rfl
  have A1 := Lib.hid ha; have S1 := Lib.hid hs
  have HE := Lib.hid (show Ct.begunC Ct.stOps m s = ((s.newGen.1.alloc { kind := 2, gen := s.newGen.2 } m).2, (s.newGen.1.alloc { kind := 2, gen := s.newGen.2 } m).1) from rfl)
  clear hd ha hs
  generalize s.newGen.2 = gn at HE ⊢
  generalize s.newGen.1 = s1 at HE A1 F1
  go_wp2_with fail
  go_region_with (first
    | (go_at_call 89; refine (mkInner _ _).mono ?_; rintro e w2 ⟨cs, rfl, ⟨bv, pv, rfl, hr1, hp1⟩, hb⟩; have HB := Lib.hid hb; have HR := Lib.hid hr1; have HP := Lib.hid hp1; clear hb hr1 hp1)
    | (go_at_call 261; go_loud (refine (alloc_any ⟨g.a, vn, vc, N⟩ _ s1 { kind := 2, gen := gn } bv pv m (A1.out.below (below_drew HB.out)) (F1.out.Room (by decide)) (HR.out.avoid (fun k _ hk => A1.out.nlt k hk)) (HP.out.avoid (fun k _ hk => A1.out.nlt k hk)) (Nat.zero_le _) (Nat.zero_le _)).mono ?_; rintro e w3 ⟨rfl, g3, ha3, hs3⟩; have A3 := Lib.hid ha3; have S3 := Lib.hid hs3; clear ha3 hs3)))
  all_goals
    go_wp2
    go_ret
    refine ⟨?_, g3, ?_, S1.out.trans ((Step.below (below_drew HB.out)).trans S3.out)⟩
    · rw [HE.out]; rfl
    · rw [HE.out]; exact A3.out

theorem code_world {P : Program} {c : Code} {Q : Exit → Act → World → Prop} {a : Act} {w W : World} (h : w = W) (hc : c.wp P Q a W) : c.wp P Q a w := h ▸ hc
theorem Mv.drew (g : Ghost) (w : World) : Mv g w g w.drew := ⟨⟨fun _ => False, ⟨rfl, rfl, rfl, Nat.le_refl _, fun _ _ _ => rfl⟩, fun _ h => h.elim⟩, fun _ h => .inl h⟩
theorem Run.drew {g : Ghost} {w : World} {b : Nat} {h : Ghost} {W : World} {s : Ct.St} (R : Run g w b h W s) : Run g w b h W.drew s := R.below ⟨rfl, rfl, rfl, Nat.le_refl _, fun _ _ => rfl⟩
theorem Run.blk1 {g : Ghost} {w : World} {b : Nat} {h : Ghost} {W : World} {s : Ct.St} (R : Run g w b h W s) (o : Obj) (cs : Array Value) (t : TypeId) : Blk h.N ((W.alloc o).alloc (.cells cs t)) (W.heap.size + 1) cs t := by
  have := (R.alloc o).blk cs t; simpa using this
/-- snap.begun, inside a function. -/
theorem Run.begun {g : Ghost} {w : World} {b : Nat} {h : Ghost} {W : World} {s : Ct.St} {n : Nat} (R : Run g w b h W s) (hf : Fin n s) (hn : 300 ≤ n) (m : Int) :
    Calls Tryz.prog 57 #[g.sv, .int .i64 m] W (IntRes g w b h W ((Ct.begunC Ct.stOps m s).2, (Ct.begunC Ct.stOps m s).1)) := by
  have hc := begun_any h W s m R.arena (hf.less hn)
  rw [R.sv] at hc
  exact hc.mono fun e w' hd => R.does (c := ((Ct.begunC Ct.stOps m s).2, (Ct.begunC Ct.stOps m s).1)) hd
theorem Fin.begun {n : Nat} {s s' : Ct.St} {m r : Int} (h : Fin (n + 3) s) (e : ((Ct.begunC Ct.stOps m s).2, (Ct.begunC Ct.stOps m s).1) = (s', r)) : Fin n s' := by
  injection e with e1 e2
  subst e1
  exact Fin.alloc (nd := { kind := 2, gen := s.newGen.2 }) (x := m) (s := s.newGen.1) (Fin.newGen (s := s) h rfl) (Nat.zero_le _) (Nat.zero_le _) rfl
end Go.Proofs.YtifehcegnofpkaaGreatDoor
