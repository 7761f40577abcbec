/- The walks of arena.New, snap.Create. -/
import Derived.Test.YtifehcegnofpkaaGreatDoorMap
import Derived.Deep.RegionHeld3
namespace Go.Ct
/-- What snap.Create returns and leaves. -/
def createC (s : St) : Trie × St :=
  let c := (s.alloc { kind := 3 } 0)
  let i := begunC stOps c.2 c.1
  let r := i.2.newCell i.1
  ({ root := r.2 }, r.1)
end Go.Ct
namespace Go.Proofs.YtifehcegnofpkaaGreatDoor
open Go.RowKit
set_option linter.unusedVariables false

def newGhost (a : Nat) : Ghost := ⟨a, .slice none 0 0, .slice none 0 0, fun k => k = a⟩
theorem arenaNew_any (w : World) :
    Calls Tryz.prog 17 #[] w fun e w' => e = .returned (.pointer (some ⟨w.heap.size, 0, none⟩)) ∧ ArenaAt (newGhost w.heap.size) w' {} ∧ Below w.heap.size w w' ∧ w'.heap.size = w.heap.size + 1 := by
  have hA : ArenaAt (newGhost w.heap.size) (w.alloc (.cells #[.slice none 0 0, .slice none 0 0, .int .i64 0, .int .i64 0] 86)) {} := by
    refine ⟨heap_alloc_at w _, ⟨[], World.ownsRow_nil _ _ _ _, [], rfl, rfl, fun i h1 h2 => by simp at h1⟩, World.ownsRow_nil _ _ _ _, fun k hk => ?_, by simp [newGhost, Value.ownBlock], by simp [newGhost, Value.ownBlock], fun k hk => by simp [newGhost, Value.ownBlock] at hk, fun k hk => ?_⟩
    · rcases hk with h | h | h
      · exact h
      · simp [newGhost, Value.ownBlock] at h
      · simp [newGhost, Value.ownBlock] at h
    · have : k = w.heap.size := hk
      simp [this]
  have HA := Lib.hid hA
  have HB := Lib.hid ((Below.refl w.heap.size w).alloc (Nat.le_refl _) (.cells #[.slice none 0 0, .slice none 0 0, .int .i64 0, .int .i64 0] 86))
  clear hA
  go_enter Tryz.func17, Tryz.ntmps17
  go_wp2_with fail
  go_ret
  exact ⟨rfl, HA.out, HB.out, by simp⟩

theorem info_Trie_size : (Tryz.prog.info? 72).map (·.size) = some 2 := by kernel_rfl
theorem createdD_idle (p : Addr) (w : World) :
    CallsD Tryz.prog 55 #[.pointer (some p)] .returning w fun e u' w' => e = .returned (.tuple #[]) ∧ u' = .returning ∧ w' = w := by
  refine callsD_of_wpS Tryz.func55 rfl fun c₀ cs hu => ?_
  apply wpS_seq
  apply wpS_region
  simp [wpOpsS, go_sem, recoverD, hu, Tryz.ntmps55, Exit.thenS]
  refine wpS_cond (t := false) (by simp [Act.eval, Array.replicate]) ?_
  refine wpS_of_wp (wp_skip ?_)
  cases c₀
  simp_all [bodyPostS, results, Tryz.results55]

/-- A call that returns a trie and changes the arena. -/
def TrieRes (g : Ghost) (w : World) (c : Ct.Trie × Ct.St) (e : Ending) (w' : World) : Prop :=
  e = .returned (.agg #[.int .i64 c.1.root, .bool c.1.readOnly]) ∧ ∃ vn vc N, ArenaAt ⟨g.a, vn, vc, N⟩ w' c.2 ∧ Step g w ⟨g.a, vn, vc, N⟩ w'

/-- The frame of a function whose result lies in its own block b. -/
structure Frm (g : Ghost) (w : World) (b : Nat) (o : Obj) (h : Ghost) (W : World) (s : Ct.St) : Prop where
  arena : ArenaAt h W s
  step : Step g w h W
  low : w.heap.size ≤ b
  inN : h.N b
  out : ¬ h.Foot b
  res : W.heap[b]? = some o
theorem Frm.start {g : Ghost} {w W : World} {s : Ct.St} {os : List Obj} {o : Obj} (ha : ArenaAt g w s) (hn : News w W os) {b : Nat} (j : Nat) (hb : b = w.heap.size + j) (hj : os[j]? = some o) : Frm g w b o (g.plus b) W s := by
  subst hb
  have hr := hn.at_ j _ hj
  have hlt := (Array.getElem?_eq_some_iff.1 hr).1
  refine ⟨arena_plus ha hn.below (by omega) hlt, ⟨rfl, Keep.below hn.below _, fun k hk => hk.elim .inl (fun e => .inr (by omega)), fun _ h => .inl h, fun k hk => .inl hk⟩, by omega, .inr rfl, fun hf => ?_, hr⟩
  exact absurd (ha.nlt _ (ha.foot _ hf)) (by omega)
theorem Frm.below {g : Ghost} {w : World} {b : Nat} {o : Obj} {h : Ghost} {W W' : World} {s : Ct.St} (R : Frm g w b o h W s) (hb : Below W.heap.size W W') : Frm g w b o h W' s :=
  ⟨R.arena.below hb, R.step.trans (Step.below hb), R.low, R.inN, R.out, seen_below R.res hb⟩
theorem Frm.drew {g : Ghost} {w : World} {b : Nat} {o : Obj} {h : Ghost} {W : World} {s : Ct.St} (R : Frm g w b o h W s) : Frm g w b o h W.drew s := R.below ⟨rfl, rfl, rfl, Nat.le_refl _, fun _ _ => rfl⟩
theorem Frm.does {g : Ghost} {w : World} {b : Nat} {o : Obj} {h : Ghost} {W : World} {s s' : Ct.St} {v : Value} {e : Ending} {w' : World} (R : Frm g w b o h W s) (hd : Does h W v s' e w') : ∃ vn vc N, e = .returned v ∧ Frm g w b o ⟨g.a, vn, vc, N⟩ w' s' := by
  obtain ⟨rfl, ⟨a', vn, vc, N⟩, ha, hs⟩ := hd
  have hA : a' = g.a := hs.a.trans R.step.a
  subst hA
  have hlt := (Array.getElem?_eq_some_iff.1 R.res).1
  refine ⟨vn, vc, N, rfl, ha, R.step.trans hs, R.low, hs.old _ R.inN, fun hf => ?_, ?_⟩
  · rcases hs.foot _ hf with h1 | h1
    · exact R.out h1
    · omega
  · rw [hs.keep.block b hlt R.out]; exact R.res
theorem Frm.ret {g : Ghost} {w : World} {b : Nat} {o : Obj} {a : Nat} {vn vc : Value} {N : Nat → Prop} {W W' : World} {s : Ct.St} (R : Frm g w b o ⟨a, vn, vc, N⟩ W s) (hk : Keep (fun k => k = b) W W') : ArenaAt ⟨a, vn, vc, N⟩ W' s ∧ Step g w ⟨a, vn, vc, N⟩ W' := by
  refine ⟨R.arena.own hk R.inN R.out, R.step.a, R.step.keep.trans hk (fun k e => .inr (by rw [e]; exact R.low)), R.step.new, R.step.old, R.step.foot⟩

set_option maxRecDepth 100000 in
set_option maxHeartbeats 800000 in
theorem created_any (g : Ghost) (w : World) (s : Ct.St) (h : ArenaAt g w s) (hfin : Fin 400 s) :
    Calls Tryz.prog 38 #[g.sv] w (TrieRes g w (Ct.createC s)) := by
  have hNW := (News.nil w).alloc (.cells #[.int .i64 0, .bool false] 72)
  obtain ⟨W0, hW0⟩ : ∃ W, w.alloc (.cells #[.int .i64 0, .bool false] 72) = W := ⟨_, rfl⟩
  rw [hW0] at hNW
  have R0 := Lib.hid (Frm.start h hNW (b := w.heap.size) 0 rfl rfl)
  have HW := Lib.hid hW0; have FI := Lib.hid hfin
  have hmf : ∀ (fn : Fn) (first cap : Array Value) (w : World), (Instr.makeFunc fn first cap).run Tryz.prog w = .ok (.func fn first cap) w := fun _ _ _ _ => rfl
  have hmA := meth_Alloc; have hnA := nil_Alloc; have hmC := meth_NewCell
  clear h hfin hNW hW0
  unfold Ghost.sv
  go_enter_defers Tryz.func38, Tryz.ntmps38
  go_wp2_with fail
  refine code_world HW.out ?_
  have R1 := Lib.hid R0.out.drew
  refine wp_region_noPanic ?_
  go_region_with (first
    | (go_at_call 56; refine (mkEmpty _).mono ?_; rintro e w2 ⟨cs, rfl, ⟨bv, pv, rfl, hr1, hp1⟩, hb⟩; have R2 := Lib.hid (R1.out.below hb); have HR := Lib.hid (hr1.avoid (N' := (g.plus w.heap.size).N) (fun k _ hk => R1.out.arena.nlt k hk)); have HP := Lib.hid (hp1.avoid (N' := (g.plus w.heap.size).N) (fun k _ hk => R1.out.arena.nlt k hk)); clear hb hr1 hp1)
    | (go_at_call 261; refine (alloc_any (g.plus w.heap.size) _ s { kind := 3 } bv pv 0 R2.out.arena (FI.out.Room (by decide)) HR.out HP.out (Nat.zero_le _) (Nat.zero_le _)).mono ?_; rintro e w3 hd; obtain ⟨vn3, vc3, N3, rfl, hf3⟩ := R2.out.does hd; have R3 := Lib.hid hf3; have F3 : Hid (Fin 398 (s.alloc { kind := 3 } 0).1) := Fin.alloc' (FI.out.less (by decide)) (Nat.zero_le _) (Nat.zero_le _); clear hd hf3))
  all_goals
    refine NoPanic.normal ?_
    go_wp2_with fail
    refine (begun_any ⟨g.a, vn3, vc3, N3⟩ _ (s.alloc { kind := 3 } 0).1 (s.alloc { kind := 3 } 0).2 R3.out.arena (F3.out.less (by decide))).mono ?_
    rintro e w4 hd
    obtain ⟨vn4, vc4, N4, rfl, hf4⟩ := R3.out.does hd
    have R4 := Lib.hid hf4
    have F4 : Hid (Fin 395 (Ct.begunC Ct.stOps (s.alloc { kind := 3 } 0).2 (s.alloc { kind := 3 } 0).1).2) := Fin.begun (F3.out) rfl
    have HE := Lib.hid (show Ct.createC s = ({ root := ((Ct.begunC Ct.stOps (s.alloc { kind := 3 } 0).2 (s.alloc { kind := 3 } 0).1).2.newCell (Ct.begunC Ct.stOps (s.alloc { kind := 3 } 0).2 (s.alloc { kind := 3 } 0).1).1).2 }, ((Ct.begunC Ct.stOps (s.alloc { kind := 3 } 0).2 (s.alloc { kind := 3 } 0).1).2.newCell (Ct.begunC Ct.stOps (s.alloc { kind := 3 } 0).2 (s.alloc { kind := 3 } 0).1).1).1) from rfl)
    clear hd hf4
    generalize Ct.begunC Ct.stOps (s.alloc { kind := 3 } 0).2 (s.alloc { kind := 3 } 0).1 = ii at R4 F4 HE ⊢
    go_wp2_with fail
    refine (newCell_any ⟨g.a, vn4, vc4, N4⟩ _ ii.2 ii.1 R4.out.arena (F4.out.Room (by decide))).mono ?_
    rintro e w5 hd
    obtain ⟨vn5, vc5, N5, rfl, hf5⟩ := R4.out.does hd
    have R5 := Lib.hid hf5
    clear hd hf5
    generalize ii.2.newCell ii.1 = jj at R5 HE ⊢
    have d0 := cell_at R5.out.res 0; have d1 := cell_at R5.out.res 1; have f0 := free_at R5.out.res 0; have f1 := free_at R5.out.res 1
    simp only [List.getElem?_toArray, List.getElem?_cons_zero, List.getElem?_cons_succ] at d0 d1
    go_wp2_with fail
    have X6 : ((w5.setCell ⟨w.heap.size, 0, none⟩ (.int .i64 jj.2)).setCell ⟨w.heap.size, 1, none⟩ (.bool false)).heap[w.heap.size]? = some (.cells #[.int .i64 jj.2, .bool false] 72 (0, 0)) := by
      rw [heap_setCell_at _ w.heap.size 1 _ _ _ _ (heap_setCell_at w5 w.heap.size 0 _ _ _ _ R5.out.res)]; rfl
    refine leaves_cons (f := 55) (args := #[.pointer (some ⟨w.heap.size, 0, none⟩)]) (by simp) (by simp [go_sem]) ?_
    refine (createdD_idle ⟨w.heap.size, 0, none⟩ _).mono ?_
    rintro e u' w'' ⟨rfl, rfl, rfl⟩
    refine ⟨.agg #[.int .i64 jj.2, .bool false], results_cell_row Tryz.results38 _ _ w.heap.size 72 _ (0, 0) _ rfl X6 Tryz.underlying72 rfl info_Trie_size, ?_⟩
    refine ⟨by rw [HE.out], vn5, vc5, N5, ?_⟩
    rw [HE.out]
    exact R5.out.ret ((Keep.setCell (F := fun k => k = w.heap.size) w5 ⟨w.heap.size, 0, none⟩ _ rfl).trans (Keep.setCell (F := fun k => k = w.heap.size) _ ⟨w.heap.size, 1, none⟩ _ rfl) (fun _ h => .inl h))

set_option maxRecDepth 100000 in
theorem create_any (g : Ghost) (w : World) (s : Ct.St) (h : ArenaAt g w s) (hfin : Fin 400 s) :
    Calls Tryz.prog 29 #[g.sv] w (TrieRes g w (Ct.createC s)) := by
  have hNW := (News.nil w).alloc (.cells #[.int .i64 0, .bool false] 72)
  obtain ⟨W0, hW0⟩ : ∃ W, w.alloc (.cells #[.int .i64 0, .bool false] 72) = W := ⟨_, rfl⟩
  rw [hW0] at hNW
  have hR0 := Frm.start h hNW (b := w.heap.size) 0 rfl rfl
  have hc := created_any (g.plus w.heap.size) W0 s hR0.arena hfin
  have R0 := Lib.hid hR0
  have HC := Lib.hid (with_world hW0 hc)
  clear h hfin hNW hW0 hR0 hc
  unfold Ghost.sv
  go_enter Tryz.func29, Tryz.ntmps29
  go_wp2_with fail
  refine HC.out.mono ?_
  rintro e w1 ⟨rfl, vn, vc, N, ha, hs⟩
  obtain ⟨vn1, vc1, N1, _, hf1⟩ := R0.out.does (v := .int .i64 0) (e := .returned (.int .i64 0)) ⟨rfl, ⟨g.a, vn, vc, N⟩, ha, hs⟩
  have R1 := Lib.hid hf1
  clear ha hs hf1
  obtain ⟨cc, hcc⟩ : ∃ cc, Ct.createC s = cc := ⟨_, rfl⟩
  have HCC := Lib.hid hcc
  rw [hcc] at R1 ⊢
  clear hcc
  have d0 := cell_at R1.out.res 0; have d1 := cell_at R1.out.res 1; have f0 := free_at R1.out.res 0; have f1 := free_at R1.out.res 1
  simp only [List.getElem?_toArray, List.getElem?_cons_zero, List.getElem?_cons_succ] at d0 d1
  go_wp2_with fail
  have X6 : ((w1.setCell ⟨w.heap.size, 0, none⟩ (.int .i64 cc.1.root)).setCell ⟨w.heap.size, 1, none⟩ (.bool cc.1.readOnly)).heap[w.heap.size]? = some (.cells #[.int .i64 cc.1.root, .bool cc.1.readOnly] 72 (0, 0)) := by
    rw [heap_setCell_at _ w.heap.size 1 _ _ _ _ (heap_setCell_at w1 w.heap.size 0 _ _ _ _ R1.out.res)]; rfl
  refine bodyPost_ret (v := .agg #[.int .i64 cc.1.root, .bool cc.1.readOnly]) (results_cell_row Tryz.results29 _ _ w.heap.size 72 _ (0, 0) _ rfl X6 Tryz.underlying72 rfl info_Trie_size) rfl ?_
  show TrieRes g w (Ct.createC s) _ _
  rw [HCC.out]
  refine ⟨rfl, vn1, vc1, N1, ?_⟩
  exact R1.out.ret ((Keep.setCell (F := fun k => k = w.heap.size) w1 ⟨w.heap.size, 0, none⟩ _ rfl).trans (Keep.setCell (F := fun k => k = w.heap.size) _ ⟨w.heap.size, 1, none⟩ _ rfl) (fun _ h => .inl h))
end Go.Proofs.YtifehcegnofpkaaGreatDoor
