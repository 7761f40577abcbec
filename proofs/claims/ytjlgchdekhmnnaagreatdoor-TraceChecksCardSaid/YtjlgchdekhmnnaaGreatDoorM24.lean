/- Parts of a proof: Create, Tab. -/
import Derived.Test.YtjlgchdekhmnnaaGreatDoorM23
import Derived.Deep.RegionHeld3
import Derived.Carry
section
namespace Go.Ct
def createC (s : St) : Trie × St :=
  let c := (s.alloc { kind := 3 } 0)
  let i := begunC stOps c.2 c.1
  let r := i.2.newCell i.1
  ({ root := r.2 }, r.1)
end Go.Ct
namespace Go.Proofs.YtjlgchdekhmnnaaGreatDoor
open Go.RowKit
set_option linter.unusedVariables false
def newGhost (a : Nat) : Ghost := ⟨a, .slice none 0 0, .slice none 0 0, fun k => k ≤ a⟩
theorem arenaNew_any (w : World) :
    Calls Tryz.prog 9 #[] w fun e w' => e = .returned (.pointer (some ⟨w.heap.size, 0, none⟩)) ∧ ArenaAt (newGhost w.heap.size) w' {} ∧ Below w.heap.size w w' ∧ w'.heap.size = w.heap.size + 1 := by
  have hA : ArenaAt (newGhost w.heap.size) (w.alloc (.cells #[.slice none 0 0, .slice none 0 0, .int .i64 0, .int .i64 0] 93)) {} := by
    refine ⟨heap_alloc_at w _, ⟨[], World.ownsRow_nil _ _ _ _, [], rfl, rfl, fun i h1 h2 => by simp at h1⟩, World.ownsRow_nil _ _ _ _, fun k hk => ?_, by simp [newGhost, Value.ownBlock], by simp [newGhost, Value.ownBlock], fun k hk => by simp [newGhost, Value.ownBlock] at hk, fun k hk => ?_⟩
    · rcases hk with h | h | h
      · exact Nat.le_of_eq h
      · simp [newGhost, Value.ownBlock] at h
      · simp [newGhost, Value.ownBlock] at h
    · have : k ≤ w.heap.size := hk
      simp; omega
  have HA := Lib.hid hA
  have HB := Lib.hid ((Below.refl w.heap.size w).alloc (Nat.le_refl _) (.cells #[.slice none 0 0, .slice none 0 0, .int .i64 0, .int .i64 0] 93))
  clear hA
  go_enter Tryz.func9, Tryz.ntmps9
  go_wp2_with fail
  go_ret
  exact ⟨rfl, HA.out, HB.out, by simp⟩
theorem info_Trie_size : (Tryz.prog.info? 43).map (·.size) = some 2 := by kernel_rfl
theorem createdD_idle (p : Addr) (w : World) :
    CallsD Tryz.prog 98 #[.pointer (some p)] .returning w fun e u' w' => e = .returned (.tuple #[]) ∧ u' = .returning ∧ w' = w := by
  refine callsD_of_wpS Tryz.func98 rfl fun c₀ cs hu => ?_
  apply wpS_seq
  apply wpS_region
  simp [wpOpsS, go_sem, recoverD, hu, Tryz.ntmps98, Exit.thenS]
  refine wpS_cond (t := false) (by simp [Act.eval, Array.replicate]) ?_
  refine wpS_of_wp (wp_skip ?_)
  cases c₀
  simp_all [bodyPostS, results, Tryz.results98]
def TrieRes (g : Ghost) (w : World) (c : Ct.Trie × Ct.St) (e : Ending) (w' : World) : Prop :=
  e = .returned (.agg #[.int .i64 c.1.root, .bool c.1.readOnly]) ∧ ∃ vn vc N, ArenaAt ⟨g.a, vn, vc, N⟩ w' c.2 ∧ Step g w ⟨g.a, vn, vc, N⟩ w'
structure Frm (g : Ghost) (w : World) (b : Nat) (o : Obj) (h : Ghost) (W : World) (s : Ct.St) : Prop where
  arena : ArenaAt h W s
  step : Step g w h W
  low : w.heap.size ≤ b
  inN : h.N b
  out : ¬ h.Foot b
  res : W.heap[b]? = some o
theorem Frm.start {g : Ghost} {w W : World} {s : Ct.St} {os : List Obj} {o : Obj} (ha : ArenaAt g w s) (hn : News w W os) {b : Nat} (j : Nat) (hb : b = w.heap.size + j) (hj : os[j]? = some o) : Frm g w b o (g.plus b) W s := by
  subst hb
  have hr := hn.at_ j _ hj
  have hlt := (Array.getElem?_eq_some_iff.1 hr).1
  refine ⟨arena_plus ha hn.below (by omega) hlt, ⟨rfl, Keep.below hn.below _, fun k hk => hk.elim .inl (fun e => .inr (by omega)), fun _ h => .inl h, fun k hk => .inl hk⟩, by omega, .inr rfl, fun hf => ?_, hr⟩
  exact absurd (ha.nlt _ (ha.foot _ hf)) (by omega)
theorem Frm.below {g : Ghost} {w : World} {b : Nat} {o : Obj} {h : Ghost} {W W' : World} {s : Ct.St} (R : Frm g w b o h W s) (hb : Below W.heap.size W W') : Frm g w b o h W' s :=
  ⟨R.arena.below hb, R.step.trans (Step.below hb), R.low, R.inN, R.out, seen_below R.res hb⟩
theorem Frm.drew {g : Ghost} {w : World} {b : Nat} {o : Obj} {h : Ghost} {W : World} {s : Ct.St} (R : Frm g w b o h W s) : Frm g w b o h W.drew s := R.below ⟨rfl, rfl, rfl, Nat.le_refl _, fun _ _ => rfl⟩
theorem Frm.does {g : Ghost} {w : World} {b : Nat} {o : Obj} {h : Ghost} {W : World} {s s' : Ct.St} {v : Value} {e : Ending} {w' : World} (R : Frm g w b o h W s) (hd : Does h W v s' e w') : ∃ vn vc N, e = .returned v ∧ Frm g w b o ⟨g.a, vn, vc, N⟩ w' s' := by
  obtain ⟨rfl, ⟨a', vn, vc, N⟩, ha, hs⟩ := hd
  have hA : a' = g.a := hs.a.trans R.step.a
  subst hA
  have hlt := (Array.getElem?_eq_some_iff.1 R.res).1
  refine ⟨vn, vc, N, rfl, ha, R.step.trans hs, R.low, hs.old _ R.inN, fun hf => ?_, ?_⟩
  · rcases hs.foot _ hf with h1 | h1
    · exact R.out h1
    · omega
  · rw [hs.keep.block b hlt R.out]; exact R.res
theorem Frm.ret {g : Ghost} {w : World} {b : Nat} {o : Obj} {a : Nat} {vn vc : Value} {N : Nat → Prop} {W W' : World} {s : Ct.St} (R : Frm g w b o ⟨a, vn, vc, N⟩ W s) (hk : Keep (fun k => k = b) W W') : ArenaAt ⟨a, vn, vc, N⟩ W' s ∧ Step g w ⟨a, vn, vc, N⟩ W' := by
  refine ⟨R.arena.own hk R.inN R.out, R.step.a, R.step.keep.trans hk (fun k e => .inr (by rw [e]; exact R.low)), R.step.new, R.step.old, R.step.foot⟩
set_option maxRecDepth 100000 in
set_option maxHeartbeats 800000 in
theorem created_any (g : Ghost) (w : World) (s : Ct.St) (h : ArenaAt g w s) (hfin : Fin 400 s) :
    Calls Tryz.prog 74 #[g.sv] w (TrieRes g w (Ct.createC s)) := by
  have hNW := (News.nil w).alloc (.cells #[.int .i64 0, .bool false] 43)
  obtain ⟨W0, hW0⟩ : ∃ W, w.alloc (.cells #[.int .i64 0, .bool false] 43) = W := ⟨_, rfl⟩
  rw [hW0] at hNW
  have R0 := Lib.hid (Frm.start h hNW (b := w.heap.size) 0 rfl rfl)
  have HW := Lib.hid hW0; have FI := Lib.hid hfin
  have hmf := hmfG
  have hmA := meth_Alloc; have hnA := nil_Alloc; have hmC := meth_NewCell
  clear h hfin hNW hW0
  unfold Ghost.sv
  go_enter_defers Tryz.func74, Tryz.ntmps74
  go_wp2_with fail
  refine code_world HW.out ?_
  have R1 := Lib.hid R0.out.drew
  refine wp_region_noPanic ?_
  go_region_with (first
    | (go_at_call 99; refine (mkEmpty _).mono ?_; rintro e w2 ⟨cs, rfl, ⟨bv, pv, rfl, hr1, hp1⟩, hb⟩; have R2 := Lib.hid (R1.out.below hb); have HR := Lib.hid (hr1.avoid (N' := (g.plus w.heap.size).N) (fun k _ hk => R1.out.arena.nlt k hk)); have HP := Lib.hid (hp1.avoid (N' := (g.plus w.heap.size).N) (fun k _ hk => R1.out.arena.nlt k hk)); clear hb hr1 hp1)
    | (go_at_call 306; refine (alloc_any (g.plus w.heap.size) _ s { kind := 3 } bv pv 0 R2.out.arena (FI.out.Room (by decide)) HR.out HP.out (Nat.zero_le _) (Nat.zero_le _)).mono ?_; rintro e w3 hd; obtain ⟨vn3, vc3, N3, rfl, hf3⟩ := R2.out.does hd; have R3 := Lib.hid hf3; have F3 : Hid (Fin 398 (s.alloc { kind := 3 } 0).1) := Fin.alloc' (FI.out.less (by decide)) (by first | exact Ct.fits_small _ _ _ _ _ _ | exact Ct.fits_empty _); clear hd hf3))
  all_goals
    refine NoPanic.normal ?_
    go_wp2_with fail
    refine (begun_any ⟨g.a, vn3, vc3, N3⟩ _ (s.alloc { kind := 3 } 0).1 (s.alloc { kind := 3 } 0).2 (⟨R3.out.arena, fun _ h => h.elim⟩ : ArenaO (fun _ => False) _ _ _) (F3.out.less (by decide))).mono ?_
    rintro e w4 hd
    obtain ⟨vn4, vc4, N4, rfl, hf4⟩ := R3.out.does hd
    have R4 := Lib.hid hf4
    have F4 : Hid (Fin 395 (Ct.begunC Ct.stOps (s.alloc { kind := 3 } 0).2 (s.alloc { kind := 3 } 0).1).2) := Fin.begun (F3.out) rfl
    have HE := Lib.hid (show Ct.createC s = ({ root := ((Ct.begunC Ct.stOps (s.alloc { kind := 3 } 0).2 (s.alloc { kind := 3 } 0).1).2.newCell (Ct.begunC Ct.stOps (s.alloc { kind := 3 } 0).2 (s.alloc { kind := 3 } 0).1).1).2 }, ((Ct.begunC Ct.stOps (s.alloc { kind := 3 } 0).2 (s.alloc { kind := 3 } 0).1).2.newCell (Ct.begunC Ct.stOps (s.alloc { kind := 3 } 0).2 (s.alloc { kind := 3 } 0).1).1).1) from rfl)
    clear hd hf4
    generalize Ct.begunC Ct.stOps (s.alloc { kind := 3 } 0).2 (s.alloc { kind := 3 } 0).1 = ii at R4 F4 HE ⊢
    go_wp2_with fail
    refine (newCell_any ⟨g.a, vn4, vc4, N4⟩ _ ii.2 ii.1 R4.out.arena (F4.out.Room (by decide))).mono ?_
    rintro e w5 hd
    obtain ⟨vn5, vc5, N5, rfl, hf5⟩ := R4.out.does hd
    have R5 := Lib.hid hf5
    clear hd hf5
    generalize ii.2.newCell ii.1 = jj at R5 HE ⊢
    have d0 := cell_at R5.out.res 0; have d1 := cell_at R5.out.res 1; have f0 := free_at R5.out.res 0; have f1 := free_at R5.out.res 1
    simp only [List.getElem?_toArray, List.getElem?_cons_zero, List.getElem?_cons_succ] at d0 d1
    go_wp2_with fail
    have X6 : ((w5.setCell ⟨w.heap.size, 0, none⟩ (.int .i64 jj.2)).setCell ⟨w.heap.size, 1, none⟩ (.bool false)).heap[w.heap.size]? = some (.cells #[.int .i64 jj.2, .bool false] 43 (0, 0)) := by
      rw [heap_setCell_at _ w.heap.size 1 _ _ _ _ (heap_setCell_at w5 w.heap.size 0 _ _ _ _ R5.out.res)]; rfl
    refine leaves_cons (f := 98) (args := #[.pointer (some ⟨w.heap.size, 0, none⟩)]) (by simp) (by simp [go_sem]) ?_
    refine (createdD_idle ⟨w.heap.size, 0, none⟩ _).mono ?_
    rintro e u' w'' ⟨rfl, rfl, rfl⟩
    refine ⟨.agg #[.int .i64 jj.2, .bool false], results_cell_row Tryz.results74 _ _ w.heap.size 43 _ (0, 0) _ rfl X6 Tryz.underlying43 rfl info_Trie_size, ?_⟩
    refine ⟨by rw [HE.out], vn5, vc5, N5, ?_⟩
    rw [HE.out]
    exact R5.out.ret ((Keep.setCell (F := fun k => k = w.heap.size) w5 ⟨w.heap.size, 0, none⟩ _ rfl).trans (Keep.setCell (F := fun k => k = w.heap.size) _ ⟨w.heap.size, 1, none⟩ _ rfl) (fun _ h => .inl h))
set_option maxRecDepth 100000 in
theorem create_any (g : Ghost) (w : World) (s : Ct.St) (h : ArenaAt g w s) (hfin : Fin 400 s) :
    Calls Tryz.prog 46 #[g.sv] w (TrieRes g w (Ct.createC s)) := by
  have hNW := (News.nil w).alloc (.cells #[.int .i64 0, .bool false] 43)
  obtain ⟨W0, hW0⟩ : ∃ W, w.alloc (.cells #[.int .i64 0, .bool false] 43) = W := ⟨_, rfl⟩
  rw [hW0] at hNW
  have hR0 := Frm.start h hNW (b := w.heap.size) 0 rfl rfl
  have hc := created_any (g.plus w.heap.size) W0 s hR0.arena hfin
  have R0 := Lib.hid hR0
  have HC := Lib.hid (with_world hW0 hc)
  clear h hfin hNW hW0 hR0 hc
  unfold Ghost.sv
  go_enter Tryz.func46, Tryz.ntmps46
  go_wp2_with fail
  refine HC.out.mono ?_
  rintro e w1 ⟨rfl, vn, vc, N, ha, hs⟩
  obtain ⟨vn1, vc1, N1, _, hf1⟩ := R0.out.does (v := .int .i64 0) (e := .returned (.int .i64 0)) ⟨rfl, ⟨g.a, vn, vc, N⟩, ha, hs⟩
  have R1 := Lib.hid hf1
  clear ha hs hf1
  obtain ⟨cc, hcc⟩ : ∃ cc, Ct.createC s = cc := ⟨_, rfl⟩
  have HCC := Lib.hid hcc
  rw [hcc] at R1 ⊢
  clear hcc
  have d0 := cell_at R1.out.res 0; have d1 := cell_at R1.out.res 1; have f0 := free_at R1.out.res 0; have f1 := free_at R1.out.res 1
  simp only [List.getElem?_toArray, List.getElem?_cons_zero, List.getElem?_cons_succ] at d0 d1
  go_wp2_with fail
  have X6 : ((w1.setCell ⟨w.heap.size, 0, none⟩ (.int .i64 cc.1.root)).setCell ⟨w.heap.size, 1, none⟩ (.bool cc.1.readOnly)).heap[w.heap.size]? = some (.cells #[.int .i64 cc.1.root, .bool cc.1.readOnly] 43 (0, 0)) := by
    rw [heap_setCell_at _ w.heap.size 1 _ _ _ _ (heap_setCell_at w1 w.heap.size 0 _ _ _ _ R1.out.res)]; rfl
  refine bodyPost_ret (v := .agg #[.int .i64 cc.1.root, .bool cc.1.readOnly]) (results_cell_row Tryz.results46 _ _ w.heap.size 43 _ (0, 0) _ rfl X6 Tryz.underlying43 rfl info_Trie_size) rfl ?_
  show TrieRes g w (Ct.createC s) _ _
  rw [HCC.out]
  refine ⟨rfl, vn1, vc1, N1, ?_⟩
  exact R1.out.ret ((Keep.setCell (F := fun k => k = w.heap.size) w1 ⟨w.heap.size, 0, none⟩ _ rfl).trans (Keep.setCell (F := fun k => k = w.heap.size) _ ⟨w.heap.size, 1, none⟩ _ rfl) (fun _ h => .inl h))
end Go.Proofs.YtjlgchdekhmnnaaGreatDoor
end
section
namespace Go.Ct
structure Tab where
  ops : List (Int × Int × Trie × Bool) := []
  tries : List (Int × Trie) := []
  iters : List (Int × Nat) := []
end Go.Ct
namespace Go.Proofs.YtjlgchdekhmnnaaGreatDoor
open Go.RowKit
set_option linter.unusedVariables false
def valBegun (b : Int × Ct.Trie × Bool) : Value := .agg #[.int .i64 b.1, .int .i64 b.2.1.root, .bool b.2.1.readOnly, .bool b.2.2]
def valTrie (t : Ct.Trie) : Value := .agg #[.int .i64 t.root, .bool t.readOnly]
def valIter (b : Nat) : Value := .pointer (some ⟨b, 0, none⟩)
structure TabAt (g : Ghost) (w : World) (hb m1 m2 m3 mask : Nat) (T : Ct.Tab) : Prop where
  blk : w.heap[hb]? = some (.cells #[g.sv, .int .u64 (mask : Nat), .map (some m1), .map (some m2), .map (some m3)] 100 (0, 0))
  ops : MapAt w m1 (T.ops.map fun p => (p.1, valBegun p.2))
  tries : MapAt w m2 (T.tries.map fun p => (p.1, valTrie p.2))
  iters : MapAt w m3 (T.iters.map fun p => (p.1, valIter p.2))
  inN : g.N hb ∧ g.N m1 ∧ g.N m2 ∧ g.N m3
  out : ¬ g.Foot hb ∧ ¬ g.Foot m1 ∧ ¬ g.Foot m2 ∧ ¬ g.Foot m3
  ne : m1 ≠ m2 ∧ m1 ≠ m3 ∧ m2 ≠ m3
theorem TabAt.cell {g : Ghost} {w : World} {hb m1 m2 m3 mask : Nat} {T : Ct.Tab} (h : TabAt g w hb m1 m2 m3 mask T) (i : Nat) : w.cell? ⟨hb, i, none⟩ = (#[g.sv, .int .u64 (mask : Nat), .map (some m1), .map (some m2), .map (some m3)] : Array Value)[i]? := cell_at h.blk i
theorem TabAt.c0 {g : Ghost} {w : World} {hb m1 m2 m3 mask : Nat} {T : Ct.Tab} (h : TabAt g w hb m1 m2 m3 mask T) : w.cell? ⟨hb, 0, none⟩ = some g.sv := h.cell 0
theorem TabAt.c1 {g : Ghost} {w : World} {hb m1 m2 m3 mask : Nat} {T : Ct.Tab} (h : TabAt g w hb m1 m2 m3 mask T) : w.cell? ⟨hb, 1, none⟩ = some (.int .u64 (mask : Nat)) := h.cell 1
theorem TabAt.c2 {g : Ghost} {w : World} {hb m1 m2 m3 mask : Nat} {T : Ct.Tab} (h : TabAt g w hb m1 m2 m3 mask T) : w.cell? ⟨hb, 2, none⟩ = some (.map (some m1)) := h.cell 2
theorem TabAt.c3 {g : Ghost} {w : World} {hb m1 m2 m3 mask : Nat} {T : Ct.Tab} (h : TabAt g w hb m1 m2 m3 mask T) : w.cell? ⟨hb, 3, none⟩ = some (.map (some m2)) := h.cell 3
theorem TabAt.c4 {g : Ghost} {w : World} {hb m1 m2 m3 mask : Nat} {T : Ct.Tab} (h : TabAt g w hb m1 m2 m3 mask T) : w.cell? ⟨hb, 4, none⟩ = some (.map (some m3)) := h.cell 4
theorem TabAt.lt {g : Ghost} {w : World} {hb m1 m2 m3 mask : Nat} {T : Ct.Tab} (h : TabAt g w hb m1 m2 m3 mask T) : hb < w.heap.size := (Array.getElem?_eq_some_iff.1 h.blk).1
theorem TabAt.nmap {g : Ghost} {w : World} {hb m1 m2 m3 mask : Nat} {T : Ct.Tab} (h : TabAt g w hb m1 m2 m3 mask T) : hb ≠ m1 ∧ hb ≠ m2 ∧ hb ≠ m3 := by
  have h0 := h.blk
  obtain ⟨x1, c1, h1, _⟩ := h.ops
  obtain ⟨x2, c2, h2, _⟩ := h.tries
  obtain ⟨x3, c3, h3, _⟩ := h.iters
  refine ⟨fun e => ?_, fun e => ?_, fun e => ?_⟩ <;> subst e <;> simp_all
theorem TabAt.keep {g g' : Ghost} {w w' : World} {hb m1 m2 m3 mask : Nat} {T : Ct.Tab} {F : Nat → Prop} (h : TabAt g w hb m1 m2 m3 mask T) (hk : Keep F w w') (hF : ¬ F hb ∧ ¬ F m1 ∧ ¬ F m2 ∧ ¬ F m3) (ea : g'.a = g.a) (old : ∀ k, g.N k → g'.N k) (foot : ∀ k, g'.Foot k → g.Foot k ∨ w.heap.size ≤ k) : TabAt g' w' hb m1 m2 m3 mask T := by
  have esv : g'.sv = g.sv := by unfold Ghost.sv; rw [ea]
  have l0 := h.lt; have l1 := h.ops.lt; have l2 := h.tries.lt; have l3 := h.iters.lt
  have nf : ∀ k, k < w.heap.size → ¬ g.Foot k → ¬ g'.Foot k := fun k hl hn hf => by rcases foot k hf with h1 | h1; exact hn h1; omega
  refine ⟨by rw [hk.block hb l0 hF.1, esv]; exact h.blk, h.ops.keep hk hF.2.1, h.tries.keep hk hF.2.2.1, h.iters.keep hk hF.2.2.2, ⟨old _ h.inN.1, old _ h.inN.2.1, old _ h.inN.2.2.1, old _ h.inN.2.2.2⟩, ⟨nf _ l0 h.out.1, nf _ l1 h.out.2.1, nf _ l2 h.out.2.2.1, nf _ l3 h.out.2.2.2⟩, h.ne⟩
theorem TabAt.step {g g' : Ghost} {w w' : World} {s : Ct.St} {hb m1 m2 m3 mask : Nat} {T : Ct.Tab} (h : TabAt g w hb m1 m2 m3 mask T) (_ha : ArenaAt g w s) (hs : Step g w g' w') : TabAt g' w' hb m1 m2 m3 mask T :=
  h.keep hs.keep h.out hs.a hs.old hs.foot
theorem TabAt.below {g : Ghost} {w w' : World} {hb m1 m2 m3 mask : Nat} {T : Ct.Tab} (h : TabAt g w hb m1 m2 m3 mask T) (hb' : Below w.heap.size w w') : TabAt g w' hb m1 m2 m3 mask T :=
  h.keep (Keep.below hb' (fun _ => False)) ⟨fun h => h, fun h => h, fun h => h, fun h => h⟩ rfl (fun _ h => h) (fun _ h => .inl h)
def tput (es : List (Int × Ct.Trie)) (k : Int) (t : Ct.Trie) : List (Int × Ct.Trie) := if es.any (fun p => p.1 == k) then es.map (fun p => if p.1 == k then (k, t) else p) else es ++ [(k, t)]
def bput (es : List (Int × Int × Ct.Trie × Bool)) (k : Int) (t : Int × Ct.Trie × Bool) : List (Int × Int × Ct.Trie × Bool) := if es.any (fun p => p.1 == k) then es.map (fun p => if p.1 == k then (k, t) else p) else es ++ [(k, t)]
theorem mput_map {α : Type} (f : α → Value) (es : List (Int × α)) (k : Int) (t : α) : mput (es.map fun p => (p.1, f p.2)) k (f t) = (if es.any (fun p => p.1 == k) then es.map (fun p => if p.1 == k then (k, t) else p) else es ++ [(k, t)]).map fun p => (p.1, f p.2) := by
  have ha : (es.map fun p => (p.1, f p.2)).any (fun p => p.1 == k) = es.any (fun p => p.1 == k) := by rw [List.any_map]; rfl
  unfold mput
  rw [ha]
  split
  · rw [List.map_map, List.map_map]
    apply List.map_congr_left
    intro p _
    simp only [Function.comp]
    split <;> rfl
  · simp
theorem mlook_map {α : Type} (f : α → Value) (es : List (Int × α)) (k : Int) : mlook (es.map fun p => (p.1, f p.2)) k = ((es.find? (fun p => p.1 == k)).map (·.2)).map f := by
  unfold mlook
  rw [List.find?_map]
  simp [Function.comp_def, Option.map_map]
theorem TabAt.upd2 {g : Ghost} {w W : World} {hb m1 m2 m3 mask : Nat} {T : Ct.Tab} {k : Int} {t : Ct.Trie} (h : TabAt g w hb m1 m2 m3 mask T) (hk : Keep (fun b => b = m2) w W) (hm : MapAt W m2 (mput (T.tries.map fun p => (p.1, valTrie p.2)) k (valTrie t))) : TabAt g W hb m1 m2 m3 mask { T with tries := tput T.tries k t } := by
  refine ⟨by rw [hk.block hb h.lt h.nmap.2.1]; exact h.blk, h.ops.keep hk h.ne.1, ?_, h.iters.keep hk (fun e => h.ne.2.2 e.symm), h.inN, h.out, h.ne⟩
  rw [mput_map] at hm
  exact hm
theorem TabAt.upd1 {g : Ghost} {w W : World} {hb m1 m2 m3 mask : Nat} {T : Ct.Tab} {k : Int} {t : Int × Ct.Trie × Bool} (h : TabAt g w hb m1 m2 m3 mask T) (hk : Keep (fun b => b = m1) w W) (hm : MapAt W m1 (mput (T.ops.map fun p => (p.1, valBegun p.2)) k (valBegun t))) : TabAt g W hb m1 m2 m3 mask { T with ops := bput T.ops k t } := by
  refine ⟨by rw [hk.block hb h.lt h.nmap.1]; exact h.blk, ?_, h.tries.keep hk (fun e => h.ne.1 e.symm), h.iters.keep hk (fun e => h.ne.2.1 e.symm), h.inN, h.out, h.ne⟩
  rw [mput_map] at hm
  exact hm
theorem ArenaAt.other {g : Ghost} {w W : World} {s : Ct.St} {m : Nat} (h : ArenaAt g w s) (hk : Keep (fun b => b = m) w W) (hN : g.N m) (hF : ¬ g.Foot m) : ArenaAt g W s := h.own hk hN hF
def NewRes (g : Ghost) (w : World) (mask : Nat) (c : Ct.Trie × Ct.St) (e : Ending) (w' : World) : Prop :=
  e = .returned (.pointer (some ⟨w.heap.size + 3, 0, none⟩)) ∧ ∃ vn vc N, ArenaAt ⟨g.a, vn, vc, N⟩ w' c.2 ∧ TabAt ⟨g.a, vn, vc, N⟩ w' (w.heap.size + 3) w.heap.size (w.heap.size + 1) (w.heap.size + 2) mask { tries := [(0, c.1)] } ∧ Step g w ⟨g.a, vn, vc, N⟩ w'
theorem arena_more {g : Ghost} {w W : World} {s : Ct.St} (h : ArenaAt g w s) (hb : Below w.heap.size w W) : ArenaAt { g with N := fun k => g.N k ∨ (w.heap.size ≤ k ∧ k < W.heap.size) } W s :=
  h.keep (Keep.below hb (fun _ => False)) (N' := fun k => g.N k ∨ (w.heap.size ≤ k ∧ k < W.heap.size)) (fun _ h => h.elim) (fun _ h => h.elim) (fun k hk => hk.elim .inl (fun e => .inr e.1)) (fun _ h => .inl h) (fun k hk => hk.elim (fun h3 => Nat.lt_of_lt_of_le (h.nlt k h3) hb.size) (fun e => e.2))
set_option maxRecDepth 100000 in
set_option maxHeartbeats 800000 in
theorem handleNew_any (g : Ghost) (w : World) (s : Ct.St) (mask : Nat) (h : ArenaAt g w s) (hfin : Fin 400 s) :
    Calls Tryz.prog 10 #[g.sv, .int .u64 (mask : Nat)] w (NewRes g w mask (Ct.createC s)) := by
  have hNW := ((((News.nil w).alloc (.map #[] 0)).alloc (.map #[] 0)).alloc (.map #[] 0)).alloc (.cells #[g.sv, .int .u64 (mask : Nat), .map (some w.heap.size), .map (some (w.heap.size + 1)), .map (some (w.heap.size + 2))] 100)
  obtain ⟨W0, hW0⟩ : ∃ W, (((w.alloc (.map #[] 0)).alloc (.map #[] 0)).alloc (.map #[] 0)).alloc (.cells #[g.sv, .int .u64 (mask : Nat), .map (some w.heap.size), .map (some (w.heap.size + 1)), .map (some (w.heap.size + 2))] 100) = W := ⟨_, rfl⟩
  rw [hW0] at hNW
  have z := hNW.size
  simp at z
  have hA0 := arena_more h hNW.below
  have hem : ∀ j, (_ : List Obj)[j]? = some (.map #[] 0) → MapAt W0 (w.heap.size + j) [] := fun j hj => ⟨#[], 0, hNW.at_ j _ hj, rfl, by simp⟩
  have nf : ∀ k, w.heap.size ≤ k → ¬ g.Foot k := fun k hk hf => absurd (h.nlt k (h.foot k hf)) (by omega)
  have hT0 : TabAt { g with N := fun k => g.N k ∨ (w.heap.size ≤ k ∧ k < W0.heap.size) } W0 (w.heap.size + 3) w.heap.size (w.heap.size + 1) (w.heap.size + 2) mask {} :=
    ⟨hNW.at_ 3 _ rfl, hem 0 rfl, hem 1 rfl, hem 2 rfl, ⟨.inr (by omega), .inr (by omega), .inr (by omega), .inr (by omega)⟩, ⟨nf _ (by omega), nf _ (by omega), nf _ (by omega), nf _ (by omega)⟩, ⟨by omega, by omega, by omega⟩⟩
  have hcr := create_any { g with N := fun k => g.N k ∨ (w.heap.size ≤ k ∧ k < W0.heap.size) } W0.drew s (hA0.below ⟨rfl, rfl, rfl, Nat.le_refl _, fun _ _ => rfl⟩) hfin
  obtain ⟨cc, hcc⟩ : ∃ cc, Ct.createC s = cc := ⟨_, rfl⟩
  rw [hcc] at hcr ⊢
  have HC := Lib.hid hcr; have HA0 : Hid (ArenaAt { g with N := fun k => g.N k ∨ (w.heap.size ≤ k ∧ k < W0.heap.size) } W0.drew s) := hA0.below ⟨rfl, rfl, rfl, Nat.le_refl _, fun _ _ => rfl⟩
  have HT0 : Hid (TabAt { g with N := fun k => g.N k ∨ (w.heap.size ≤ k ∧ k < W0.heap.size) } W0.drew (w.heap.size + 3) w.heap.size (w.heap.size + 1) (w.heap.size + 2) mask {}) := hT0.below ⟨rfl, rfl, rfl, Nat.le_refl _, fun _ _ => rfl⟩
  have HCM := Lib.hid HT0.out.c3
  have HW := Lib.hid hW0; have HB := Lib.hid hNW.below; have HZ := Lib.hid z
  have hmm := @run_makeMap Tryz.prog
  have hnil2 : ∀ (T : TypeId) (v : Value) (w : World), (binOp BinOp.neq 95 (.iface T v) .nilIface).run Tryz.prog w = .ok (.bool true) w := fun _ _ _ => by kernel_rfl
  clear h hfin hNW hW0 z hA0 hem nf hT0 hcr hcc
  unfold Ghost.sv
  unfold Ghost.sv at HC
  go_enter Tryz.func10, Tryz.ntmps10
  go_wp2_with fail
  refine code_world HW.out ?_
  refine wp_region_held_drew (S := fun W' => W'.cell? ⟨w.heap.size + 3, 3, none⟩ = some (.map (some (w.heap.size + 1))) ∧ True) (by kernel_rfl) ⟨HCM.out, trivial⟩ (fun hS => ?_)
  refine wpAnyH_take (i := 0) (oi := { dst := (some 15), op := (Op.move (Operand.tmp 5)), type := 25, pos := "handle.go:54", after := #[], guard := none }) (v := .pointer (some ⟨w.heap.size + 3, 0, none⟩)) rfl (by kernel_rfl) (by kernel_rfl) (by kernel_rfl) (fun _ _ _ h => h) (Or.inl ⟨by rfl, fun W' hW => ?_⟩) hS ?_
  · go_simp
  (try simp only [Act.put, sI, sZ, sS])
  refine wpAnyH_take (i := 1) (oi := { dst := (some 16), op := (Op.nilCheck (Operand.tmp 15)), type := 0, pos := "handle.go:54", after := #[⟨0, .data⟩], guard := none }) (v := .pointer (some ⟨w.heap.size + 3, 0, none⟩)) rfl (by kernel_rfl) (by kernel_rfl) (by kernel_rfl) (fun _ _ _ h => h) (Or.inl ⟨by rfl, fun W' hW => ?_⟩) hS ?_
  · go_simp
  (try simp only [Act.put, sI, sZ, sS])
  refine wpAnyH_take (i := 2) (oi := { dst := (some 17), op := (Op.fieldAddr 100 (Operand.tmp 16) 3), type := 0, pos := "handle.go:54", after := #[⟨1, .data⟩], guard := none }) (v := .pointer (some ⟨w.heap.size + 3, 3, none⟩)) rfl (by kernel_rfl) (by kernel_rfl) (by kernel_rfl) (fun _ _ _ h => h) (Or.inl ⟨by rfl, fun W' hW => ?_⟩) hS ?_
  · go_simp
  (try simp only [Act.put, sI, sZ, sS])
  refine wpAnyH_take (i := 3) (oi := { dst := (some 18), op := (Op.load 97 (Operand.tmp 17)), type := 97, pos := "handle.go:54", after := #[⟨2, .data⟩], guard := none }) (v := .map (some (w.heap.size + 1))) rfl (by kernel_rfl) (by kernel_rfl) (by kernel_rfl) (fun _ _ _ h => h) (Or.inl ⟨by rfl, fun W' hW => ?_⟩) hS ?_
  · go_simp
  (try simp only [Act.put, sI, sZ, sS])
  refine wpAnyH_take (i := 4) (oi := { dst := (some 19), op := (Op.move (Operand.tmp 0)), type := 95, pos := "handle.go:54", after := #[], guard := none }) (v := .iface 23 (.pointer (some ⟨g.a, 0, none⟩))) rfl (by kernel_rfl) (by kernel_rfl) (by kernel_rfl) (fun _ _ _ h => h) (Or.inl ⟨by rfl, fun W' hW => ?_⟩) hS ?_
  · go_simp
  (try simp only [Act.put, sI, sZ, sS])
  refine wpAnyH_ready (rs := [5]) (by kernel_rfl) (by simp) ?_
  refine AllReadyH.cons (o := { dst := (some 20), op := (Op.call { callee := (Callee.value (Operand.func 46)), args := #[(Operand.tmp 19)], argTypes := #[95] }), type := 43, pos := "handle.go:54", after := #[⟨4, .data⟩], guard := none }) rfl (fun K hK => ?_) AllReadyH.nil
  go_simp
  refine HC.out.mono ?_
  rintro e w1 ⟨rfl, vn, vc, N, ha, hs⟩
  have A1 := Lib.hid ha; have S1 := Lib.hid hs
  have T1 := Lib.hid (HT0.out.step HA0.out hs)
  have HUX := run_update 97 3 43 Tryz.underlying97 Tryz.underlying3 w1 _ _ T1.out.tries 0 (valTrie cc.1)
  obtain ⟨W2, hu, hm, hk, hsz⟩ := HUX
  have M2 := Lib.hid hm; have K2 := Lib.hid hk; have Z2 := Lib.hid hsz
  unfold valTrie at hu
  clear ha hs hm hk hsz
  refine hK.out _ _ ⟨T1.out.c3, trivial⟩ (fun hS => ?_)
  clear hK K
  (try simp only [Act.put, sI, sZ, sS])
  refine wpAnyH_ready (rs := [6]) (by kernel_rfl) (by simp) ?_
  refine AllReadyH.cons (o := { dst := none, op := (Op.mapUpdate 97 (Operand.tmp 18) (Operand.const (Value.int IntKind.i64 0)) (Operand.tmp 20)), type := 0, pos := "handle.go:54", after := #[⟨3, .data⟩, ⟨5, .data⟩, ⟨5, .chain⟩, ⟨0, .phase⟩, ⟨1, .phase⟩, ⟨2, .phase⟩, ⟨3, .phase⟩, ⟨4, .phase⟩, ⟨5, .phase⟩], guard := none }) rfl (fun K hK => ?_) AllReadyH.nil
  go_simp
  refine hK.out _ _ ⟨(T1.out.upd2 K2.out M2.out).c3, trivial⟩ (fun hS => ?_)
  clear hK K
  (try simp only [Act.put, sI, sZ, sS])
  refine wpAnyH_done (by kernel_rfl) ?_ _
  go_wp2_with fail
  go_ret
  refine ⟨rfl, vn, vc, N, ?_, ?_, ?_⟩
  · exact A1.out.other K2.out T1.out.inN.2.2.1 T1.out.out.2.2.1
  · exact T1.out.upd2 K2.out M2.out
  · have s1 := S1.out
    refine ⟨rfl, ?_, fun k hk => ?_, fun k hk => s1.old k (.inl hk), fun k hk => ?_⟩
    · exact ((Keep.below HB.out g.Foot).trans (G := g.Foot) ⟨s1.keep.os, s1.keep.tape, s1.keep.output, s1.keep.size, s1.keep.block⟩ (fun k h1 => .inl h1)).trans K2.out (fun k e => .inr (by omega))
    · rcases s1.new k hk with (h2 | h2) | h2
      · exact .inl h2
      · exact .inr h2.1
      · exact .inr (Nat.le_trans HB.out.size h2)
    · rcases s1.foot k hk with h2 | h2
      · exact .inl h2
      · exact .inr (Nat.le_trans HB.out.size h2)
end Go.Proofs.YtjlgchdekhmnnaaGreatDoor
end
