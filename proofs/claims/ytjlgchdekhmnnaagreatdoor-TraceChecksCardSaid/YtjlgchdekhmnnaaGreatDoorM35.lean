/- Parts of a proof: Pick. -/
import Derived.Test.YtjlgchdekhmnnaaGreatDoorM34
import Derived.Deep.RegionHeld3
section
namespace Go.Proofs.YtjlgchdekhmnnaaGreatDoor
open Go.RowKit
set_option linter.unusedVariables false
set_option maxRecDepth 100000 in
set_option maxHeartbeats 3000000 in
theorem pick_none (n : Nat) (g : Ghost) (w : World) (m : MFix) (role : Nat → Option Role) (vth vpk vhi : Value) (ov : Nat → Value) (tb : Nat → Nat) (pk : List Int) (M : Ct.Mach) (i : Nat) (t : Ct.Th) (h : MachX (fun _ => False) g w m role vth vpk vhi ov tb pk M) (inv : MInv (n + 1) M) (hi : M.threads[i]? = some t) (hp : t.present = none) (hx : t.index < t.ops.length) :
    Calls Tryz.prog 22 #[.pointer (some ⟨m.mb, 0, none⟩), .int .i64 (i : Nat)] w (PickRes g w m role vpk pk (lastM i t (firstM i t M).1 (firstM i t M).2, true)) := by
  obtain ⟨gt, cap, hvt, hr, hcell, hfree⟩ := h.body.thread i t hi
  subst hvt
  have hlt := (List.getElem?_eq_some_iff.1 hi).1
  obtain ⟨o, ho⟩ : ∃ o, t.ops[t.index]? = some o := ⟨t.ops[t.index], List.getElem?_eq_getElem hx⟩
  obtain ⟨ob, off, ocap, eov, hoN, hob, hocell⟩ := op_cells (h.body.ops i t hi) t.index o ho
  have c0 := h.body.cell 0; have c1 := h.body.cell 1; have c2 := h.body.cell 2; have c4 := h.body.cell 4; have c5 := h.body.cell 5
  have t0 := hcell 0 (by decide); have t1 := hcell 1 (by decide); have t2 := hcell 2 (by decide)
  simp only [thC, hp, eov, List.getElem?_cons_zero, List.getElem?_cons_succ, Nat.add_zero] at c2 t0 t1 t2
  simp at c0 c1 c2 c4 c5 t2
  have f5 := h.body.free 5
  have q1 : ¬ ((i : Int) < 0) := by omega
  have q3 : i < M.threads.length := hlt
  have q4 : decide (M.threads.length ≤ i) = false := by simp; omega
  have q6 : decide (t.ops.length ≤ t.index) = false := by simp; omega
  have q5 : M.count ≤ 1000000 := by have := inv.cnt; omega
  have HD := Lib.hid (thDone_any w gt (i * 3) t.index t.ops.length ocap _ t0 t1)
  have H := Lib.hid h; have INV := Lib.hid inv
  rw [q6] at HD
  have ti := inv.th i t hi
  have i8 : i < 8 := by have := inv.nth; omega
  have x16 : t.index < 16 := by have := ti.ops; omega
  have HN0 : Hid (0 ≤ Ct.numberC (i : Nat) (t.index : Nat)) := by show 0 ≤ Ct.numberC (i : Nat) (t.index : Nat); unfold Ct.numberC; rw [if_neg (by omega)]; omega
  have HN1 : Hid (M.tab.ops.find? (fun p => p.1 == Ct.numberC (i : Nat) (t.index : Nat)) = none) := ti.later t.index (Nat.le_refl _) x16 (.inl hp)
  have HKO : Hid (KnownOp M.tab o) := by
    have hok := ti.kinds o (List.mem_of_getElem? ho)
    rcases hok.1 with h1 | h1
    · exact .inl h1
    · exact .inr ⟨h1, by rw [hok.2.resolve_left (by rcases h1 with h1 | ⟨h1, _⟩ <;> omega)]; exact inv.zero⟩
  have HHI := Lib.hid hi; have HP := Lib.hid hp
  have HMK : Hid (m.mask < 18446744073709551616) := Lib.hid (h.msk ▸ inv.msk); have HMM : Hid (M.mask = m.mask) := Lib.hid h.msk
  clear ti
  clear h inv hcell hfree hlt hi hp hr
  go_enter Tryz.func22, Tryz.ntmps22
  go_wp2_with fail
  refine HD.out.mono ?_
  rintro e w1 ⟨rfl, hb1⟩
  have H1 := Lib.hid (MachX.mk (H.out.arena.below hb1) (H.out.tab.below hb1) (H.out.body.below hb1) H.out.msk)
  obtain ⟨W2, hW2⟩ : ∃ W, w1.setCell ⟨m.mb, 5, none⟩ (.int .i64 ((M.count : Int) + 1)) = W := ⟨_, rfl⟩
  have h2 : MachX (fun _ => False) g W2 m role (.slice (some ⟨gt, 0, none⟩) M.threads.length cap) vpk vhi ov tb pk { M with count := M.count + 1 } := hW2 ▸ H1.out.count (M.count + 1) (by omega)
  obtain ⟨gt', cap', hvt, hr2, hcell2, hfree2⟩ := h2.body.thread i t HHI.out
  injection hvt with e1 e2 e3; injection e1 with e1; injection e1 with e1; subst e1; subst e3
  have c2' := cell_below c2 hb1; have c5' := cell_below c5 hb1
  have t2' : (w1.setCell ⟨m.mb, 5, none⟩ (.int .i64 ((M.count : Int) + 1))).cell? ⟨gt, i * 3 + 2, none⟩ = some (.pointer none) := by rw [hW2, hcell2 2 (by decide)]; simp [thC, HP.out]
  have f5' := H1.out.body.free 5
  have HB2 : Hid (MvN (Own g role) g w (Own g role) g W2) := ⟨⟨fun k => k = m.mb, by rw [← hW2]; exact (Keep.below hb1 (fun k => k = m.mb)).trans (Keep.setCell (F := fun k => k = m.mb) w1 ⟨m.mb, 5, none⟩ _ rfl) (fun _ h => .inl h), fun k e => .inl (.inr (by rw [e]; exact ne_of_some (H.out.body.rmb)))⟩, fun _ h => .inl h, fun _ h => h, fun _ h => .inl h⟩
  have T1 : Hid (W2.cell? ⟨gt, i * 3 + 1, none⟩ = some (.int .i64 (t.index : Nat))) := by show _ = _; rw [hcell2 1 (by decide)]; rfl
  have H2 := Lib.hid h2; have HW2 := Lib.hid hW2
  clear c2 c5 t2 t1 t0 c0 c1 c4 f5 hb1 h2 hcell2 hfree2 hr2 hW2 H1 H HD
  go_wp2_with fail
  refine code_world HW2.out ?_
  obtain ⟨i0, hi0, hz0, hz1, hz2⟩ := info_parts info_Event
  have c4 := H2.out.body.cell 4
  simp at c4
  have f4 := H2.out.body.free 4
  have t1 := T1.out
  have c4' := cell_alloc c4
  have hne4 : vhi.ownBlock ≠ some m.mb := fun e => by have := H2.out.body.rhi _ e; rw [H2.out.body.rmb] at this; cases this
  have HON := Lib.hid (H2.out.body.hist.alloc (.cells (evC { thread := i, index := t.index }).toArray 132))
  have HNW := Lib.hid (new_row (w := W2) (cs := evC { thread := i, index := t.index }) (t := 132))
  have HO1 := Lib.hid (evC_one { thread := i, index := t.index })
  have qh : M.history.length ≤ 1000000 := by have := INV.out.hist; omega
  apply wp_join (EvPost W2 vhi m M.history.length ((M.history.map evC).flatten ++ evC { thread := i, index := t.index }))
  · generalize hJ : Join _ _ = J
    have HJ := Lib.hid hJ
    clear hJ
    go_region_law (refine step_append_lies _ rfl (.tmp 49) (.tmp 56) 66 rfl 0 132 i0 (.agg zeroEvent) 11 96 Tryz.underlying66 hi0 hz0 hz1 hz2 rfl (by decide) _ M.history.length (M.history.map evC).flatten rfl HON.out ⟨W2.heap.size, 0, none⟩ 1 1 (evC { thread := i, index := t.index }) rfl rfl HNW.out HO1.out (by decide) (by unfold maxLen; omega) (by omega) (Nat.zero_le _) _ rfl ?_; intro gb capb w3 hown3 hgrow3 hat3 hlt3; have hf3 := grown_facts (w := W2) (o := .cells (evC { thread := i, index := t.index }).toArray 132) (a := ⟨m.mb, 4, none⟩) hgrow3 rfl c4 f4 hne4; obtain ⟨e3, f3⟩ := hf3)
    all_goals
      show J _ _
      rw [← HJ.out]
      exact Join.of gb capb (EvPost.of hown3 ⟨hgrow3.os, hgrow3.tape, hgrow3.output, hgrow3.size, hgrow3.block⟩ hat3)
  rintro gb capb W3 ⟨w3, rfl, hown3, hk3, hat3⟩
  have h3 := H2.out.event { thread := i, index := t.index } gb capb hk3 hown3 hat3
  obtain ⟨W3, hW3⟩ : ∃ W, w3.setCell ⟨m.mb, 4, none⟩ (.slice (some ⟨gb, 0, none⟩) (M.history.length + 1) capb) = W := ⟨_, rfl⟩
  rw [hW3] at h3
  have HW3 := Lib.hid hW3
  obtain ⟨gt', cap', hvt, hr3, hcell3, hfree3⟩ := h3.body.thread i t HHI.out
  injection hvt with e1 e2 e3; injection e1 with e1; injection e1 with e1; subst e1; subst e3
  have k23 : MvN (Own g role) g W2 (Own (g.withN fun k => g.N k ∨ k = gb) (fun k => if k = gb then some .hist else role k)) (g.withN fun k => g.N k ∨ k = gb) W3 := hW3 ▸ H2.out.eventMv gb hk3 hat3
  have HB3 := Lib.hid (HB2.out.trans k23)
  have ho3 := op_cells (h3.body.ops i t HHI.out) t.index o ho
  obtain ⟨ob', off', ocap', eov', hoN', hob', hoc⟩ := ho3
  rw [eov] at eov'
  injection eov' with e1 e2 e3; injection e1 with e1; injection e1 with e1 e4; subst e1; subst e4; subst e3
  have o0 := hoc 0 (by decide); have o1 := hoc 1 (by decide); have o2 := hoc 2 (by decide); have o3 := hoc 3 (by decide); have o4 := hoc 4 (by decide)
  have t0 := hcell3 0 (by decide); have t1 := hcell3 1 (by decide); have t2 := hcell3 2 (by decide)
  have c1 := h3.body.cell 1
  simp only [opC, thC, eov, List.getElem?_cons_zero, List.getElem?_cons_succ, Nat.add_zero] at o0 o1 o2 o3 o4 t0 t1
  simp at c1
  have q7 : t.index < t.ops.length := hx
  have q8 : (0 : Int) ≤ (t.index : Int) := by omega
  have H3 := Lib.hid h3; have HN3 := Lib.hid hfree3
  clear hown3 hk3 hat3 k23 hoc hob' hoN' hcell3 hfree3 h3 hW3 hr3 hocell hob hoN T1 c4 c4' f4 hne4 HON HNW HO1
  go_wp2_with fail
  refine code_world HW3.out ?_
  have HBG := Lib.hid (begin_all (g.withN fun k => g.N k ∨ k = gb) W3.drew M.st m.hb m.m1 m.m2 m.m3 m.mask M.tab (i : Nat) (t.index : Nat) o (H3.out.arena.below (Below.drew0 W3)) (H3.out.tab.below (Below.drew0 W3)) (INV.out.fin.less (by omega)) HN0.out HN1.out HKO.out HMK.out M.mask HMM.out)
  have HS3 : Hid (SevenS m gt i off ob t o ocap W3.drew) := ⟨c1, t0, t1, o0, o1, o2, o3, o4⟩
  have HT2 : Hid (∀ g' w5 s' T', StepF (fun k => k = m.m1) (g.withN fun k => g.N k ∨ k = gb) W3.drew g' w5 → ArenaAt g' w5 s' → TabAt g' w5 m.hb m.m1 m.m2 m.m3 m.mask T' → (w5.cell? ⟨gt, i * 3 + 2, none⟩ = some (.pointer none) ∧ w5.frozen? ⟨gt, i * 3 + 2, none⟩ = false) ∧ SevenS m gt i off ob t o ocap w5 ∧ ob ≠ gt ∧ m.mb ≠ gt) := fun g' w5 s' T' hs ha ht => by
    have h5 := (H3.out.below (Below.drew0 W3)).begun hs ha ht
    obtain ⟨gt', cap', hvt, hr3, hcell3, hfree3⟩ := h5.body.thread i t HHI.out
    injection hvt with e1 e2 e3; injection e1 with e1; injection e1 with e1; subst e1
    obtain ⟨ob', off', ocap', eov', hoN', hob', hoc⟩ := op_cells (h5.body.ops i t HHI.out) t.index o ho
    rw [eov] at eov'
    injection eov' with e1 e2 e3; injection e1 with e1; injection e1 with e1 e4; subst e1; subst e4; subst e3
    have x0 := hcell3 0 (by decide); have x1 := hcell3 1 (by decide)
    rw [eov] at x0
    have y0 := hoc 0 (by decide); have y1 := hoc 1 (by decide); have y2 := hoc 2 (by decide); have y3 := hoc 3 (by decide); have y4 := hoc 4 (by decide)
    have z1 := h5.body.cell 1
    refine ⟨⟨by rw [hcell3 2 (by decide)]; simp [thC, HP.out], hfree3 _⟩, ⟨z1, x0, x1, y0, y1, y2, y3, y4⟩, fun e => hoN' (e ▸ (h5.body.rN _ _ hr3).1), fun e => ?_⟩
    rw [← e, h5.body.rmb] at hr3; cases hr3
  unfold opC at HBG
  clear HW2 HW3 H2 t2 c1 t0 t1 o0 o1 o2 o3 o4
  apply wp_join (BegPost (g.withN fun k => g.N k ∨ k = gb) W3.drew m ⟨gt, i * 3 + 2, none⟩ (beginM M.mask M.tab (i : Nat) (t.index : Nat) o M.st).1 (beginM M.mask M.tab (i : Nat) (t.index : Nat) o M.st).2)
  · generalize hJ : Join _ _ = J
    have HJ := Lib.hid hJ
    clear hJ
    refine wp_region_held_drew (S := fun W' => SevenS m gt i off ob t o ocap W') (by kernel_rfl) HS3.out (fun hS => ?_)
    refine wpAnyH_take (i := 0) (oi := { dst := (some 60), op := (Op.move (Operand.tmp 5)), type := 130, pos := "sched.go:63", after := #[], guard := none }) (v := .pointer (some ⟨gt, i * 3, none⟩)) rfl (by kernel_rfl) (by kernel_rfl) (by kernel_rfl) (fun _ _ _ h => h) (Or.inl ⟨by rfl, fun W' hW => ?_⟩) hS ?_
    · go_simp
    (try simp only [Act.put, sI, sZ, sS])
    refine wpAnyH_take (i := 1) (oi := { dst := (some 61), op := (Op.move (Operand.tmp 0)), type := 52, pos := "sched.go:63", after := #[], guard := none }) (v := .pointer (some ⟨m.mb, 0, none⟩)) rfl (by kernel_rfl) (by kernel_rfl) (by kernel_rfl) (fun _ _ _ h => h) (Or.inl ⟨by rfl, fun W' hW => ?_⟩) hS ?_
    · go_simp
    (try simp only [Act.put, sI, sZ, sS])
    refine wpAnyH_take (i := 2) (oi := { dst := (some 62), op := (Op.nilCheck (Operand.tmp 61)), type := 0, pos := "sched.go:63", after := #[⟨1, .data⟩], guard := none }) (v := .pointer (some ⟨m.mb, 0, none⟩)) rfl (by kernel_rfl) (by kernel_rfl) (by kernel_rfl) (fun _ _ _ h => h) (Or.inl ⟨by rfl, fun W' hW => ?_⟩) hS ?_
    · go_simp
    (try simp only [Act.put, sI, sZ, sS])
    refine wpAnyH_take (i := 3) (oi := { dst := (some 63), op := (Op.fieldAddr 125 (Operand.tmp 62) 1), type := 0, pos := "sched.go:63", after := #[⟨2, .data⟩], guard := none }) (v := .pointer (some ⟨m.mb, 1, none⟩)) rfl (by kernel_rfl) (by kernel_rfl) (by kernel_rfl) (fun _ _ _ h => h) (Or.inl ⟨by rfl, fun W' hW => ?_⟩) hS ?_
    · go_simp
    (try simp only [Act.put, sI, sZ, sS])
    refine wpAnyH_take (i := 4) (oi := { dst := (some 64), op := (Op.load 25 (Operand.tmp 63)), type := 25, pos := "sched.go:63", after := #[⟨3, .data⟩], guard := none }) (v := .pointer (some ⟨m.hb, 0, none⟩)) rfl (by kernel_rfl) (by kernel_rfl) (by kernel_rfl) (fun _ _ _ h => h) (Or.inl ⟨by rfl, fun W' hW => ?_⟩) hS ?_
    · (have hr := hW.c1; go_simp)
    (try simp only [Act.put, sI, sZ, sS])
    refine wpAnyH_take (i := 5) (oi := { dst := (some 65), op := (Op.move (Operand.tmp 1)), type := 3, pos := "sched.go:63", after := #[], guard := none }) (v := .int .i64 (i : Nat)) rfl (by kernel_rfl) (by kernel_rfl) (by kernel_rfl) (fun _ _ _ h => h) (Or.inl ⟨by rfl, fun W' hW => ?_⟩) hS ?_
    · go_simp
    (try simp only [Act.put, sI, sZ, sS])
    refine wpAnyH_take (i := 6) (oi := { dst := (some 66), op := (Op.move (Operand.tmp 5)), type := 130, pos := "sched.go:63", after := #[], guard := none }) (v := .pointer (some ⟨gt, i * 3, none⟩)) rfl (by kernel_rfl) (by kernel_rfl) (by kernel_rfl) (fun _ _ _ h => h) (Or.inl ⟨by rfl, fun W' hW => ?_⟩) hS ?_
    · go_simp
    (try simp only [Act.put, sI, sZ, sS])
    refine wpAnyH_take (i := 7) (oi := { dst := (some 67), op := (Op.nilCheck (Operand.tmp 66)), type := 0, pos := "sched.go:63", after := #[⟨6, .data⟩], guard := none }) (v := .pointer (some ⟨gt, i * 3, none⟩)) rfl (by kernel_rfl) (by kernel_rfl) (by kernel_rfl) (fun _ _ _ h => h) (Or.inl ⟨by rfl, fun W' hW => ?_⟩) hS ?_
    · go_simp
    (try simp only [Act.put, sI, sZ, sS])
    refine wpAnyH_take (i := 8) (oi := { dst := (some 68), op := (Op.fieldAddr 128 (Operand.tmp 67) 1), type := 0, pos := "sched.go:63", after := #[⟨7, .data⟩], guard := none }) (v := .pointer (some ⟨gt, i * 3 + 1, none⟩)) rfl (by kernel_rfl) (by kernel_rfl) (by kernel_rfl) (fun _ _ _ h => h) (Or.inl ⟨by rfl, fun W' hW => ?_⟩) hS ?_
    · go_simp
    (try simp only [Act.put, sI, sZ, sS])
    refine wpAnyH_take (i := 9) (oi := { dst := (some 69), op := (Op.load 3 (Operand.tmp 68)), type := 3, pos := "sched.go:63", after := #[⟨8, .data⟩], guard := none }) (v := .int .i64 (t.index : Nat)) rfl (by kernel_rfl) (by kernel_rfl) (by kernel_rfl) (fun _ _ _ h => h) (Or.inl ⟨by rfl, fun W' hW => ?_⟩) hS ?_
    · (have hr := hW.t1; go_simp)
    (try simp only [Act.put, sI, sZ, sS])
    refine wpAnyH_take (i := 10) (oi := { dst := (some 70), op := (Op.move (Operand.tmp 5)), type := 130, pos := "sched.go:63", after := #[], guard := none }) (v := .pointer (some ⟨gt, i * 3, none⟩)) rfl (by kernel_rfl) (by kernel_rfl) (by kernel_rfl) (fun _ _ _ h => h) (Or.inl ⟨by rfl, fun W' hW => ?_⟩) hS ?_
    · go_simp
    (try simp only [Act.put, sI, sZ, sS])
    refine wpAnyH_take (i := 11) (oi := { dst := (some 71), op := (Op.nilCheck (Operand.tmp 70)), type := 0, pos := "sched.go:63", after := #[⟨10, .data⟩], guard := none }) (v := .pointer (some ⟨gt, i * 3, none⟩)) rfl (by kernel_rfl) (by kernel_rfl) (by kernel_rfl) (fun _ _ _ h => h) (Or.inl ⟨by rfl, fun W' hW => ?_⟩) hS ?_
    · go_simp
    (try simp only [Act.put, sI, sZ, sS])
    refine wpAnyH_take (i := 12) (oi := { dst := (some 72), op := (Op.fieldAddr 128 (Operand.tmp 71) 0), type := 0, pos := "sched.go:63", after := #[⟨11, .data⟩], guard := none }) (v := .pointer (some ⟨gt, i * 3, none⟩)) rfl (by kernel_rfl) (by kernel_rfl) (by kernel_rfl) (fun _ _ _ h => h) (Or.inl ⟨by rfl, fun W' hW => ?_⟩) hS ?_
    · go_simp
    (try simp only [Act.put, sI, sZ, sS])
    refine wpAnyH_take (i := 13) (oi := { dst := (some 73), op := (Op.load 119 (Operand.tmp 72)), type := 119, pos := "sched.go:63", after := #[⟨12, .data⟩], guard := none }) (v := .slice (some ⟨ob, off, none⟩) t.ops.length ocap) rfl (by kernel_rfl) (by kernel_rfl) (by kernel_rfl) (fun _ _ _ h => h) (Or.inl ⟨by rfl, fun W' hW => ?_⟩) hS ?_
    · (have hr := hW.t0; go_simp)
    (try simp only [Act.put, sI, sZ, sS])
    refine wpAnyH_take (i := 14) (oi := { dst := (some 74), op := (Op.move (Operand.tmp 5)), type := 130, pos := "sched.go:63", after := #[], guard := none }) (v := .pointer (some ⟨gt, i * 3, none⟩)) rfl (by kernel_rfl) (by kernel_rfl) (by kernel_rfl) (fun _ _ _ h => h) (Or.inl ⟨by rfl, fun W' hW => ?_⟩) hS ?_
    · go_simp
    (try simp only [Act.put, sI, sZ, sS])
    refine wpAnyH_take (i := 15) (oi := { dst := (some 75), op := (Op.nilCheck (Operand.tmp 74)), type := 0, pos := "sched.go:63", after := #[⟨14, .data⟩], guard := none }) (v := .pointer (some ⟨gt, i * 3, none⟩)) rfl (by kernel_rfl) (by kernel_rfl) (by kernel_rfl) (fun _ _ _ h => h) (Or.inl ⟨by rfl, fun W' hW => ?_⟩) hS ?_
    · go_simp
    (try simp only [Act.put, sI, sZ, sS])
    refine wpAnyH_take (i := 16) (oi := { dst := (some 76), op := (Op.fieldAddr 128 (Operand.tmp 75) 1), type := 0, pos := "sched.go:63", after := #[⟨15, .data⟩], guard := none }) (v := .pointer (some ⟨gt, i * 3 + 1, none⟩)) rfl (by kernel_rfl) (by kernel_rfl) (by kernel_rfl) (fun _ _ _ h => h) (Or.inl ⟨by rfl, fun W' hW => ?_⟩) hS ?_
    · go_simp
    (try simp only [Act.put, sI, sZ, sS])
    refine wpAnyH_take (i := 17) (oi := { dst := (some 77), op := (Op.load 3 (Operand.tmp 76)), type := 3, pos := "sched.go:63", after := #[⟨16, .data⟩], guard := none }) (v := .int .i64 (t.index : Nat)) rfl (by kernel_rfl) (by kernel_rfl) (by kernel_rfl) (fun _ _ _ h => h) (Or.inl ⟨by rfl, fun W' hW => ?_⟩) hS ?_
    · (have hr := hW.t1; go_simp)
    (try simp only [Act.put, sI, sZ, sS])
    refine wpAnyH_take (i := 18) (oi := { dst := (some 78), op := (Op.indexAddr 119 (Operand.tmp 73) (Operand.tmp 77)), type := 0, pos := "sched.go:63", after := #[⟨13, .data⟩, ⟨17, .data⟩], guard := none }) (v := .pointer (some ⟨ob, off + t.index * 5, none⟩)) rfl (by kernel_rfl) (by kernel_rfl) (by kernel_rfl) (fun _ _ _ h => h) (Or.inl ⟨by rfl, fun W' hW => ?_⟩) hS ?_
    · go_simp
    (try simp only [Act.put, sI, sZ, sS])
    refine wpAnyH_take (i := 19) (oi := { dst := (some 79), op := (Op.load 35 (Operand.tmp 78)), type := 35, pos := "sched.go:63", after := #[⟨18, .data⟩], guard := none }) (v := .agg #[.int .i64 o.kind, .int .i64 o.handle, .string o.key, .int .u64 (o.value : Nat), .int .u64 (o.expect : Nat)]) rfl (by kernel_rfl) (by kernel_rfl) (by kernel_rfl) (fun _ _ _ h => h) (Or.inl ⟨by rfl, fun W' hW => ?_⟩) hS ?_
    · (have h0 := hW.o0; have h1 := hW.o1; have h2 := hW.o2; have h3 := hW.o3; have h4 := hW.o4; go_simp)
    (try simp only [Act.put, sI, sZ, sS])
    refine wpAnyH_ready (rs := [20]) (by kernel_rfl) (by simp) ?_
    refine AllReadyH.cons (o := { dst := (some 80), op := (Op.call { callee := (Callee.value (Operand.func 12)), args := #[(Operand.tmp 64), (Operand.tmp 65), (Operand.tmp 69), (Operand.tmp 79)], argTypes := #[25, 3, 3, 35] }), type := 29, pos := "sched.go:63", after := #[⟨4, .data⟩, ⟨5, .data⟩, ⟨9, .data⟩, ⟨19, .data⟩], guard := none }) rfl (fun K hK => ?_) AllReadyH.nil
    go_simp
    refine HBG.out.mono ?_
    rintro e w5 ⟨tbn, vn5, vc5, N5, O5, rfl, htb5, ha5, ht5, ho5, htk5, hs5⟩
    obtain ⟨⟨x5, f5⟩, s5, n1, n2⟩ := HT2.out _ _ _ _ hs5 ha5 ht5
    have HS5 := Lib.hid hs5; have HA5 := Lib.hid ha5; have HT5 := Lib.hid ht5; have HK5 := Lib.hid htk5; have HTB5 := Lib.hid htb5; have HO5 := Lib.hid ho5
    have SS5 := Lib.hid s5; have SN := Lib.hid (s5.set (.pointer (some ⟨tbn, 0, none⟩)) n1 n2)
    clear hs5 ha5 ht5 htk5 htb5 ho5 s5 n1 n2
    refine hK.out _ _ SS5.out (fun hS => ?_)
    clear hK K
    (try simp only [Act.put, sI, sZ, sS])
    refine wpAnyH_take (i := 21) (oi := { dst := (some 81), op := (Op.nilCheck (Operand.tmp 60)), type := 0, pos := "sched.go:63", after := #[⟨0, .data⟩, ⟨0, .phase⟩, ⟨1, .phase⟩, ⟨2, .phase⟩, ⟨3, .phase⟩, ⟨4, .phase⟩, ⟨5, .phase⟩, ⟨6, .phase⟩, ⟨7, .phase⟩, ⟨8, .phase⟩, ⟨9, .phase⟩, ⟨10, .phase⟩, ⟨11, .phase⟩, ⟨12, .phase⟩, ⟨13, .phase⟩, ⟨14, .phase⟩, ⟨15, .phase⟩, ⟨16, .phase⟩, ⟨17, .phase⟩, ⟨18, .phase⟩, ⟨19, .phase⟩, ⟨20, .phase⟩], guard := none }) (v := .pointer (some ⟨gt, i * 3, none⟩)) rfl (by kernel_rfl) (by kernel_rfl) (by kernel_rfl) (fun _ _ _ h => h) (Or.inl ⟨by rfl, fun W' hW => ?_⟩) hS ?_
    · go_simp
    (try simp only [Act.put, sI, sZ, sS])
    refine wpAnyH_take (i := 22) (oi := { dst := (some 82), op := (Op.fieldAddr 128 (Operand.tmp 81) 2), type := 0, pos := "sched.go:63", after := #[⟨21, .data⟩, ⟨0, .phase⟩, ⟨1, .phase⟩, ⟨2, .phase⟩, ⟨3, .phase⟩, ⟨4, .phase⟩, ⟨5, .phase⟩, ⟨6, .phase⟩, ⟨7, .phase⟩, ⟨8, .phase⟩, ⟨9, .phase⟩, ⟨10, .phase⟩, ⟨11, .phase⟩, ⟨12, .phase⟩, ⟨13, .phase⟩, ⟨14, .phase⟩, ⟨15, .phase⟩, ⟨16, .phase⟩, ⟨17, .phase⟩, ⟨18, .phase⟩, ⟨19, .phase⟩, ⟨20, .phase⟩], guard := none }) (v := .pointer (some ⟨gt, i * 3 + 2, none⟩)) rfl (by kernel_rfl) (by kernel_rfl) (by kernel_rfl) (fun _ _ _ h => h) (Or.inl ⟨by rfl, fun W' hW => ?_⟩) hS ?_
    · go_simp
    (try simp only [Act.put, sI, sZ, sS])
    refine wpAnyH_ready (rs := [23]) (by kernel_rfl) (by simp) ?_
    refine AllReadyH.cons (o := { dst := none, op := (Op.store 29 (Operand.tmp 82) (Operand.tmp 80)), type := 0, pos := "sched.go:63", after := #[⟨22, .data⟩, ⟨20, .data⟩, ⟨20, .chain⟩, ⟨0, .phase⟩, ⟨1, .phase⟩, ⟨2, .phase⟩, ⟨3, .phase⟩, ⟨4, .phase⟩, ⟨5, .phase⟩, ⟨6, .phase⟩, ⟨7, .phase⟩, ⟨8, .phase⟩, ⟨9, .phase⟩, ⟨10, .phase⟩, ⟨11, .phase⟩, ⟨12, .phase⟩, ⟨13, .phase⟩, ⟨14, .phase⟩, ⟨15, .phase⟩, ⟨16, .phase⟩, ⟨17, .phase⟩, ⟨18, .phase⟩, ⟨19, .phase⟩, ⟨20, .phase⟩], guard := none }) rfl (fun K hK => ?_) AllReadyH.nil
    go_simp
    refine hK.out _ _ SN.out (fun hS => ?_)
    clear hK K
    (try simp only [Act.put, sI, sZ, sS])
    refine wpAnyH_done (by kernel_rfl) ?_ _
    show J _ _
    rw [← HJ.out]
    obtain ⟨zz, _⟩ : ∃ z : Nat, z = z := ⟨0, rfl⟩
    refine Join.of tbn zz ?_
    exact ⟨w5, vn5, vc5, N5, O5, rfl, HTB5.out, HA5.out, HT5.out, HO5.out, HK5.out, HS5.out⟩
  rintro tbn _ W5 ⟨w5, vn5, vc5, N5, O5, rfl, htb5, ha5, ht5, ho5, htk5, hs5⟩
  have hmid : ∃ g5 W5 role5 vhi5 tb5 M5 c5, w5.setCell ⟨gt, i * 3 + 2, none⟩ (.pointer (some ⟨tbn, 0, none⟩)) = W5 ∧ tb5 i = tbn ∧ Mid g w role m pk i t M gt cap g5 W5 role5 vpk vhi5 ov tb5 M5 c5 := by
    have h5 := ((H3.out.below (Below.drew0 W3)).begun hs5 ha5 ht5).less (Y := fun k => k = i) (fun _ h => h.elim)
    have hgt := h5.body.rN _ _ (h5.body.rth gt rfl)
    have hgt3 : gt < W3.heap.size := ((H3.out.body.rN _ _ (H3.out.body.rth gt rfl))).2.2
    have hlt := (List.getElem?_eq_some_iff.1 HHI.out).1
    have h6 := h5.row (tb' := fun k => if k = i then tbn else tb k) i 2 gt cap t { t with present := some (beginM M.mask M.tab (i : Nat) (t.index : Nat) o M.st).2.1 } (.pointer (some ⟨tbn, 0, none⟩)) HHI.out rfl (by decide) (fun k hk => if_neg hk) (by simp [thC]) rfl (.inl rfl)
    have k6 : Keep (fun k => k = gt) w5 (w5.setCell ⟨gt, i * 3 + 2, none⟩ (.pointer (some ⟨tbn, 0, none⟩))) := Keep.setCell w5 ⟨gt, i * 3 + 2, none⟩ _ rfl
    have htk6 := htk5.mv k6 (fun e => by have : W3.heap.size ≤ tbn := htb5; omega) (fun k e => .inl (e ▸ hgt.1)) (fun k e => .inl (fun ho => by have : W3.heap.size ≤ k := ho5 k ho; omega)) rfl (fun _ h => .inl h) (fun _ h => h) (fun _ h => .inl h)
    have h7 := h6.task i { t with present := some (beginM M.mask M.tab (i : Nat) (t.index : Nat) o M.st).2.1 } _ O5 (by simp [hlt]) rfl ⟨0, by rw [if_pos rfl]; exact htk6, Nat.zero_le _⟩ (.inr (by
      show (if (if i = i then tbn else tb i) = gb then some Role.hist else role (if i = i then tbn else tb i)) = none
      rw [if_pos rfl]
      exact H3.out.norole tbn htb5)) (fun k ho => ⟨.inr (H3.out.norole k (ho5 k ho)), Nat.lt_of_lt_of_le (ha5.nlt k (htk5.own k ho).1) k6.size⟩)
    have e : (M.threads.set i { t with present := some (beginM M.mask M.tab (i : Nat) (t.index : Nat) o M.st).2.1 }).length = M.threads.length := by simp
    rw [← e] at h7
    have hmv : MvN (Own g role) g w (Own ⟨g.a, vn5, vc5, N5⟩ (roleT (fun k => if k = gb then some .hist else role k) i ((fun k => if k = i then tbn else tb k) i) O5)) ⟨g.a, vn5, vc5, N5⟩ (w5.setCell ⟨gt, i * 3 + 2, none⟩ (.pointer (some ⟨tbn, 0, none⟩))) := by
      refine HB3.out.trans ⟨⟨fun k => ((g.withN fun k => g.N k ∨ k = gb).Foot k ∨ k = m.m1) ∨ k = gt, ?_, fun k hk => ?_⟩, fun k hk => hs5.new k hk, fun k hk => hs5.old k hk, fun k hk => ?_⟩
      · exact ((Keep.below (Below.drew0 W3) _).trans (hs5.keep.mono (fun k _ h => .inl h)) (fun k h => .inl h)).trans (k6.mono (fun k _ e => .inr e)) (fun k h => .inl h)
      · rcases hk with (h1 | h1) | h1
        · exact .inl (.inl h1)
        · exact .inl (.inr (by rw [h1]; exact ne_of_some (H3.out.body.rm1)))
        · exact .inl (.inr (by rw [h1]; exact ne_of_some (H3.out.body.rth gt rfl)))
      · rcases hk with h1 | h1
        · exact (hs5.foot k h1).imp .inl id
        · by_cases e : k = (fun k => if k = i then tbn else tb k) i ∨ O5 k
          · rcases e with e | e
            · right; rw [e]; show W3.heap.size ≤ (if i = i then tbn else tb i); rw [if_pos rfl]; exact htb5
            · exact .inr (ho5 k e)
          · rw [roleT_out e] at h1; exact .inl (.inr h1)
    have heq : firstM i t M = ({ st := (beginM M.mask M.tab (i : Nat) (t.index : Nat) o M.st).2.2, tab := (beginM M.mask M.tab (i : Nat) (t.index : Nat) o M.st).1, count := M.count + 1, history := M.history ++ [{ thread := i, index := t.index }], threads := M.threads.set i { t with present := some (beginM M.mask M.tab (i : Nat) (t.index : Nat) o M.st).2.1 }, mask := M.mask }, (beginM M.mask M.tab (i : Nat) (t.index : Nat) o M.st).2.1) := by
      unfold firstM
      rw [HP.out]
      have : t.ops.getD t.index {} = o := by rw [List.getD_eq_getElem?_getD, ho]; rfl
      simp only [this]
    have hkn : ∃ k t0, ((beginM M.mask M.tab (i : Nat) (t.index : Nat) o M.st).1.ops.find? (fun p => p.1 == Ct.numberC (i : Nat) (t.index : Nat))).map (·.2) = some (k, t0, false) ∧ ∀ r, (beginM M.mask M.tab (i : Nat) (t.index : Nat) o M.st).2.1 = .done r → r.err ≠ 0 ∨ k = 9 ∨ k = 7 := by
      refine ⟨o.kind, Ct.trieOf M.tab o.handle, bput_find _ _ _, fun r hr => ?_⟩
      rcases HKO.out with h1 | ⟨h1, _⟩
      · left
        replace hr : (startT M.mask (Ct.trieOf M.tab o.handle) o M.st).1 = .done r := hr
        unfold startT at hr
        rw [if_neg (by omega), if_neg (by omega)] at hr
        injection hr with hr
        rw [← hr]; decide
      · exact .inr (h1.imp id And.left)
    exact ⟨⟨g.a, vn5, vc5, N5⟩, _, _, _, fun k => if k = i then tbn else tb k, { st := (beginM M.mask M.tab (i : Nat) (t.index : Nat) o M.st).2.2, tab := (beginM M.mask M.tab (i : Nat) (t.index : Nat) o M.st).1, count := M.count + 1, history := M.history ++ [{ thread := i, index := t.index }], threads := M.threads.set i { t with present := some (beginM M.mask M.tab (i : Nat) (t.index : Nat) o M.st).2.1 }, mask := M.mask }, (beginM M.mask M.tab (i : Nat) (t.index : Nat) o M.st).2.1, rfl, if_pos rfl, ⟨h7, by simp [hlt], hmv, rfl, heq, hkn, by simp; have := INV.out.hist; omega, by omega⟩⟩
  obtain ⟨⟨a5, vn6, vc6, N6⟩, W5, role5, vhi5, tb5, M5, c5, hW5, htn, hmid⟩ := hmid
  have ga : a5 = g.a := hmid.ga
  subst ga
  have HM := Lib.hid hmid; have HW5 := Lib.hid hW5
  obtain ⟨⟨nn, O6, htk, _⟩, hrt⟩ := hmid.mach.body.task i _ c5 (fun h => h) hmid.th rfl
  rw [htn] at htk
  have HDN := Lib.hid (taskDone_at W5 tbn _ c5 nn htk)
  have HTN := Lib.hid htn
  have t2w := (hmid.mach.ten hmid.th rfl).t2
  rw [htn, ← hW5] at t2w
  simp only [HM.out.eq]
  clear hmid hW5 htk htn hrt H3 HBG HS3 HT2 HB3 hs5 ha5 ht5 htk5 htb5 ho5 HKO HN0 HN1 HB2 INV
  go_wp2_with fail
  refine (with_world HW5.out HDN.out).mono ?_
  rintro e w' ⟨rfl, rfl⟩
  clear HW5 HDN t2w
  cases hdn : Code.isDone c5 with
  | false =>
    go_wp2_with fail
    go_ret
    have e : lastM i t M5 c5 = M5 := by cases c5 <;> first | rfl | cases hdn
    rw [HM.out.eq]
    show PickRes g w m role vpk pk (lastM i t M5 c5, true) _ _
    rw [e]
    exact ⟨vn6, vc6, N6, role5, _, vhi5, _, tb5, rfl, HM.out.mach, HM.out.mv⟩
  | true =>
    obtain ⟨r, rfl⟩ : ∃ r, c5 = .done r := by cases c5 <;> first | exact ⟨_, rfl⟩ | cases hdn
    have H5a := Lib.hid (HM.out.mach.below (Below.drew0 W5))
    have HTEN : Hid (∀ g' w' (M' : Ct.Mach), MachX (fun _ => False) g' w' m role5 (.slice (some ⟨gt, 0, none⟩) M5.threads.length cap) vpk vhi5 ov tb5 pk M' → M'.threads = M5.threads → TenS m gt i tbn t.index w') := fun g' w' M' h e => by
      have := h.ten (i := i) (by rw [e]; exact HM.out.th) rfl
      rw [HTN.out] at this; exact this
    have HRES : Hid (∀ g' w', MachX (fun _ => False) g' w' m role5 (.slice (some ⟨gt, 0, none⟩) M5.threads.length cap) vpk vhi5 ov tb5 pk M5 → Calls Tryz.prog 18 #[.pointer (some ⟨tbn, 0, none⟩)] w' (RetCells w' (resCells r))) := fun g' w' h => by
      obtain ⟨⟨n, O7, hT, _⟩, _⟩ := h.body.task i _ _ (fun h => h) HM.out.th rfl
      rw [HTN.out] at hT
      exact result_done w' tbn g' r n hT
    obtain ⟨T7, R7, hTR⟩ : ∃ T7 R7, finishM M5.tab (i : Nat) (t.index : Nat) r = (T7, R7) := ⟨_, _, rfl⟩
    have HFIN : Hid (∀ g' w', MachX (fun _ => False) g' w' m role5 (.slice (some ⟨gt, 0, none⟩) M5.threads.length cap) vpk vhi5 ov tb5 pk M5 → Calls Tryz.prog 47 #[.pointer (some ⟨m.hb, 0, none⟩), .int .i64 (i : Nat), .int .i64 (t.index : Nat), .agg (resCells r).toArray] w' (FinRes g' w' M5.st m.hb m.m1 m.m2 m.m3 m.mask T7 R7)) := fun g' w' h => by
      obtain ⟨k, t0, hf, hk⟩ := HM.out.known
      have := finish_all g' w' M5.st m.hb m.m1 m.m2 m.m3 m.mask M5.tab (i : Nat) (t.index : Nat) k t0 r h.arena h.tab hf (hk r rfl)
      rw [hTR] at this; exact this
    have eD : (resCells R7).toArray = #[.int .i64 R7.err, .bool R7.found, .int .u64 (R7.value : Nat), .string R7.key, .int .i64 R7.count, .int .i64 R7.ref, .int .i64 R7.trie.root, .bool R7.trie.readOnly] := rfl
    have HTR := Lib.hid hTR
    clear hTR
    go_wp2_with fail
    apply wp_join (TenPost (fun g' W' => MachX (fun _ => False) g' W' m role5 (.slice (some ⟨gt, 0, none⟩) M5.threads.length cap) vpk vhi5 ov tb5 pk { M5 with tab := T7 }) ⟨g.a, vn6, vc6, N6⟩ W5 role5 R7)
    · generalize hJ : Join _ _ = J
      have HJ := Lib.hid hJ
      clear hJ
      refine wp_region_held_drew (S := fun W' => TenS m gt i tbn t.index W') (by kernel_rfl) (HTEN.out _ _ _ H5a.out rfl) (fun hS => ?_)
      refine wpAnyH_take (i := 0) (oi := { dst := (some 93), op := (Op.move (Operand.tmp 0)), type := 52, pos := "sched.go:68", after := #[], guard := none }) (v := .pointer (some ⟨m.mb, 0, none⟩)) rfl (by kernel_rfl) (by kernel_rfl) (by kernel_rfl) (fun _ _ _ h => h) (Or.inl ⟨by rfl, fun W' hW => ?_⟩) hS ?_
      · go_simp
      (try simp only [Act.put, sI, sZ, sS])
      refine wpAnyH_take (i := 1) (oi := { dst := (some 94), op := (Op.nilCheck (Operand.tmp 93)), type := 0, pos := "sched.go:68", after := #[⟨0, .data⟩], guard := none }) (v := .pointer (some ⟨m.mb, 0, none⟩)) rfl (by kernel_rfl) (by kernel_rfl) (by kernel_rfl) (fun _ _ _ h => h) (Or.inl ⟨by rfl, fun W' hW => ?_⟩) hS ?_
      · go_simp
      (try simp only [Act.put, sI, sZ, sS])
      refine wpAnyH_take (i := 2) (oi := { dst := (some 95), op := (Op.fieldAddr 125 (Operand.tmp 94) 1), type := 0, pos := "sched.go:68", after := #[⟨1, .data⟩], guard := none }) (v := .pointer (some ⟨m.mb, 1, none⟩)) rfl (by kernel_rfl) (by kernel_rfl) (by kernel_rfl) (fun _ _ _ h => h) (Or.inl ⟨by rfl, fun W' hW => ?_⟩) hS ?_
      · go_simp
      (try simp only [Act.put, sI, sZ, sS])
      refine wpAnyH_take (i := 3) (oi := { dst := (some 96), op := (Op.load 25 (Operand.tmp 95)), type := 25, pos := "sched.go:68", after := #[⟨2, .data⟩], guard := none }) (v := .pointer (some ⟨m.hb, 0, none⟩)) rfl (by kernel_rfl) (by kernel_rfl) (by kernel_rfl) (fun _ _ _ h => h) (Or.inl ⟨by rfl, fun W' hW => ?_⟩) hS ?_
      · (have hr := hW.c1; go_simp)
      (try simp only [Act.put, sI, sZ, sS])
      refine wpAnyH_take (i := 4) (oi := { dst := (some 97), op := (Op.move (Operand.tmp 1)), type := 3, pos := "sched.go:68", after := #[], guard := none }) (v := .int .i64 (i : Nat)) rfl (by kernel_rfl) (by kernel_rfl) (by kernel_rfl) (fun _ _ _ h => h) (Or.inl ⟨by rfl, fun W' hW => ?_⟩) hS ?_
      · go_simp
      (try simp only [Act.put, sI, sZ, sS])
      refine wpAnyH_take (i := 5) (oi := { dst := (some 98), op := (Op.move (Operand.tmp 5)), type := 130, pos := "sched.go:68", after := #[], guard := none }) (v := .pointer (some ⟨gt, i * 3, none⟩)) rfl (by kernel_rfl) (by kernel_rfl) (by kernel_rfl) (fun _ _ _ h => h) (Or.inl ⟨by rfl, fun W' hW => ?_⟩) hS ?_
      · go_simp
      (try simp only [Act.put, sI, sZ, sS])
      refine wpAnyH_take (i := 6) (oi := { dst := (some 99), op := (Op.nilCheck (Operand.tmp 98)), type := 0, pos := "sched.go:68", after := #[⟨5, .data⟩], guard := none }) (v := .pointer (some ⟨gt, i * 3, none⟩)) rfl (by kernel_rfl) (by kernel_rfl) (by kernel_rfl) (fun _ _ _ h => h) (Or.inl ⟨by rfl, fun W' hW => ?_⟩) hS ?_
      · go_simp
      (try simp only [Act.put, sI, sZ, sS])
      refine wpAnyH_take (i := 7) (oi := { dst := (some 100), op := (Op.fieldAddr 128 (Operand.tmp 99) 1), type := 0, pos := "sched.go:68", after := #[⟨6, .data⟩], guard := none }) (v := .pointer (some ⟨gt, i * 3 + 1, none⟩)) rfl (by kernel_rfl) (by kernel_rfl) (by kernel_rfl) (fun _ _ _ h => h) (Or.inl ⟨by rfl, fun W' hW => ?_⟩) hS ?_
      · go_simp
      (try simp only [Act.put, sI, sZ, sS])
      refine wpAnyH_take (i := 8) (oi := { dst := (some 101), op := (Op.load 3 (Operand.tmp 100)), type := 3, pos := "sched.go:68", after := #[⟨7, .data⟩], guard := none }) (v := .int .i64 (t.index : Nat)) rfl (by kernel_rfl) (by kernel_rfl) (by kernel_rfl) (fun _ _ _ h => h) (Or.inl ⟨by rfl, fun W' hW => ?_⟩) hS ?_
      · (have hr := hW.t1; go_simp)
      (try simp only [Act.put, sI, sZ, sS])
      refine wpAnyH_take (i := 9) (oi := { dst := (some 102), op := (Op.move (Operand.tmp 5)), type := 130, pos := "sched.go:68", after := #[], guard := none }) (v := .pointer (some ⟨gt, i * 3, none⟩)) rfl (by kernel_rfl) (by kernel_rfl) (by kernel_rfl) (fun _ _ _ h => h) (Or.inl ⟨by rfl, fun W' hW => ?_⟩) hS ?_
      · go_simp
      (try simp only [Act.put, sI, sZ, sS])
      refine wpAnyH_take (i := 10) (oi := { dst := (some 103), op := (Op.nilCheck (Operand.tmp 102)), type := 0, pos := "sched.go:68", after := #[⟨9, .data⟩], guard := none }) (v := .pointer (some ⟨gt, i * 3, none⟩)) rfl (by kernel_rfl) (by kernel_rfl) (by kernel_rfl) (fun _ _ _ h => h) (Or.inl ⟨by rfl, fun W' hW => ?_⟩) hS ?_
      · go_simp
      (try simp only [Act.put, sI, sZ, sS])
      refine wpAnyH_take (i := 11) (oi := { dst := (some 104), op := (Op.fieldAddr 128 (Operand.tmp 103) 2), type := 0, pos := "sched.go:68", after := #[⟨10, .data⟩], guard := none }) (v := .pointer (some ⟨gt, i * 3 + 2, none⟩)) rfl (by kernel_rfl) (by kernel_rfl) (by kernel_rfl) (fun _ _ _ h => h) (Or.inl ⟨by rfl, fun W' hW => ?_⟩) hS ?_
      · go_simp
      (try simp only [Act.put, sI, sZ, sS])
      refine wpAnyH_take (i := 12) (oi := { dst := (some 105), op := (Op.load 29 (Operand.tmp 104)), type := 29, pos := "sched.go:68", after := #[⟨11, .data⟩], guard := none }) (v := .pointer (some ⟨tbn, 0, none⟩)) rfl (by kernel_rfl) (by kernel_rfl) (by kernel_rfl) (fun _ _ _ h => h) (Or.inl ⟨by rfl, fun W' hW => ?_⟩) hS ?_
      · (have hr := hW.t2; go_simp)
      (try simp only [Act.put, sI, sZ, sS])
      refine wpAnyH_ready (rs := [13, 15]) (by kernel_rfl) (by simp) ?_
      refine (AllReadyH.cons (o := { dst := (some 106), op := (Op.call { callee := (Callee.value (Operand.func 18)), args := #[(Operand.tmp 105)], argTypes := #[29] }), type := 45, pos := "sched.go:68", after := #[⟨12, .data⟩], guard := none }) rfl (fun K hK => ?_) (AllReadyH.cons (o := { dst := (some 6), op := (Op.alloc 45), type := 0, pos := "sched.go:68", after := #[], guard := none }) rfl (fun K hK => ?_) AllReadyH.nil))
      · go_simp
        refine (HRES.out _ _ H5a.out).mono ?_
        rintro e w6 ⟨rfl, hb6⟩
        have H6 := Lib.hid (H5a.out.below hb6); have B6 := Lib.hid hb6
        clear hb6
        refine hK.out _ _ (HTEN.out _ _ _ H6.out rfl) (fun hS => ?_)
        clear hK K
        (try simp only [Act.put, sI, sZ, sS])
        refine wpAnyH_ready (rs := [14, 15]) (by kernel_rfl) (by simp) ?_
        refine (AllReadyH.cons (o := { dst := (some 107), op := (Op.call { callee := (Callee.value (Operand.func 47)), args := #[(Operand.tmp 96), (Operand.tmp 97), (Operand.tmp 101), (Operand.tmp 106)], argTypes := #[25, 3, 3, 45] }), type := 45, pos := "sched.go:68", after := #[⟨3, .data⟩, ⟨4, .data⟩, ⟨8, .data⟩, ⟨13, .data⟩, ⟨13, .chain⟩], guard := none }) rfl (fun K hK => ?_) (AllReadyH.cons (o := { dst := (some 6), op := (Op.alloc 45), type := 0, pos := "sched.go:68", after := #[], guard := none }) rfl (fun K hK => ?_) AllReadyH.nil))
        · go_simp
          refine (HFIN.out _ _ H6.out).mono ?_
          rintro e w7 ⟨rfl, ha7, ht7, hk7⟩
          rw [eD]
          have H7 := Lib.hid (H6.out.finished hk7 ha7 ht7); have K7 := Lib.hid hk7
          clear ha7 ht7 hk7
          refine hK.out _ _ (HTEN.out _ _ _ H7.out rfl) (fun hS => ?_)
          clear hK K
          (try simp only [Act.put, sI, sZ, sS])
          refine wpAnyH_ready (rs := [15]) (by kernel_rfl) (by simp) ?_
          refine AllReadyH.cons (o := { dst := (some 6), op := (Op.alloc 45), type := 0, pos := "sched.go:68", after := #[], guard := none }) rfl (fun K hK => ?_) AllReadyH.nil
          go_simp
          refine hK.out _ _ (HTEN.out _ _ _ (H7.out.below ((Below.refl _ _).alloc (Nat.le_refl _) _)) rfl) (fun hS => ?_)
          clear hK K
          (try simp only [Act.put, sI, sZ, sS])
          refine wpAnyH_ready (rs := [16]) (by kernel_rfl) (by simp) ?_
          refine AllReadyH.cons (o := { dst := none, op := (Op.store 45 (Operand.tmp 6) (Operand.tmp 107)), type := 0, pos := "sched.go:68", after := #[⟨15, .data⟩, ⟨14, .data⟩, ⟨14, .chain⟩, ⟨0, .phase⟩, ⟨1, .phase⟩, ⟨2, .phase⟩, ⟨3, .phase⟩, ⟨4, .phase⟩, ⟨5, .phase⟩, ⟨6, .phase⟩, ⟨7, .phase⟩, ⟨8, .phase⟩, ⟨9, .phase⟩, ⟨10, .phase⟩, ⟨11, .phase⟩, ⟨12, .phase⟩, ⟨13, .phase⟩, ⟨14, .phase⟩, ⟨15, .phase⟩], guard := none }) rfl (fun K hK => ?_) AllReadyH.nil
          go_simp
          refine hK.out _ _ (HTEN.out _ _ _ (H7.out.below ((Below.refl _ _).alloc (Nat.le_refl _) _)) rfl) (fun hS => ?_)
          clear hK K
          (try simp only [Act.put, sI, sZ, sS])
          refine wpAnyH_done (by kernel_rfl) ?_ _
          obtain ⟨bb, hbb⟩ : ∃ b, w7.heap.size = b := ⟨_, rfl⟩
          have HBB := Lib.hid hbb
          simp only [hbb]
          clear hbb
          show J _ _
          rw [← HJ.out]
          obtain ⟨zz, _⟩ : ∃ z : Nat, z = z := ⟨0, rfl⟩
          refine Join.of bb zz ?_
          have s56 : W5.heap.size ≤ w6.heap.size := B6.out.size
          have s67 := K7.out.size
          refine ⟨_, H7.out.plus ((Below.refl _ _).alloc (Nat.le_refl _) _) bb (by rw [HBB.out]; exact Nat.le_refl _) (by simp; have := HBB.out; omega), by rw [← HBB.out]; exact heap_alloc_at _ _, MvN.ten HM.out.mach.body.rm1 HM.out.mach.body.rm2 ((((Keep.below (Below.drew0 W5) (fun k => (k = m.m1 ∨ k = m.m2) ∨ W5.heap.size ≤ k)).trans ((Keep.below B6.out (fun k => (k = m.m1 ∨ k = m.m2) ∨ W5.heap.size ≤ k))) (fun k hk => .inl hk)).trans ((K7.out.mono (fun k _ e => .inl e))) (fun k hk => .inl hk)).trans (Keep.alloc (fun k => (k = m.m1 ∨ k = m.m2) ∨ W5.heap.size ≤ k) w7 _) (fun k hk => .inl hk)) (fun k hk => hk.imp id (fun e => by have := HBB.out; omega)) (fun k hk => .inl hk), HM.out.mach.norole bb (by have := HBB.out; omega)⟩
        · go_simp
          refine hK.out _ _ (HTEN.out _ _ _ (H6.out.below ((Below.refl _ _).alloc (Nat.le_refl _) _)) rfl) (fun hS => ?_)
          clear hK K
          (try simp only [Act.put, sI, sZ, sS])
          have s56 : W5.heap.size ≤ w6.heap.size := B6.out.size
          have H6b := Lib.hid (H6.out.plus ((Below.refl _ _).alloc (Nat.le_refl _) (.cells zeroRes 45)) w6.heap.size (Nat.le_refl _) (by simp))
          refine wpAnyH_ready (rs := [14]) (by kernel_rfl) (by simp) ?_
          refine AllReadyH.cons (o := { dst := (some 107), op := (Op.call { callee := (Callee.value (Operand.func 47)), args := #[(Operand.tmp 96), (Operand.tmp 97), (Operand.tmp 101), (Operand.tmp 106)], argTypes := #[25, 3, 3, 45] }), type := 45, pos := "sched.go:68", after := #[⟨3, .data⟩, ⟨4, .data⟩, ⟨8, .data⟩, ⟨13, .data⟩, ⟨13, .chain⟩], guard := none }) rfl (fun K hK => ?_) AllReadyH.nil
          go_simp
          refine (HFIN.out _ _ H6b.out).mono ?_
          rintro e w7 ⟨rfl, ha7, ht7, hk7⟩
          rw [eD]
          have H7 := Lib.hid (H6b.out.finished hk7 ha7 ht7); have K7 := Lib.hid hk7
          have z7 : w7.heap[w6.heap.size]? = some (.cells zeroRes 45 (0, 0)) := by rw [hk7.block _ (by simp) (fun e => by have x1 := (HM.out.mach.body.rN _ _ HM.out.mach.body.rm1).2.2; have x2 := (HM.out.mach.body.rN _ _ HM.out.mach.body.rm2).2.2; rcases e with e | e <;> omega)]; exact heap_alloc_at w6 _
          have d0 := cell_at z7 0; have d1 := cell_at z7 1; have d2 := cell_at z7 2; have d3 := cell_at z7 3; have d4 := cell_at z7 4; have d5 := cell_at z7 5; have d6 := cell_at z7 6; have d7 := cell_at z7 7; have fr := free_at z7
          simp only [zeroRes, List.getElem?_toArray, List.getElem?_cons_zero, List.getElem?_cons_succ] at d0 d1 d2 d3 d4 d5 d6 d7
          have Z7 := Lib.hid z7
          clear z7
          clear ha7 ht7 hk7
          refine hK.out _ _ (HTEN.out _ _ _ H7.out rfl) (fun hS => ?_)
          clear hK K
          (try simp only [Act.put, sI, sZ, sS])
          have H8 := Lib.hid (H7.out.scratch w6.heap.size (keep8 w7 w6.heap.size (.int .i64 R7.err) (.bool R7.found) (.int .u64 (R7.value : Nat)) (.string R7.key) (.int .i64 R7.count) (.int .i64 R7.ref) (.int .i64 R7.trie.root) (.bool R7.trie.readOnly)) (.inr rfl) (fun hf => by have := H6.out.arena.nlt _ (H6.out.arena.foot _ hf); omega) (HM.out.mach.norole _ s56))
          refine wpAnyH_ready (rs := [16]) (by kernel_rfl) (by simp) ?_
          refine AllReadyH.cons (o := { dst := none, op := (Op.store 45 (Operand.tmp 6) (Operand.tmp 107)), type := 0, pos := "sched.go:68", after := #[⟨15, .data⟩, ⟨14, .data⟩, ⟨14, .chain⟩, ⟨0, .phase⟩, ⟨1, .phase⟩, ⟨2, .phase⟩, ⟨3, .phase⟩, ⟨4, .phase⟩, ⟨5, .phase⟩, ⟨6, .phase⟩, ⟨7, .phase⟩, ⟨8, .phase⟩, ⟨9, .phase⟩, ⟨10, .phase⟩, ⟨11, .phase⟩, ⟨12, .phase⟩, ⟨13, .phase⟩, ⟨14, .phase⟩, ⟨15, .phase⟩], guard := none }) rfl (fun K hK => ?_) AllReadyH.nil
          go_simp
          refine hK.out _ _ (HTEN.out _ _ _ H8.out rfl) (fun hS => ?_)
          clear hK K
          (try simp only [Act.put, sI, sZ, sS])
          refine wpAnyH_done (by kernel_rfl) ?_ _
          obtain ⟨bb, hbb⟩ : ∃ b, w6.heap.size = b := ⟨_, rfl⟩
          have HBB := Lib.hid hbb
          simp only [hbb] at H8 Z7 ⊢
          clear hbb
          show J _ _
          rw [← HJ.out]
          obtain ⟨zz, _⟩ : ∃ z : Nat, z = z := ⟨0, rfl⟩
          refine Join.of bb zz ?_
          refine ⟨_, H8.out, heap8 (.int .i64 R7.err) (.bool R7.found) (.int .u64 (R7.value : Nat)) (.string R7.key) (.int .i64 R7.count) (.int .i64 R7.ref) (.int .i64 R7.trie.root) (.bool R7.trie.readOnly) Z7.out, MvN.ten HM.out.mach.body.rm1 HM.out.mach.body.rm2 (((((Keep.below (Below.drew0 W5) (fun k => (k = m.m1 ∨ k = m.m2) ∨ W5.heap.size ≤ k)).trans ((Keep.below B6.out (fun k => (k = m.m1 ∨ k = m.m2) ∨ W5.heap.size ≤ k))) (fun k hk => .inl hk)).trans (Keep.alloc (fun k => (k = m.m1 ∨ k = m.m2) ∨ W5.heap.size ≤ k) w6 _) (fun k hk => .inl hk)).trans ((K7.out.mono (fun k _ e => .inl e))) (fun k hk => .inl hk)).trans ((keep8 w7 bb (.int .i64 R7.err) (.bool R7.found) (.int .u64 (R7.value : Nat)) (.string R7.key) (.int .i64 R7.count) (.int .i64 R7.ref) (.int .i64 R7.trie.root) (.bool R7.trie.readOnly)).mono (fun k _ e => .inr (by have := HBB.out; omega))) (fun k hk => .inl hk)) (fun k hk => hk.imp id (fun e => by have := HBB.out; omega)) (fun k hk => .inl hk), HM.out.mach.norole bb (by have := HBB.out; omega)⟩
      · go_simp
        refine hK.out _ _ (HTEN.out _ _ _ (H5a.out.below ((Below.refl _ _).alloc (Nat.le_refl _) _)) rfl) (fun hS => ?_)
        clear hK K
        (try simp only [Act.put, sI, sZ, sS])
        have H5b := Lib.hid (H5a.out.plus ((Below.refl _ _).alloc (Nat.le_refl _) (.cells zeroRes 45)) W5.heap.size (Nat.le_refl _) (by simp))
        refine wpAnyH_ready (rs := [13]) (by kernel_rfl) (by simp) ?_
        refine AllReadyH.cons (o := { dst := (some 106), op := (Op.call { callee := (Callee.value (Operand.func 18)), args := #[(Operand.tmp 105)], argTypes := #[29] }), type := 45, pos := "sched.go:68", after := #[⟨12, .data⟩], guard := none }) rfl (fun K hK => ?_) AllReadyH.nil
        go_simp
        refine (HRES.out _ _ H5b.out).mono ?_
        rintro e w6 ⟨rfl, hb6⟩
        have H6 := Lib.hid (H5b.out.below hb6); have B6 := Lib.hid hb6
        clear hb6
        refine hK.out _ _ (HTEN.out _ _ _ H6.out rfl) (fun hS => ?_)
        clear hK K
        (try simp only [Act.put, sI, sZ, sS])
        have z6 : w6.heap[W5.heap.size]? = some (.cells zeroRes 45 (0, 0)) := seen_below (heap_alloc_at W5.drew (.cells zeroRes 45)) B6.out
        refine wpAnyH_ready (rs := [14]) (by kernel_rfl) (by simp) ?_
        refine AllReadyH.cons (o := { dst := (some 107), op := (Op.call { callee := (Callee.value (Operand.func 47)), args := #[(Operand.tmp 96), (Operand.tmp 97), (Operand.tmp 101), (Operand.tmp 106)], argTypes := #[25, 3, 3, 45] }), type := 45, pos := "sched.go:68", after := #[⟨3, .data⟩, ⟨4, .data⟩, ⟨8, .data⟩, ⟨13, .data⟩, ⟨13, .chain⟩], guard := none }) rfl (fun K hK => ?_) AllReadyH.nil
        go_simp
        refine (HFIN.out _ _ H6.out).mono ?_
        rintro e w7 ⟨rfl, ha7, ht7, hk7⟩
        rw [eD]
        have H7 := Lib.hid (H6.out.finished hk7 ha7 ht7); have K7 := Lib.hid hk7
        have z7 : w7.heap[W5.heap.size]? = some (.cells zeroRes 45 (0, 0)) := by rw [hk7.block _ (Array.getElem?_eq_some_iff.1 z6).1 (fun e => by have x1 := (HM.out.mach.body.rN _ _ HM.out.mach.body.rm1).2.2; have x2 := (HM.out.mach.body.rN _ _ HM.out.mach.body.rm2).2.2; rcases e with e | e <;> omega)]; exact z6
        have d0 := cell_at z7 0; have d1 := cell_at z7 1; have d2 := cell_at z7 2; have d3 := cell_at z7 3; have d4 := cell_at z7 4; have d5 := cell_at z7 5; have d6 := cell_at z7 6; have d7 := cell_at z7 7; have fr := free_at z7
        simp only [zeroRes, List.getElem?_toArray, List.getElem?_cons_zero, List.getElem?_cons_succ] at d0 d1 d2 d3 d4 d5 d6 d7
        have Z7 := Lib.hid z7
        clear z7
        clear ha7 ht7 hk7
        refine hK.out _ _ (HTEN.out _ _ _ H7.out rfl) (fun hS => ?_)
        clear hK K
        (try simp only [Act.put, sI, sZ, sS])
        have H8 := Lib.hid (H7.out.scratch W5.heap.size (keep8 w7 W5.heap.size (.int .i64 R7.err) (.bool R7.found) (.int .u64 (R7.value : Nat)) (.string R7.key) (.int .i64 R7.count) (.int .i64 R7.ref) (.int .i64 R7.trie.root) (.bool R7.trie.readOnly)) (.inr rfl) (fun hf => by have := HM.out.mach.arena.nlt _ (HM.out.mach.arena.foot _ hf); omega) (HM.out.mach.norole _ (Nat.le_refl _)))
        refine wpAnyH_ready (rs := [16]) (by kernel_rfl) (by simp) ?_
        refine AllReadyH.cons (o := { dst := none, op := (Op.store 45 (Operand.tmp 6) (Operand.tmp 107)), type := 0, pos := "sched.go:68", after := #[⟨15, .data⟩, ⟨14, .data⟩, ⟨14, .chain⟩, ⟨0, .phase⟩, ⟨1, .phase⟩, ⟨2, .phase⟩, ⟨3, .phase⟩, ⟨4, .phase⟩, ⟨5, .phase⟩, ⟨6, .phase⟩, ⟨7, .phase⟩, ⟨8, .phase⟩, ⟨9, .phase⟩, ⟨10, .phase⟩, ⟨11, .phase⟩, ⟨12, .phase⟩, ⟨13, .phase⟩, ⟨14, .phase⟩, ⟨15, .phase⟩], guard := none }) rfl (fun K hK => ?_) AllReadyH.nil
        go_simp
        refine hK.out _ _ (HTEN.out _ _ _ H8.out rfl) (fun hS => ?_)
        clear hK K
        (try simp only [Act.put, sI, sZ, sS])
        refine wpAnyH_done (by kernel_rfl) ?_ _
        obtain ⟨bb, hbb⟩ : ∃ b, W5.heap.size = b := ⟨_, rfl⟩
        have HBB := Lib.hid hbb
        simp only [hbb] at H8 Z7 ⊢
        clear hbb
        show J _ _
        rw [← HJ.out]
        obtain ⟨zz, _⟩ : ∃ z : Nat, z = z := ⟨0, rfl⟩
        refine Join.of bb zz ?_
        refine ⟨_, H8.out, heap8 (.int .i64 R7.err) (.bool R7.found) (.int .u64 (R7.value : Nat)) (.string R7.key) (.int .i64 R7.count) (.int .i64 R7.ref) (.int .i64 R7.trie.root) (.bool R7.trie.readOnly) Z7.out, MvN.ten HM.out.mach.body.rm1 HM.out.mach.body.rm2 (((((Keep.below (Below.drew0 W5) (fun k => (k = m.m1 ∨ k = m.m2) ∨ W5.heap.size ≤ k)).trans (Keep.alloc (fun k => (k = m.m1 ∨ k = m.m2) ∨ W5.heap.size ≤ k) W5.drew _) (fun k hk => .inl hk)).trans ((Keep.below B6.out (fun k => (k = m.m1 ∨ k = m.m2) ∨ W5.heap.size ≤ k))) (fun k hk => .inl hk)).trans ((K7.out.mono (fun k _ e => .inl e))) (fun k hk => .inl hk)).trans ((keep8 w7 bb (.int .i64 R7.err) (.bool R7.found) (.int .u64 (R7.value : Nat)) (.string R7.key) (.int .i64 R7.count) (.int .i64 R7.ref) (.int .i64 R7.trie.root) (.bool R7.trie.readOnly)).mono (fun k _ e => .inr (by have := HBB.out; omega))) (fun k hk => .inl hk)) (fun k hk => hk.imp id (fun e => by have := HBB.out; omega)) (fun k hk => .inl hk), HM.out.mach.norole bb (by have := HBB.out; omega)⟩
    rintro bb _ W8 ⟨N8, h8, hz8, hmv8, hr8⟩
    obtain ⟨i0, hi0, hz0, hz1, hz2⟩ := info_parts info_Event
    have ten8 := HTEN.out _ _ _ h8 rfl
    have t1 := ten8.t1
    have c4 := h8.body.cell 4
    simp at c4
    have f4 := h8.body.free 4
    have j0 := cell_at hz8 0; have j1 := cell_at hz8 1; have j2 := cell_at hz8 2; have j3 := cell_at hz8 3; have j4 := cell_at hz8 4; have j5 := cell_at hz8 5; have j6 := cell_at hz8 6; have j7 := cell_at hz8 7
    simp only [eD, List.getElem?_toArray, List.getElem?_cons_zero, List.getElem?_cons_succ] at j0 j1 j2 j3 j4 j5 j6 j7
    have c4' := cell_alloc c4
    have hne4 : vhi5.ownBlock ≠ some m.mb := fun e => by have := h8.body.rhi _ e; rw [h8.body.rmb] at this; cases this
    have HON := Lib.hid (h8.body.hist.alloc (.cells (evC { thread := i, index := t.index, ret := true, result := R7 }).toArray 132))
    have HNW := Lib.hid (new_row (w := W8) (cs := evC { thread := i, index := t.index, ret := true, result := R7 }) (t := 132))
    have HO1 := Lib.hid (evC_one { thread := i, index := t.index, ret := true, result := R7 })
    have qh : M5.history.length ≤ 1000000 := HM.out.len
    have H8 := Lib.hid h8; have MV8 := Lib.hid (HM.out.mv.trans hmv8)
    clear h8 hmv8 hz8 ten8 HFIN HRES eD
    go_wp2_with fail
    apply wp_join (EvPost W8 vhi5 m M5.history.length ((M5.history.map evC).flatten ++ evC { thread := i, index := t.index, ret := true, result := R7 }))
    · generalize hJ : Join _ _ = J
      have HJ := Lib.hid hJ
      clear hJ
      go_region_law (refine step_append_lies _ rfl (.tmp 112) (.tmp 120) 66 rfl 0 132 i0 (.agg zeroEvent) 11 96 Tryz.underlying66 hi0 hz0 hz1 hz2 rfl (by decide) _ M5.history.length (M5.history.map evC).flatten rfl HON.out ⟨W8.heap.size, 0, none⟩ 1 1 (evC { thread := i, index := t.index, ret := true, result := R7 }) rfl rfl HNW.out HO1.out (by decide) (by unfold maxLen; omega) (by omega) (Nat.zero_le _) _ rfl ?_; intro gb capb w3 hown3 hgrow3 hat3 hlt3; have hf3 := grown_facts (w := W8) (o := .cells (evC { thread := i, index := t.index, ret := true, result := R7 }).toArray 132) (a := ⟨m.mb, 4, none⟩) hgrow3 rfl c4 f4 hne4; obtain ⟨e3, f3⟩ := hf3)
      all_goals
        show J _ _
        rw [← HJ.out]
        exact Join.of gb capb (EvPost.of hown3 ⟨hgrow3.os, hgrow3.tape, hgrow3.output, hgrow3.size, hgrow3.block⟩ hat3)
    rintro gb9 cap9 W9 ⟨w9, rfl, hown9, hk9, hat9⟩
    have h9 := H8.out.event { thread := i, index := t.index, ret := true, result := R7 } gb9 cap9 hk9 hown9 hat9
    have mv9 := MV8.out.trans (H8.out.eventMv (v := .slice (some ⟨gb9, 0, none⟩) (M5.history.length + 1) cap9) gb9 hk9 hat9)
    obtain ⟨W9, hW9⟩ : ∃ W, w9.setCell ⟨m.mb, 4, none⟩ (.slice (some ⟨gb9, 0, none⟩) (M5.history.length + 1) cap9) = W := ⟨_, rfl⟩
    rw [hW9] at mv9
    have hlen9 : ∀ T' h', ({ M5 with tab := T', history := h' } : Ct.Mach).threads = M5.threads := fun _ _ => rfl
    have h9' : MachX (fun _ => False) _ W9 m _ (.slice (some ⟨gt, 0, none⟩) M5.threads.length cap) vpk _ ov tb5 pk { M5 with tab := T7, history := M5.history ++ [{ thread := i, index := t.index, ret := true, result := R7 }] } := hW9 ▸ h9
    obtain ⟨gt', cap', hvt, hr3, hcell3, hfree3⟩ := h9'.body.thread i _ HM.out.th
    injection hvt with e1 e2 e3; injection e1 with e1; injection e1 with e1; subst e1; subst e3
    have u1 := hcell3 1 (by decide); have u2 := hcell3 2 (by decide)
    have f1 := hfree3 (i * 3 + 1); have f2 := hfree3 (i * 3 + 2)
    simp only [thC, List.getElem?_cons_zero, List.getElem?_cons_succ] at u1 u2
    rw [← hW9] at u1 u2 f1 f2
    have qi : t.index ≤ 16 := HM.out.idx
    have H9 := Lib.hid h9'; have MV9 := Lib.hid mv9; have HW9 := Lib.hid hW9; have HGN : Hid ((fun k => if k = gb9 then some Role.hist else role5 k) gt ≠ none) := Lib.hid (ne_of_some hr3)
    clear h9 h9' mv9 hW9 hcell3 hfree3 hr3 hown9 hk9 hat9 c4 c4' f4 t1 j0 j1 j2 j3 j4 j5 j6 j7 HON HNW HO1 hne4
    go_wp2_with fail
    go_ret
    rw [HM.out.eq]
    show PickRes g w m role vpk pk (lastM i t M5 (.done r), true) _ _
    have hl5 := (List.getElem?_eq_some_iff.1 HM.out.th).1
    have h10 := H9.out.row (tb' := tb5) i 2 gt cap _ { t with present := none } (.pointer none) HM.out.th rfl (by decide) (fun _ _ => rfl) (by simp [thC]) rfl (.inr (.inl rfl))
    have h11 := h10.row (tb' := tb5) i 1 gt cap { t with present := none } { t with present := none, index := t.index + 1 } (.int .i64 ((t.index + 1 : Nat) : Int)) (by simp [hl5]) (by simp) (by decide) (fun _ _ => rfl) (by simp [thC]) rfl (.inr (.inl rfl))
    have el : lastM i t M5 (.done r) = { M5 with tab := T7, history := M5.history ++ [{ thread := i, index := t.index, ret := true, result := R7 }], threads := (M5.threads.set i { t with present := none }).set i { t with present := none, index := t.index + 1 } } := by
      simp only [lastM, HTR.out, List.set_set]
    rw [el, HW9.out]
    exact ⟨vn6, vc6, _, _, _, _, _, tb5, rfl, h11, (MV9.out.trans (MvN.setCell W9 gt _ _ HGN.out)).trans (MvN.setCell _ gt _ _ HGN.out)⟩
end Go.Proofs.YtjlgchdekhmnnaaGreatDoor
end
