/- Parts of a proof: Fn. -/
import Derived.Test.YtjlgchdekhmnnaaGreatDoorM15
import Derived.Test.YtjlgchdekhmnnaaGreatDoorM16
import Derived.Test.YtjlgchdekhmnnaaGreatDoorM19
section
namespace Go.Proofs.YtjlgchdekhmnnaaGreatDoor
open Go.RowKit
set_option linter.unusedVariables false
set_option linter.unusedSimpArgs false
variable {O : Nat → Prop}
theorem Fin.node' {n : Nat} {s : Ct.St} (h : Fin n s) (r : Int) : (s.node r).fits 549755813886 := (h.node r).mono (by have := h.room; unfold Ct.St.size at this; omega)
theorem Blk.row {N : Nat → Prop} {w : World} {b : Nat} {cs : List Value} {t : TypeId} (h : Blk N w b cs.toArray t) : w.rangeAt b 0 cs := fun j v hv => by
  rw [Nat.zero_add]; exact h.at0 j v (by simpa using hv)
theorem Mv.weak {g g' : Ghost} {w w' : World} (h : Mv O g w g' w') : Mv (fun _ => False) g w g' w' := by
  obtain ⟨⟨F, hk, hF⟩, hn⟩ := h
  exact ⟨⟨F, hk, fun k hk => (hF k hk).imp (fun h => ⟨h.1, id⟩) id⟩, hn⟩
section
variable {t : Ct.Trie} {l : Ct.Look} {level x b : Int} {u : Nat} {s : Ct.St}
theorem fndVisit_A (hm : (s.node x).kind = 3) (hl : Ct.blookup (s.node x) (Ct.slice l.hash level) = (b, false)) : Ct.fndVisit Ct.stOps t l level x s = (Ct.absent, s) := by
  have hl' : Ct.blookup (Ct.stOps.node x s) (Ct.slice l.hash level) = (b, false) := hl
  unfold Ct.fndVisit; rw [if_pos (show (Ct.stOps.node x s).kind = 3 from hm), hl', if_pos rfl]
theorem fndVisit_B (hm : (s.node x).kind = 3) (hl : Ct.blookup (s.node x) (Ct.slice l.hash level) = (b, true)) (hn : (s.node b).kind = 4) : Ct.fndVisit Ct.stOps t l level x s = (Ct.pairC l (s.node b), s) := by
  have hl' : Ct.blookup (Ct.stOps.node x s) (Ct.slice l.hash level) = (b, true) := hl
  unfold Ct.fndVisit; rw [if_pos (show (Ct.stOps.node x s).kind = 3 from hm), hl', if_neg (by simp), if_pos (show (Ct.stOps.node (b, true).1 s).kind = 4 from hn)]; rfl
theorem fndVisit_C (hm : (s.node x).kind = 3) (hl : Ct.blookup (s.node x) (Ct.slice l.hash level) = (b, true)) (hn : (s.node b).kind ≠ 4) : Ct.fndVisit Ct.stOps t l level x s = Ct.fndC Ct.stOps t l b (Ct.inc level) s := by
  have hl' : Ct.blookup (Ct.stOps.node x s) (Ct.slice l.hash level) = (b, true) := hl
  unfold Ct.fndVisit; rw [if_pos (show (Ct.stOps.node x s).kind = 3 from hm), hl', if_neg (by simp), if_neg (show ¬ (Ct.stOps.node (b, true).1 s).kind = 4 from hn)]
theorem fndVisit_D (hm : (s.node x).kind = 5) : Ct.fndVisit Ct.stOps t l level x s = (Ct.pairC l (s.node x), s) := by
  have hm' : (Ct.stOps.node x s).kind = 5 := hm
  unfold Ct.fndVisit; rw [if_neg (by omega), if_pos hm']; rfl
theorem fndVisit_E (hm : (s.node x).kind = 6) (hl : Ct.pfind (s.node x).pairs l.key = (u, true)) : Ct.fndVisit Ct.stOps t l level x s = (Ct.present u, s) := by
  have hm' : (Ct.stOps.node x s).kind = 6 := hm
  have hl' : Ct.pfind (Ct.stOps.node x s).pairs l.key = (u, true) := hl
  unfold Ct.fndVisit; rw [if_neg (by omega), if_neg (by omega), if_pos hm', hl', if_pos rfl]
theorem fndVisit_F (hm : (s.node x).kind = 6) (hl : Ct.pfind (s.node x).pairs l.key = (u, false)) : Ct.fndVisit Ct.stOps t l level x s = (Ct.absent, s) := by
  have hm' : (Ct.stOps.node x s).kind = 6 := hm
  have hl' : Ct.pfind (Ct.stOps.node x s).pairs l.key = (u, false) := hl
  unfold Ct.fndVisit; rw [if_neg (by omega), if_neg (by omega), if_pos hm', hl', if_neg (by simp)]
theorem fndVisit_G (hm : (s.node x).kind ≠ 3 ∧ (s.node x).kind ≠ 5 ∧ (s.node x).kind ≠ 6) : Ct.fndVisit Ct.stOps t l level x s = (Ct.absent, s) := by
  have hm' : (Ct.stOps.node x s).kind ≠ 3 ∧ (Ct.stOps.node x s).kind ≠ 5 ∧ (Ct.stOps.node x s).kind ≠ 6 := hm
  unfold Ct.fndVisit; rw [if_neg hm'.1, if_neg hm'.2.1, if_neg hm'.2.2]
end
set_option maxRecDepth 100000 in
set_option maxHeartbeats 400000 in
theorem present_any (v : Nat)  (g : Ghost) (w : World) (s : Ct.St) (h : ArenaO O g w s) (hfin : Fin (300) s)   :
    Calls Tryz.prog 151 #[.int .u64 (v : Nat)] w (RetCode O g w ((Ct.present v, s))) := by
  have hNW := ((News.nil w).alloc (.cells zeroCode 115))
  obtain ⟨W0, hW0⟩ : ∃ W, (w.alloc (.cells zeroCode 115)) = W := ⟨_, rfl⟩
  rw [hW0] at hNW
  have z := hNW.size
  simp at z
  have hR0 := Run.start h hNW (b := w.heap.size) 0 rfl rfl
  have hM0 : Mv O g w (g.plus w.heap.size) W0 := Mv.plus hNW.below (by omega)
  have R0 := Lib.hid hR0
  have M0 := Lib.hid hM0
  have HW := Lib.hid hW0
  have HZ := Lib.hid z
  have H := Lib.hid h
  have FI := Lib.hid hfin
  have hmf := hmfG
  clear h hNW hW0 z hR0 hM0 hfin
  try unfold ptr
  go_enter Tryz.func151, Tryz.ntmps151
  go_wp2_with fail
  refine (with_world HW.out (taskDone_any ({ found := true, value := v }) _)).mono ?_
  rintro e w1 hc
  obtain ⟨cs, rfl, hC, hMC⟩ := R0.out.made3 (c := .done ({ found := true, value := v })) (rfl) hc
  have C := Lib.hid hC; have MC := Lib.hid (hMC.weak)
  clear hc hC hMC
  go_wp2_with (refine wpList_store_row rfl 115 (.tmp 2) (.tmp 5) rfl w.heap.size cs.toArray rfl rfl 115 zeroCode C.out.res C.out.info C.out.len.symm C.out.one ?_)
  refine bodyPost_ret (v := .agg cs.toArray) (results_cell_row Tryz.results151 _ _ w.heap.size 115 _ (0, 0) _ rfl (setRow_heap _ w.heap.size _ _ _ _ C.out.res) Tryz.underlying115 rfl C.out.info) rfl ?_
  refine RetCode.eq ?_ C.out.ret
  rfl
set_option maxRecDepth 100000 in
set_option maxHeartbeats 400000 in
theorem absent_any   (g : Ghost) (w : World) (s : Ct.St) (h : ArenaO O g w s) (hfin : Fin (300) s)   :
    Calls Tryz.prog 148 #[] w (RetCode O g w ((Ct.absent, s))) := by
  have hNW := ((News.nil w).alloc (.cells zeroCode 115))
  obtain ⟨W0, hW0⟩ : ∃ W, (w.alloc (.cells zeroCode 115)) = W := ⟨_, rfl⟩
  rw [hW0] at hNW
  have z := hNW.size
  simp at z
  have hR0 := Run.start h hNW (b := w.heap.size) 0 rfl rfl
  have hM0 : Mv O g w (g.plus w.heap.size) W0 := Mv.plus hNW.below (by omega)
  have R0 := Lib.hid hR0
  have M0 := Lib.hid hM0
  have HW := Lib.hid hW0
  have HZ := Lib.hid z
  have H := Lib.hid h
  have FI := Lib.hid hfin
  have hmf := hmfG
  clear h hNW hW0 z hR0 hM0 hfin
  try unfold ptr
  go_enter Tryz.func148, Tryz.ntmps148
  go_wp2_with fail
  refine (with_world HW.out (taskDone_any ({  }) _)).mono ?_
  rintro e w1 hc
  obtain ⟨cs, rfl, hC, hMC⟩ := R0.out.made3 (c := .done ({  })) (rfl) hc
  have C := Lib.hid hC; have MC := Lib.hid (hMC.weak)
  clear hc hC hMC
  go_wp2_with (refine wpList_store_row rfl 115 (.tmp 0) (.tmp 2) rfl w.heap.size cs.toArray rfl rfl 115 zeroCode C.out.res C.out.info C.out.len.symm C.out.one ?_)
  refine bodyPost_ret (v := .agg cs.toArray) (results_cell_row Tryz.results148 _ _ w.heap.size 115 _ (0, 0) _ rfl (setRow_heap _ w.heap.size _ _ _ _ C.out.res) Tryz.underlying115 rfl C.out.info) rfl ?_
  refine RetCode.eq ?_ C.out.ret
  rfl
set_option maxRecDepth 100000 in
set_option maxHeartbeats 400000 in
theorem pair_yes (t : Ct.Trie) (l : Ct.Look) (fb0 : Nat) (n : Ct.Node) (bvn pvn : Value)  (g : Ghost) (w : World) (s : Ct.St) (h : ArenaO O g w s) (hfin : Fin (400) s) (q0 : Blk g.N w fb0 (lookCells g.sv t l).toArray 190) (hrn : RefsAt g.N w bvn n.branches) (hpn : PairsAt g.N w pvn n.pairs) (nfn : n.fits 549755813886) (hm : (n.key.toList == l.key.toList) = true) :
    Calls Tryz.prog 149 #[ptr fb0, .agg (nodeCells n bvn pvn).toArray] w (RetCode O g w ((Ct.pairC l n, s))) := by
  have hNW := (((News.nil w).alloc (.cells (nodeCells n bvn pvn).toArray 136)).alloc (.cells zeroCode 115))
  obtain ⟨W0, hW0⟩ : ∃ W, ((w.alloc (.cells (nodeCells n bvn pvn).toArray 136)).alloc (.cells zeroCode 115)) = W := ⟨_, rfl⟩
  rw [hW0] at hNW
  have z := hNW.size
  simp at z
  have hR0 := Run.start h hNW (b := w.heap.size + 1) 1 rfl rfl
  have hM0 : Mv O g w (g.plus (w.heap.size + 1)) W0 := Mv.plus hNW.below (by omega)
  have B1 := Lib.hid (blk_plus h.toArenaAt (b := w.heap.size) (c := w.heap.size + 1) (by omega) (by omega) (hNW.at_ 0 _ rfl))
  have B0 := Lib.hid (q0.mv hM0)
  have hrn' := Lib.hid (hrn.mv hM0); have hpn' := Lib.hid (hpn.mv hM0)
  have nfn' := Lib.hid nfn
  have R0 := Lib.hid hR0
  have M0 := Lib.hid hM0
  have HW := Lib.hid hW0
  have HZ := Lib.hid z
  have H := Lib.hid h
  have FI := Lib.hid hfin
  have hmf := hmfG
  clear h hNW hW0 z hR0 hM0 hfin q0 hrn hpn nfn
  have hrn := hrn'; have hpn := hpn'; have nfn := nfn'; clear hrn' hpn' nfn'
  have HM := Lib.hid hm; clear hm
  try unfold ptr nodeCells
  go_enter Tryz.func149, Tryz.ntmps149
  go_wp2_with fail
  refine code_world HW.out ?_
  refine wp_region_held_drew (S := fun W' => W'.cell? ⟨fb0, 3, none⟩ = some (.string l.key) ∧ W'.cell? ⟨w.heap.size, 6, none⟩ = some (.string n.key) ∧ True) (by kernel_rfl) ⟨(B0.out).at0 3 _ rfl, (B1.out).at0 6 _ rfl, trivial⟩ (fun hS => ?_)
  have R1d := Lib.hid (R0.out.drew)
  refine wpAnyH_take (i := 0) (oi := { dst := (some 5), op := (Op.fieldAddr 136 (Operand.tmp 3) 6), type := 0, pos := "find.go:60", after := #[], guard := none }) (v := .pointer (some ⟨w.heap.size, 6, none⟩)) rfl (by kernel_rfl) (by kernel_rfl) (by kernel_rfl) (fun _ _ _ h => h) (Or.inl ⟨by rfl, fun W' hW => ?_⟩) hS ?_
  · go_simp
  try simp only [Act.put, sI, sZ, sS]
  refine wpAnyH_take (i := 1) (oi := { dst := (some 6), op := (Op.load 9 (Operand.tmp 5)), type := 9, pos := "find.go:60", after := #[⟨0, .data⟩], guard := none }) (v := .string n.key) rfl (by kernel_rfl) (by kernel_rfl) (by kernel_rfl) (fun _ _ _ h => h) (Or.inl ⟨by rfl, fun W' hW => ?_⟩) hS ?_
  · go_simp
  try simp only [Act.put, sI, sZ, sS]
  refine wpAnyH_take (i := 2) (oi := { dst := (some 7), op := (Op.move (Operand.tmp 0)), type := 188, pos := "find.go:60", after := #[], guard := none }) (v := .pointer (some ⟨fb0, 0, none⟩)) rfl (by kernel_rfl) (by kernel_rfl) (by kernel_rfl) (fun _ _ _ h => h) (Or.inl ⟨by rfl, fun W' hW => ?_⟩) hS ?_
  · go_simp
  try simp only [Act.put, sI, sZ, sS]
  refine wpAnyH_take (i := 3) (oi := { dst := (some 8), op := (Op.nilCheck (Operand.tmp 7)), type := 0, pos := "find.go:60", after := #[⟨2, .data⟩], guard := none }) (v := .pointer (some ⟨fb0, 0, none⟩)) rfl (by kernel_rfl) (by kernel_rfl) (by kernel_rfl) (fun _ _ _ h => h) (Or.inl ⟨by rfl, fun W' hW => ?_⟩) hS ?_
  · go_simp
  try simp only [Act.put, sI, sZ, sS]
  refine wpAnyH_take (i := 4) (oi := { dst := (some 9), op := (Op.fieldAddr 190 (Operand.tmp 8) 1), type := 0, pos := "find.go:60", after := #[⟨3, .data⟩], guard := none }) (v := .pointer (some ⟨fb0, 3, none⟩)) rfl (by kernel_rfl) (by kernel_rfl) (by kernel_rfl) (fun _ _ _ h => h) (Or.inl ⟨by rfl, fun W' hW => ?_⟩) hS ?_
  · go_simp
  try simp only [Act.put, sI, sZ, sS]
  refine wpAnyH_take (i := 5) (oi := { dst := (some 10), op := (Op.load 9 (Operand.tmp 9)), type := 9, pos := "find.go:60", after := #[⟨4, .data⟩], guard := none }) (v := .string l.key) rfl (by kernel_rfl) (by kernel_rfl) (by kernel_rfl) (fun _ _ _ h => h) (Or.inl ⟨by rfl, fun W' hW => ?_⟩) hS ?_
  · go_simp
  try simp only [Act.put, sI, sZ, sS]
  refine wpAnyH_take (i := 6) (oi := { dst := (some 11), op := (Op.binOp BinOp.eql 9 (Operand.tmp 6) (Operand.tmp 10) 9), type := 4, pos := "find.go:60", after := #[⟨1, .data⟩, ⟨5, .data⟩], guard := none }) (v := .bool true) rfl (by kernel_rfl) (by kernel_rfl) (by kernel_rfl) (fun _ _ _ h => h) (Or.inl ⟨by rfl, fun W' hW => ?_⟩) hS ?_
  · go_simp; first | exact HM.out | simpa using HM.out
  try simp only [Act.put, sI, sZ, sS]
  refine wpAnyH_done (by kernel_rfl) ?_ _
  have c2 := (B1.out).at0 7 (.int .u64 (n.value : Nat)) rfl
  go_wp2_with fail
  refine ((present_any n.value (g.plus (w.heap.size + 1)) _ _ R1d.out.arena (FI.out.less (by omega)))).mono ?_
  rintro e w3 hc
  obtain ⟨cs, h3, rfl, hC, hMC⟩ := R1d.out.code2 hc
  have C := Lib.hid hC; have MC := Lib.hid hMC
  clear hc hC hMC
  go_wp2_with (refine wpList_store_row rfl 115 (.tmp 4) (.tmp 14) rfl (w.heap.size + 1) cs.toArray rfl rfl 115 zeroCode C.out.res C.out.info C.out.len.symm C.out.one ?_)
  refine bodyPost_ret (v := .agg cs.toArray) (results_cell_row Tryz.results149 _ _ (w.heap.size + 1) 115 _ (0, 0) _ rfl (setRow_heap _ (w.heap.size + 1) _ _ _ _ C.out.res) Tryz.underlying115 rfl C.out.info) rfl ?_
  refine RetCode.eq ?_ C.out.ret
  show (Ct.pairC l n, s) = _; unfold Ct.pairC Ct.keyEq; rw [if_pos HM.out]
set_option maxRecDepth 100000 in
set_option maxHeartbeats 400000 in
theorem pair_no (t : Ct.Trie) (l : Ct.Look) (fb0 : Nat) (n : Ct.Node) (bvn pvn : Value)  (g : Ghost) (w : World) (s : Ct.St) (h : ArenaO O g w s) (hfin : Fin (400) s) (q0 : Blk g.N w fb0 (lookCells g.sv t l).toArray 190) (hrn : RefsAt g.N w bvn n.branches) (hpn : PairsAt g.N w pvn n.pairs) (nfn : n.fits 549755813886) (hm : (n.key.toList == l.key.toList) = false) :
    Calls Tryz.prog 149 #[ptr fb0, .agg (nodeCells n bvn pvn).toArray] w (RetCode O g w ((Ct.pairC l n, s))) := by
  have hNW := (((News.nil w).alloc (.cells (nodeCells n bvn pvn).toArray 136)).alloc (.cells zeroCode 115))
  obtain ⟨W0, hW0⟩ : ∃ W, ((w.alloc (.cells (nodeCells n bvn pvn).toArray 136)).alloc (.cells zeroCode 115)) = W := ⟨_, rfl⟩
  rw [hW0] at hNW
  have z := hNW.size
  simp at z
  have hR0 := Run.start h hNW (b := w.heap.size + 1) 1 rfl rfl
  have hM0 : Mv O g w (g.plus (w.heap.size + 1)) W0 := Mv.plus hNW.below (by omega)
  have B1 := Lib.hid (blk_plus h.toArenaAt (b := w.heap.size) (c := w.heap.size + 1) (by omega) (by omega) (hNW.at_ 0 _ rfl))
  have B0 := Lib.hid (q0.mv hM0)
  have hrn' := Lib.hid (hrn.mv hM0); have hpn' := Lib.hid (hpn.mv hM0)
  have nfn' := Lib.hid nfn
  have R0 := Lib.hid hR0
  have M0 := Lib.hid hM0
  have HW := Lib.hid hW0
  have HZ := Lib.hid z
  have H := Lib.hid h
  have FI := Lib.hid hfin
  have hmf := hmfG
  clear h hNW hW0 z hR0 hM0 hfin q0 hrn hpn nfn
  have hrn := hrn'; have hpn := hpn'; have nfn := nfn'; clear hrn' hpn' nfn'
  have HM := Lib.hid hm; clear hm
  try unfold ptr nodeCells
  go_enter Tryz.func149, Tryz.ntmps149
  go_wp2_with fail
  refine code_world HW.out ?_
  refine wp_region_held_drew (S := fun W' => W'.cell? ⟨fb0, 3, none⟩ = some (.string l.key) ∧ W'.cell? ⟨w.heap.size, 6, none⟩ = some (.string n.key) ∧ True) (by kernel_rfl) ⟨(B0.out).at0 3 _ rfl, (B1.out).at0 6 _ rfl, trivial⟩ (fun hS => ?_)
  have R1d := Lib.hid (R0.out.drew)
  refine wpAnyH_take (i := 0) (oi := { dst := (some 5), op := (Op.fieldAddr 136 (Operand.tmp 3) 6), type := 0, pos := "find.go:60", after := #[], guard := none }) (v := .pointer (some ⟨w.heap.size, 6, none⟩)) rfl (by kernel_rfl) (by kernel_rfl) (by kernel_rfl) (fun _ _ _ h => h) (Or.inl ⟨by rfl, fun W' hW => ?_⟩) hS ?_
  · go_simp
  try simp only [Act.put, sI, sZ, sS]
  refine wpAnyH_take (i := 1) (oi := { dst := (some 6), op := (Op.load 9 (Operand.tmp 5)), type := 9, pos := "find.go:60", after := #[⟨0, .data⟩], guard := none }) (v := .string n.key) rfl (by kernel_rfl) (by kernel_rfl) (by kernel_rfl) (fun _ _ _ h => h) (Or.inl ⟨by rfl, fun W' hW => ?_⟩) hS ?_
  · go_simp
  try simp only [Act.put, sI, sZ, sS]
  refine wpAnyH_take (i := 2) (oi := { dst := (some 7), op := (Op.move (Operand.tmp 0)), type := 188, pos := "find.go:60", after := #[], guard := none }) (v := .pointer (some ⟨fb0, 0, none⟩)) rfl (by kernel_rfl) (by kernel_rfl) (by kernel_rfl) (fun _ _ _ h => h) (Or.inl ⟨by rfl, fun W' hW => ?_⟩) hS ?_
  · go_simp
  try simp only [Act.put, sI, sZ, sS]
  refine wpAnyH_take (i := 3) (oi := { dst := (some 8), op := (Op.nilCheck (Operand.tmp 7)), type := 0, pos := "find.go:60", after := #[⟨2, .data⟩], guard := none }) (v := .pointer (some ⟨fb0, 0, none⟩)) rfl (by kernel_rfl) (by kernel_rfl) (by kernel_rfl) (fun _ _ _ h => h) (Or.inl ⟨by rfl, fun W' hW => ?_⟩) hS ?_
  · go_simp
  try simp only [Act.put, sI, sZ, sS]
  refine wpAnyH_take (i := 4) (oi := { dst := (some 9), op := (Op.fieldAddr 190 (Operand.tmp 8) 1), type := 0, pos := "find.go:60", after := #[⟨3, .data⟩], guard := none }) (v := .pointer (some ⟨fb0, 3, none⟩)) rfl (by kernel_rfl) (by kernel_rfl) (by kernel_rfl) (fun _ _ _ h => h) (Or.inl ⟨by rfl, fun W' hW => ?_⟩) hS ?_
  · go_simp
  try simp only [Act.put, sI, sZ, sS]
  refine wpAnyH_take (i := 5) (oi := { dst := (some 10), op := (Op.load 9 (Operand.tmp 9)), type := 9, pos := "find.go:60", after := #[⟨4, .data⟩], guard := none }) (v := .string l.key) rfl (by kernel_rfl) (by kernel_rfl) (by kernel_rfl) (fun _ _ _ h => h) (Or.inl ⟨by rfl, fun W' hW => ?_⟩) hS ?_
  · go_simp
  try simp only [Act.put, sI, sZ, sS]
  refine wpAnyH_take (i := 6) (oi := { dst := (some 11), op := (Op.binOp BinOp.eql 9 (Operand.tmp 6) (Operand.tmp 10) 9), type := 4, pos := "find.go:60", after := #[⟨1, .data⟩, ⟨5, .data⟩], guard := none }) (v := .bool false) rfl (by kernel_rfl) (by kernel_rfl) (by kernel_rfl) (fun _ _ _ h => h) (Or.inl ⟨by rfl, fun W' hW => ?_⟩) hS ?_
  · go_simp; first | exact HM.out | simpa using HM.out
  try simp only [Act.put, sI, sZ, sS]
  refine wpAnyH_done (by kernel_rfl) ?_ _
  go_wp2_with fail
  refine ((absent_any (g.plus (w.heap.size + 1)) _ _ R1d.out.arena (FI.out.less (by omega)))).mono ?_
  rintro e w2 hc
  obtain ⟨cs, h2, rfl, hC, hMC⟩ := R1d.out.code2 hc
  have C := Lib.hid hC; have MC := Lib.hid hMC
  clear hc hC hMC
  go_wp2_with (refine wpList_store_row rfl 115 (.tmp 4) (.tmp 15) rfl (w.heap.size + 1) cs.toArray rfl rfl 115 zeroCode C.out.res C.out.info C.out.len.symm C.out.one ?_)
  refine bodyPost_ret (v := .agg cs.toArray) (results_cell_row Tryz.results149 _ _ (w.heap.size + 1) 115 _ (0, 0) _ rfl (setRow_heap _ (w.heap.size + 1) _ _ _ _ C.out.res) Tryz.underlying115 rfl C.out.info) rfl ?_
  refine RetCode.eq ?_ C.out.ret
  show (Ct.pairC l n, s) = _; unfold Ct.pairC Ct.keyEq; rw [if_neg (by rw [HM.out]; decide)]
theorem pair_any (t : Ct.Trie) (l : Ct.Look) (fb0 : Nat) (n : Ct.Node) (bvn pvn : Value) (g : Ghost) (w : World) (s : Ct.St) (h : ArenaO O g w s) (hfin : Fin 400 s) (q0 : Blk g.N w fb0 (lookCells g.sv t l).toArray 190) (hrn : RefsAt g.N w bvn n.branches) (hpn : PairsAt g.N w pvn n.pairs) (nfn : n.fits 549755813886) :
    Calls Tryz.prog 149 #[ptr fb0, .agg (nodeCells n bvn pvn).toArray] w (RetCode O g w (Ct.pairC l n, s)) := by
  cases hm : (n.key.toList == l.key.toList) with
  | true => exact pair_yes t l fb0 n bvn pvn g w s h hfin q0 hrn hpn nfn hm
  | false => exact pair_no t l fb0 n bvn pvn g w s h hfin q0 hrn hpn nfn hm
set_option maxRecDepth 100000 in
set_option maxHeartbeats 400000 in
theorem descend_any (t : Ct.Trie) (l : Ct.Look) (fb0 : Nat) (i : Int) (level : Int)  (g : Ghost) (w : World) (s : Ct.St) (h : ArenaO O g w s) (hfin : Fin (400) s) (q0 : Blk g.N w fb0 (lookCells g.sv t l).toArray 190)  :
    Calls Tryz.prog 111 #[ptr fb0, .int .i64 i, .int .i64 level] w (RetCode O g w (Ct.fndC Ct.stOps t l i level s)) := by
  have hNW := ((((News.nil w).alloc (.cells #[ptr fb0] 188)).alloc (.cells #[.int .i64 level] 3)).alloc (.cells zeroCode 115))
  obtain ⟨W0, hW0⟩ : ∃ W, (((w.alloc (.cells #[ptr fb0] 188)).alloc (.cells #[.int .i64 level] 3)).alloc (.cells zeroCode 115)) = W := ⟨_, rfl⟩
  rw [hW0] at hNW
  have z := hNW.size
  simp at z
  have hR0 := Run.start h hNW (b := w.heap.size + 2) 2 rfl rfl
  have hM0 : Mv O g w (g.plus (w.heap.size + 2)) W0 := Mv.plus hNW.below (by omega)
  have c1 := (q0).at3 0 (.iface 23 (.pointer (some ⟨g.a, 0, none⟩))) rfl
  have c2 := (q0).at3 1 (.int .i64 t.root) rfl
  have c3 := (q0).at3 2 (.bool t.readOnly) rfl
  have B1 := Lib.hid (blk_plus h.toArenaAt (b := w.heap.size) (c := w.heap.size + 2) (by omega) (by omega) (hNW.at_ 0 _ rfl))
  have B2 := Lib.hid (blk_plus h.toArenaAt (b := w.heap.size + 1) (c := w.heap.size + 2) (by omega) (by omega) (hNW.at_ 1 _ rfl))
  have B0 := Lib.hid (q0.mv hM0)
  have R0 := Lib.hid hR0
  have M0 := Lib.hid hM0
  have HW := Lib.hid hW0
  have HZ := Lib.hid z
  have H := Lib.hid h
  have FI := Lib.hid hfin
  have hmf := hmfG
  clear h hNW hW0 z hR0 hM0 hfin q0
  try unfold ptr
  go_enter Tryz.func111, Tryz.ntmps111
  go_wp2_with fail
  refine (with_world HW.out (read_any (g.plus (w.heap.size + 2)) _ _ t i (.fnd2 t l level) _ R0.out.arena (FI.out.Room (by omega)) FI.out.short ⟨_, _, rfl, ⟨_, B1.out, B0.out⟩, B2.out⟩)).mono ?_
  rintro e w4 hc
  obtain ⟨cs, h4, rfl, hC, hMC⟩ := R0.out.code2 hc
  have C := Lib.hid hC; have MC := Lib.hid hMC
  clear hc hC hMC
  go_wp2_with (refine wpList_store_row rfl 115 (.tmp 6) (.tmp 13) rfl (w.heap.size + 2) cs.toArray rfl rfl 115 zeroCode C.out.res C.out.info C.out.len.symm C.out.one ?_)
  refine bodyPost_ret (v := .agg cs.toArray) (results_cell_row Tryz.results111 _ _ (w.heap.size + 2) 115 _ (0, 0) _ rfl (setRow_heap _ (w.heap.size + 2) _ _ _ _ C.out.res) Tryz.underlying115 rfl C.out.info) rfl ?_
  refine RetCode.eq ?_ C.out.ret
  rfl
set_option maxRecDepth 100000 in
set_option maxHeartbeats 400000 in
theorem clo_fnd1_w (t : Ct.Trie) (l : Ct.Look)  (g : Ghost) (w : World) (s : Ct.St) (x : Int) (b0 : Nat) (fb0 : Nat) (h : ArenaO O g w s) (hfin : Fin (1000) s) (k0 : Blk g.N w b0 #[ptr fb0] 188) (q0 : Blk g.N w fb0 (lookCells g.sv t l).toArray 190)   :
    Calls Tryz.prog 110 #[.int .i64 x, ptr b0] w (RetCode O g w (Ct.apply Ct.stOps (.fnd1 t l) x s)) := by
  have hNW := ((News.nil w).alloc (.cells zeroCode 115))
  obtain ⟨W0, hW0⟩ : ∃ W, (w.alloc (.cells zeroCode 115)) = W := ⟨_, rfl⟩
  rw [hW0] at hNW
  have z := hNW.size
  simp at z
  have hR0 := Run.start h hNW (b := w.heap.size) 0 rfl rfl
  have hM0 : Mv O g w (g.plus w.heap.size) W0 := Mv.plus hNW.below (by omega)
  have c1 := (k0).at1 0 (.pointer (some ⟨fb0, 0, none⟩)) rfl
  have B0 := Lib.hid (q0.mv hM0)
  have B1 := Lib.hid (k0.mv hM0)
  have R0 := Lib.hid hR0
  have M0 := Lib.hid hM0
  have HW := Lib.hid hW0
  have HZ := Lib.hid z
  have H := Lib.hid h
  have FI := Lib.hid hfin
  have hmf := hmfG
  clear h hNW hW0 z hR0 hM0 hfin q0 k0
  unfold ptr
  go_enter Tryz.func110, Tryz.ntmps110
  go_wp2_with fail
  refine (with_world HW.out (descend_any t l fb0 x 0 (g.plus w.heap.size) _ _ R0.out.arena (FI.out.less (by omega)) B0.out)).mono ?_
  rintro e w2 hc
  obtain ⟨cs, h2, rfl, hC, hMC⟩ := R0.out.code2 hc
  have C := Lib.hid hC; have MC := Lib.hid hMC
  clear hc hC hMC
  go_wp2_with (refine wpList_store_row rfl 115 (.tmp 3) (.tmp 6) rfl w.heap.size cs.toArray rfl rfl 115 zeroCode C.out.res C.out.info C.out.len.symm C.out.one ?_)
  refine bodyPost_ret (v := .agg cs.toArray) (results_cell_row Tryz.results110 _ _ w.heap.size 115 _ (0, 0) _ rfl (setRow_heap _ w.heap.size _ _ _ _ C.out.res) Tryz.underlying115 rfl C.out.info) rfl ?_
  refine RetCode.eq ?_ C.out.ret
  rfl
set_option maxRecDepth 100000 in
set_option maxHeartbeats 400000 in
theorem clo_fnd0A_w (t : Ct.Trie) (l : Ct.Look)  (g : Ghost) (w : World) (s : Ct.St)  (b0 : Nat) (b1 : Nat) (fb1 : Nat) (h : ArenaO O g w s) (hfin : Fin (1000) s) (k0 : Blk g.N w b0 #[.string l.key] 9) (k1 : Blk g.N w b1 #[ptr fb1] 188) (q1 : Blk g.N w fb1 (lookCells g.sv t l).toArray 190)  (hk : l.key.size ≤ 9223372036854775807) (hm : Ct.keyValid l.key = false) :
    Calls Tryz.prog 108 #[ptr b0, ptr b1] w (RetCode O g w (Ct.apply Ct.stOps (.fnd0 t l) 0 s)) := by
  have hNW := ((News.nil w).alloc (.cells zeroCode 115))
  obtain ⟨W0, hW0⟩ : ∃ W, (w.alloc (.cells zeroCode 115)) = W := ⟨_, rfl⟩
  rw [hW0] at hNW
  have z := hNW.size
  simp at z
  have hR0 := Run.start h hNW (b := w.heap.size) 0 rfl rfl
  have hM0 : Mv O g w (g.plus w.heap.size) W0 := Mv.plus hNW.below (by omega)
  have c1 := (k0).at1 0 (.string l.key) rfl
  have B0 := Lib.hid (k0.mv hM0)
  have B1 := Lib.hid (q1.mv hM0)
  have B2 := Lib.hid (k1.mv hM0)
  have R0 := Lib.hid hR0
  have M0 := Lib.hid hM0
  have HW := Lib.hid hW0
  have HZ := Lib.hid z
  have H := Lib.hid h
  have FI := Lib.hid hfin
  have hmf := hmfG
  clear h hNW hW0 z hR0 hM0 hfin k0 q1 k1
  unfold ptr
  go_enter Tryz.func108, Tryz.ntmps108
  go_wp2_with fail
  refine (with_world HW.out (keyValid_any l.key _ hk)).mono ?_
  rintro e w2 ⟨rfl, rfl⟩
  go_wp2_with fail
  refine ((taskDone_any ({ err := 1 }) _)).mono ?_
  rintro e w3 hc
  obtain ⟨cs, rfl, hC, hMC⟩ := R0.out.made3 (c := .done ({ err := 1 })) (rfl) hc
  have C := Lib.hid hC; have MC := Lib.hid (hMC.weak)
  clear hc hC hMC
  go_wp2_with (refine wpList_store_row rfl 115 (.tmp 2) (.tmp 7) rfl w.heap.size cs.toArray rfl rfl 115 zeroCode C.out.res C.out.info C.out.len.symm C.out.one ?_)
  refine bodyPost_ret (v := .agg cs.toArray) (results_cell_row Tryz.results108 _ _ w.heap.size 115 _ (0, 0) _ rfl (setRow_heap _ w.heap.size _ _ _ _ C.out.res) Tryz.underlying115 rfl C.out.info) rfl ?_
  refine RetCode.eq ?_ C.out.ret
  simp only [Ct.apply]; rw [if_pos hm]
set_option maxRecDepth 100000 in
set_option maxHeartbeats 400000 in
theorem clo_fnd0B_w (t : Ct.Trie) (l : Ct.Look)  (g : Ghost) (w : World) (s : Ct.St)  (b0 : Nat) (b1 : Nat) (fb1 : Nat) (h : ArenaO O g w s) (hfin : Fin (1000) s) (k0 : Blk g.N w b0 #[.string l.key] 9) (k1 : Blk g.N w b1 #[ptr fb1] 188) (q1 : Blk g.N w fb1 (lookCells g.sv t l).toArray 190)  (hk : l.key.size ≤ 9223372036854775807) (hm : Ct.keyValid l.key = true) :
    Calls Tryz.prog 108 #[ptr b0, ptr b1] w (RetCode O g w (Ct.apply Ct.stOps (.fnd0 t l) 0 s)) := by
  have hNW := ((News.nil w).alloc (.cells zeroCode 115))
  obtain ⟨W0, hW0⟩ : ∃ W, (w.alloc (.cells zeroCode 115)) = W := ⟨_, rfl⟩
  rw [hW0] at hNW
  have z := hNW.size
  simp at z
  have hR0 := Run.start h hNW (b := w.heap.size) 0 rfl rfl
  have hM0 : Mv O g w (g.plus w.heap.size) W0 := Mv.plus hNW.below (by omega)
  have c1 := (k0).at1 0 (.string l.key) rfl
  have B0 := Lib.hid (k0.mv hM0)
  have B1 := Lib.hid (q1.mv hM0)
  have B2 := Lib.hid (k1.mv hM0)
  have R0 := Lib.hid hR0
  have M0 := Lib.hid hM0
  have HW := Lib.hid hW0
  have HZ := Lib.hid z
  have H := Lib.hid h
  have FI := Lib.hid hfin
  have hmf := hmfG
  clear h hNW hW0 z hR0 hM0 hfin k0 q1 k1
  unfold ptr
  go_enter Tryz.func108, Tryz.ntmps108
  go_wp2_with fail
  refine (with_world HW.out (keyValid_any l.key _ hk)).mono ?_
  rintro e w2 ⟨rfl, rfl⟩
  have c3 := (B1.out).at0 0 (.iface 23 (.pointer (some ⟨g.a, 0, none⟩))) rfl
  have c4 := (B1.out).at0 1 (.int .i64 t.root) rfl
  have c5 := (B1.out).at0 2 (.bool t.readOnly) rfl
  have c6 := (B2.out).at0 0 (.pointer (some ⟨fb1, 0, none⟩)) rfl
  go_wp2_with fail
  refine ((help_any (g.plus w.heap.size) _ _ t (.fnd1 t l) _ R0.out.arena ⟨_, rfl, ⟨_, B2.out, B1.out⟩⟩)).mono ?_
  rintro e w7 hc
  obtain ⟨cs, h7, rfl, hC, hMC⟩ := R0.out.code2 hc
  have C := Lib.hid hC; have MC := Lib.hid hMC
  clear hc hC hMC
  go_wp2_with (refine wpList_store_row rfl 115 (.tmp 2) (.tmp 13) rfl w.heap.size cs.toArray rfl rfl 115 zeroCode C.out.res C.out.info C.out.len.symm C.out.one ?_)
  refine bodyPost_ret (v := .agg cs.toArray) (results_cell_row Tryz.results108 _ _ w.heap.size 115 _ (0, 0) _ rfl (setRow_heap _ w.heap.size _ _ _ _ C.out.res) Tryz.underlying115 rfl C.out.info) rfl ?_
  refine RetCode.eq ?_ C.out.ret
  simp only [Ct.apply]; rw [if_neg (by rw [hm]; decide)]
set_option maxRecDepth 100000 in
set_option maxHeartbeats 400000 in
theorem clo_fnd2A_w (t : Ct.Trie) (l : Ct.Look) (level : Int) (b : Int) (g : Ghost) (w : World) (s : Ct.St) (x : Int) (b0 : Nat) (fb0 : Nat) (b1 : Nat) (h : ArenaO O g w s) (hfin : Fin (1000) s) (k0 : Blk g.N w b0 #[ptr fb0] 188) (q0 : Blk g.N w fb0 (lookCells g.sv t l).toArray 190) (k1 : Blk g.N w b1 #[.int .i64 level] 3)  (hh : l.hash < 18446744073709551616) (hm : (s.node x).kind = 3) (hl : Ct.blookup (s.node x) (Ct.slice l.hash level) = (b, false)) :
    Calls Tryz.prog 145 #[.int .i64 x, ptr b0, ptr b1] w (RetCode O g w (Ct.apply Ct.stOps (.fnd2 t l level) x s)) := by
  have hNW := ((News.nil w).alloc (.cells zeroCode 115))
  obtain ⟨W0, hW0⟩ : ∃ W, (w.alloc (.cells zeroCode 115)) = W := ⟨_, rfl⟩
  rw [hW0] at hNW
  have z := hNW.size
  simp at z
  have hR0 := Run.start h hNW (b := w.heap.size) 0 rfl rfl
  have hM0 : Mv O g w (g.plus w.heap.size) W0 := Mv.plus hNW.below (by omega)
  have c1 := (q0).at1 0 (.iface 23 (.pointer (some ⟨g.a, 0, none⟩))) rfl
  have c2 := (k0).at1 0 (.pointer (some ⟨fb0, 0, none⟩)) rfl
  have B0 := Lib.hid (q0.mv hM0)
  have B1 := Lib.hid (k0.mv hM0)
  have B2 := Lib.hid (k1.mv hM0)
  have R0 := Lib.hid hR0
  have M0 := Lib.hid hM0
  have HW := Lib.hid hW0
  have HZ := Lib.hid z
  have H := Lib.hid h
  have FI := Lib.hid hfin
  have hmf := hmfG
  have hmNode := meth_Node; have hnNode := nil_Node
  clear h hNW hW0 z hR0 hM0 hfin q0 k0 k1
  unfold ptr
  go_enter Tryz.func145, Tryz.ntmps145
  go_wp2_with fail
  refine (with_world HW.out (R0.out.node FI.out (by omega) x)).mono ?_
  rintro e w3 ⟨n3, bv3, pv3, rfl, E3, hR, hM, hr, hp⟩
  have R3 := Lib.hid hR; have M3 := Lib.hid hM; have HR3 := Lib.hid hr; have HP3 := Lib.hid hp; have NF3 : Hid (n3.fits 549755813886) := Lib.hid (by rw [← E3.out]; exact FI.out.node' _); clear hR hM hr hp
  have B0' := Lib.hid (B0.out.mv (M3.out))
  have B1' := Lib.hid (B1.out.mv (M3.out))
  have B2' := Lib.hid (B2.out.mv (M3.out))
  clear B0 B1 B2
  clear c1 c2
  have q1 : (n3.kind == 3) = true := by rw [← E3.out]; simp [hm]
  have HL : Hid (Ct.blookup n3 (Ct.slice l.hash level) = (b, false)) := Lib.hid (by rw [← E3.out]; exact hl)
  have c4 := node_new w3 n3 bv3 pv3 0 (.int .i64 n3.kind) rfl
  go_wp2_with (first | (refine wpList_store_row rfl 136 (.tmp 5) (.tmp 17) rfl w3.heap.size (nodeCells n3 bv3 pv3).toArray rfl rfl 136 zeroNode (heap_alloc_at _ _) info_Node_size rfl (nodeCells_one _ _ _ HR3.out.one HP3.out.one) ?_; rw [alloc_setRow]))
  obtain ⟨W5, hW5⟩ : ∃ W, (w3.alloc (.cells (nodeCells n3 bv3 pv3).toArray 136)) = W := ⟨_, rfl⟩
  have M5 : Hid (Mv O (g.plus w.heap.size) w3 (g.plus w.heap.size) W5) := hW5 ▸ Lib.hid (Mv.alloc (O := O) (g.plus w.heap.size) _ _)
  have R5 : Hid (Run O g w w.heap.size (g.plus w.heap.size) W5 s) := hW5 ▸ Lib.hid ((R3.out.alloc _))
  have B4 : Hid (Blk (g.plus w.heap.size).N W5 w3.heap.size (nodeCells n3 bv3 pv3).toArray 136) := hW5 ▸ Lib.hid ((R3.out).blk _ _)
  have B0'' := Lib.hid (B0'.out.mv (M5.out))
  have B1'' := Lib.hid (B1'.out.mv (M5.out))
  have B2'' := Lib.hid (B2'.out.mv (M5.out))
  have HR3_ := Lib.hid (HR3.out.mv (M5.out)); clear HR3; have HR3 := HR3_; clear HR3_
  have HP3_ := Lib.hid (HP3.out.mv (M5.out)); clear HP3; have HP3 := HP3_; clear HP3_
  clear B0' B1' B2'
  have HWW5 := Lib.hid hW5; clear hW5
  refine code_world HWW5.out ?_
  refine wp_region_held_drew (S := fun W' => W'.cell? ⟨fb0, 4, none⟩ = some (.int .u64 (l.hash : Nat)) ∧ W'.cell? ⟨b0, 0, none⟩ = some (.pointer (some ⟨fb0, 0, none⟩)) ∧ W'.cell? ⟨b1, 0, none⟩ = some (.int .i64 level) ∧ W'.rangeAt w3.heap.size 0 (nodeCells n3 bv3 pv3) ∧ True) (by kernel_rfl) ⟨(B0''.out).at0 4 _ rfl, (B1''.out).at0 0 _ rfl, (B2''.out).at0 0 _ rfl, (B4.out).row, trivial⟩ (fun hS => ?_)
  have R6d := Lib.hid (R5.out.drew)
  refine wpAnyH_take (i := 0) (oi := { dst := (some 23), op := (Op.load 136 (Operand.tmp 5)), type := 136, pos := "find.go:39", after := #[], guard := none }) (v := .agg (nodeCells n3 bv3 pv3).toArray) rfl (by kernel_rfl) (by kernel_rfl) (by kernel_rfl) (fun _ _ _ h => h) (yieldsIf_load_mid (by rfl) 136 (.tmp 5) rfl w3.heap.size 0 rfl (nodeCells n3 bv3 pv3) _ (fun W' hW => hW.2.2.2.1) Tryz.underlying136 rfl info_Node_size) hS ?_
  try simp only [Act.put, sI, sZ, sS]
  refine wpAnyH_take (i := 1) (oi := { dst := (some 24), op := (Op.load 188 (Operand.tmp 1)), type := 188, pos := "find.go:39", after := #[], guard := none }) (v := .pointer (some ⟨fb0, 0, none⟩)) rfl (by kernel_rfl) (by kernel_rfl) (by kernel_rfl) (fun _ _ _ h => h) (Or.inl ⟨by rfl, fun W' hW => ?_⟩) hS ?_
  · go_simp
  try simp only [Act.put, sI, sZ, sS]
  refine wpAnyH_take (i := 2) (oi := { dst := (some 25), op := (Op.nilCheck (Operand.tmp 24)), type := 0, pos := "find.go:39", after := #[⟨1, .data⟩], guard := none }) (v := .pointer (some ⟨fb0, 0, none⟩)) rfl (by kernel_rfl) (by kernel_rfl) (by kernel_rfl) (fun _ _ _ h => h) (Or.inl ⟨by rfl, fun W' hW => ?_⟩) hS ?_
  · go_simp
  try simp only [Act.put, sI, sZ, sS]
  refine wpAnyH_take (i := 3) (oi := { dst := (some 26), op := (Op.fieldAddr 190 (Operand.tmp 25) 2), type := 0, pos := "find.go:39", after := #[⟨2, .data⟩], guard := none }) (v := .pointer (some ⟨fb0, 4, none⟩)) rfl (by kernel_rfl) (by kernel_rfl) (by kernel_rfl) (fun _ _ _ h => h) (Or.inl ⟨by rfl, fun W' hW => ?_⟩) hS ?_
  · go_simp
  try simp only [Act.put, sI, sZ, sS]
  refine wpAnyH_take (i := 4) (oi := { dst := (some 27), op := (Op.load 27 (Operand.tmp 26)), type := 27, pos := "find.go:39", after := #[⟨3, .data⟩], guard := none }) (v := .int .u64 (l.hash : Nat)) rfl (by kernel_rfl) (by kernel_rfl) (by kernel_rfl) (fun _ _ _ h => h) (Or.inl ⟨by rfl, fun W' hW => ?_⟩) hS ?_
  · go_simp
  try simp only [Act.put, sI, sZ, sS]
  refine wpAnyH_take (i := 5) (oi := { dst := (some 28), op := (Op.load 3 (Operand.tmp 2)), type := 3, pos := "find.go:39", after := #[], guard := none }) (v := .int .i64 level) rfl (by kernel_rfl) (by kernel_rfl) (by kernel_rfl) (fun _ _ _ h => h) (Or.inl ⟨by rfl, fun W' hW => ?_⟩) hS ?_
  · go_simp
  try simp only [Act.put, sI, sZ, sS]
  refine wpAnyH_ready (rs := [6]) (by kernel_rfl) (by simp) ?_
  refine AllReadyH.cons (o := { dst := (some 29), op := (Op.call { callee := (Callee.value (Operand.func 147)), args := #[(Operand.tmp 27), (Operand.tmp 28)], argTypes := #[27, 3] }), type := 3, pos := "find.go:39", after := #[⟨4, .data⟩, ⟨5, .data⟩], guard := none }) rfl (fun K hK => ?_) AllReadyH.nil
  go_simp
  refine ((slice_any l.hash level _ hh)).mono ?_
  rintro e w7 ⟨rfl, rfl⟩
  refine hK.out _ _ ⟨(B0''.out).at0 4 _ rfl, (B1''.out).at0 0 _ rfl, (B2''.out).at0 0 _ rfl, (B4.out).row, trivial⟩ (fun hS => ?_)
  clear hK K
  try simp only [Act.put, sI, sZ, sS]
  refine wpAnyH_ready (rs := [7]) (by kernel_rfl) (by simp) ?_
  refine AllReadyH.cons (o := { dst := (some 30), op := (Op.call { callee := (Callee.value (Operand.func 146)), args := #[(Operand.tmp 23), (Operand.tmp 29)], argTypes := #[136, 3] }), type := 216, pos := "find.go:39", after := #[⟨0, .data⟩, ⟨6, .data⟩, ⟨6, .chain⟩], guard := none }) rfl (fun K hK => ?_) AllReadyH.nil
  go_simp
  refine ((blookup_any _ n3 bv3 pv3 _ (Ct.slice l.hash level) NF3.out (HR3.out.mv (Mv.drew (O := O) (g.plus w.heap.size) _)) (HP3.out.mv (Mv.drew (O := O) (g.plus w.heap.size) _)))).mono ?_
  rintro e w8 ⟨he, hb⟩
  rw [HL.out] at he; subst he
  have R8 := Lib.hid (R6d.out.below hb); have M8 : Hid (Mv O (g.plus w.heap.size) _ (g.plus w.heap.size) w8) := Lib.hid (Mv.below hb); clear hb
  have B0''' := Lib.hid (B0''.out.mv ((Mv.drew (O := O) _ _).trans (M8.out)))
  have B1''' := Lib.hid (B1''.out.mv ((Mv.drew (O := O) _ _).trans (M8.out)))
  have B2''' := Lib.hid (B2''.out.mv ((Mv.drew (O := O) _ _).trans (M8.out)))
  have B4' := Lib.hid (B4.out.mv ((Mv.drew (O := O) _ _).trans (M8.out)))
  have HR3_ := Lib.hid (HR3.out.mv ((Mv.drew (O := O) _ _).trans (M8.out))); clear HR3; have HR3 := HR3_; clear HR3_
  have HP3_ := Lib.hid (HP3.out.mv ((Mv.drew (O := O) _ _).trans (M8.out))); clear HP3; have HP3 := HP3_; clear HP3_
  clear B0'' B1'' B2'' B4
  clear c4
  refine hK.out _ _ ⟨(B0'''.out).at0 4 _ rfl, (B1'''.out).at0 0 _ rfl, (B2'''.out).at0 0 _ rfl, (B4'.out).row, trivial⟩ (fun hS => ?_)
  clear hK K
  try simp only [Act.put, sI, sZ, sS]
  refine wpAnyH_take (i := 8) (oi := { dst := (some 22), op := (Op.move (Operand.tmp 30)), type := 216, pos := "find.go:39", after := #[⟨7, .data⟩], guard := none }) (v := .tuple #[.int .i64 b, .bool false]) rfl (by kernel_rfl) (by kernel_rfl) (by kernel_rfl) (fun _ _ _ h => h) (Or.inl ⟨by rfl, fun W' hW => ?_⟩) hS ?_
  · go_simp
  try simp only [Act.put, sI, sZ, sS]
  refine wpAnyH_take (i := 9) (oi := { dst := (some 31), op := (Op.extract (Operand.tmp 22) 0), type := 40, pos := "find.go:39", after := #[⟨8, .data⟩], guard := none }) (v := .int .i64 b) rfl (by kernel_rfl) (by kernel_rfl) (by kernel_rfl) (fun _ _ _ h => h) (Or.inl ⟨by rfl, fun W' hW => ?_⟩) hS ?_
  · go_simp
  try simp only [Act.put, sI, sZ, sS]
  refine wpAnyH_take (i := 10) (oi := { dst := (some 32), op := (Op.extract (Operand.tmp 22) 1), type := 4, pos := "find.go:39", after := #[⟨8, .data⟩, { on := 11, ground := (Ground.gcOnly Departure.lateStores) }], guard := none }) (v := .bool false) rfl (by kernel_rfl) (by kernel_rfl) (by kernel_rfl) (fun _ _ _ h => h) (Or.inl ⟨by rfl, fun W' hW => ?_⟩) hS ?_
  · go_simp
  try simp only [Act.put, sI, sZ, sS]
  refine wpAnyH_ready (rs := [11]) (by kernel_rfl) (by simp) ?_
  refine AllReadyH.cons (o := { dst := (some 6), op := (Op.assign (Operand.tmp 31)), type := 40, pos := "find.go:39", after := #[⟨9, .data⟩, ⟨7, .chain⟩, ⟨0, .phase⟩, ⟨1, .phase⟩, ⟨2, .phase⟩, ⟨3, .phase⟩, ⟨4, .phase⟩, ⟨5, .phase⟩, ⟨6, .phase⟩, ⟨7, .phase⟩, ⟨8, .phase⟩, ⟨9, .phase⟩, { on := 10, ground := (Ground.textOnly Departure.lateStores) }], guard := none }) rfl (fun K hK => ?_) AllReadyH.nil
  go_simp
  refine hK.out _ _ hS (fun hS => ?_)
  clear hK K
  try simp only [Act.put, sI, sZ, sS]
  refine wpAnyH_ready (rs := [12]) (by kernel_rfl) (by simp) ?_
  refine AllReadyH.cons (o := { dst := (some 7), op := (Op.assign (Operand.tmp 32)), type := 4, pos := "find.go:39", after := #[⟨10, .data⟩, ⟨11, .chain⟩, ⟨0, .phase⟩, ⟨1, .phase⟩, ⟨2, .phase⟩, ⟨3, .phase⟩, ⟨4, .phase⟩, ⟨5, .phase⟩, ⟨6, .phase⟩, ⟨7, .phase⟩, ⟨8, .phase⟩, ⟨9, .phase⟩, ⟨10, .phase⟩, ⟨11, .phase⟩], guard := none }) rfl (fun K hK => ?_) AllReadyH.nil
  go_simp
  refine hK.out _ _ hS (fun hS => ?_)
  clear hK K
  try simp only [Act.put, sI, sZ, sS]
  refine wpAnyH_done (by kernel_rfl) ?_ _
  go_wp2_with fail
  refine ((absent_any (g.plus w.heap.size) _ _ R8.out.arena (FI.out.less (by omega)))).mono ?_
  rintro e w9 hc
  obtain ⟨cs, h9, rfl, hC, hMC⟩ := R8.out.code2 hc
  have C := Lib.hid hC; have MC := Lib.hid hMC
  clear hc hC hMC
  go_wp2_with (refine wpList_store_row rfl 115 (.tmp 4) (.tmp 35) rfl w.heap.size cs.toArray rfl rfl 115 zeroCode C.out.res C.out.info C.out.len.symm C.out.one ?_)
  refine bodyPost_ret (v := .agg cs.toArray) (results_cell_row Tryz.results145 _ _ w.heap.size 115 _ (0, 0) _ rfl (setRow_heap _ w.heap.size _ _ _ _ C.out.res) Tryz.underlying115 rfl C.out.info) rfl ?_
  refine RetCode.eq ?_ C.out.ret
  simp only [Ct.apply]; refine (fndVisit_A hm hl).trans ?_; first | rfl | simp only [E3.out]
set_option maxRecDepth 100000 in
set_option maxHeartbeats 400000 in
theorem clo_fnd2B_w (t : Ct.Trie) (l : Ct.Look) (level : Int) (b : Int) (g : Ghost) (w : World) (s : Ct.St) (x : Int) (b0 : Nat) (fb0 : Nat) (b1 : Nat) (h : ArenaO O g w s) (hfin : Fin (1000) s) (k0 : Blk g.N w b0 #[ptr fb0] 188) (q0 : Blk g.N w fb0 (lookCells g.sv t l).toArray 190) (k1 : Blk g.N w b1 #[.int .i64 level] 3)  (hh : l.hash < 18446744073709551616) (hm : (s.node x).kind = 3) (hl : Ct.blookup (s.node x) (Ct.slice l.hash level) = (b, true)) (hn : (s.node b).kind = 4) :
    Calls Tryz.prog 145 #[.int .i64 x, ptr b0, ptr b1] w (RetCode O g w (Ct.apply Ct.stOps (.fnd2 t l level) x s)) := by
  have hNW := ((News.nil w).alloc (.cells zeroCode 115))
  obtain ⟨W0, hW0⟩ : ∃ W, (w.alloc (.cells zeroCode 115)) = W := ⟨_, rfl⟩
  rw [hW0] at hNW
  have z := hNW.size
  simp at z
  have hR0 := Run.start h hNW (b := w.heap.size) 0 rfl rfl
  have hM0 : Mv O g w (g.plus w.heap.size) W0 := Mv.plus hNW.below (by omega)
  have c1 := (q0).at1 0 (.iface 23 (.pointer (some ⟨g.a, 0, none⟩))) rfl
  have c2 := (k0).at1 0 (.pointer (some ⟨fb0, 0, none⟩)) rfl
  have B0 := Lib.hid (q0.mv hM0)
  have B1 := Lib.hid (k0.mv hM0)
  have B2 := Lib.hid (k1.mv hM0)
  have R0 := Lib.hid hR0
  have M0 := Lib.hid hM0
  have HW := Lib.hid hW0
  have HZ := Lib.hid z
  have H := Lib.hid h
  have FI := Lib.hid hfin
  have hmf := hmfG
  have hmNode := meth_Node; have hnNode := nil_Node
  clear h hNW hW0 z hR0 hM0 hfin q0 k0 k1
  unfold ptr
  go_enter Tryz.func145, Tryz.ntmps145
  go_wp2_with fail
  refine (with_world HW.out (R0.out.node FI.out (by omega) x)).mono ?_
  rintro e w3 ⟨n3, bv3, pv3, rfl, E3, hR, hM, hr, hp⟩
  have R3 := Lib.hid hR; have M3 := Lib.hid hM; have HR3 := Lib.hid hr; have HP3 := Lib.hid hp; have NF3 : Hid (n3.fits 549755813886) := Lib.hid (by rw [← E3.out]; exact FI.out.node' _); clear hR hM hr hp
  have B0' := Lib.hid (B0.out.mv (M3.out))
  have B1' := Lib.hid (B1.out.mv (M3.out))
  have B2' := Lib.hid (B2.out.mv (M3.out))
  clear B0 B1 B2
  clear c1 c2
  have q1 : (n3.kind == 3) = true := by rw [← E3.out]; simp [hm]
  have HL : Hid (Ct.blookup n3 (Ct.slice l.hash level) = (b, true)) := Lib.hid (by rw [← E3.out]; exact hl)
  have c4 := node_new w3 n3 bv3 pv3 0 (.int .i64 n3.kind) rfl
  go_wp2_with (first | (refine wpList_store_row rfl 136 (.tmp 5) (.tmp 17) rfl w3.heap.size (nodeCells n3 bv3 pv3).toArray rfl rfl 136 zeroNode (heap_alloc_at _ _) info_Node_size rfl (nodeCells_one _ _ _ HR3.out.one HP3.out.one) ?_; rw [alloc_setRow]))
  obtain ⟨W5, hW5⟩ : ∃ W, (w3.alloc (.cells (nodeCells n3 bv3 pv3).toArray 136)) = W := ⟨_, rfl⟩
  have M5 : Hid (Mv O (g.plus w.heap.size) w3 (g.plus w.heap.size) W5) := hW5 ▸ Lib.hid (Mv.alloc (O := O) (g.plus w.heap.size) _ _)
  have R5 : Hid (Run O g w w.heap.size (g.plus w.heap.size) W5 s) := hW5 ▸ Lib.hid ((R3.out.alloc _))
  have B4 : Hid (Blk (g.plus w.heap.size).N W5 w3.heap.size (nodeCells n3 bv3 pv3).toArray 136) := hW5 ▸ Lib.hid ((R3.out).blk _ _)
  have B0'' := Lib.hid (B0'.out.mv (M5.out))
  have B1'' := Lib.hid (B1'.out.mv (M5.out))
  have B2'' := Lib.hid (B2'.out.mv (M5.out))
  have HR3_ := Lib.hid (HR3.out.mv (M5.out)); clear HR3; have HR3 := HR3_; clear HR3_
  have HP3_ := Lib.hid (HP3.out.mv (M5.out)); clear HP3; have HP3 := HP3_; clear HP3_
  clear B0' B1' B2'
  have HWW5 := Lib.hid hW5; clear hW5
  refine code_world HWW5.out ?_
  refine wp_region_held_drew (S := fun W' => W'.cell? ⟨fb0, 4, none⟩ = some (.int .u64 (l.hash : Nat)) ∧ W'.cell? ⟨b0, 0, none⟩ = some (.pointer (some ⟨fb0, 0, none⟩)) ∧ W'.cell? ⟨b1, 0, none⟩ = some (.int .i64 level) ∧ W'.rangeAt w3.heap.size 0 (nodeCells n3 bv3 pv3) ∧ True) (by kernel_rfl) ⟨(B0''.out).at0 4 _ rfl, (B1''.out).at0 0 _ rfl, (B2''.out).at0 0 _ rfl, (B4.out).row, trivial⟩ (fun hS => ?_)
  have R6d := Lib.hid (R5.out.drew)
  refine wpAnyH_take (i := 0) (oi := { dst := (some 23), op := (Op.load 136 (Operand.tmp 5)), type := 136, pos := "find.go:39", after := #[], guard := none }) (v := .agg (nodeCells n3 bv3 pv3).toArray) rfl (by kernel_rfl) (by kernel_rfl) (by kernel_rfl) (fun _ _ _ h => h) (yieldsIf_load_mid (by rfl) 136 (.tmp 5) rfl w3.heap.size 0 rfl (nodeCells n3 bv3 pv3) _ (fun W' hW => hW.2.2.2.1) Tryz.underlying136 rfl info_Node_size) hS ?_
  try simp only [Act.put, sI, sZ, sS]
  refine wpAnyH_take (i := 1) (oi := { dst := (some 24), op := (Op.load 188 (Operand.tmp 1)), type := 188, pos := "find.go:39", after := #[], guard := none }) (v := .pointer (some ⟨fb0, 0, none⟩)) rfl (by kernel_rfl) (by kernel_rfl) (by kernel_rfl) (fun _ _ _ h => h) (Or.inl ⟨by rfl, fun W' hW => ?_⟩) hS ?_
  · go_simp
  try simp only [Act.put, sI, sZ, sS]
  refine wpAnyH_take (i := 2) (oi := { dst := (some 25), op := (Op.nilCheck (Operand.tmp 24)), type := 0, pos := "find.go:39", after := #[⟨1, .data⟩], guard := none }) (v := .pointer (some ⟨fb0, 0, none⟩)) rfl (by kernel_rfl) (by kernel_rfl) (by kernel_rfl) (fun _ _ _ h => h) (Or.inl ⟨by rfl, fun W' hW => ?_⟩) hS ?_
  · go_simp
  try simp only [Act.put, sI, sZ, sS]
  refine wpAnyH_take (i := 3) (oi := { dst := (some 26), op := (Op.fieldAddr 190 (Operand.tmp 25) 2), type := 0, pos := "find.go:39", after := #[⟨2, .data⟩], guard := none }) (v := .pointer (some ⟨fb0, 4, none⟩)) rfl (by kernel_rfl) (by kernel_rfl) (by kernel_rfl) (fun _ _ _ h => h) (Or.inl ⟨by rfl, fun W' hW => ?_⟩) hS ?_
  · go_simp
  try simp only [Act.put, sI, sZ, sS]
  refine wpAnyH_take (i := 4) (oi := { dst := (some 27), op := (Op.load 27 (Operand.tmp 26)), type := 27, pos := "find.go:39", after := #[⟨3, .data⟩], guard := none }) (v := .int .u64 (l.hash : Nat)) rfl (by kernel_rfl) (by kernel_rfl) (by kernel_rfl) (fun _ _ _ h => h) (Or.inl ⟨by rfl, fun W' hW => ?_⟩) hS ?_
  · go_simp
  try simp only [Act.put, sI, sZ, sS]
  refine wpAnyH_take (i := 5) (oi := { dst := (some 28), op := (Op.load 3 (Operand.tmp 2)), type := 3, pos := "find.go:39", after := #[], guard := none }) (v := .int .i64 level) rfl (by kernel_rfl) (by kernel_rfl) (by kernel_rfl) (fun _ _ _ h => h) (Or.inl ⟨by rfl, fun W' hW => ?_⟩) hS ?_
  · go_simp
  try simp only [Act.put, sI, sZ, sS]
  refine wpAnyH_ready (rs := [6]) (by kernel_rfl) (by simp) ?_
  refine AllReadyH.cons (o := { dst := (some 29), op := (Op.call { callee := (Callee.value (Operand.func 147)), args := #[(Operand.tmp 27), (Operand.tmp 28)], argTypes := #[27, 3] }), type := 3, pos := "find.go:39", after := #[⟨4, .data⟩, ⟨5, .data⟩], guard := none }) rfl (fun K hK => ?_) AllReadyH.nil
  go_simp
  refine ((slice_any l.hash level _ hh)).mono ?_
  rintro e w7 ⟨rfl, rfl⟩
  refine hK.out _ _ ⟨(B0''.out).at0 4 _ rfl, (B1''.out).at0 0 _ rfl, (B2''.out).at0 0 _ rfl, (B4.out).row, trivial⟩ (fun hS => ?_)
  clear hK K
  try simp only [Act.put, sI, sZ, sS]
  refine wpAnyH_ready (rs := [7]) (by kernel_rfl) (by simp) ?_
  refine AllReadyH.cons (o := { dst := (some 30), op := (Op.call { callee := (Callee.value (Operand.func 146)), args := #[(Operand.tmp 23), (Operand.tmp 29)], argTypes := #[136, 3] }), type := 216, pos := "find.go:39", after := #[⟨0, .data⟩, ⟨6, .data⟩, ⟨6, .chain⟩], guard := none }) rfl (fun K hK => ?_) AllReadyH.nil
  go_simp
  refine ((blookup_any _ n3 bv3 pv3 _ (Ct.slice l.hash level) NF3.out (HR3.out.mv (Mv.drew (O := O) (g.plus w.heap.size) _)) (HP3.out.mv (Mv.drew (O := O) (g.plus w.heap.size) _)))).mono ?_
  rintro e w8 ⟨he, hb⟩
  rw [HL.out] at he; subst he
  have R8 := Lib.hid (R6d.out.below hb); have M8 : Hid (Mv O (g.plus w.heap.size) _ (g.plus w.heap.size) w8) := Lib.hid (Mv.below hb); clear hb
  have B0''' := Lib.hid (B0''.out.mv ((Mv.drew (O := O) _ _).trans (M8.out)))
  have B1''' := Lib.hid (B1''.out.mv ((Mv.drew (O := O) _ _).trans (M8.out)))
  have B2''' := Lib.hid (B2''.out.mv ((Mv.drew (O := O) _ _).trans (M8.out)))
  have B4' := Lib.hid (B4.out.mv ((Mv.drew (O := O) _ _).trans (M8.out)))
  have HR3_ := Lib.hid (HR3.out.mv ((Mv.drew (O := O) _ _).trans (M8.out))); clear HR3; have HR3 := HR3_; clear HR3_
  have HP3_ := Lib.hid (HP3.out.mv ((Mv.drew (O := O) _ _).trans (M8.out))); clear HP3; have HP3 := HP3_; clear HP3_
  clear B0'' B1'' B2'' B4
  clear c4
  refine hK.out _ _ ⟨(B0'''.out).at0 4 _ rfl, (B1'''.out).at0 0 _ rfl, (B2'''.out).at0 0 _ rfl, (B4'.out).row, trivial⟩ (fun hS => ?_)
  clear hK K
  try simp only [Act.put, sI, sZ, sS]
  refine wpAnyH_take (i := 8) (oi := { dst := (some 22), op := (Op.move (Operand.tmp 30)), type := 216, pos := "find.go:39", after := #[⟨7, .data⟩], guard := none }) (v := .tuple #[.int .i64 b, .bool true]) rfl (by kernel_rfl) (by kernel_rfl) (by kernel_rfl) (fun _ _ _ h => h) (Or.inl ⟨by rfl, fun W' hW => ?_⟩) hS ?_
  · go_simp
  try simp only [Act.put, sI, sZ, sS]
  refine wpAnyH_take (i := 9) (oi := { dst := (some 31), op := (Op.extract (Operand.tmp 22) 0), type := 40, pos := "find.go:39", after := #[⟨8, .data⟩], guard := none }) (v := .int .i64 b) rfl (by kernel_rfl) (by kernel_rfl) (by kernel_rfl) (fun _ _ _ h => h) (Or.inl ⟨by rfl, fun W' hW => ?_⟩) hS ?_
  · go_simp
  try simp only [Act.put, sI, sZ, sS]
  refine wpAnyH_take (i := 10) (oi := { dst := (some 32), op := (Op.extract (Operand.tmp 22) 1), type := 4, pos := "find.go:39", after := #[⟨8, .data⟩, { on := 11, ground := (Ground.gcOnly Departure.lateStores) }], guard := none }) (v := .bool true) rfl (by kernel_rfl) (by kernel_rfl) (by kernel_rfl) (fun _ _ _ h => h) (Or.inl ⟨by rfl, fun W' hW => ?_⟩) hS ?_
  · go_simp
  try simp only [Act.put, sI, sZ, sS]
  refine wpAnyH_ready (rs := [11]) (by kernel_rfl) (by simp) ?_
  refine AllReadyH.cons (o := { dst := (some 6), op := (Op.assign (Operand.tmp 31)), type := 40, pos := "find.go:39", after := #[⟨9, .data⟩, ⟨7, .chain⟩, ⟨0, .phase⟩, ⟨1, .phase⟩, ⟨2, .phase⟩, ⟨3, .phase⟩, ⟨4, .phase⟩, ⟨5, .phase⟩, ⟨6, .phase⟩, ⟨7, .phase⟩, ⟨8, .phase⟩, ⟨9, .phase⟩, { on := 10, ground := (Ground.textOnly Departure.lateStores) }], guard := none }) rfl (fun K hK => ?_) AllReadyH.nil
  go_simp
  refine hK.out _ _ hS (fun hS => ?_)
  clear hK K
  try simp only [Act.put, sI, sZ, sS]
  refine wpAnyH_ready (rs := [12]) (by kernel_rfl) (by simp) ?_
  refine AllReadyH.cons (o := { dst := (some 7), op := (Op.assign (Operand.tmp 32)), type := 4, pos := "find.go:39", after := #[⟨10, .data⟩, ⟨11, .chain⟩, ⟨0, .phase⟩, ⟨1, .phase⟩, ⟨2, .phase⟩, ⟨3, .phase⟩, ⟨4, .phase⟩, ⟨5, .phase⟩, ⟨6, .phase⟩, ⟨7, .phase⟩, ⟨8, .phase⟩, ⟨9, .phase⟩, ⟨10, .phase⟩, ⟨11, .phase⟩], guard := none }) rfl (fun K hK => ?_) AllReadyH.nil
  go_simp
  refine hK.out _ _ hS (fun hS => ?_)
  clear hK K
  try simp only [Act.put, sI, sZ, sS]
  refine wpAnyH_done (by kernel_rfl) ?_ _
  have c9 := (B0'''.out).at0 0 (.iface 23 (.pointer (some ⟨g.a, 0, none⟩))) rfl
  have c10 := (B1'''.out).at0 0 (.pointer (some ⟨fb0, 0, none⟩)) rfl
  go_wp2_with fail
  refine ((R8.out.node FI.out (by omega) b)).mono ?_
  rintro e w11 ⟨n11, bv11, pv11, rfl, E11, hR, hM, hr, hp⟩
  have R11 := Lib.hid hR; have M11 := Lib.hid hM; have HR11 := Lib.hid hr; have HP11 := Lib.hid hp; have NF11 : Hid (n11.fits 549755813886) := Lib.hid (by rw [← E11.out]; exact FI.out.node' _); clear hR hM hr hp
  have B0'''' := Lib.hid (B0'''.out.mv (M11.out))
  have B1'''' := Lib.hid (B1'''.out.mv (M11.out))
  have B2'''' := Lib.hid (B2'''.out.mv (M11.out))
  have B4'' := Lib.hid (B4'.out.mv (M11.out))
  have HR3_ := Lib.hid (HR3.out.mv (M11.out)); clear HR3; have HR3 := HR3_; clear HR3_
  have HP3_ := Lib.hid (HP3.out.mv (M11.out)); clear HP3; have HP3 := HP3_; clear HP3_
  clear B0''' B1''' B2''' B4'
  clear c9 c10
  have q2 : (n11.kind == 4) = true := by rw [← E11.out]; simp [hn]
  have c14 := (B1''''.out).at1 0 (.pointer (some ⟨fb0, 0, none⟩)) rfl
  have c12 := node_new w11 n11 bv11 pv11 0 (.int .i64 n11.kind) rfl
  have HX13 : Hid ((w11.alloc (.cells (nodeCells n11 bv11 pv11).toArray 136)).heap[w11.heap.size]? = some (.cells (nodeCells n11 bv11 pv11).toArray 136)) := Lib.hid (heap_alloc_at' _ _ _ (by simp))
  go_wp2_with (first | (refine wpList_store_row rfl 136 (.tmp 8) (.tmp 42) rfl w11.heap.size (nodeCells n11 bv11 pv11).toArray rfl rfl 136 zeroNode (heap_alloc_at _ _) info_Node_size rfl (nodeCells_one _ _ _ HR11.out.one HP11.out.one) ?_; rw [alloc_setRow]) | (refine wpList_load_row rfl 136 (.tmp 8) rfl w11.heap.size rfl 136 (nodeCells n11 bv11 pv11).toArray (0, 0) _ (HX13.out) Tryz.underlying136 rfl info_Node_size ?_))
  obtain ⟨W15, hW15⟩ : ∃ W, (w11.alloc (.cells (nodeCells n11 bv11 pv11).toArray 136)) = W := ⟨_, rfl⟩
  have M15 : Hid (Mv O (g.plus w.heap.size) w11 (g.plus w.heap.size) W15) := hW15 ▸ Lib.hid (Mv.alloc (O := O) (g.plus w.heap.size) _ _)
  have R15 : Hid (Run O g w w.heap.size (g.plus w.heap.size) W15 s) := hW15 ▸ Lib.hid ((R11.out.alloc _))
  have B5 : Hid (Blk (g.plus w.heap.size).N W15 w11.heap.size (nodeCells n11 bv11 pv11).toArray 136) := hW15 ▸ Lib.hid ((R11.out).blk _ _)
  have B0''''' := Lib.hid (B0''''.out.mv (M15.out))
  have B1''''' := Lib.hid (B1''''.out.mv (M15.out))
  have B2''''' := Lib.hid (B2''''.out.mv (M15.out))
  have B4''' := Lib.hid (B4''.out.mv (M15.out))
  have HR3_ := Lib.hid (HR3.out.mv (M15.out)); clear HR3; have HR3 := HR3_; clear HR3_
  have HP3_ := Lib.hid (HP3.out.mv (M15.out)); clear HP3; have HP3 := HP3_; clear HP3_
  have HR11_ := Lib.hid (HR11.out.mv (M15.out)); clear HR11; have HR11 := HR11_; clear HR11_
  have HP11_ := Lib.hid (HP11.out.mv (M15.out)); clear HP11; have HP11 := HP11_; clear HP11_
  clear B0'''' B1'''' B2'''' B4''
  have HWW15 := Lib.hid hW15; clear hW15
  refine (with_world HWW15.out (pair_any t l fb0 n11 bv11 pv11 (g.plus w.heap.size) _ _ R15.out.arena (FI.out.less (by omega)) B0'''''.out HR11.out HP11.out NF11.out)).mono ?_
  rintro e w16 hc
  obtain ⟨cs, h16, rfl, hC, hMC⟩ := R15.out.code2 hc
  have C := Lib.hid hC; have MC := Lib.hid hMC
  clear hc hC hMC
  go_wp2_with (refine wpList_store_row rfl 115 (.tmp 4) (.tmp 48) rfl w.heap.size cs.toArray rfl rfl 115 zeroCode C.out.res C.out.info C.out.len.symm C.out.one ?_)
  refine bodyPost_ret (v := .agg cs.toArray) (results_cell_row Tryz.results145 _ _ w.heap.size 115 _ (0, 0) _ rfl (setRow_heap _ w.heap.size _ _ _ _ C.out.res) Tryz.underlying115 rfl C.out.info) rfl ?_
  refine RetCode.eq ?_ C.out.ret
  simp only [Ct.apply]; refine (fndVisit_B hm hl hn).trans ?_; first | rfl | simp only [E3.out, E11.out]
set_option maxRecDepth 100000 in
set_option maxHeartbeats 400000 in
theorem clo_fnd2C_w (t : Ct.Trie) (l : Ct.Look) (level : Int) (b : Int) (g : Ghost) (w : World) (s : Ct.St) (x : Int) (b0 : Nat) (fb0 : Nat) (b1 : Nat) (h : ArenaO O g w s) (hfin : Fin (1000) s) (k0 : Blk g.N w b0 #[ptr fb0] 188) (q0 : Blk g.N w fb0 (lookCells g.sv t l).toArray 190) (k1 : Blk g.N w b1 #[.int .i64 level] 3)  (hh : l.hash < 18446744073709551616) (hm : (s.node x).kind = 3) (hl : Ct.blookup (s.node x) (Ct.slice l.hash level) = (b, true)) (hn : (s.node b).kind ≠ 4) :
    Calls Tryz.prog 145 #[.int .i64 x, ptr b0, ptr b1] w (RetCode O g w (Ct.apply Ct.stOps (.fnd2 t l level) x s)) := by
  have hNW := ((News.nil w).alloc (.cells zeroCode 115))
  obtain ⟨W0, hW0⟩ : ∃ W, (w.alloc (.cells zeroCode 115)) = W := ⟨_, rfl⟩
  rw [hW0] at hNW
  have z := hNW.size
  simp at z
  have hR0 := Run.start h hNW (b := w.heap.size) 0 rfl rfl
  have hM0 : Mv O g w (g.plus w.heap.size) W0 := Mv.plus hNW.below (by omega)
  have c1 := (q0).at1 0 (.iface 23 (.pointer (some ⟨g.a, 0, none⟩))) rfl
  have c2 := (k0).at1 0 (.pointer (some ⟨fb0, 0, none⟩)) rfl
  have B0 := Lib.hid (q0.mv hM0)
  have B1 := Lib.hid (k0.mv hM0)
  have B2 := Lib.hid (k1.mv hM0)
  have R0 := Lib.hid hR0
  have M0 := Lib.hid hM0
  have HW := Lib.hid hW0
  have HZ := Lib.hid z
  have H := Lib.hid h
  have FI := Lib.hid hfin
  have hmf := hmfG
  have hmNode := meth_Node; have hnNode := nil_Node
  clear h hNW hW0 z hR0 hM0 hfin q0 k0 k1
  obtain ⟨lv, hlv⟩ : ∃ lv, IntKind.i64.wrap (level + 1) = lv := ⟨_, rfl⟩
  unfold ptr
  go_enter Tryz.func145, Tryz.ntmps145
  go_wp2_with fail
  refine (with_world HW.out (R0.out.node FI.out (by omega) x)).mono ?_
  rintro e w3 ⟨n3, bv3, pv3, rfl, E3, hR, hM, hr, hp⟩
  have R3 := Lib.hid hR; have M3 := Lib.hid hM; have HR3 := Lib.hid hr; have HP3 := Lib.hid hp; have NF3 : Hid (n3.fits 549755813886) := Lib.hid (by rw [← E3.out]; exact FI.out.node' _); clear hR hM hr hp
  have B0' := Lib.hid (B0.out.mv (M3.out))
  have B1' := Lib.hid (B1.out.mv (M3.out))
  have B2' := Lib.hid (B2.out.mv (M3.out))
  clear B0 B1 B2
  clear c1 c2
  have q1 : (n3.kind == 3) = true := by rw [← E3.out]; simp [hm]
  have HL : Hid (Ct.blookup n3 (Ct.slice l.hash level) = (b, true)) := Lib.hid (by rw [← E3.out]; exact hl)
  have c4 := node_new w3 n3 bv3 pv3 0 (.int .i64 n3.kind) rfl
  go_wp2_with (first | (refine wpList_store_row rfl 136 (.tmp 5) (.tmp 17) rfl w3.heap.size (nodeCells n3 bv3 pv3).toArray rfl rfl 136 zeroNode (heap_alloc_at _ _) info_Node_size rfl (nodeCells_one _ _ _ HR3.out.one HP3.out.one) ?_; rw [alloc_setRow]))
  obtain ⟨W5, hW5⟩ : ∃ W, (w3.alloc (.cells (nodeCells n3 bv3 pv3).toArray 136)) = W := ⟨_, rfl⟩
  have M5 : Hid (Mv O (g.plus w.heap.size) w3 (g.plus w.heap.size) W5) := hW5 ▸ Lib.hid (Mv.alloc (O := O) (g.plus w.heap.size) _ _)
  have R5 : Hid (Run O g w w.heap.size (g.plus w.heap.size) W5 s) := hW5 ▸ Lib.hid ((R3.out.alloc _))
  have B4 : Hid (Blk (g.plus w.heap.size).N W5 w3.heap.size (nodeCells n3 bv3 pv3).toArray 136) := hW5 ▸ Lib.hid ((R3.out).blk _ _)
  have B0'' := Lib.hid (B0'.out.mv (M5.out))
  have B1'' := Lib.hid (B1'.out.mv (M5.out))
  have B2'' := Lib.hid (B2'.out.mv (M5.out))
  have HR3_ := Lib.hid (HR3.out.mv (M5.out)); clear HR3; have HR3 := HR3_; clear HR3_
  have HP3_ := Lib.hid (HP3.out.mv (M5.out)); clear HP3; have HP3 := HP3_; clear HP3_
  clear B0' B1' B2'
  have HWW5 := Lib.hid hW5; clear hW5
  refine code_world HWW5.out ?_
  refine wp_region_held_drew (S := fun W' => W'.cell? ⟨fb0, 4, none⟩ = some (.int .u64 (l.hash : Nat)) ∧ W'.cell? ⟨b0, 0, none⟩ = some (.pointer (some ⟨fb0, 0, none⟩)) ∧ W'.cell? ⟨b1, 0, none⟩ = some (.int .i64 level) ∧ W'.rangeAt w3.heap.size 0 (nodeCells n3 bv3 pv3) ∧ True) (by kernel_rfl) ⟨(B0''.out).at0 4 _ rfl, (B1''.out).at0 0 _ rfl, (B2''.out).at0 0 _ rfl, (B4.out).row, trivial⟩ (fun hS => ?_)
  have R6d := Lib.hid (R5.out.drew)
  refine wpAnyH_take (i := 0) (oi := { dst := (some 23), op := (Op.load 136 (Operand.tmp 5)), type := 136, pos := "find.go:39", after := #[], guard := none }) (v := .agg (nodeCells n3 bv3 pv3).toArray) rfl (by kernel_rfl) (by kernel_rfl) (by kernel_rfl) (fun _ _ _ h => h) (yieldsIf_load_mid (by rfl) 136 (.tmp 5) rfl w3.heap.size 0 rfl (nodeCells n3 bv3 pv3) _ (fun W' hW => hW.2.2.2.1) Tryz.underlying136 rfl info_Node_size) hS ?_
  try simp only [Act.put, sI, sZ, sS]
  refine wpAnyH_take (i := 1) (oi := { dst := (some 24), op := (Op.load 188 (Operand.tmp 1)), type := 188, pos := "find.go:39", after := #[], guard := none }) (v := .pointer (some ⟨fb0, 0, none⟩)) rfl (by kernel_rfl) (by kernel_rfl) (by kernel_rfl) (fun _ _ _ h => h) (Or.inl ⟨by rfl, fun W' hW => ?_⟩) hS ?_
  · go_simp
  try simp only [Act.put, sI, sZ, sS]
  refine wpAnyH_take (i := 2) (oi := { dst := (some 25), op := (Op.nilCheck (Operand.tmp 24)), type := 0, pos := "find.go:39", after := #[⟨1, .data⟩], guard := none }) (v := .pointer (some ⟨fb0, 0, none⟩)) rfl (by kernel_rfl) (by kernel_rfl) (by kernel_rfl) (fun _ _ _ h => h) (Or.inl ⟨by rfl, fun W' hW => ?_⟩) hS ?_
  · go_simp
  try simp only [Act.put, sI, sZ, sS]
  refine wpAnyH_take (i := 3) (oi := { dst := (some 26), op := (Op.fieldAddr 190 (Operand.tmp 25) 2), type := 0, pos := "find.go:39", after := #[⟨2, .data⟩], guard := none }) (v := .pointer (some ⟨fb0, 4, none⟩)) rfl (by kernel_rfl) (by kernel_rfl) (by kernel_rfl) (fun _ _ _ h => h) (Or.inl ⟨by rfl, fun W' hW => ?_⟩) hS ?_
  · go_simp
  try simp only [Act.put, sI, sZ, sS]
  refine wpAnyH_take (i := 4) (oi := { dst := (some 27), op := (Op.load 27 (Operand.tmp 26)), type := 27, pos := "find.go:39", after := #[⟨3, .data⟩], guard := none }) (v := .int .u64 (l.hash : Nat)) rfl (by kernel_rfl) (by kernel_rfl) (by kernel_rfl) (fun _ _ _ h => h) (Or.inl ⟨by rfl, fun W' hW => ?_⟩) hS ?_
  · go_simp
  try simp only [Act.put, sI, sZ, sS]
  refine wpAnyH_take (i := 5) (oi := { dst := (some 28), op := (Op.load 3 (Operand.tmp 2)), type := 3, pos := "find.go:39", after := #[], guard := none }) (v := .int .i64 level) rfl (by kernel_rfl) (by kernel_rfl) (by kernel_rfl) (fun _ _ _ h => h) (Or.inl ⟨by rfl, fun W' hW => ?_⟩) hS ?_
  · go_simp
  try simp only [Act.put, sI, sZ, sS]
  refine wpAnyH_ready (rs := [6]) (by kernel_rfl) (by simp) ?_
  refine AllReadyH.cons (o := { dst := (some 29), op := (Op.call { callee := (Callee.value (Operand.func 147)), args := #[(Operand.tmp 27), (Operand.tmp 28)], argTypes := #[27, 3] }), type := 3, pos := "find.go:39", after := #[⟨4, .data⟩, ⟨5, .data⟩], guard := none }) rfl (fun K hK => ?_) AllReadyH.nil
  go_simp
  refine ((slice_any l.hash level _ hh)).mono ?_
  rintro e w7 ⟨rfl, rfl⟩
  refine hK.out _ _ ⟨(B0''.out).at0 4 _ rfl, (B1''.out).at0 0 _ rfl, (B2''.out).at0 0 _ rfl, (B4.out).row, trivial⟩ (fun hS => ?_)
  clear hK K
  try simp only [Act.put, sI, sZ, sS]
  refine wpAnyH_ready (rs := [7]) (by kernel_rfl) (by simp) ?_
  refine AllReadyH.cons (o := { dst := (some 30), op := (Op.call { callee := (Callee.value (Operand.func 146)), args := #[(Operand.tmp 23), (Operand.tmp 29)], argTypes := #[136, 3] }), type := 216, pos := "find.go:39", after := #[⟨0, .data⟩, ⟨6, .data⟩, ⟨6, .chain⟩], guard := none }) rfl (fun K hK => ?_) AllReadyH.nil
  go_simp
  refine ((blookup_any _ n3 bv3 pv3 _ (Ct.slice l.hash level) NF3.out (HR3.out.mv (Mv.drew (O := O) (g.plus w.heap.size) _)) (HP3.out.mv (Mv.drew (O := O) (g.plus w.heap.size) _)))).mono ?_
  rintro e w8 ⟨he, hb⟩
  rw [HL.out] at he; subst he
  have R8 := Lib.hid (R6d.out.below hb); have M8 : Hid (Mv O (g.plus w.heap.size) _ (g.plus w.heap.size) w8) := Lib.hid (Mv.below hb); clear hb
  have B0''' := Lib.hid (B0''.out.mv ((Mv.drew (O := O) _ _).trans (M8.out)))
  have B1''' := Lib.hid (B1''.out.mv ((Mv.drew (O := O) _ _).trans (M8.out)))
  have B2''' := Lib.hid (B2''.out.mv ((Mv.drew (O := O) _ _).trans (M8.out)))
  have B4' := Lib.hid (B4.out.mv ((Mv.drew (O := O) _ _).trans (M8.out)))
  have HR3_ := Lib.hid (HR3.out.mv ((Mv.drew (O := O) _ _).trans (M8.out))); clear HR3; have HR3 := HR3_; clear HR3_
  have HP3_ := Lib.hid (HP3.out.mv ((Mv.drew (O := O) _ _).trans (M8.out))); clear HP3; have HP3 := HP3_; clear HP3_
  clear B0'' B1'' B2'' B4
  clear c4
  refine hK.out _ _ ⟨(B0'''.out).at0 4 _ rfl, (B1'''.out).at0 0 _ rfl, (B2'''.out).at0 0 _ rfl, (B4'.out).row, trivial⟩ (fun hS => ?_)
  clear hK K
  try simp only [Act.put, sI, sZ, sS]
  refine wpAnyH_take (i := 8) (oi := { dst := (some 22), op := (Op.move (Operand.tmp 30)), type := 216, pos := "find.go:39", after := #[⟨7, .data⟩], guard := none }) (v := .tuple #[.int .i64 b, .bool true]) rfl (by kernel_rfl) (by kernel_rfl) (by kernel_rfl) (fun _ _ _ h => h) (Or.inl ⟨by rfl, fun W' hW => ?_⟩) hS ?_
  · go_simp
  try simp only [Act.put, sI, sZ, sS]
  refine wpAnyH_take (i := 9) (oi := { dst := (some 31), op := (Op.extract (Operand.tmp 22) 0), type := 40, pos := "find.go:39", after := #[⟨8, .data⟩], guard := none }) (v := .int .i64 b) rfl (by kernel_rfl) (by kernel_rfl) (by kernel_rfl) (fun _ _ _ h => h) (Or.inl ⟨by rfl, fun W' hW => ?_⟩) hS ?_
  · go_simp
  try simp only [Act.put, sI, sZ, sS]
  refine wpAnyH_take (i := 10) (oi := { dst := (some 32), op := (Op.extract (Operand.tmp 22) 1), type := 4, pos := "find.go:39", after := #[⟨8, .data⟩, { on := 11, ground := (Ground.gcOnly Departure.lateStores) }], guard := none }) (v := .bool true) rfl (by kernel_rfl) (by kernel_rfl) (by kernel_rfl) (fun _ _ _ h => h) (Or.inl ⟨by rfl, fun W' hW => ?_⟩) hS ?_
  · go_simp
  try simp only [Act.put, sI, sZ, sS]
  refine wpAnyH_ready (rs := [11]) (by kernel_rfl) (by simp) ?_
  refine AllReadyH.cons (o := { dst := (some 6), op := (Op.assign (Operand.tmp 31)), type := 40, pos := "find.go:39", after := #[⟨9, .data⟩, ⟨7, .chain⟩, ⟨0, .phase⟩, ⟨1, .phase⟩, ⟨2, .phase⟩, ⟨3, .phase⟩, ⟨4, .phase⟩, ⟨5, .phase⟩, ⟨6, .phase⟩, ⟨7, .phase⟩, ⟨8, .phase⟩, ⟨9, .phase⟩, { on := 10, ground := (Ground.textOnly Departure.lateStores) }], guard := none }) rfl (fun K hK => ?_) AllReadyH.nil
  go_simp
  refine hK.out _ _ hS (fun hS => ?_)
  clear hK K
  try simp only [Act.put, sI, sZ, sS]
  refine wpAnyH_ready (rs := [12]) (by kernel_rfl) (by simp) ?_
  refine AllReadyH.cons (o := { dst := (some 7), op := (Op.assign (Operand.tmp 32)), type := 4, pos := "find.go:39", after := #[⟨10, .data⟩, ⟨11, .chain⟩, ⟨0, .phase⟩, ⟨1, .phase⟩, ⟨2, .phase⟩, ⟨3, .phase⟩, ⟨4, .phase⟩, ⟨5, .phase⟩, ⟨6, .phase⟩, ⟨7, .phase⟩, ⟨8, .phase⟩, ⟨9, .phase⟩, ⟨10, .phase⟩, ⟨11, .phase⟩], guard := none }) rfl (fun K hK => ?_) AllReadyH.nil
  go_simp
  refine hK.out _ _ hS (fun hS => ?_)
  clear hK K
  try simp only [Act.put, sI, sZ, sS]
  refine wpAnyH_done (by kernel_rfl) ?_ _
  have c9 := (B0'''.out).at0 0 (.iface 23 (.pointer (some ⟨g.a, 0, none⟩))) rfl
  have c10 := (B1'''.out).at0 0 (.pointer (some ⟨fb0, 0, none⟩)) rfl
  go_wp2_with fail
  refine ((R8.out.node FI.out (by omega) b)).mono ?_
  rintro e w11 ⟨n11, bv11, pv11, rfl, E11, hR, hM, hr, hp⟩
  have R11 := Lib.hid hR; have M11 := Lib.hid hM; have HR11 := Lib.hid hr; have HP11 := Lib.hid hp; have NF11 : Hid (n11.fits 549755813886) := Lib.hid (by rw [← E11.out]; exact FI.out.node' _); clear hR hM hr hp
  have B0'''' := Lib.hid (B0'''.out.mv (M11.out))
  have B1'''' := Lib.hid (B1'''.out.mv (M11.out))
  have B2'''' := Lib.hid (B2'''.out.mv (M11.out))
  have B4'' := Lib.hid (B4'.out.mv (M11.out))
  have HR3_ := Lib.hid (HR3.out.mv (M11.out)); clear HR3; have HR3 := HR3_; clear HR3_
  have HP3_ := Lib.hid (HP3.out.mv (M11.out)); clear HP3; have HP3 := HP3_; clear HP3_
  clear B0''' B1''' B2''' B4'
  clear c9 c10
  have q2 : (n11.kind == 4) = false := by rw [← E11.out]; simp [hn]
  have c13 := (B1''''.out).at1 0 (.pointer (some ⟨fb0, 0, none⟩)) rfl
  have c14 := (B2''''.out).at1 0 (.int .i64 level) rfl
  have c12 := node_new w11 n11 bv11 pv11 0 (.int .i64 n11.kind) rfl
  go_wp2_with (first | (refine wpList_store_row rfl 136 (.tmp 8) (.tmp 42) rfl w11.heap.size (nodeCells n11 bv11 pv11).toArray rfl rfl 136 zeroNode (heap_alloc_at _ _) info_Node_size rfl (nodeCells_one _ _ _ HR11.out.one HP11.out.one) ?_; rw [alloc_setRow]))
  obtain ⟨W15, hW15⟩ : ∃ W, (w11.alloc (.cells (nodeCells n11 bv11 pv11).toArray 136)) = W := ⟨_, rfl⟩
  have M15 : Hid (Mv O (g.plus w.heap.size) w11 (g.plus w.heap.size) W15) := hW15 ▸ Lib.hid (Mv.alloc (O := O) (g.plus w.heap.size) _ _)
  have R15 : Hid (Run O g w w.heap.size (g.plus w.heap.size) W15 s) := hW15 ▸ Lib.hid ((R11.out.alloc _))
  have B5 : Hid (Blk (g.plus w.heap.size).N W15 w11.heap.size (nodeCells n11 bv11 pv11).toArray 136) := hW15 ▸ Lib.hid ((R11.out).blk _ _)
  have B0''''' := Lib.hid (B0''''.out.mv (M15.out))
  have B1''''' := Lib.hid (B1''''.out.mv (M15.out))
  have B2''''' := Lib.hid (B2''''.out.mv (M15.out))
  have B4''' := Lib.hid (B4''.out.mv (M15.out))
  have HR3_ := Lib.hid (HR3.out.mv (M15.out)); clear HR3; have HR3 := HR3_; clear HR3_
  have HP3_ := Lib.hid (HP3.out.mv (M15.out)); clear HP3; have HP3 := HP3_; clear HP3_
  have HR11_ := Lib.hid (HR11.out.mv (M15.out)); clear HR11; have HR11 := HR11_; clear HR11_
  have HP11_ := Lib.hid (HP11.out.mv (M15.out)); clear HP11; have HP11 := HP11_; clear HP11_
  clear B0'''' B1'''' B2'''' B4''
  have HWW15 := Lib.hid hW15; clear hW15
  refine (with_world HWW15.out (descend_any t l fb0 b lv (g.plus w.heap.size) _ _ R15.out.arena (FI.out.less (by omega)) B0'''''.out)).mono ?_
  rintro e w16 hc
  obtain ⟨cs, h16, rfl, hC, hMC⟩ := R15.out.code2 hc
  have C := Lib.hid hC; have MC := Lib.hid hMC
  clear hc hC hMC
  go_wp2_with (refine wpList_store_row rfl 115 (.tmp 4) (.tmp 53) rfl w.heap.size cs.toArray rfl rfl 115 zeroCode C.out.res C.out.info C.out.len.symm C.out.one ?_)
  refine bodyPost_ret (v := .agg cs.toArray) (results_cell_row Tryz.results145 _ _ w.heap.size 115 _ (0, 0) _ rfl (setRow_heap _ w.heap.size _ _ _ _ C.out.res) Tryz.underlying115 rfl C.out.info) rfl ?_
  refine RetCode.eq ?_ C.out.ret
  simp only [Ct.apply]; refine (fndVisit_C hm hl hn).trans ?_; rw [show Ct.inc level = lv from hlv]
set_option maxRecDepth 100000 in
set_option maxHeartbeats 400000 in
theorem clo_fnd2D_w (t : Ct.Trie) (l : Ct.Look) (level : Int)  (g : Ghost) (w : World) (s : Ct.St) (x : Int) (b0 : Nat) (fb0 : Nat) (b1 : Nat) (h : ArenaO O g w s) (hfin : Fin (1000) s) (k0 : Blk g.N w b0 #[ptr fb0] 188) (q0 : Blk g.N w fb0 (lookCells g.sv t l).toArray 190) (k1 : Blk g.N w b1 #[.int .i64 level] 3)  (hm : (s.node x).kind = 5) :
    Calls Tryz.prog 145 #[.int .i64 x, ptr b0, ptr b1] w (RetCode O g w (Ct.apply Ct.stOps (.fnd2 t l level) x s)) := by
  have hNW := ((News.nil w).alloc (.cells zeroCode 115))
  obtain ⟨W0, hW0⟩ : ∃ W, (w.alloc (.cells zeroCode 115)) = W := ⟨_, rfl⟩
  rw [hW0] at hNW
  have z := hNW.size
  simp at z
  have hR0 := Run.start h hNW (b := w.heap.size) 0 rfl rfl
  have hM0 : Mv O g w (g.plus w.heap.size) W0 := Mv.plus hNW.below (by omega)
  have c1 := (q0).at1 0 (.iface 23 (.pointer (some ⟨g.a, 0, none⟩))) rfl
  have c2 := (k0).at1 0 (.pointer (some ⟨fb0, 0, none⟩)) rfl
  have B0 := Lib.hid (q0.mv hM0)
  have B1 := Lib.hid (k0.mv hM0)
  have B2 := Lib.hid (k1.mv hM0)
  have R0 := Lib.hid hR0
  have M0 := Lib.hid hM0
  have HW := Lib.hid hW0
  have HZ := Lib.hid z
  have H := Lib.hid h
  have FI := Lib.hid hfin
  have hmf := hmfG
  have hmNode := meth_Node; have hnNode := nil_Node
  clear h hNW hW0 z hR0 hM0 hfin q0 k0 k1
  unfold ptr
  go_enter Tryz.func145, Tryz.ntmps145
  go_wp2_with fail
  refine (with_world HW.out (R0.out.node FI.out (by omega) x)).mono ?_
  rintro e w3 ⟨n3, bv3, pv3, rfl, E3, hR, hM, hr, hp⟩
  have R3 := Lib.hid hR; have M3 := Lib.hid hM; have HR3 := Lib.hid hr; have HP3 := Lib.hid hp; have NF3 : Hid (n3.fits 549755813886) := Lib.hid (by rw [← E3.out]; exact FI.out.node' _); clear hR hM hr hp
  have B0' := Lib.hid (B0.out.mv (M3.out))
  have B1' := Lib.hid (B1.out.mv (M3.out))
  have B2' := Lib.hid (B2.out.mv (M3.out))
  clear B0 B1 B2
  clear c1 c2
  have q1 : (n3.kind == 3) = false := by rw [← E3.out]; simp [hm]
  have q2 : (n3.kind == 5) = true := by rw [← E3.out]; simp [hm]
  have c6 := (B1'.out).at1 0 (.pointer (some ⟨fb0, 0, none⟩)) rfl
  have c4 := node_new w3 n3 bv3 pv3 0 (.int .i64 n3.kind) rfl
  have HX5 : Hid ((w3.alloc (.cells (nodeCells n3 bv3 pv3).toArray 136)).heap[w3.heap.size]? = some (.cells (nodeCells n3 bv3 pv3).toArray 136)) := Lib.hid (heap_alloc_at' _ _ _ (by simp))
  go_wp2_with (first | (refine wpList_store_row rfl 136 (.tmp 5) (.tmp 17) rfl w3.heap.size (nodeCells n3 bv3 pv3).toArray rfl rfl 136 zeroNode (heap_alloc_at _ _) info_Node_size rfl (nodeCells_one _ _ _ HR3.out.one HP3.out.one) ?_; rw [alloc_setRow]) | (refine wpList_load_row rfl 136 (.tmp 5) rfl w3.heap.size rfl 136 (nodeCells n3 bv3 pv3).toArray (0, 0) _ (HX5.out) Tryz.underlying136 rfl info_Node_size ?_))
  obtain ⟨W7, hW7⟩ : ∃ W, (w3.alloc (.cells (nodeCells n3 bv3 pv3).toArray 136)) = W := ⟨_, rfl⟩
  have M7 : Hid (Mv O (g.plus w.heap.size) w3 (g.plus w.heap.size) W7) := hW7 ▸ Lib.hid (Mv.alloc (O := O) (g.plus w.heap.size) _ _)
  have R7 : Hid (Run O g w w.heap.size (g.plus w.heap.size) W7 s) := hW7 ▸ Lib.hid ((R3.out.alloc _))
  have B4 : Hid (Blk (g.plus w.heap.size).N W7 w3.heap.size (nodeCells n3 bv3 pv3).toArray 136) := hW7 ▸ Lib.hid ((R3.out).blk _ _)
  have B0'' := Lib.hid (B0'.out.mv (M7.out))
  have B1'' := Lib.hid (B1'.out.mv (M7.out))
  have B2'' := Lib.hid (B2'.out.mv (M7.out))
  have HR3_ := Lib.hid (HR3.out.mv (M7.out)); clear HR3; have HR3 := HR3_; clear HR3_
  have HP3_ := Lib.hid (HP3.out.mv (M7.out)); clear HP3; have HP3 := HP3_; clear HP3_
  clear B0' B1' B2'
  have HWW7 := Lib.hid hW7; clear hW7
  refine (with_world HWW7.out (pair_any t l fb0 n3 bv3 pv3 (g.plus w.heap.size) _ _ R7.out.arena (FI.out.less (by omega)) B0''.out HR3.out HP3.out NF3.out)).mono ?_
  rintro e w8 hc
  obtain ⟨cs, h8, rfl, hC, hMC⟩ := R7.out.code2 hc
  have C := Lib.hid hC; have MC := Lib.hid hMC
  clear hc hC hMC
  go_wp2_with (refine wpList_store_row rfl 115 (.tmp 4) (.tmp 58) rfl w.heap.size cs.toArray rfl rfl 115 zeroCode C.out.res C.out.info C.out.len.symm C.out.one ?_)
  refine bodyPost_ret (v := .agg cs.toArray) (results_cell_row Tryz.results145 _ _ w.heap.size 115 _ (0, 0) _ rfl (setRow_heap _ w.heap.size _ _ _ _ C.out.res) Tryz.underlying115 rfl C.out.info) rfl ?_
  refine RetCode.eq ?_ C.out.ret
  simp only [Ct.apply]; refine (fndVisit_D hm).trans ?_; first | rfl | simp only [E3.out]
set_option maxRecDepth 100000 in
set_option maxHeartbeats 400000 in
theorem clo_fnd2E_w (t : Ct.Trie) (l : Ct.Look) (level : Int) (u : Nat) (g : Ghost) (w : World) (s : Ct.St) (x : Int) (b0 : Nat) (fb0 : Nat) (b1 : Nat) (h : ArenaO O g w s) (hfin : Fin (1000) s) (k0 : Blk g.N w b0 #[ptr fb0] 188) (q0 : Blk g.N w fb0 (lookCells g.sv t l).toArray 190) (k1 : Blk g.N w b1 #[.int .i64 level] 3)  (hm : (s.node x).kind = 6) (hl : Ct.pfind (s.node x).pairs l.key = (u, true)) :
    Calls Tryz.prog 145 #[.int .i64 x, ptr b0, ptr b1] w (RetCode O g w (Ct.apply Ct.stOps (.fnd2 t l level) x s)) := by
  have hNW := ((News.nil w).alloc (.cells zeroCode 115))
  obtain ⟨W0, hW0⟩ : ∃ W, (w.alloc (.cells zeroCode 115)) = W := ⟨_, rfl⟩
  rw [hW0] at hNW
  have z := hNW.size
  simp at z
  have hR0 := Run.start h hNW (b := w.heap.size) 0 rfl rfl
  have hM0 : Mv O g w (g.plus w.heap.size) W0 := Mv.plus hNW.below (by omega)
  have c1 := (q0).at1 0 (.iface 23 (.pointer (some ⟨g.a, 0, none⟩))) rfl
  have c2 := (k0).at1 0 (.pointer (some ⟨fb0, 0, none⟩)) rfl
  have B0 := Lib.hid (q0.mv hM0)
  have B1 := Lib.hid (k0.mv hM0)
  have B2 := Lib.hid (k1.mv hM0)
  have R0 := Lib.hid hR0
  have M0 := Lib.hid hM0
  have HW := Lib.hid hW0
  have HZ := Lib.hid z
  have H := Lib.hid h
  have FI := Lib.hid hfin
  have hmf := hmfG
  have hmNode := meth_Node; have hnNode := nil_Node
  clear h hNW hW0 z hR0 hM0 hfin q0 k0 k1
  unfold ptr
  go_enter Tryz.func145, Tryz.ntmps145
  go_wp2_with fail
  refine (with_world HW.out (R0.out.node FI.out (by omega) x)).mono ?_
  rintro e w3 ⟨n3, bv3, pv3, rfl, E3, hR, hM, hr, hp⟩
  have R3 := Lib.hid hR; have M3 := Lib.hid hM; have HR3 := Lib.hid hr; have HP3 := Lib.hid hp; have NF3 : Hid (n3.fits 549755813886) := Lib.hid (by rw [← E3.out]; exact FI.out.node' _); clear hR hM hr hp
  have B0' := Lib.hid (B0.out.mv (M3.out))
  have B1' := Lib.hid (B1.out.mv (M3.out))
  have B2' := Lib.hid (B2.out.mv (M3.out))
  clear B0 B1 B2
  clear c1 c2
  have q1 : (n3.kind == 3) = false := by rw [← E3.out]; simp [hm]
  have q2 : (n3.kind == 5) = false := by rw [← E3.out]; simp [hm]
  have q3 : (n3.kind == 6) = true := by rw [← E3.out]; simp [hm]
  have HV : Hid (Ct.pairsValid n3.pairs = true) := Lib.hid (by rw [← E3.out]; exact (Ct.valid6 hm ((FI.out.node x).2.2.2.2.2.2 (.inr hm))).2.2.2.2.2.1)
  have HL : Hid (Ct.pfind n3.pairs l.key = (u, true)) := Lib.hid (by rw [← E3.out]; exact hl)
  have c4 := node_new w3 n3 bv3 pv3 0 (.int .i64 n3.kind) rfl
  go_wp2_with (first | (refine wpList_store_row rfl 136 (.tmp 5) (.tmp 17) rfl w3.heap.size (nodeCells n3 bv3 pv3).toArray rfl rfl 136 zeroNode (heap_alloc_at _ _) info_Node_size rfl (nodeCells_one _ _ _ HR3.out.one HP3.out.one) ?_; rw [alloc_setRow]))
  obtain ⟨W5, hW5⟩ : ∃ W, (w3.alloc (.cells (nodeCells n3 bv3 pv3).toArray 136)) = W := ⟨_, rfl⟩
  have M5 : Hid (Mv O (g.plus w.heap.size) w3 (g.plus w.heap.size) W5) := hW5 ▸ Lib.hid (Mv.alloc (O := O) (g.plus w.heap.size) _ _)
  have R5 : Hid (Run O g w w.heap.size (g.plus w.heap.size) W5 s) := hW5 ▸ Lib.hid ((R3.out.alloc _))
  have B4 : Hid (Blk (g.plus w.heap.size).N W5 w3.heap.size (nodeCells n3 bv3 pv3).toArray 136) := hW5 ▸ Lib.hid ((R3.out).blk _ _)
  have B0'' := Lib.hid (B0'.out.mv (M5.out))
  have B1'' := Lib.hid (B1'.out.mv (M5.out))
  have B2'' := Lib.hid (B2'.out.mv (M5.out))
  have HR3_ := Lib.hid (HR3.out.mv (M5.out)); clear HR3; have HR3 := HR3_; clear HR3_
  have HP3_ := Lib.hid (HP3.out.mv (M5.out)); clear HP3; have HP3 := HP3_; clear HP3_
  clear B0' B1' B2'
  have HWW5 := Lib.hid hW5; clear hW5
  refine code_world HWW5.out ?_
  refine wp_region_held_drew (S := fun W' => W'.cell? ⟨fb0, 3, none⟩ = some (.string l.key) ∧ W'.cell? ⟨b0, 0, none⟩ = some (.pointer (some ⟨fb0, 0, none⟩)) ∧ W'.cell? ⟨w3.heap.size, 8, none⟩ = some (pv3) ∧ True) (by kernel_rfl) ⟨(B0''.out).at0 3 _ rfl, (B1''.out).at0 0 _ rfl, (B4.out).at0 8 _ rfl, trivial⟩ (fun hS => ?_)
  have R6d := Lib.hid (R5.out.drew)
  refine wpAnyH_take (i := 0) (oi := { dst := (some 62), op := (Op.fieldAddr 136 (Operand.tmp 5) 8), type := 0, pos := "find.go:50", after := #[], guard := none }) (v := .pointer (some ⟨w3.heap.size, 8, none⟩)) rfl (by kernel_rfl) (by kernel_rfl) (by kernel_rfl) (fun _ _ _ h => h) (Or.inl ⟨by rfl, fun W' hW => ?_⟩) hS ?_
  · go_simp
  try simp only [Act.put, sI, sZ, sS]
  refine wpAnyH_take (i := 1) (oi := { dst := (some 63), op := (Op.load 134 (Operand.tmp 62)), type := 134, pos := "find.go:50", after := #[⟨0, .data⟩], guard := none }) (v := pv3) rfl (by kernel_rfl) (by kernel_rfl) (by kernel_rfl) (fun _ _ _ h => h) (Or.inl ⟨by rfl, fun W' hW => ?_⟩) hS ?_
  · go_simp
  try simp only [Act.put, sI, sZ, sS]
  refine wpAnyH_take (i := 2) (oi := { dst := (some 64), op := (Op.load 188 (Operand.tmp 1)), type := 188, pos := "find.go:50", after := #[], guard := none }) (v := .pointer (some ⟨fb0, 0, none⟩)) rfl (by kernel_rfl) (by kernel_rfl) (by kernel_rfl) (fun _ _ _ h => h) (Or.inl ⟨by rfl, fun W' hW => ?_⟩) hS ?_
  · go_simp
  try simp only [Act.put, sI, sZ, sS]
  refine wpAnyH_take (i := 3) (oi := { dst := (some 65), op := (Op.nilCheck (Operand.tmp 64)), type := 0, pos := "find.go:50", after := #[⟨2, .data⟩], guard := none }) (v := .pointer (some ⟨fb0, 0, none⟩)) rfl (by kernel_rfl) (by kernel_rfl) (by kernel_rfl) (fun _ _ _ h => h) (Or.inl ⟨by rfl, fun W' hW => ?_⟩) hS ?_
  · go_simp
  try simp only [Act.put, sI, sZ, sS]
  refine wpAnyH_take (i := 4) (oi := { dst := (some 66), op := (Op.fieldAddr 190 (Operand.tmp 65) 1), type := 0, pos := "find.go:50", after := #[⟨3, .data⟩], guard := none }) (v := .pointer (some ⟨fb0, 3, none⟩)) rfl (by kernel_rfl) (by kernel_rfl) (by kernel_rfl) (fun _ _ _ h => h) (Or.inl ⟨by rfl, fun W' hW => ?_⟩) hS ?_
  · go_simp
  try simp only [Act.put, sI, sZ, sS]
  refine wpAnyH_take (i := 5) (oi := { dst := (some 67), op := (Op.load 9 (Operand.tmp 66)), type := 9, pos := "find.go:50", after := #[⟨4, .data⟩], guard := none }) (v := .string l.key) rfl (by kernel_rfl) (by kernel_rfl) (by kernel_rfl) (fun _ _ _ h => h) (Or.inl ⟨by rfl, fun W' hW => ?_⟩) hS ?_
  · go_simp
  try simp only [Act.put, sI, sZ, sS]
  refine wpAnyH_ready (rs := [6]) (by kernel_rfl) (by simp) ?_
  refine AllReadyH.cons (o := { dst := (some 68), op := (Op.call { callee := (Callee.value (Operand.func 150)), args := #[(Operand.tmp 63), (Operand.tmp 67)], argTypes := #[134, 9] }), type := 220, pos := "find.go:50", after := #[⟨1, .data⟩, ⟨5, .data⟩], guard := none }) rfl (fun K hK => ?_) AllReadyH.nil
  go_simp
  refine ((pfind_any _ _ pv3 _ l.key (HP3.out.mv (Mv.drew (O := O) (g.plus w.heap.size) _)) (by have := NF3.out.2.1; omega) HV.out)).mono ?_
  rintro e w7 ⟨he, hb⟩
  rw [HL.out] at he; subst he
  have R7 := Lib.hid (R6d.out.below hb); have M7 : Hid (Mv O (g.plus w.heap.size) _ (g.plus w.heap.size) w7) := Lib.hid (Mv.below hb); clear hb
  have B0''' := Lib.hid (B0''.out.mv ((Mv.drew (O := O) _ _).trans (M7.out)))
  have B1''' := Lib.hid (B1''.out.mv ((Mv.drew (O := O) _ _).trans (M7.out)))
  have B2''' := Lib.hid (B2''.out.mv ((Mv.drew (O := O) _ _).trans (M7.out)))
  have B4' := Lib.hid (B4.out.mv ((Mv.drew (O := O) _ _).trans (M7.out)))
  have HR3_ := Lib.hid (HR3.out.mv ((Mv.drew (O := O) _ _).trans (M7.out))); clear HR3; have HR3 := HR3_; clear HR3_
  have HP3_ := Lib.hid (HP3.out.mv ((Mv.drew (O := O) _ _).trans (M7.out))); clear HP3; have HP3 := HP3_; clear HP3_
  clear B0'' B1'' B2'' B4
  clear c4
  refine hK.out _ _ ⟨(B0'''.out).at0 3 _ rfl, (B1'''.out).at0 0 _ rfl, (B4'.out).at0 8 _ rfl, trivial⟩ (fun hS => ?_)
  clear hK K
  try simp only [Act.put, sI, sZ, sS]
  refine wpAnyH_take (i := 7) (oi := { dst := (some 61), op := (Op.move (Operand.tmp 68)), type := 220, pos := "find.go:50", after := #[⟨6, .data⟩], guard := none }) (v := .tuple #[.int .u64 (u : Nat), .bool true]) rfl (by kernel_rfl) (by kernel_rfl) (by kernel_rfl) (fun _ _ _ h => h) (Or.inl ⟨by rfl, fun W' hW => ?_⟩) hS ?_
  · go_simp
  try simp only [Act.put, sI, sZ, sS]
  refine wpAnyH_take (i := 8) (oi := { dst := (some 69), op := (Op.extract (Operand.tmp 61) 0), type := 27, pos := "find.go:50", after := #[⟨7, .data⟩], guard := none }) (v := .int .u64 (u : Nat)) rfl (by kernel_rfl) (by kernel_rfl) (by kernel_rfl) (fun _ _ _ h => h) (Or.inl ⟨by rfl, fun W' hW => ?_⟩) hS ?_
  · go_simp
  try simp only [Act.put, sI, sZ, sS]
  refine wpAnyH_take (i := 9) (oi := { dst := (some 70), op := (Op.extract (Operand.tmp 61) 1), type := 4, pos := "find.go:50", after := #[⟨7, .data⟩, { on := 10, ground := (Ground.gcOnly Departure.lateStores) }], guard := none }) (v := .bool true) rfl (by kernel_rfl) (by kernel_rfl) (by kernel_rfl) (fun _ _ _ h => h) (Or.inl ⟨by rfl, fun W' hW => ?_⟩) hS ?_
  · go_simp
  try simp only [Act.put, sI, sZ, sS]
  refine wpAnyH_ready (rs := [10]) (by kernel_rfl) (by simp) ?_
  refine AllReadyH.cons (o := { dst := (some 9), op := (Op.assign (Operand.tmp 69)), type := 27, pos := "find.go:50", after := #[⟨8, .data⟩, ⟨6, .chain⟩, ⟨0, .phase⟩, ⟨1, .phase⟩, ⟨2, .phase⟩, ⟨3, .phase⟩, ⟨4, .phase⟩, ⟨5, .phase⟩, ⟨6, .phase⟩, ⟨7, .phase⟩, ⟨8, .phase⟩, { on := 9, ground := (Ground.textOnly Departure.lateStores) }], guard := none }) rfl (fun K hK => ?_) AllReadyH.nil
  go_simp
  refine hK.out _ _ hS (fun hS => ?_)
  clear hK K
  try simp only [Act.put, sI, sZ, sS]
  refine wpAnyH_ready (rs := [11]) (by kernel_rfl) (by simp) ?_
  refine AllReadyH.cons (o := { dst := (some 10), op := (Op.assign (Operand.tmp 70)), type := 4, pos := "find.go:50", after := #[⟨9, .data⟩, ⟨10, .chain⟩, ⟨0, .phase⟩, ⟨1, .phase⟩, ⟨2, .phase⟩, ⟨3, .phase⟩, ⟨4, .phase⟩, ⟨5, .phase⟩, ⟨6, .phase⟩, ⟨7, .phase⟩, ⟨8, .phase⟩, ⟨9, .phase⟩, ⟨10, .phase⟩], guard := none }) rfl (fun K hK => ?_) AllReadyH.nil
  go_simp
  refine hK.out _ _ hS (fun hS => ?_)
  clear hK K
  try simp only [Act.put, sI, sZ, sS]
  refine wpAnyH_done (by kernel_rfl) ?_ _
  go_wp2_with fail
  refine ((present_any u (g.plus w.heap.size) _ _ R7.out.arena (FI.out.less (by omega)))).mono ?_
  rintro e w8 hc
  obtain ⟨cs, h8, rfl, hC, hMC⟩ := R7.out.code2 hc
  have C := Lib.hid hC; have MC := Lib.hid hMC
  clear hc hC hMC
  go_wp2_with (refine wpList_store_row rfl 115 (.tmp 4) (.tmp 73) rfl w.heap.size cs.toArray rfl rfl 115 zeroCode C.out.res C.out.info C.out.len.symm C.out.one ?_)
  refine bodyPost_ret (v := .agg cs.toArray) (results_cell_row Tryz.results145 _ _ w.heap.size 115 _ (0, 0) _ rfl (setRow_heap _ w.heap.size _ _ _ _ C.out.res) Tryz.underlying115 rfl C.out.info) rfl ?_
  refine RetCode.eq ?_ C.out.ret
  simp only [Ct.apply]; refine (fndVisit_E hm hl).trans ?_; first | rfl | simp only [E3.out]
set_option maxRecDepth 100000 in
set_option maxHeartbeats 400000 in
theorem clo_fnd2F_w (t : Ct.Trie) (l : Ct.Look) (level : Int) (u : Nat) (g : Ghost) (w : World) (s : Ct.St) (x : Int) (b0 : Nat) (fb0 : Nat) (b1 : Nat) (h : ArenaO O g w s) (hfin : Fin (1000) s) (k0 : Blk g.N w b0 #[ptr fb0] 188) (q0 : Blk g.N w fb0 (lookCells g.sv t l).toArray 190) (k1 : Blk g.N w b1 #[.int .i64 level] 3)  (hm : (s.node x).kind = 6) (hl : Ct.pfind (s.node x).pairs l.key = (u, false)) :
    Calls Tryz.prog 145 #[.int .i64 x, ptr b0, ptr b1] w (RetCode O g w (Ct.apply Ct.stOps (.fnd2 t l level) x s)) := by
  have hNW := ((News.nil w).alloc (.cells zeroCode 115))
  obtain ⟨W0, hW0⟩ : ∃ W, (w.alloc (.cells zeroCode 115)) = W := ⟨_, rfl⟩
  rw [hW0] at hNW
  have z := hNW.size
  simp at z
  have hR0 := Run.start h hNW (b := w.heap.size) 0 rfl rfl
  have hM0 : Mv O g w (g.plus w.heap.size) W0 := Mv.plus hNW.below (by omega)
  have c1 := (q0).at1 0 (.iface 23 (.pointer (some ⟨g.a, 0, none⟩))) rfl
  have c2 := (k0).at1 0 (.pointer (some ⟨fb0, 0, none⟩)) rfl
  have B0 := Lib.hid (q0.mv hM0)
  have B1 := Lib.hid (k0.mv hM0)
  have B2 := Lib.hid (k1.mv hM0)
  have R0 := Lib.hid hR0
  have M0 := Lib.hid hM0
  have HW := Lib.hid hW0
  have HZ := Lib.hid z
  have H := Lib.hid h
  have FI := Lib.hid hfin
  have hmf := hmfG
  have hmNode := meth_Node; have hnNode := nil_Node
  clear h hNW hW0 z hR0 hM0 hfin q0 k0 k1
  unfold ptr
  go_enter Tryz.func145, Tryz.ntmps145
  go_wp2_with fail
  refine (with_world HW.out (R0.out.node FI.out (by omega) x)).mono ?_
  rintro e w3 ⟨n3, bv3, pv3, rfl, E3, hR, hM, hr, hp⟩
  have R3 := Lib.hid hR; have M3 := Lib.hid hM; have HR3 := Lib.hid hr; have HP3 := Lib.hid hp; have NF3 : Hid (n3.fits 549755813886) := Lib.hid (by rw [← E3.out]; exact FI.out.node' _); clear hR hM hr hp
  have B0' := Lib.hid (B0.out.mv (M3.out))
  have B1' := Lib.hid (B1.out.mv (M3.out))
  have B2' := Lib.hid (B2.out.mv (M3.out))
  clear B0 B1 B2
  clear c1 c2
  have q1 : (n3.kind == 3) = false := by rw [← E3.out]; simp [hm]
  have q2 : (n3.kind == 5) = false := by rw [← E3.out]; simp [hm]
  have q3 : (n3.kind == 6) = true := by rw [← E3.out]; simp [hm]
  have HV : Hid (Ct.pairsValid n3.pairs = true) := Lib.hid (by rw [← E3.out]; exact (Ct.valid6 hm ((FI.out.node x).2.2.2.2.2.2 (.inr hm))).2.2.2.2.2.1)
  have HL : Hid (Ct.pfind n3.pairs l.key = (u, false)) := Lib.hid (by rw [← E3.out]; exact hl)
  have c4 := node_new w3 n3 bv3 pv3 0 (.int .i64 n3.kind) rfl
  go_wp2_with (first | (refine wpList_store_row rfl 136 (.tmp 5) (.tmp 17) rfl w3.heap.size (nodeCells n3 bv3 pv3).toArray rfl rfl 136 zeroNode (heap_alloc_at _ _) info_Node_size rfl (nodeCells_one _ _ _ HR3.out.one HP3.out.one) ?_; rw [alloc_setRow]))
  obtain ⟨W5, hW5⟩ : ∃ W, (w3.alloc (.cells (nodeCells n3 bv3 pv3).toArray 136)) = W := ⟨_, rfl⟩
  have M5 : Hid (Mv O (g.plus w.heap.size) w3 (g.plus w.heap.size) W5) := hW5 ▸ Lib.hid (Mv.alloc (O := O) (g.plus w.heap.size) _ _)
  have R5 : Hid (Run O g w w.heap.size (g.plus w.heap.size) W5 s) := hW5 ▸ Lib.hid ((R3.out.alloc _))
  have B4 : Hid (Blk (g.plus w.heap.size).N W5 w3.heap.size (nodeCells n3 bv3 pv3).toArray 136) := hW5 ▸ Lib.hid ((R3.out).blk _ _)
  have B0'' := Lib.hid (B0'.out.mv (M5.out))
  have B1'' := Lib.hid (B1'.out.mv (M5.out))
  have B2'' := Lib.hid (B2'.out.mv (M5.out))
  have HR3_ := Lib.hid (HR3.out.mv (M5.out)); clear HR3; have HR3 := HR3_; clear HR3_
  have HP3_ := Lib.hid (HP3.out.mv (M5.out)); clear HP3; have HP3 := HP3_; clear HP3_
  clear B0' B1' B2'
  have HWW5 := Lib.hid hW5; clear hW5
  refine code_world HWW5.out ?_
  refine wp_region_held_drew (S := fun W' => W'.cell? ⟨fb0, 3, none⟩ = some (.string l.key) ∧ W'.cell? ⟨b0, 0, none⟩ = some (.pointer (some ⟨fb0, 0, none⟩)) ∧ W'.cell? ⟨w3.heap.size, 8, none⟩ = some (pv3) ∧ True) (by kernel_rfl) ⟨(B0''.out).at0 3 _ rfl, (B1''.out).at0 0 _ rfl, (B4.out).at0 8 _ rfl, trivial⟩ (fun hS => ?_)
  have R6d := Lib.hid (R5.out.drew)
  refine wpAnyH_take (i := 0) (oi := { dst := (some 62), op := (Op.fieldAddr 136 (Operand.tmp 5) 8), type := 0, pos := "find.go:50", after := #[], guard := none }) (v := .pointer (some ⟨w3.heap.size, 8, none⟩)) rfl (by kernel_rfl) (by kernel_rfl) (by kernel_rfl) (fun _ _ _ h => h) (Or.inl ⟨by rfl, fun W' hW => ?_⟩) hS ?_
  · go_simp
  try simp only [Act.put, sI, sZ, sS]
  refine wpAnyH_take (i := 1) (oi := { dst := (some 63), op := (Op.load 134 (Operand.tmp 62)), type := 134, pos := "find.go:50", after := #[⟨0, .data⟩], guard := none }) (v := pv3) rfl (by kernel_rfl) (by kernel_rfl) (by kernel_rfl) (fun _ _ _ h => h) (Or.inl ⟨by rfl, fun W' hW => ?_⟩) hS ?_
  · go_simp
  try simp only [Act.put, sI, sZ, sS]
  refine wpAnyH_take (i := 2) (oi := { dst := (some 64), op := (Op.load 188 (Operand.tmp 1)), type := 188, pos := "find.go:50", after := #[], guard := none }) (v := .pointer (some ⟨fb0, 0, none⟩)) rfl (by kernel_rfl) (by kernel_rfl) (by kernel_rfl) (fun _ _ _ h => h) (Or.inl ⟨by rfl, fun W' hW => ?_⟩) hS ?_
  · go_simp
  try simp only [Act.put, sI, sZ, sS]
  refine wpAnyH_take (i := 3) (oi := { dst := (some 65), op := (Op.nilCheck (Operand.tmp 64)), type := 0, pos := "find.go:50", after := #[⟨2, .data⟩], guard := none }) (v := .pointer (some ⟨fb0, 0, none⟩)) rfl (by kernel_rfl) (by kernel_rfl) (by kernel_rfl) (fun _ _ _ h => h) (Or.inl ⟨by rfl, fun W' hW => ?_⟩) hS ?_
  · go_simp
  try simp only [Act.put, sI, sZ, sS]
  refine wpAnyH_take (i := 4) (oi := { dst := (some 66), op := (Op.fieldAddr 190 (Operand.tmp 65) 1), type := 0, pos := "find.go:50", after := #[⟨3, .data⟩], guard := none }) (v := .pointer (some ⟨fb0, 3, none⟩)) rfl (by kernel_rfl) (by kernel_rfl) (by kernel_rfl) (fun _ _ _ h => h) (Or.inl ⟨by rfl, fun W' hW => ?_⟩) hS ?_
  · go_simp
  try simp only [Act.put, sI, sZ, sS]
  refine wpAnyH_take (i := 5) (oi := { dst := (some 67), op := (Op.load 9 (Operand.tmp 66)), type := 9, pos := "find.go:50", after := #[⟨4, .data⟩], guard := none }) (v := .string l.key) rfl (by kernel_rfl) (by kernel_rfl) (by kernel_rfl) (fun _ _ _ h => h) (Or.inl ⟨by rfl, fun W' hW => ?_⟩) hS ?_
  · go_simp
  try simp only [Act.put, sI, sZ, sS]
  refine wpAnyH_ready (rs := [6]) (by kernel_rfl) (by simp) ?_
  refine AllReadyH.cons (o := { dst := (some 68), op := (Op.call { callee := (Callee.value (Operand.func 150)), args := #[(Operand.tmp 63), (Operand.tmp 67)], argTypes := #[134, 9] }), type := 220, pos := "find.go:50", after := #[⟨1, .data⟩, ⟨5, .data⟩], guard := none }) rfl (fun K hK => ?_) AllReadyH.nil
  go_simp
  refine ((pfind_any _ _ pv3 _ l.key (HP3.out.mv (Mv.drew (O := O) (g.plus w.heap.size) _)) (by have := NF3.out.2.1; omega) HV.out)).mono ?_
  rintro e w7 ⟨he, hb⟩
  rw [HL.out] at he; subst he
  have R7 := Lib.hid (R6d.out.below hb); have M7 : Hid (Mv O (g.plus w.heap.size) _ (g.plus w.heap.size) w7) := Lib.hid (Mv.below hb); clear hb
  have B0''' := Lib.hid (B0''.out.mv ((Mv.drew (O := O) _ _).trans (M7.out)))
  have B1''' := Lib.hid (B1''.out.mv ((Mv.drew (O := O) _ _).trans (M7.out)))
  have B2''' := Lib.hid (B2''.out.mv ((Mv.drew (O := O) _ _).trans (M7.out)))
  have B4' := Lib.hid (B4.out.mv ((Mv.drew (O := O) _ _).trans (M7.out)))
  have HR3_ := Lib.hid (HR3.out.mv ((Mv.drew (O := O) _ _).trans (M7.out))); clear HR3; have HR3 := HR3_; clear HR3_
  have HP3_ := Lib.hid (HP3.out.mv ((Mv.drew (O := O) _ _).trans (M7.out))); clear HP3; have HP3 := HP3_; clear HP3_
  clear B0'' B1'' B2'' B4
  clear c4
  refine hK.out _ _ ⟨(B0'''.out).at0 3 _ rfl, (B1'''.out).at0 0 _ rfl, (B4'.out).at0 8 _ rfl, trivial⟩ (fun hS => ?_)
  clear hK K
  try simp only [Act.put, sI, sZ, sS]
  refine wpAnyH_take (i := 7) (oi := { dst := (some 61), op := (Op.move (Operand.tmp 68)), type := 220, pos := "find.go:50", after := #[⟨6, .data⟩], guard := none }) (v := .tuple #[.int .u64 (u : Nat), .bool false]) rfl (by kernel_rfl) (by kernel_rfl) (by kernel_rfl) (fun _ _ _ h => h) (Or.inl ⟨by rfl, fun W' hW => ?_⟩) hS ?_
  · go_simp
  try simp only [Act.put, sI, sZ, sS]
  refine wpAnyH_take (i := 8) (oi := { dst := (some 69), op := (Op.extract (Operand.tmp 61) 0), type := 27, pos := "find.go:50", after := #[⟨7, .data⟩], guard := none }) (v := .int .u64 (u : Nat)) rfl (by kernel_rfl) (by kernel_rfl) (by kernel_rfl) (fun _ _ _ h => h) (Or.inl ⟨by rfl, fun W' hW => ?_⟩) hS ?_
  · go_simp
  try simp only [Act.put, sI, sZ, sS]
  refine wpAnyH_take (i := 9) (oi := { dst := (some 70), op := (Op.extract (Operand.tmp 61) 1), type := 4, pos := "find.go:50", after := #[⟨7, .data⟩, { on := 10, ground := (Ground.gcOnly Departure.lateStores) }], guard := none }) (v := .bool false) rfl (by kernel_rfl) (by kernel_rfl) (by kernel_rfl) (fun _ _ _ h => h) (Or.inl ⟨by rfl, fun W' hW => ?_⟩) hS ?_
  · go_simp
  try simp only [Act.put, sI, sZ, sS]
  refine wpAnyH_ready (rs := [10]) (by kernel_rfl) (by simp) ?_
  refine AllReadyH.cons (o := { dst := (some 9), op := (Op.assign (Operand.tmp 69)), type := 27, pos := "find.go:50", after := #[⟨8, .data⟩, ⟨6, .chain⟩, ⟨0, .phase⟩, ⟨1, .phase⟩, ⟨2, .phase⟩, ⟨3, .phase⟩, ⟨4, .phase⟩, ⟨5, .phase⟩, ⟨6, .phase⟩, ⟨7, .phase⟩, ⟨8, .phase⟩, { on := 9, ground := (Ground.textOnly Departure.lateStores) }], guard := none }) rfl (fun K hK => ?_) AllReadyH.nil
  go_simp
  refine hK.out _ _ hS (fun hS => ?_)
  clear hK K
  try simp only [Act.put, sI, sZ, sS]
  refine wpAnyH_ready (rs := [11]) (by kernel_rfl) (by simp) ?_
  refine AllReadyH.cons (o := { dst := (some 10), op := (Op.assign (Operand.tmp 70)), type := 4, pos := "find.go:50", after := #[⟨9, .data⟩, ⟨10, .chain⟩, ⟨0, .phase⟩, ⟨1, .phase⟩, ⟨2, .phase⟩, ⟨3, .phase⟩, ⟨4, .phase⟩, ⟨5, .phase⟩, ⟨6, .phase⟩, ⟨7, .phase⟩, ⟨8, .phase⟩, ⟨9, .phase⟩, ⟨10, .phase⟩], guard := none }) rfl (fun K hK => ?_) AllReadyH.nil
  go_simp
  refine hK.out _ _ hS (fun hS => ?_)
  clear hK K
  try simp only [Act.put, sI, sZ, sS]
  refine wpAnyH_done (by kernel_rfl) ?_ _
  go_wp2_with fail
  refine ((absent_any (g.plus w.heap.size) _ _ R7.out.arena (FI.out.less (by omega)))).mono ?_
  rintro e w8 hc
  obtain ⟨cs, h8, rfl, hC, hMC⟩ := R7.out.code2 hc
  have C := Lib.hid hC; have MC := Lib.hid hMC
  clear hc hC hMC
  go_wp2_with (refine wpList_store_row rfl 115 (.tmp 4) (.tmp 74) rfl w.heap.size cs.toArray rfl rfl 115 zeroCode C.out.res C.out.info C.out.len.symm C.out.one ?_)
  refine bodyPost_ret (v := .agg cs.toArray) (results_cell_row Tryz.results145 _ _ w.heap.size 115 _ (0, 0) _ rfl (setRow_heap _ w.heap.size _ _ _ _ C.out.res) Tryz.underlying115 rfl C.out.info) rfl ?_
  refine RetCode.eq ?_ C.out.ret
  simp only [Ct.apply]; refine (fndVisit_F hm hl).trans ?_; first | rfl | simp only [E3.out]
set_option maxRecDepth 100000 in
set_option maxHeartbeats 400000 in
theorem clo_fnd2G_w (t : Ct.Trie) (l : Ct.Look) (level : Int)  (g : Ghost) (w : World) (s : Ct.St) (x : Int) (b0 : Nat) (fb0 : Nat) (b1 : Nat) (h : ArenaO O g w s) (hfin : Fin (1000) s) (k0 : Blk g.N w b0 #[ptr fb0] 188) (q0 : Blk g.N w fb0 (lookCells g.sv t l).toArray 190) (k1 : Blk g.N w b1 #[.int .i64 level] 3)  (hm : (s.node x).kind ≠ 3 ∧ (s.node x).kind ≠ 5 ∧ (s.node x).kind ≠ 6) :
    Calls Tryz.prog 145 #[.int .i64 x, ptr b0, ptr b1] w (RetCode O g w (Ct.apply Ct.stOps (.fnd2 t l level) x s)) := by
  have hNW := ((News.nil w).alloc (.cells zeroCode 115))
  obtain ⟨W0, hW0⟩ : ∃ W, (w.alloc (.cells zeroCode 115)) = W := ⟨_, rfl⟩
  rw [hW0] at hNW
  have z := hNW.size
  simp at z
  have hR0 := Run.start h hNW (b := w.heap.size) 0 rfl rfl
  have hM0 : Mv O g w (g.plus w.heap.size) W0 := Mv.plus hNW.below (by omega)
  have c1 := (q0).at1 0 (.iface 23 (.pointer (some ⟨g.a, 0, none⟩))) rfl
  have c2 := (k0).at1 0 (.pointer (some ⟨fb0, 0, none⟩)) rfl
  have B0 := Lib.hid (q0.mv hM0)
  have B1 := Lib.hid (k0.mv hM0)
  have B2 := Lib.hid (k1.mv hM0)
  have R0 := Lib.hid hR0
  have M0 := Lib.hid hM0
  have HW := Lib.hid hW0
  have HZ := Lib.hid z
  have H := Lib.hid h
  have FI := Lib.hid hfin
  have hmf := hmfG
  have hmNode := meth_Node; have hnNode := nil_Node
  clear h hNW hW0 z hR0 hM0 hfin q0 k0 k1
  unfold ptr
  go_enter Tryz.func145, Tryz.ntmps145
  go_wp2_with fail
  refine (with_world HW.out (R0.out.node FI.out (by omega) x)).mono ?_
  rintro e w3 ⟨n3, bv3, pv3, rfl, E3, hR, hM, hr, hp⟩
  have R3 := Lib.hid hR; have M3 := Lib.hid hM; have HR3 := Lib.hid hr; have HP3 := Lib.hid hp; have NF3 : Hid (n3.fits 549755813886) := Lib.hid (by rw [← E3.out]; exact FI.out.node' _); clear hR hM hr hp
  have B0' := Lib.hid (B0.out.mv (M3.out))
  have B1' := Lib.hid (B1.out.mv (M3.out))
  have B2' := Lib.hid (B2.out.mv (M3.out))
  clear B0 B1 B2
  clear c1 c2
  have q1 : (n3.kind == 3) = false := by rw [← E3.out]; simp [hm]
  have q2 : (n3.kind == 5) = false := by rw [← E3.out]; simp [hm]
  have q3 : (n3.kind == 6) = false := by rw [← E3.out]; simp [hm]
  have c4 := node_new w3 n3 bv3 pv3 0 (.int .i64 n3.kind) rfl
  go_wp2_with (first | (refine wpList_store_row rfl 136 (.tmp 5) (.tmp 17) rfl w3.heap.size (nodeCells n3 bv3 pv3).toArray rfl rfl 136 zeroNode (heap_alloc_at _ _) info_Node_size rfl (nodeCells_one _ _ _ HR3.out.one HP3.out.one) ?_; rw [alloc_setRow]))
  obtain ⟨W5, hW5⟩ : ∃ W, (w3.alloc (.cells (nodeCells n3 bv3 pv3).toArray 136)) = W := ⟨_, rfl⟩
  have M5 : Hid (Mv O (g.plus w.heap.size) w3 (g.plus w.heap.size) W5) := hW5 ▸ Lib.hid (Mv.alloc (O := O) (g.plus w.heap.size) _ _)
  have R5 : Hid (Run O g w w.heap.size (g.plus w.heap.size) W5 s) := hW5 ▸ Lib.hid ((R3.out.alloc _))
  have B4 : Hid (Blk (g.plus w.heap.size).N W5 w3.heap.size (nodeCells n3 bv3 pv3).toArray 136) := hW5 ▸ Lib.hid ((R3.out).blk _ _)
  have B0'' := Lib.hid (B0'.out.mv (M5.out))
  have B1'' := Lib.hid (B1'.out.mv (M5.out))
  have B2'' := Lib.hid (B2'.out.mv (M5.out))
  have HR3_ := Lib.hid (HR3.out.mv (M5.out)); clear HR3; have HR3 := HR3_; clear HR3_
  have HP3_ := Lib.hid (HP3.out.mv (M5.out)); clear HP3; have HP3 := HP3_; clear HP3_
  clear B0' B1' B2'
  have HWW5 := Lib.hid hW5; clear hW5
  refine (with_world HWW5.out (absent_any (g.plus w.heap.size) _ _ R5.out.arena (FI.out.less (by omega)))).mono ?_
  rintro e w6 hc
  obtain ⟨cs, h6, rfl, hC, hMC⟩ := R5.out.code2 hc
  have C := Lib.hid hC; have MC := Lib.hid hMC
  clear hc hC hMC
  go_wp2_with (refine wpList_store_row rfl 115 (.tmp 4) (.tmp 74) rfl w.heap.size cs.toArray rfl rfl 115 zeroCode C.out.res C.out.info C.out.len.symm C.out.one ?_)
  refine bodyPost_ret (v := .agg cs.toArray) (results_cell_row Tryz.results145 _ _ w.heap.size 115 _ (0, 0) _ rfl (setRow_heap _ w.heap.size _ _ _ _ C.out.res) Tryz.underlying115 rfl C.out.info) rfl ?_
  refine RetCode.eq ?_ C.out.ret
  simp only [Ct.apply]; refine (fndVisit_G hm).trans ?_; first | rfl | simp only [E3.out]
theorem clo_fnd0 (t : Ct.Trie) (l : Ct.Look) (ok : l.ok) : CallThunk (.fnd0 t l) := by
  intro O g w s n ff caps h hfine hk
  obtain ⟨b0, b1, e, k0, ⟨fb, k1, q1⟩⟩ := hk
  injection e with e1 e2 e3
  injection e1 with e1
  subst e1 e2 e3
  have hfin := hfine.less (m := 1000) (by simp only [Ct.K.rank]; omega)
  cases hm : Ct.keyValid l.key with
  | false => exact clo_fnd0A_w t l g w s b0 b1 fb h hfin k0 k1 q1 ok.2 hm
  | true => exact clo_fnd0B_w t l g w s b0 b1 fb h hfin k0 k1 q1 ok.2 hm
theorem clo_fnd1 (t : Ct.Trie) (l : Ct.Look) (ok : l.ok) : CallRef (.fnd1 t l) := by
  intro O g w s n ff caps x h hfine hk
  obtain ⟨b0, e, ⟨fb, k0, q0⟩⟩ := hk
  injection e with e1 e2 e3
  injection e1 with e1
  subst e1 e2 e3
  have hfin := hfine.less (m := 1000) (by simp only [Ct.K.rank]; omega)
  exact clo_fnd1_w t l g w s x b0 fb h hfin k0 q0
theorem clo_fnd2 (t : Ct.Trie) (l : Ct.Look) (level : Int) (ok : l.ok) : CallRef (.fnd2 t l level) := by
  intro O g w s n ff caps x h hfine hk
  obtain ⟨b0, b1, e, ⟨fb, k0, q0⟩, k1⟩ := hk
  injection e with e1 e2 e3
  injection e1 with e1
  subst e1 e2 e3
  have hfin := hfine.less (m := 1000) (by simp only [Ct.K.rank]; omega)
  by_cases h3 : (s.node x).kind = 3
  · cases hl : Ct.blookup (s.node x) (Ct.slice l.hash level) with
    | mk b f => cases f with
      | false => exact clo_fnd2A_w t l level b g w s x b0 fb b1 h hfin k0 q0 k1 ok.1 h3 hl
      | true =>
        by_cases h4 : (s.node b).kind = 4
        · exact clo_fnd2B_w t l level b g w s x b0 fb b1 h hfin k0 q0 k1 ok.1 h3 hl h4
        · exact clo_fnd2C_w t l level b g w s x b0 fb b1 h hfin k0 q0 k1 ok.1 h3 hl h4
  · by_cases h5 : (s.node x).kind = 5
    · exact clo_fnd2D_w t l level g w s x b0 fb b1 h hfin k0 q0 k1 h5
    · by_cases h6 : (s.node x).kind = 6
      · cases hl : Ct.pfind (s.node x).pairs l.key with
        | mk u f => cases f with
          | false => exact clo_fnd2F_w t l level u g w s x b0 fb b1 h hfin k0 q0 k1 h6 hl
          | true => exact clo_fnd2E_w t l level u g w s x b0 fb b1 h hfin k0 q0 k1 h6 hl
      · exact clo_fnd2G_w t l level g w s x b0 fb b1 h hfin k0 q0 k1 ⟨h3, h5, h6⟩
end Go.Proofs.YtjlgchdekhmnnaaGreatDoor
end
