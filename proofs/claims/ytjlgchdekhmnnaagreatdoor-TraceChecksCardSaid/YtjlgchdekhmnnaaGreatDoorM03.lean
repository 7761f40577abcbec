/- Parts of a proof: ArenaNode, Mk. -/
import Derived.Test.YtjlgchdekhmnnaaGreatDoorM02
section
namespace Go.Proofs.YtjlgchdekhmnnaaGreatDoor
open Go.RowKit
theorem flatten_at {rows : List (List Value)} : (∀ r ∈ rows, r.length = 14) → ∀ i k, k < 14 → (rows.flatten)[14 * i + k]? = (rows[i]?).bind (·[k]?) := by
  induction rows with
  | nil => intro _ i k _; simp
  | cons r rows ih =>
    intro h i k hk
    have hr : r.length = 14 := h r (by simp)
    rw [List.flatten_cons]
    cases i with
    | zero => rw [List.getElem?_append_left (by omega)]; simp
    | succ i =>
      rw [List.getElem?_append_right (by omega), hr, show 14 * (i + 1) + k - 14 = 14 * i + k by omega, ih (fun r hr => h r (by simp [hr])) i k hk]
      simp
theorem NodesAt.rows14 {N : Nat → Prop} {w : World} {rows : List (List Value)} {l : List Ct.Node} (hl : rows.length = l.length) (h : ∀ i (h : i < rows.length) (h' : i < l.length), NodeAt N w rows[i] l[i]) : ∀ r ∈ rows, r.length = 14 := by
  intro r hr
  obtain ⟨i, hi, rfl⟩ := List.getElem_of_mem hr
  exact (h i hi (by omega)).length
theorem ArenaAt.nodeAt {g : Ghost} {w : World} {s : Ct.St} (h : ArenaAt g w s) {j : Nat} (hj : j < s.added.length) :
    ∃ b cap bv pv, g.vn = .slice (some ⟨b, 0, none⟩) s.added.length cap ∧ w.rangeAt b (14 * j) (nodeCells (s.added.getD j {}) bv pv) ∧ RefsAt g.N w bv (s.added.getD j {}).branches ∧ PairsAt g.N w pv (s.added.getD j {}).pairs := by
  obtain ⟨xs, ho, rows, hx, hl, hr⟩ := h.nodes
  have hj' : j < rows.length := by omega
  obtain ⟨bv, pv, hc, h1, h2⟩ := hr j hj' hj
  have e : s.added.getD j {} = s.added[j] := by rw [List.getD_eq_getElem?_getD, List.getElem?_eq_getElem hj]; rfl
  have hv : ∃ b cap, g.vn = .slice (some ⟨b, 0, none⟩) s.added.length cap := by
    rcases ho.2 with ⟨_, hn⟩ | ⟨b, cap, cur, hv, _⟩
    · omega
    · exact ⟨b, cap, hv⟩
  obtain ⟨b, cap, hv⟩ := hv
  rw [e]
  refine ⟨b, cap, bv, pv, hv, ?_, h1, h2⟩
  intro k v hk
  have hk14 : k < 14 := (List.getElem?_eq_some_iff.1 hk).1
  have := ho.cells (g := b) (by rw [hv]; rfl) (14 * j + k) v (by rw [hx, flatten_at (NodesAt.rows14 hl hr) j k hk14, List.getElem?_eq_getElem hj', ← hk, hc]; rfl)
  rw [add_at] at this
  simpa using this
theorem RefsAt.nil (N : Nat → Prop) (w : World) : RefsAt N w (.slice none 0 0) [] := .inl ⟨rfl, rfl⟩
theorem PairsAt.nil (N : Nat → Prop) (w : World) : PairsAt N w (.slice none 0 0) [] := .inl ⟨rfl, rfl⟩
theorem copyNode_bare {w W : World} {n : Ct.Node} (hb : Below w.heap.size w W) (h1 : n.branches = []) (h2 : n.pairs = []) : CopyNode w n (.returned (.agg (nodeCells n (.slice none 0 0) (.slice none 0 0)).toArray)) W :=
  ⟨_, rfl, ⟨_, _, rfl, h1 ▸ RefsAt.nil _ _, h2 ▸ PairsAt.nil _ _⟩, hb⟩
theorem bare_one (n : Ct.Node) : (nodeCells n (.slice none 0 0) (.slice none 0 0)).toArray.all (·.oneCell') = true := nodeCells_one n _ _ rfl rfl
theorem below_result (w : World) (cs cs' : Array Value) (t : TypeId) : Below w.heap.size w ((w.alloc (.cells cs t)).setRow w.heap.size cs') :=
  ((Below.refl _ _).alloc (Nat.le_refl _) _).trans ((Keep.setRow _ w.heap.size cs' (F := fun k => k = w.heap.size) rfl).toBelow _ (by simp) (fun k hk => by omega))
set_option maxRecDepth 100000 in
set_option maxHeartbeats 1000000 in
theorem node_none (g : Ghost) (w : World) (s : Ct.St) (r : Int) (h : ArenaAt g w s) (hr : s.Room) (hn : r < 1 ∨ (s.nodes : Int) < r) :
    Calls Tryz.prog 92 #[.pointer (some ⟨g.a, 0, none⟩), .int .i64 r] w (CopyNode w {}) := by
  have hb := h.below ((Below.refl w.heap.size w).alloc (Nat.le_refl _) (.cells zeroNode 136))
  have hcall := nodes_any g _ s hb hr
  generalize hm : s.nodes = m at hcall hn
  have HC := Lib.hid hcall
  clear hcall hb hm hr h
  have HA := Lib.hid (heap_alloc_at w (.cells zeroNode 136))
  have HB := Lib.hid (below_result w zeroNode zeroNode 136)
  by_cases h1 : r < 1
  · go_enter Tryz.func92, Tryz.ntmps92
    go_wp2_with (refine wpList_store_row rfl 136 (.tmp 4) (.tmp 13) rfl w.heap.size zeroNode rfl rfl 136 zeroNode HA.out info_Node_size rfl (bare_one {}) ?_)
    refine bodyPost_ret (v := .agg zeroNode) (results_cell_row Tryz.results92 _ _ w.heap.size 136 _ (0, 0) _ rfl (setRow_heap _ w.heap.size _ _ _ _ HA.out) Tryz.underlying136 rfl info_Node_size) rfl ?_
    exact copyNode_bare (n := {}) HB.out rfl rfl
  · have h2 : (m : Int) < r := by omega
    clear hn
    go_enter Tryz.func92, Tryz.ntmps92
    go_wp2_with fail
    refine HC.out.mono ?_
    rintro e w' ⟨rfl, rfl⟩
    go_wp2_with (refine wpList_store_row rfl 136 (.tmp 4) (.tmp 13) rfl w.heap.size zeroNode rfl rfl 136 zeroNode HA.out info_Node_size rfl (bare_one {}) ?_)
    refine bodyPost_ret (v := .agg zeroNode) (results_cell_row Tryz.results92 _ _ w.heap.size 136 _ (0, 0) _ rfl (setRow_heap _ w.heap.size _ _ _ _ HA.out) Tryz.underlying136 rfl info_Node_size) rfl ?_
    exact copyNode_bare (n := {}) HB.out rfl rfl
def markCells : Array Value := (nodeCells Ct.markNode (.slice none 0 0) (.slice none 0 0)).toArray
set_option maxRecDepth 100000 in
set_option maxHeartbeats 1000000 in
theorem node_mark (g : Ghost) (w : World) (s : Ct.St) (r : Int) (h : ArenaAt g w s) (hr : s.Room) (h1 : 1 ≤ r) (h2 : r ≤ 2) :
    Calls Tryz.prog 92 #[.pointer (some ⟨g.a, 0, none⟩), .int .i64 r] w (CopyNode w Ct.markNode) := by
  have hb := h.below ((Below.refl w.heap.size w).alloc (Nat.le_refl _) (.cells zeroNode 136))
  have hcall := nodes_any g _ s hb hr
  have hm2 : 2 ≤ s.nodes := by unfold Ct.St.nodes; omega
  generalize hm : s.nodes = m at hcall hm2
  have HC := Lib.hid hcall
  clear hcall hb hm hr h
  have HA := Lib.hid (heap_alloc_at w (.cells zeroNode 136))
  have HB := Lib.hid (below_result w zeroNode markCells 136)
  have hd : decide ((m : Int) < r) = false := by simp; omega
  go_enter Tryz.func92, Tryz.ntmps92
  go_wp2_with fail
  refine HC.out.mono ?_
  rintro e w' ⟨rfl, rfl⟩
  go_wp2_with (refine wpList_store_row rfl 136 (.tmp 4) (.tmp 16) rfl w.heap.size markCells rfl rfl 136 zeroNode HA.out info_Node_size rfl (bare_one Ct.markNode) ?_)
  refine bodyPost_ret (v := .agg markCells) (results_cell_row Tryz.results92 _ _ w.heap.size 136 _ (0, 0) _ rfl (setRow_heap _ w.heap.size _ _ _ _ HA.out) Tryz.underlying136 rfl info_Node_size) rfl ?_
  exact copyNode_bare (n := Ct.markNode) HB.out rfl rfl
set_option maxRecDepth 100000 in
set_option maxHeartbeats 1000000 in
theorem node_some (g : Ghost) (w : World) (s : Ct.St) (j : Nat) (h : ArenaAt g w s) (hr : s.Room) (hj : j < s.added.length) (l1 : (s.added.getD j {}).branches.length ≤ 1000000) (l2 : (s.added.getD j {}).pairs.length ≤ 549755813888) :
    Calls Tryz.prog 92 #[.pointer (some ⟨g.a, 0, none⟩), .int .i64 ((j : Int) + 3)] w (CopyNode w (s.added.getD j {})) := by
  have hb := h.below ((Below.refl w.heap.size w).alloc (Nat.le_refl _) (.cells zeroNode 136))
  have hcall := nodes_any g _ s hb hr
  have hjl : s.added.length ≤ 274877906944 := by unfold Ct.St.Room Ct.St.size at hr; omega
  have hm2 : j + 3 ≤ s.nodes := by unfold Ct.St.nodes; omega
  generalize hm : s.nodes = m at hcall hm2
  have HC := Lib.hid hcall
  have c0 := hb.c0
  obtain ⟨b, cap, bv, pv, hvn, hrange, hrefs, hpairs⟩ := hb.nodeAt hj
  rw [hvn] at c0
  generalize s.added.getD j {} = n at *
  rw [Nat.mul_comm] at hrange
  have HR := Lib.hid hrange; have H1 := Lib.hid hrefs; have H2 := Lib.hid hpairs
  have hd : decide ((m : Int) < (j : Int) + 3) = false := by simp; omega
  have HA := Lib.hid (heap_alloc_at w (.cells zeroNode 136))
  generalize hl : s.added.length = len at *
  clear hcall hb hm hr h hrange hrefs hpairs hl hvn
  go_enter Tryz.func92, Tryz.ntmps92
  go_wp2_with fail
  refine HC.out.mono ?_
  rintro e w' ⟨rfl, rfl⟩
  go_wp2_with (refine wpList_load_mid rfl 136 (.tmp 24) rfl b (j * 14) rfl (nodeCells n bv pv) _ HR.out Tryz.underlying136 rfl info_Node_size ?_)
  refine (clone_any g.N _ n bv pv H1.out H2.out l1 l2).mono ?_
  rintro e w1 ⟨cs, rfl, hn, hb⟩
  obtain ⟨bv', pv', rfl, hr', hp'⟩ := hn
  have hx := heap_below hb HA.out (by simp)
  have HX := Lib.hid hx; have HB := Lib.hid hb; have HR' := Lib.hid hr'; have HP' := Lib.hid hp'
  clear hx hb hr' hp'
  go_wp2_with (refine wpList_store_row rfl 136 (.tmp 4) (.tmp 26) rfl w.heap.size (nodeCells n bv' pv').toArray rfl rfl 136 zeroNode HX.out info_Node_size rfl (nodeCells_one n bv' pv' HR'.out.one HP'.out.one) ?_)
  have hk : Keep (fun k => k = w.heap.size) w1 (w1.setRow w.heap.size (nodeCells n bv' pv').toArray) := Keep.setRow w1 w.heap.size _ rfl
  have hsz : (w.alloc (.cells zeroNode 136)).heap.size = w.heap.size + 1 := by simp
  refine bodyPost_ret (v := .agg (nodeCells n bv' pv').toArray) (results_cell_row Tryz.results92 _ _ w.heap.size 136 _ (0, 0) _ rfl (setRow_heap _ w.heap.size _ _ _ _ HX.out) Tryz.underlying136 rfl info_Node_size) rfl ?_
  refine ⟨_, rfl, ⟨_, _, rfl, (HR'.out.keep hk (N' := fun k => k < (w.alloc (.cells zeroNode 136)).heap.size) (fun k hk => .inl (by omega)) (fun k hk => .inl hk)).avoid (fun k _ hk => by omega), (HP'.out.keep hk (N' := fun k => k < (w.alloc (.cells zeroNode 136)).heap.size) (fun k hk => .inl (by omega)) (fun k hk => .inl hk)).avoid (fun k _ hk => by omega)⟩, ?_⟩
  exact (((Below.refl _ _).alloc (Nat.le_refl _) _).trans (HB.out.mono (by omega))).trans (hk.toBelow _ (by have := HB.out.size; omega) (fun k hk => by omega))
def Ct.Short (s : Ct.St) : Prop := ∀ n ∈ s.added, n.fits s.added.length
theorem node_any (g : Ghost) (w : World) (s : Ct.St) (r : Int) (h : ArenaAt g w s) (hr : s.Room) (hs : Ct.Short s) :
    Calls Tryz.prog 92 #[.pointer (some ⟨g.a, 0, none⟩), .int .i64 r] w (CopyNode w (s.node r)) := by
  unfold Ct.St.node
  by_cases h1 : r < 1 ∨ (s.nodes : Int) < r
  · rw [if_pos h1]; exact node_none g w s r h hr h1
  · rw [if_neg h1]
    by_cases h2 : r ≤ 2
    · rw [if_pos h2]; exact node_mark g w s r h hr (by omega) h2
    · rw [if_neg h2]
      obtain ⟨j, rfl⟩ : ∃ j : Nat, r = j + 3 := ⟨(r - 3).toNat, by omega⟩
      have hj : j < s.added.length := by unfold Ct.St.nodes at h1; omega
      have e : ((j : Int) + 3).toNat - 3 = j := by omega
      rw [e]
      have hm : s.added.getD j {} ∈ s.added := by
        rw [List.getD_eq_getElem?_getD, List.getElem?_eq_getElem hj]; exact List.getElem_mem hj
      exact node_some g w s j h hr hj (hs _ hm).1 (Nat.le_trans (hs _ hm).2.1 (by unfold Ct.St.Room Ct.St.size at hr; omega))
theorem Ct.Short.node {s : Ct.St} (h : Ct.Short s) (r : Int) : (s.node r).fits s.added.length := by
  unfold Ct.St.node
  split
  · exact Ct.fits_small _ 0 0 0 0 0
  · split
    · exact Ct.fits_small _ 1 0 0 0 0
    · by_cases hj : r.toNat - 3 < s.added.length
      · rw [List.getD_eq_getElem?_getD, List.getElem?_eq_getElem hj]; exact h _ (List.getElem_mem hj)
      · rw [List.getD_eq_getElem?_getD, List.getElem?_eq_none (by omega)]; exact Ct.fits_small _ 0 0 0 0 0
end Go.Proofs.YtjlgchdekhmnnaaGreatDoor
end
section
namespace Go.Proofs.YtjlgchdekhmnnaaGreatDoor
open Go.RowKit
set_option maxRecDepth 100000 in
theorem mkEmpty  (w : World) :
    Calls Tryz.prog 99 #[] w (CopyNode w { kind := 3 }) := by
  have HA := Lib.hid (heap_alloc_at w (.cells zeroNode 136))
  have HB := Lib.hid (below_result w zeroNode (nodeCells { kind := 3 } (.slice none 0 0) (.slice none 0 0)).toArray 136)
  go_enter Tryz.func99, Tryz.ntmps99
  go_wp2_with (refine wpList_store_row rfl 136 (.tmp 0) (.tmp 1) rfl w.heap.size (nodeCells { kind := 3 } (.slice none 0 0) (.slice none 0 0)).toArray rfl rfl 136 zeroNode HA.out info_Node_size rfl (bare_one { kind := 3 }) ?_)
  refine bodyPost_ret (v := .agg (nodeCells { kind := 3 } (.slice none 0 0) (.slice none 0 0)).toArray) (results_cell_row Tryz.results99 _ _ w.heap.size 136 _ (0, 0) _ rfl (setRow_heap _ w.heap.size _ _ _ _ HA.out) Tryz.underlying136 rfl info_Node_size) rfl ?_
  exact copyNode_bare (n := { kind := 3 }) HB.out rfl rfl
set_option maxRecDepth 100000 in
theorem mkInner (gen : Int) (w : World) :
    Calls Tryz.prog 135 #[.int .i64 gen] w (CopyNode w { kind := 2, gen := gen }) := by
  have HA := Lib.hid (heap_alloc_at w (.cells zeroNode 136))
  have HB := Lib.hid (below_result w zeroNode (nodeCells { kind := 2, gen := gen } (.slice none 0 0) (.slice none 0 0)).toArray 136)
  go_enter Tryz.func135, Tryz.ntmps135
  go_wp2_with (refine wpList_store_row rfl 136 (.tmp 2) (.tmp 4) rfl w.heap.size (nodeCells { kind := 2, gen := gen } (.slice none 0 0) (.slice none 0 0)).toArray rfl rfl 136 zeroNode HA.out info_Node_size rfl (bare_one { kind := 2, gen := gen }) ?_)
  refine bodyPost_ret (v := .agg (nodeCells { kind := 2, gen := gen } (.slice none 0 0) (.slice none 0 0)).toArray) (results_cell_row Tryz.results135 _ _ w.heap.size 136 _ (0, 0) _ rfl (setRow_heap _ w.heap.size _ _ _ _ HA.out) Tryz.underlying136 rfl info_Node_size) rfl ?_
  exact copyNode_bare (n := { kind := 2, gen := gen }) HB.out rfl rfl
set_option maxRecDepth 100000 in
theorem mkDesc (o x n : Int) (w : World) :
    Calls Tryz.prog 187 #[.int .i64 o, .int .i64 x, .int .i64 n] w (CopyNode w { kind := 8, old := o, expected := x, new := n }) := by
  have HA := Lib.hid (heap_alloc_at w (.cells zeroNode 136))
  have HB := Lib.hid (below_result w zeroNode (nodeCells { kind := 8, old := o, expected := x, new := n } (.slice none 0 0) (.slice none 0 0)).toArray 136)
  go_enter Tryz.func187, Tryz.ntmps187
  go_wp2_with (refine wpList_store_row rfl 136 (.tmp 6) (.tmp 10) rfl w.heap.size (nodeCells { kind := 8, old := o, expected := x, new := n } (.slice none 0 0) (.slice none 0 0)).toArray rfl rfl 136 zeroNode HA.out info_Node_size rfl (bare_one { kind := 8, old := o, expected := x, new := n }) ?_)
  refine bodyPost_ret (v := .agg (nodeCells { kind := 8, old := o, expected := x, new := n } (.slice none 0 0) (.slice none 0 0)).toArray) (results_cell_row Tryz.results187 _ _ w.heap.size 136 _ (0, 0) _ rfl (setRow_heap _ w.heap.size _ _ _ _ HA.out) Tryz.underlying136 rfl info_Node_size) rfl ?_
  exact copyNode_bare (n := { kind := 8, old := o, expected := x, new := n }) HB.out rfl rfl
set_option maxRecDepth 100000 in
theorem mkFailed (o : Int) (w : World) :
    Calls Tryz.prog 212 #[.int .i64 o] w (CopyNode w { kind := 7, old := o }) := by
  have HA := Lib.hid (heap_alloc_at w (.cells zeroNode 136))
  have HB := Lib.hid (below_result w zeroNode (nodeCells { kind := 7, old := o } (.slice none 0 0) (.slice none 0 0)).toArray 136)
  go_enter Tryz.func212, Tryz.ntmps212
  go_wp2_with (refine wpList_store_row rfl 136 (.tmp 2) (.tmp 4) rfl w.heap.size (nodeCells { kind := 7, old := o } (.slice none 0 0) (.slice none 0 0)).toArray rfl rfl 136 zeroNode HA.out info_Node_size rfl (bare_one { kind := 7, old := o }) ?_)
  refine bodyPost_ret (v := .agg (nodeCells { kind := 7, old := o } (.slice none 0 0) (.slice none 0 0)).toArray) (results_cell_row Tryz.results212 _ _ w.heap.size 136 _ (0, 0) _ rfl (setRow_heap _ w.heap.size _ _ _ _ HA.out) Tryz.underlying136 rfl info_Node_size) rfl ?_
  exact copyNode_bare (n := { kind := 7, old := o }) HB.out rfl rfl
set_option maxRecDepth 100000 in
theorem main_any (n : Ct.Node) (bv pv : Value) (w : World) :
    Calls Tryz.prog 180 #[.agg (nodeCells n bv pv).toArray] w fun e w' => e = .returned (.bool n.isMain) ∧ Below w.heap.size w w' := by
  have hB := (Below.refl w.heap.size w).alloc (Nat.le_refl _) (.cells (nodeCells n bv pv).toArray 136)
  have HB := Lib.hid hB
  clear hB
  unfold nodeCells at *
  by_cases h3 : n.kind = 3
  · have Hv := Lib.hid (show n.isMain = true by unfold Ct.Node.isMain; simp [h3])
    have q : (n.kind == 3) = true := by simp [h3]
    clear h3
    go_enter Tryz.func180, Tryz.ntmps180
    go_wp2_with fail
    go_ret
    exact ⟨by rw [Hv.out]; rfl, HB.out⟩
  · by_cases h5 : n.kind = 5
    · have Hv := Lib.hid (show n.isMain = true by unfold Ct.Node.isMain; simp [h5])
      have q3 : (n.kind == 3) = false := by simp [h3]
      have q : (n.kind == 5) = true := by simp [h5]
      clear h3 h5
      go_enter Tryz.func180, Tryz.ntmps180
      go_wp2_with fail
      go_ret
      exact ⟨by rw [Hv.out]; rfl, HB.out⟩
    · by_cases h6 : n.kind = 6
      · have Hv := Lib.hid (show n.isMain = true by unfold Ct.Node.isMain; simp [h6])
        have q3 : (n.kind == 3) = false := by simp [h3]
        have q5 : (n.kind == 5) = false := by simp [h5]
        have q : (n.kind == 6) = true := by simp [h6]
        clear h3 h5 h6
        go_enter Tryz.func180, Tryz.ntmps180
        go_wp2_with fail
        go_ret
        exact ⟨by rw [Hv.out]; rfl, HB.out⟩
      · have Hv := Lib.hid (show n.isMain = false by unfold Ct.Node.isMain; simp [h3, h5, h6])
        have q3 : (n.kind == 3) = false := by simp [h3]
        have q5 : (n.kind == 5) = false := by simp [h5]
        have q : (n.kind == 6) = false := by simp [h6]
        clear h3 h5 h6
        go_enter Tryz.func180, Tryz.ntmps180
        go_wp2_with fail
        go_ret
        exact ⟨by rw [Hv.out]; rfl, HB.out⟩
end Go.Proofs.YtjlgchdekhmnnaaGreatDoor
end
