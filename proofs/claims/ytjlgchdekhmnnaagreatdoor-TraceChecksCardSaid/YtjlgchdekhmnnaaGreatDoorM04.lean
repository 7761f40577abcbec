/- Parts of a proof: Alloc. -/
import Derived.Test.YtjlgchdekhmnnaaGreatDoorM03
import Derived.Deep.AppendLies
import Derived.Deep.RegionLaw
section
namespace Go.Proofs.YtjlgchdekhmnnaaGreatDoor
open Go.RowKit
theorem info_Node : (Tryz.prog.info? 136).map (fun i => (i.zero, i.size, i.bytes)) = some (some (.agg zeroNode), 14, 152) := by kernel_rfl
def NodeBlk (w : World) (b : Nat) (n : Ct.Node) (bv pv : Value) : Prop := w.heap[b]? = some (.cells (nodeCells n bv pv).toArray 136)
theorem NodeBlk.cell {w : World} {b : Nat} {n : Ct.Node} {bv pv : Value} (h : NodeBlk w b n bv pv) (i : Nat) : w.cell? ⟨b, i, none⟩ = (nodeCells n bv pv)[i]? := by
  rw [cell_at h]; simp
theorem NodeBlk.free {w : World} {b : Nat} {n : Ct.Node} {bv pv : Value} (h : NodeBlk w b n bv pv) (i : Nat) : w.frozen? ⟨b, i, none⟩ = false := free_at h i
theorem NodeBlk.lt {w : World} {b : Nat} {n : Ct.Node} {bv pv : Value} (h : NodeBlk w b n bv pv) : b < w.heap.size := (Array.getElem?_eq_some_iff.1 h).1
theorem NodeBlk.bare {w : World} {b : Nat} {n : Ct.Node} {bv pv : Value} (h : NodeBlk w b n bv pv) :
    NodeBlk (((w.setCell ⟨b, 2, none⟩ (.int .i64 0)).setCell ⟨b, 9, none⟩ (.int .i64 0)).setCell ⟨b, 13, none⟩ (.int .i64 0)) b n.bare bv pv := by
  have a1 := heap_setCell_at w b 2 (.int .i64 0) _ _ _ h
  have a2 := heap_setCell_at _ b 9 (.int .i64 0) _ _ _ a1
  exact heap_setCell_at _ b 13 (.int .i64 0) _ _ _ a2
theorem keep_bare (w : World) (b : Nat) : Keep (fun k => k = b) w (((w.setCell ⟨b, 2, none⟩ (.int .i64 0)).setCell ⟨b, 9, none⟩ (.int .i64 0)).setCell ⟨b, 13, none⟩ (.int .i64 0)) :=
  ((Keep.setCell w ⟨b, 2, none⟩ _ (F := fun k => k = b) rfl).trans (Keep.setCell _ ⟨b, 9, none⟩ _ (F := fun k => k = b) rfl) (fun _ h => .inl h)).trans (Keep.setCell _ ⟨b, 13, none⟩ _ (F := fun k => k = b) rfl) (fun _ h => .inl h)
def Ghost.plus (g : Ghost) (b : Nat) : Ghost := { g with N := fun k => g.N k ∨ k = b }
structure Ready (g : Ghost) (w : World) (s : Ct.St) (n : Ct.Node) (W : World) (bv pv : Value) : Prop where
  arena : ArenaAt (g.plus w.heap.size) W s
  below : Below w.heap.size w W
  blk : NodeBlk W w.heap.size n bv pv
  refs : RefsAt (fun k => k < w.heap.size + 1) W bv n.branches
  pairs : PairsAt (fun k => k < w.heap.size + 1) W pv n.pairs
theorem Ready.make {g : Ghost} {w w1 : World} {s : Ct.St} {n : Ct.Node} {bv pv bv' pv' : Value} (h : ArenaAt g w s) (hb : Below (w.alloc (.cells (nodeCells n bv pv).toArray 136)).heap.size (w.alloc (.cells (nodeCells n bv pv).toArray 136)) w1)
    (hr : RefsAt (fun k => k < (w.alloc (.cells (nodeCells n bv pv).toArray 136)).heap.size) w1 bv' n.branches) (hp : PairsAt (fun k => k < (w.alloc (.cells (nodeCells n bv pv).toArray 136)).heap.size) w1 pv' n.pairs)
    (W : World) (hW : W = w1.setRow w.heap.size (nodeCells n bv' pv').toArray) : NodeBlk W w.heap.size n bv' pv' ∧
    Ready g w s n.bare (((W.setCell ⟨w.heap.size, 2, none⟩ (.int .i64 0)).setCell ⟨w.heap.size, 9, none⟩ (.int .i64 0)).setCell ⟨w.heap.size, 13, none⟩ (.int .i64 0)) bv' pv' := by
  have hsz : (w.alloc (.cells (nodeCells n bv pv).toArray 136)).heap.size = w.heap.size + 1 := by simp
  have hx := heap_below hb (heap_alloc_at w (.cells (nodeCells n bv pv).toArray 136)) (by omega)
  have hblk : NodeBlk W w.heap.size n bv' pv' := by
    rw [hW]; exact setRow_heap _ w.heap.size _ _ _ _ hx
  have k1 : Keep (fun k => k = w.heap.size) w1 W := by rw [hW]; exact Keep.setRow w1 w.heap.size _ rfl
  have k2 := k1.trans (keep_bare W w.heap.size) (fun _ h => .inl h)
  have hbel := ((((Below.refl w.heap.size w).alloc (Nat.le_refl _) _).trans (hb.mono (by omega))).trans (k2.toBelow _ (by have := hb.size; omega) (fun k hk => by omega)) : Below w.heap.size w _)
  have hlt' := hblk.bare.lt
  refine ⟨hblk, h.keep (Keep.below hbel (fun _ => False)) (N' := (g.plus w.heap.size).N) (fun _ h => h.elim) (fun _ h => h.elim) (fun k hk => hk.elim .inl (fun e => .inr (by omega))) (fun _ h => .inl h) (fun k hk => hk.elim (fun h1 => Nat.lt_of_lt_of_le (h.nlt k h1) hbel.size) (fun e => by omega)), hbel, hblk.bare, ?_, ?_⟩
  · exact (hr.keep k2 (N' := fun k => k < w.heap.size + 1) (fun k hk => .inl (by omega)) (fun k hk => .inl (by omega)))
  · exact (hp.keep k2 (N' := fun k => k < w.heap.size + 1) (fun k hk => .inl (by omega)) (fun k hk => .inl (by omega)))
theorem new_row {w : World} {cs : List Value} {t : TypeId} : ∀ j u, cs[j]? = some u → (w.alloc (.cells cs.toArray t)).cell? ((⟨w.heap.size, 0, none⟩ : Addr).add j) = some u := by
  intro j u hj
  rw [add_at, cell_at (heap_alloc_at w (.cells cs.toArray t))]
  simpa using hj
theorem nodeCells_ones (n : Ct.Node) (bv pv : Value) (h1 : bv.oneCell' = true) (h2 : pv.oneCell' = true) : ∀ u ∈ nodeCells n bv pv, u.oneCell' = true := by
  have := nodeCells_one n bv pv h1 h2
  simpa using this
theorem grown_facts {w W w5 : World} {o : Obj} {row : Option Nat} {a : Addr} {v : Value} (hg : W.grownBy w5 row) (hW : W.heap = (w.alloc o).heap) (hc : w.cell? a = some v) (hf : w.frozen? a = false) (hne : row ≠ some a.block) : w5.cell? a = some v ∧ w5.frozen? a = false := by
  have hlt := World.block_lt_of_cell? _ _ hc
  have e : w5.heap[a.block]? = w.heap[a.block]? := by
    rw [hg.block a.block (by rw [hW]; simp; omega) (fun e => hne e.symm), hW]
    exact Below.heap_alloc w o _ hlt
  exact ⟨(World.cell?_of_block e).trans hc, (World.frozen?_of_block e).trans hf⟩
def Ghost.withNodes (g : Ghost) (vn : Value) : Ghost := { g with vn := vn, N := fun k => g.N k ∨ vn.ownBlock = some k }
theorem ArenaAt.pushNode {g : Ghost} {w w1 : World} {s : Ct.St} {n : Ct.Node} {bv pv vn' : Value} {xs : List Value} {t : TypeId} (h : ArenaAt g w s) (hx : NodesAt g.N w xs s.added) (_hxo : w.ownsRow 0 136 14 g.vn s.added.length xs)
    (hb : RefsAt g.N w bv n.branches) (hp : PairsAt g.N w pv n.pairs)
    (hown : w1.ownsRow 0 136 14 vn' (s.added.length + 1) (xs ++ nodeCells n bv pv)) (hg : (w.alloc (.cells (nodeCells n bv pv).toArray t)).grownBy w1 g.vn.ownBlock)
    (hblk : ∀ k, vn'.ownBlock = some k → g.vn.ownBlock = some k ∨ w.heap.size ≤ k) :
    ArenaAt (g.withNodes vn') (w1.setCell ⟨g.a, 0, none⟩ vn') { s with added := s.added ++ [n] } ∧ Step g w (g.withNodes vn') (w1.setCell ⟨g.a, 0, none⟩ vn') := by
  have hlt := h.lt
  have hk1 : Keep (fun k => g.vn.ownBlock = some k) w w1 := (Keep.alloc _ w _).trans (grown_keep hg) (fun _ h => .inl h)
  have hk2 : Keep g.Foot w (w1.setCell ⟨g.a, 0, none⟩ vn') := (hk1.mono (fun k _ hf => .inr (.inl hf)) : Keep g.Foot w w1).trans (Keep.setCell w1 ⟨g.a, 0, none⟩ vn' (F := fun k => k = g.a) rfl) (fun k hk => .inl (.inl hk))
  have hfn : ∀ k, g.Foot k → g.N k ∨ w.heap.size ≤ k := fun k hf => .inl (h.foot k hf)
  have hnew : ∀ k, (g.withNodes vn').N k → g.N k ∨ w.heap.size ≤ k := by
    rintro k (hn | hn)
    · exact .inl hn
    · rcases hblk k hn with h1 | h1
      · exact .inl (h.foot k (.inr (.inl h1)))
      · exact .inr h1
  have ha1 : w1.heap[g.a]? = w.heap[g.a]? := hk1.block g.a hlt (h.an)
  have hne : vn'.ownBlock ≠ some g.a := by
    intro he
    rcases hblk _ he with h1 | h1
    · exact h.an h1
    · omega
  obtain ⟨rows, e1, e2, e3⟩ := hx
  refine ⟨⟨?_, ⟨xs ++ nodeCells n bv pv, ?_, ⟨rows ++ [nodeCells n bv pv], ?_, ?_, ?_⟩⟩, ?_, ?_, hne, h.ac, ?_, ?_⟩, ⟨rfl, hk2, hnew, fun k hn => .inl hn, ?_⟩⟩
  · show (w1.setCell ⟨g.a, 0, none⟩ vn').heap[g.a]? = _
    rw [heap_setCell_at w1 g.a 0 vn' _ _ _ (ha1.trans h.block)]
    rfl
  · have := ownsRow_keep hown (Keep.setCell w1 ⟨g.a, 0, none⟩ vn' (F := fun k => k = g.a) rfl) (fun k hv e => hne (e ▸ hv))
    show (w1.setCell ⟨g.a, 0, none⟩ vn').ownsRow 0 136 14 vn' _ _
    simpa using this
  · rw [e1]; simp
  · simp [e2]
  · intro i hi hi'
    by_cases hl : i < rows.length
    · rw [List.getElem_append_left hl, List.getElem_append_left (by omega)]
      exact (e3 i hl (by omega)).keep hk2 hfn hnew
    · have hi2 : i = rows.length := by simp at hi; omega
      subst hi2
      have q1 : (rows ++ [nodeCells n bv pv])[rows.length] = nodeCells n bv pv := by simp
      have q2 : (s.added ++ [n])[rows.length]'hi' = n := by
        rw [List.getElem_append_right (by omega)]
        simp
      rw [q1, q2]
      exact ⟨bv, pv, rfl, hb.keep hk2 hfn hnew, hp.keep hk2 hfn hnew⟩
  · refine ownsRow_keep (ownsRow_keep h.cells hk1 (fun k hv e => h.nc k e hv)) (Keep.setCell w1 ⟨g.a, 0, none⟩ vn' (F := fun k => k = g.a) rfl) (fun k hv e => h.ac (e ▸ hv))
  · rintro k (hf | hf | hf)
    · exact .inl (h.foot k (.inl hf))
    · exact .inr hf
    · exact .inl (h.foot k (.inr (.inr hf)))
  · intro k hv he
    rcases hblk k hv with h1 | h1
    · exact h.nc k h1 he
    · have := (h.cells.lt k he).2
      omega
  · rintro k (hf | hf)
    · exact Nat.lt_of_lt_of_le (h.nlt k hf) hk2.size
    · have := (hown.lt k hf).2
      simpa [World.setCell] using this
  · rintro k (hf | hf | hf)
    · exact .inl (.inl hf)
    · rcases hblk k hf with h1 | h1
      · exact .inl (.inr (.inl h1))
      · exact .inr h1
    · exact .inl (.inr (.inr hf))
theorem Ready.below' {g : Ghost} {w W W' : World} {s : Ct.St} {n : Ct.Node} {bv pv : Value} (h : Ready g w s n W bv pv) (hb : Below W.heap.size W W') : Ready g w s n W' bv pv :=
  ⟨h.arena.below hb, h.below.trans (hb.mono h.below.size), heap_below hb h.blk h.blk.lt, h.refs.keep (Keep.below hb (fun _ => False)) (fun _ h => h.elim) (fun _ h => .inl h), h.pairs.keep (Keep.below hb (fun _ => False)) (fun _ h => h.elim) (fun _ h => .inl h)⟩
structure Ready2 (g : Ghost) (w : World) (g1 : Ghost) (s1 : Ct.St) (n : Ct.Node) (W : World) (bv pv : Value) : Prop where
  arena : ArenaAt g1 W s1
  step : Step g w g1 W
  blk : NodeBlk W w.heap.size n bv pv
  refs : RefsAt g1.N W bv n.branches
  pairs : PairsAt g1.N W pv n.pairs
theorem Ready.cell {g : Ghost} {w W w5 : World} {s s1 : Ct.St} {n nz : Ct.Node} {bv pv v : Value} {g1 : Ghost} {i : Nat} (h : Ready g w s n W bv pv) (hs : Step (g.plus w.heap.size) W g1 w5) (ha : ArenaAt g1 w5 s1) (hb : NodeBlk w5 w.heap.size n bv pv)
    (hn : ∀ k, g.N k → k < w.heap.size) (hf : ∀ k, g.Foot k → g.N k) (hz : ((nodeCells n bv pv).toArray.setIfInBounds i v) = (nodeCells nz bv pv).toArray) (hzb : nz.branches = n.branches) (hzp : nz.pairs = n.pairs) :
    Ready2 g w g1 s1 nz (w5.setCell ⟨w.heap.size, i, none⟩ v) bv pv := by
  have k1 : Keep (fun k => k = w.heap.size) w5 (w5.setCell ⟨w.heap.size, i, none⟩ v) := Keep.setCell w5 ⟨w.heap.size, i, none⟩ v rfl
  have hlt := h.blk.lt
  have hin : g1.N w.heap.size := hs.old _ (.inr rfl)
  have hnf : ¬ g1.Foot w.heap.size := by
    intro hN
    rcases hs.foot _ hN with h1 | h1
    · have := hn _ (hf _ h1); omega
    · omega
  have kk : Keep (fun k => g.Foot k ∨ k = w.heap.size) W (w5.setCell ⟨w.heap.size, i, none⟩ v) := (hs.keep.mono (fun _ _ h => .inl h)).trans k1 (fun k hk => .inl (.inr hk))
  have hav : ∀ k, g1.N k → k < w.heap.size + 1 ∨ W.heap.size ≤ k := by
    intro k hk
    rcases hs.new _ hk with (h1 | h1) | h1
    · exact .inl (Nat.lt_succ_of_lt (hn _ h1))
    · exact .inl (by omega)
    · exact .inr h1
  have hfo : ∀ k, (g.Foot k ∨ k = w.heap.size) → k < w.heap.size + 1 ∨ W.heap.size ≤ k := by
    rintro k (hk | hk)
    · exact .inl (Nat.lt_succ_of_lt (hn _ (hf _ hk)))
    · exact .inl (by omega)
  refine ⟨?_, ?_, ?_, ?_, ?_⟩
  · exact ha.keep k1 (N' := g1.N) (fun k hk hF => hnf (hk ▸ hF)) (fun k hk => .inl (hk ▸ hin)) (fun _ h => .inl h) (fun _ h => h) (fun k hk => Nat.lt_of_lt_of_le (ha.nlt k hk) k1.size)
  · refine ⟨hs.a, ?_, ?_, fun k hk => hs.old k (.inl hk), ?_⟩
    · refine ((Keep.below h.below g.Foot).trans hs.keep (fun k hk => .inl hk)).trans k1 (fun k hk => .inr (by omega))
    · intro k hk
      rcases hs.new _ hk with (h1 | h1) | h1
      · exact .inl h1
      · exact .inr (by omega)
      · exact .inr (Nat.le_trans h.below.size h1)
    · intro k hk
      rcases hs.foot _ hk with h1 | h1
      · exact .inl h1
      · exact .inr (Nat.le_trans h.below.size h1)
  · show (w5.setCell ⟨w.heap.size, i, none⟩ v).heap[w.heap.size]? = _
    rw [heap_setCell_at w5 w.heap.size i v _ _ _ hb, hz]
  · rw [hzb]; exact h.refs.keep kk hfo hav
  · rw [hzp]; exact h.pairs.keep kk hfo hav
theorem Step.plus {g : Ghost} {w W : World} (hb : Below w.heap.size w W) : Step g w (g.plus w.heap.size) W :=
  ⟨rfl, Keep.below hb _, fun k hk => hk.elim .inl (fun e => .inr (by omega)), fun _ h => .inl h, fun _ h => .inl h⟩
set_option maxRecDepth 100000 in
set_option maxHeartbeats 4000000 in
theorem alloc_none (g : Ghost) (w : World) (s : Ct.St) (n : Ct.Node) (bv pv : Value) (x : Int) (h : ArenaAt g w s) (hr : s.Room) (h1 : RefsAt g.N w bv n.branches) (h2 : PairsAt g.N w pv n.pairs) (l1 : n.branches.length ≤ 1000000) (l2 : n.pairs.length ≤ 549755813888)
    (hk2 : n.kind ≠ 2) (hm : n.isMain = false) (hk8 : n.kind ≠ 8) :
    Calls Tryz.prog 306 #[.pointer (some ⟨g.a, 0, none⟩), .agg (nodeCells n bv pv).toArray, .int .i64 x] w (Does g w (.int .i64 (s.alloc n x).2) (s.alloc n x).1) := by
  obtain ⟨i0, hi, hz0, hz1, hz2⟩ := info_parts info_Node
  have hfin : s.alloc n x = ({ s with added := s.added ++ [n.bare] }, (s.added.length : Int) + 3) := by
    unfold Ct.St.alloc; simp [hk2, hk8, hm]
  have q2 : (n.kind == 2) = false := by simp [hk2]
  have q8 : (n.kind == 8) = false := by simp [hk8]
  have HB0 := Lib.hid ((Below.refl w.heap.size w).alloc (Nat.le_refl _) (.cells (nodeCells n bv pv).toArray 136))
  have HA := Lib.hid (heap_alloc_at w (.cells (nodeCells n bv pv).toArray 136))
  have g1 : RefsAt g.N (w.alloc (.cells (nodeCells n bv pv).toArray 136)) bv n.branches := h1.keep (Keep.below HB0.out (fun _ => False)) (fun _ h => h.elim) (fun _ h => .inl h)
  have g2 : PairsAt g.N (w.alloc (.cells (nodeCells n bv pv).toArray 136)) pv n.pairs := h2.keep (Keep.below HB0.out (fun _ => False)) (fun _ h => h.elim) (fun _ h => .inl h)
  have HCL := Lib.hid (clone_any g.N _ n bv pv g1 g2 l1 l2)
  have H := Lib.hid h
  have HRM := Lib.hid hr
  have HNB := Lib.hid h.nlt
  have HFIN := Lib.hid hfin
  clear h h1 h2 g1 g2 hfin
  go_enter Tryz.func306, Tryz.ntmps306
  go_wp2_with (refine wpList_load_row rfl 136 (.tmp 4) rfl w.heap.size rfl 136 (nodeCells n bv pv).toArray (0, 0) _ HA.out Tryz.underlying136 rfl info_Node_size ?_)
  refine HCL.out.mono ?_
  rintro e w1 ⟨cs, rfl, ⟨bv', pv', rfl, hr', hp'⟩, hb⟩
  have X0 := Lib.hid (heap_below hb HA.out (by simp))
  have HONE := Lib.hid (nodeCells_one n bv' pv' hr'.one hp'.one)
  have HM := Lib.hid (fun W => Ready.make (W := W) H.out hb hr' hp')
  clear hb hr' hp'
  go_wp2_with (first
    | (refine wpList_store_row rfl 136 (.tmp 4) (.tmp 8) rfl w.heap.size (nodeCells n bv' pv').toArray rfl rfl 136 _ X0.out info_Node_size rfl HONE.out ?_; obtain ⟨W, hW⟩ : ∃ W, W = w1.setRow w.heap.size (nodeCells n bv' pv').toArray := ⟨_, rfl⟩; rw [← hW]; have hmk := HM.out W hW; have c0 := hmk.1.cell 0; have c2 := hmk.1.cell 2; have c9 := hmk.1.cell 9; have c13 := hmk.1.cell 13; have f2 := hmk.1.free 2; have f9 := hmk.1.free 9; have f13 := hmk.1.free 13; have HRD := Lib.hid hmk.2; clear hW hmk; simp only [nodeCells, List.getElem?_cons_zero, List.getElem?_cons_succ] at c0 c2 c9 c13)
    | (refine wpList_load_row rfl 136 (.tmp 4) rfl w.heap.size rfl 136 (nodeCells n.bare bv' pv').toArray (0, 0) _ HRD.out.blk Tryz.underlying136 rfl info_Node_size ?_))
  generalize hW3 : (((W.setCell ⟨w.heap.size, 2, none⟩ (.int .i64 0)).setCell ⟨w.heap.size, 9, none⟩ (.int .i64 0)).setCell ⟨w.heap.size, 13, none⟩ (.int .i64 0)) = W3 at HRD ⊢
  clear hW3 c0 c2 c9 c13 f2 f9 f13 HM X0 HONE HCL HA
  have HMA := Lib.hid (main_any n.bare bv' pv' W3)
  have em : n.bare.isMain = false := hm
  rw [em] at HMA
  clear em hm
  refine HMA.out.mono ?_
  rintro e w4 ⟨rfl, hb4⟩
  have hrd4 : Ready g w s n.bare w4 bv' pv' := HRD.out.below' hb4
  have c0 := hrd4.blk.cell 0
  simp only [nodeCells, List.getElem?_cons_zero] at c0
  have RD4 := Lib.hid hrd4
  clear hb4 hrd4 HRD HMA
  have q8' : (n.bare.kind == 8) = false := q8
  clear hk2 hk8
  go_wp2_with fail
  have AZ := Lib.hid RD4.out.arena; have KZ := Lib.hid RD4.out.blk; have SZ := Lib.hid (Step.plus (g := g) RD4.out.below)
  have hNz : ∀ k, k < w4.heap.size → (g.plus w.heap.size).N k → k < w.heap.size + 1 := fun k _ hk => hk.elim (fun h => Nat.lt_succ_of_lt (HNB.out k h)) (fun h => by omega)
  have RZ := Lib.hid (RD4.out.refs.avoid hNz); have PZ := Lib.hid (RD4.out.pairs.avoid hNz)
  have HRZ := Lib.hid (show s.size + 1 ≤ 274877906944 by have := HRM.out; unfold Ct.St.Room at this; omega)
  clear hNz
  obtain ⟨xs, hxo, hxn⟩ := AZ.out.nodes
  have HXO := Lib.hid hxo; have HXN := Lib.hid hxn
  have d0 := AZ.out.c0
  have df := AZ.out.free 0
  have d0' : ∀ o, (w4.alloc o).cell? ⟨(g.plus w.heap.size).a, 0, none⟩ = some (g.plus w.heap.size).vn := fun o => by rw [World.cell?_alloc_past _ _ _ AZ.out.lt]; exact d0
  have ha := SZ.out.a
  rw [ha] at d0 df d0'
  have c0 := KZ.out.cell 0; have c1 := KZ.out.cell 1; have c2 := KZ.out.cell 2; have c3 := KZ.out.cell 3; have c4 := KZ.out.cell 4; have c5 := KZ.out.cell 5; have c6 := KZ.out.cell 6; have c7 := KZ.out.cell 7; have c8 := KZ.out.cell 8; have c9 := KZ.out.cell 9; have c10 := KZ.out.cell 10; have c11 := KZ.out.cell 11; have c12 := KZ.out.cell 12; have c13 := KZ.out.cell 13
  simp only [nodeCells, List.getElem?_cons_zero, List.getElem?_cons_succ] at c0 c1 c2 c3 c4 c5 c6 c7 c8 c9 c10 c11 c12 c13
  have hb : s.added.length ≤ 274877906944 := by have := HRZ.out; unfold Ct.St.size at this; omega
  have HAA := Lib.hid ha
  have HON := Lib.hid (HXO.out.alloc (.cells (nodeCells n.bare bv' pv').toArray 136))
  have HNW := Lib.hid (new_row (w := w4) (cs := nodeCells n.bare bv' pv') (t := 136))
  have HO1 := Lib.hid (nodeCells_ones n.bare bv' pv' RZ.out.one PZ.out.one)
  clear hxo hxn hr ha
  go_region_law (refine step_append_lies _ rfl (.tmp 39) (.tmp 41) 55 rfl 0 136 i0 (.agg zeroNode) 14 152 Tryz.underlying55 hi hz0 hz1 hz2 rfl (by decide) _ s.added.length xs rfl HON.out ⟨w4.heap.size, 0, none⟩ 1 1 (nodeCells n.bare bv' pv') rfl rfl HNW.out HO1.out (by decide) (by unfold maxLen; omega) (by omega) (Nat.zero_le _) _ rfl ?_; intro gb capb w7 hown7 hgrow7 hat7 hlt7; have hf7 := grown_facts (w := w4) (o := .cells (nodeCells n.bare bv' pv').toArray 136) (a := ⟨g.a, 0, none⟩) hgrow7 rfl d0 df (HAA.out ▸ AZ.out.an); obtain ⟨e7, f7⟩ := hf7)
  all_goals
    have hg7 : (w4.alloc (.cells (nodeCells n.bare bv' pv').toArray 136)).grownBy w7 (g.plus w.heap.size).vn.ownBlock := ⟨hgrow7.os, hgrow7.tape, hgrow7.output, hgrow7.size, hgrow7.block⟩
    have R := AZ.out.pushNode HXN.out HXO.out RZ.out PZ.out hown7 hg7 (fun k hk => by
      injection hk with hk
      rcases hat7 with h7 | h7
      · exact .inl ((show (g.plus w.heap.size).vn.ownBlock = some gb from h7).trans (congrArg some hk))
      · right
        have : (w4.alloc (.cells (nodeCells n.bare bv' pv').toArray 136)).heap.size = w4.heap.size + 1 := by simp
        have h8 : gb = (w4.alloc (.cells (nodeCells n.bare bv' pv').toArray 136)).heap.size := h7
        simp at hk
        omega)
    rw [HAA.out] at R
    have HR8 := Lib.hid R
    have hrm : ({ s with added := s.added ++ [n.bare] } : Ct.St).Room' := by
      have := HRZ.out
      unfold Ct.St.size at this
      unfold Ct.St.Room' Ct.St.size
      simp
      omega
    have hN8 := nodes_any' ((g.plus w.heap.size).withNodes (.slice (some ⟨gb, 0, none⟩) (s.added.length + 1) capb)) _ _ R.1 hrm
    rw [show ((g.plus w.heap.size).withNodes (.slice (some ⟨gb, 0, none⟩) (s.added.length + 1) capb)).a = g.a from HAA.out] at hN8
    have HN8 := Lib.hid hN8
    clear hN8 R hg7 hgrow7 hown7 hat7 d0' d0 df e7 f7 hrm
    go_wp2_with fail
    refine HN8.out.mono ?_
    rintro e w8 ⟨rfl, rfl⟩
    go_wp2_with fail
    go_ret
    refine ⟨?_, _, ?_, SZ.out.trans HR8.out.2⟩
    · rw [HFIN.out]
      simp [Ct.St.nodes]
      omega
    · rw [HFIN.out]; exact HR8.out.1
set_option maxRecDepth 100000 in
set_option maxHeartbeats 4000000 in
theorem alloc_inner (g : Ghost) (w : World) (s : Ct.St) (n : Ct.Node) (bv pv : Value) (x : Int) (h : ArenaAt g w s) (hr : s.Room) (h1 : RefsAt g.N w bv n.branches) (h2 : PairsAt g.N w pv n.pairs) (l1 : n.branches.length ≤ 1000000) (l2 : n.pairs.length ≤ 549755813888)
    (hk2 : n.kind = 2) :
    Calls Tryz.prog 306 #[.pointer (some ⟨g.a, 0, none⟩), .agg (nodeCells n bv pv).toArray, .int .i64 x] w (Does g w (.int .i64 (s.alloc n x).2) (s.alloc n x).1) := by
  obtain ⟨i0, hi, hz0, hz1, hz2⟩ := info_parts info_Node
  have hfin : s.alloc n x = ({ (s.newCell x).1 with added := (s.newCell x).1.added ++ [{ n.bare with main := (s.cells.length : Int) + 1 }] }, ((s.newCell x).1.added.length : Int) + 3) := by
    unfold Ct.St.alloc; simp [hk2, Ct.St.newCell]
  have q2 : (n.kind == 2) = true := by simp [hk2]
  have HB0 := Lib.hid ((Below.refl w.heap.size w).alloc (Nat.le_refl _) (.cells (nodeCells n bv pv).toArray 136))
  have HA := Lib.hid (heap_alloc_at w (.cells (nodeCells n bv pv).toArray 136))
  have g1 : RefsAt g.N (w.alloc (.cells (nodeCells n bv pv).toArray 136)) bv n.branches := h1.keep (Keep.below HB0.out (fun _ => False)) (fun _ h => h.elim) (fun _ h => .inl h)
  have g2 : PairsAt g.N (w.alloc (.cells (nodeCells n bv pv).toArray 136)) pv n.pairs := h2.keep (Keep.below HB0.out (fun _ => False)) (fun _ h => h.elim) (fun _ h => .inl h)
  have HCL := Lib.hid (clone_any g.N _ n bv pv g1 g2 l1 l2)
  have H := Lib.hid h
  have HRM := Lib.hid hr
  have HNB := Lib.hid h.nlt
  have HFIN := Lib.hid hfin
  clear h h1 h2 g1 g2 hfin
  go_enter Tryz.func306, Tryz.ntmps306
  go_wp2_with (refine wpList_load_row rfl 136 (.tmp 4) rfl w.heap.size rfl 136 (nodeCells n bv pv).toArray (0, 0) _ HA.out Tryz.underlying136 rfl info_Node_size ?_)
  refine HCL.out.mono ?_
  rintro e w1 ⟨cs, rfl, ⟨bv', pv', rfl, hr', hp'⟩, hb⟩
  have X0 := Lib.hid (heap_below hb HA.out (by simp))
  have HONE := Lib.hid (nodeCells_one n bv' pv' hr'.one hp'.one)
  have HM := Lib.hid (fun W => Ready.make (W := W) H.out hb hr' hp')
  clear hb hr' hp'
  go_wp2_with (first
    | (refine wpList_store_row rfl 136 (.tmp 4) (.tmp 8) rfl w.heap.size (nodeCells n bv' pv').toArray rfl rfl 136 _ X0.out info_Node_size rfl HONE.out ?_; obtain ⟨W, hW⟩ : ∃ W, W = w1.setRow w.heap.size (nodeCells n bv' pv').toArray := ⟨_, rfl⟩; rw [← hW]; have hmk := HM.out W hW; have c0 := hmk.1.cell 0; have c2 := hmk.1.cell 2; have c9 := hmk.1.cell 9; have c13 := hmk.1.cell 13; have f2 := hmk.1.free 2; have f9 := hmk.1.free 9; have f13 := hmk.1.free 13; have HRD := Lib.hid hmk.2; clear hW hmk; simp only [nodeCells, List.getElem?_cons_zero, List.getElem?_cons_succ] at c0 c2 c9 c13)
    | (refine wpList_load_row rfl 136 (.tmp 4) rfl w.heap.size rfl 136 (nodeCells n.bare bv' pv').toArray (0, 0) _ HRD.out.blk Tryz.underlying136 rfl info_Node_size ?_))
  generalize hW3 : (((W.setCell ⟨w.heap.size, 2, none⟩ (.int .i64 0)).setCell ⟨w.heap.size, 9, none⟩ (.int .i64 0)).setCell ⟨w.heap.size, 13, none⟩ (.int .i64 0)) = W3 at HRD ⊢
  clear hW3 c0 c2 c9 c13 f2 f9 f13 HM X0 HONE HCL HA
  have RD4 := HRD
  clear HRD
  have HNC := Lib.hid (newCell_any (g.plus w.heap.size) _ s x RD4.out.arena HRM.out)
  go_wp2_with fail
  refine HNC.out.mono ?_
  rintro e w5 ⟨rfl, g1, ha5, hs5⟩
  have hblk5 : NodeBlk w5 w.heap.size n.bare bv' pv' := (hs5.keep.block w.heap.size RD4.out.blk.lt (fun hf => absurd (HNB.out _ (H.out.foot _ hf)) (by omega))).trans RD4.out.blk
  have cF := hblk5.cell 2; have fF := hblk5.free 2
  simp only [nodeCells, List.getElem?_cons_zero, List.getElem?_cons_succ] at cF
  have hrd5 := RD4.out.cell hs5 ha5 hblk5 (i := 2) (nz := { n.bare with main := (s.cells.length : Int) + 1 }) (v := .int .i64 (s.newCell x).2) (HNB.out) (H.out.foot) rfl rfl rfl
  have RD5 := Lib.hid hrd5
  have eN : (s.newCell x).2 = (s.cells.length : Int) + 1 := rfl
  have EN := Lib.hid eN
  clear ha5 hs5 hblk5 hrd5 HNC eN
  go_wp2_with fail
  generalize hWz : w5.setCell ⟨w.heap.size, 2, none⟩ (.int .i64 (s.newCell x).2) = wz at RD5 ⊢
  clear hWz cF fF
  have AZ := Lib.hid RD5.out.arena; have KZ := Lib.hid RD5.out.blk; have SZ := Lib.hid RD5.out.step; have RZ := Lib.hid RD5.out.refs; have PZ := Lib.hid RD5.out.pairs
  have HRZ := Lib.hid (show (s.newCell x).1.size + 1 ≤ 274877906944 by have := HRM.out; unfold Ct.St.Room Ct.St.size at this; unfold Ct.St.newCell Ct.St.size; simp; omega)
  obtain ⟨xs, hxo, hxn⟩ := AZ.out.nodes
  have HXO := Lib.hid hxo; have HXN := Lib.hid hxn
  have d0 := AZ.out.c0
  have df := AZ.out.free 0
  have d0' : ∀ o, (wz.alloc o).cell? ⟨g1.a, 0, none⟩ = some g1.vn := fun o => by rw [World.cell?_alloc_past _ _ _ AZ.out.lt]; exact d0
  have ha := SZ.out.a
  rw [ha] at d0 df d0'
  have c0 := KZ.out.cell 0; have c1 := KZ.out.cell 1; have c2 := KZ.out.cell 2; have c3 := KZ.out.cell 3; have c4 := KZ.out.cell 4; have c5 := KZ.out.cell 5; have c6 := KZ.out.cell 6; have c7 := KZ.out.cell 7; have c8 := KZ.out.cell 8; have c9 := KZ.out.cell 9; have c10 := KZ.out.cell 10; have c11 := KZ.out.cell 11; have c12 := KZ.out.cell 12; have c13 := KZ.out.cell 13
  simp only [nodeCells, List.getElem?_cons_zero, List.getElem?_cons_succ] at c0 c1 c2 c3 c4 c5 c6 c7 c8 c9 c10 c11 c12 c13
  have hb : (s.newCell x).1.added.length ≤ 274877906944 := by have := HRZ.out; unfold Ct.St.size at this; omega
  have HAA := Lib.hid ha
  have HON := Lib.hid (HXO.out.alloc (.cells (nodeCells { n.bare with main := (s.cells.length : Int) + 1 } bv' pv').toArray 136))
  have HNW := Lib.hid (new_row (w := wz) (cs := nodeCells { n.bare with main := (s.cells.length : Int) + 1 } bv' pv') (t := 136))
  have HO1 := Lib.hid (nodeCells_ones { n.bare with main := (s.cells.length : Int) + 1 } bv' pv' RZ.out.one PZ.out.one)
  clear hxo hxn hr ha
  go_region_law (refine step_append_lies _ rfl (.tmp 39) (.tmp 41) 55 rfl 0 136 i0 (.agg zeroNode) 14 152 Tryz.underlying55 hi hz0 hz1 hz2 rfl (by decide) _ (s.newCell x).1.added.length xs rfl HON.out ⟨wz.heap.size, 0, none⟩ 1 1 (nodeCells { n.bare with main := (s.cells.length : Int) + 1 } bv' pv') rfl rfl HNW.out HO1.out (by decide) (by unfold maxLen; omega) (by omega) (Nat.zero_le _) _ rfl ?_; intro gb capb w7 hown7 hgrow7 hat7 hlt7; have hf7 := grown_facts (w := wz) (o := .cells (nodeCells { n.bare with main := (s.cells.length : Int) + 1 } bv' pv').toArray 136) (a := ⟨g.a, 0, none⟩) hgrow7 rfl d0 df (HAA.out ▸ AZ.out.an); obtain ⟨e7, f7⟩ := hf7)
  all_goals
    have hg7 : (wz.alloc (.cells (nodeCells { n.bare with main := (s.cells.length : Int) + 1 } bv' pv').toArray 136)).grownBy w7 g1.vn.ownBlock := ⟨hgrow7.os, hgrow7.tape, hgrow7.output, hgrow7.size, hgrow7.block⟩
    have R := AZ.out.pushNode HXN.out HXO.out RZ.out PZ.out hown7 hg7 (fun k hk => by
      injection hk with hk
      rcases hat7 with h7 | h7
      · exact .inl ((show g1.vn.ownBlock = some gb from h7).trans (congrArg some hk))
      · right
        have : (wz.alloc (.cells (nodeCells { n.bare with main := (s.cells.length : Int) + 1 } bv' pv').toArray 136)).heap.size = wz.heap.size + 1 := by simp
        have h8 : gb = (wz.alloc (.cells (nodeCells { n.bare with main := (s.cells.length : Int) + 1 } bv' pv').toArray 136)).heap.size := h7
        simp at hk
        omega)
    rw [HAA.out] at R
    have HR8 := Lib.hid R
    have hrm : ({ (s.newCell x).1 with added := (s.newCell x).1.added ++ [{ n.bare with main := (s.cells.length : Int) + 1 }] } : Ct.St).Room' := by
      have := HRZ.out
      unfold Ct.St.size at this
      unfold Ct.St.Room' Ct.St.size
      simp
      omega
    have hN8 := nodes_any' (g1.withNodes (.slice (some ⟨gb, 0, none⟩) ((s.newCell x).1.added.length + 1) capb)) _ _ R.1 hrm
    rw [show (g1.withNodes (.slice (some ⟨gb, 0, none⟩) ((s.newCell x).1.added.length + 1) capb)).a = g.a from HAA.out] at hN8
    have HN8 := Lib.hid hN8
    clear hN8 R hg7 hgrow7 hown7 hat7 d0' d0 df e7 f7 hrm
    go_wp2_with fail
    refine HN8.out.mono ?_
    rintro e w8 ⟨rfl, rfl⟩
    go_wp2_with fail
    go_ret
    refine ⟨?_, _, ?_, SZ.out.trans HR8.out.2⟩
    · rw [HFIN.out]
      simp [Ct.St.nodes]
      omega
    · rw [HFIN.out]; exact HR8.out.1
set_option maxRecDepth 100000 in
set_option maxHeartbeats 4000000 in
theorem alloc_main (g : Ghost) (w : World) (s : Ct.St) (n : Ct.Node) (bv pv : Value) (x : Int) (h : ArenaAt g w s) (hr : s.Room) (h1 : RefsAt g.N w bv n.branches) (h2 : PairsAt g.N w pv n.pairs) (l1 : n.branches.length ≤ 1000000) (l2 : n.pairs.length ≤ 549755813888)
    (hk2 : n.kind ≠ 2) (hm : n.isMain = true) :
    Calls Tryz.prog 306 #[.pointer (some ⟨g.a, 0, none⟩), .agg (nodeCells n bv pv).toArray, .int .i64 x] w (Does g w (.int .i64 (s.alloc n x).2) (s.alloc n x).1) := by
  obtain ⟨i0, hi, hz0, hz1, hz2⟩ := info_parts info_Node
  have hfin : s.alloc n x = ({ (s.newCell x).1 with added := (s.newCell x).1.added ++ [{ n.bare with prev := (s.cells.length : Int) + 1 }] }, ((s.newCell x).1.added.length : Int) + 3) := by
    unfold Ct.St.alloc; simp [hk2, hm, Ct.St.newCell]
  have q2 : (n.kind == 2) = false := by simp [hk2]
  have HB0 := Lib.hid ((Below.refl w.heap.size w).alloc (Nat.le_refl _) (.cells (nodeCells n bv pv).toArray 136))
  have HA := Lib.hid (heap_alloc_at w (.cells (nodeCells n bv pv).toArray 136))
  have g1 : RefsAt g.N (w.alloc (.cells (nodeCells n bv pv).toArray 136)) bv n.branches := h1.keep (Keep.below HB0.out (fun _ => False)) (fun _ h => h.elim) (fun _ h => .inl h)
  have g2 : PairsAt g.N (w.alloc (.cells (nodeCells n bv pv).toArray 136)) pv n.pairs := h2.keep (Keep.below HB0.out (fun _ => False)) (fun _ h => h.elim) (fun _ h => .inl h)
  have HCL := Lib.hid (clone_any g.N _ n bv pv g1 g2 l1 l2)
  have H := Lib.hid h
  have HRM := Lib.hid hr
  have HNB := Lib.hid h.nlt
  have HFIN := Lib.hid hfin
  clear h h1 h2 g1 g2 hfin
  go_enter Tryz.func306, Tryz.ntmps306
  go_wp2_with (refine wpList_load_row rfl 136 (.tmp 4) rfl w.heap.size rfl 136 (nodeCells n bv pv).toArray (0, 0) _ HA.out Tryz.underlying136 rfl info_Node_size ?_)
  refine HCL.out.mono ?_
  rintro e w1 ⟨cs, rfl, ⟨bv', pv', rfl, hr', hp'⟩, hb⟩
  have X0 := Lib.hid (heap_below hb HA.out (by simp))
  have HONE := Lib.hid (nodeCells_one n bv' pv' hr'.one hp'.one)
  have HM := Lib.hid (fun W => Ready.make (W := W) H.out hb hr' hp')
  clear hb hr' hp'
  go_wp2_with (first
    | (refine wpList_store_row rfl 136 (.tmp 4) (.tmp 8) rfl w.heap.size (nodeCells n bv' pv').toArray rfl rfl 136 _ X0.out info_Node_size rfl HONE.out ?_; obtain ⟨W, hW⟩ : ∃ W, W = w1.setRow w.heap.size (nodeCells n bv' pv').toArray := ⟨_, rfl⟩; rw [← hW]; have hmk := HM.out W hW; have c0 := hmk.1.cell 0; have c2 := hmk.1.cell 2; have c9 := hmk.1.cell 9; have c13 := hmk.1.cell 13; have f2 := hmk.1.free 2; have f9 := hmk.1.free 9; have f13 := hmk.1.free 13; have HRD := Lib.hid hmk.2; clear hW hmk; simp only [nodeCells, List.getElem?_cons_zero, List.getElem?_cons_succ] at c0 c2 c9 c13)
    | (refine wpList_load_row rfl 136 (.tmp 4) rfl w.heap.size rfl 136 (nodeCells n.bare bv' pv').toArray (0, 0) _ HRD.out.blk Tryz.underlying136 rfl info_Node_size ?_))
  generalize hW3 : (((W.setCell ⟨w.heap.size, 2, none⟩ (.int .i64 0)).setCell ⟨w.heap.size, 9, none⟩ (.int .i64 0)).setCell ⟨w.heap.size, 13, none⟩ (.int .i64 0)) = W3 at HRD ⊢
  clear hW3 c0 c2 c9 c13 f2 f9 f13 HM X0 HONE HCL HA
  have HMA := Lib.hid (main_any n.bare bv' pv' W3)
  have em : n.bare.isMain = true := hm
  rw [em] at HMA
  clear em hm
  refine HMA.out.mono ?_
  rintro e w4 ⟨rfl, hb4⟩
  have hrd4 : Ready g w s n.bare w4 bv' pv' := HRD.out.below' hb4
  have c0 := hrd4.blk.cell 0
  simp only [nodeCells, List.getElem?_cons_zero] at c0
  have RD4 := Lib.hid hrd4
  clear hb4 hrd4 HRD HMA
  have HNC := Lib.hid (newCell_any (g.plus w.heap.size) _ s x RD4.out.arena HRM.out)
  go_wp2_with fail
  refine HNC.out.mono ?_
  rintro e w5 ⟨rfl, g1, ha5, hs5⟩
  have hblk5 : NodeBlk w5 w.heap.size n.bare bv' pv' := (hs5.keep.block w.heap.size RD4.out.blk.lt (fun hf => absurd (HNB.out _ (H.out.foot _ hf)) (by omega))).trans RD4.out.blk
  have cF := hblk5.cell 9; have fF := hblk5.free 9
  simp only [nodeCells, List.getElem?_cons_zero, List.getElem?_cons_succ] at cF
  have hrd5 := RD4.out.cell hs5 ha5 hblk5 (i := 9) (nz := { n.bare with prev := (s.cells.length : Int) + 1 }) (v := .int .i64 (s.newCell x).2) (HNB.out) (H.out.foot) rfl rfl rfl
  have RD5 := Lib.hid hrd5
  have eN : (s.newCell x).2 = (s.cells.length : Int) + 1 := rfl
  have EN := Lib.hid eN
  clear ha5 hs5 hblk5 hrd5 HNC eN
  go_wp2_with fail
  generalize hWz : w5.setCell ⟨w.heap.size, 9, none⟩ (.int .i64 (s.newCell x).2) = wz at RD5 ⊢
  clear hWz cF fF
  have AZ := Lib.hid RD5.out.arena; have KZ := Lib.hid RD5.out.blk; have SZ := Lib.hid RD5.out.step; have RZ := Lib.hid RD5.out.refs; have PZ := Lib.hid RD5.out.pairs
  have HRZ := Lib.hid (show (s.newCell x).1.size + 1 ≤ 274877906944 by have := HRM.out; unfold Ct.St.Room Ct.St.size at this; unfold Ct.St.newCell Ct.St.size; simp; omega)
  obtain ⟨xs, hxo, hxn⟩ := AZ.out.nodes
  have HXO := Lib.hid hxo; have HXN := Lib.hid hxn
  have d0 := AZ.out.c0
  have df := AZ.out.free 0
  have d0' : ∀ o, (wz.alloc o).cell? ⟨g1.a, 0, none⟩ = some g1.vn := fun o => by rw [World.cell?_alloc_past _ _ _ AZ.out.lt]; exact d0
  have ha := SZ.out.a
  rw [ha] at d0 df d0'
  have c0 := KZ.out.cell 0; have c1 := KZ.out.cell 1; have c2 := KZ.out.cell 2; have c3 := KZ.out.cell 3; have c4 := KZ.out.cell 4; have c5 := KZ.out.cell 5; have c6 := KZ.out.cell 6; have c7 := KZ.out.cell 7; have c8 := KZ.out.cell 8; have c9 := KZ.out.cell 9; have c10 := KZ.out.cell 10; have c11 := KZ.out.cell 11; have c12 := KZ.out.cell 12; have c13 := KZ.out.cell 13
  simp only [nodeCells, List.getElem?_cons_zero, List.getElem?_cons_succ] at c0 c1 c2 c3 c4 c5 c6 c7 c8 c9 c10 c11 c12 c13
  have hb : (s.newCell x).1.added.length ≤ 274877906944 := by have := HRZ.out; unfold Ct.St.size at this; omega
  have HAA := Lib.hid ha
  have HON := Lib.hid (HXO.out.alloc (.cells (nodeCells { n.bare with prev := (s.cells.length : Int) + 1 } bv' pv').toArray 136))
  have HNW := Lib.hid (new_row (w := wz) (cs := nodeCells { n.bare with prev := (s.cells.length : Int) + 1 } bv' pv') (t := 136))
  have HO1 := Lib.hid (nodeCells_ones { n.bare with prev := (s.cells.length : Int) + 1 } bv' pv' RZ.out.one PZ.out.one)
  clear hxo hxn hr ha
  go_region_law (refine step_append_lies _ rfl (.tmp 39) (.tmp 41) 55 rfl 0 136 i0 (.agg zeroNode) 14 152 Tryz.underlying55 hi hz0 hz1 hz2 rfl (by decide) _ (s.newCell x).1.added.length xs rfl HON.out ⟨wz.heap.size, 0, none⟩ 1 1 (nodeCells { n.bare with prev := (s.cells.length : Int) + 1 } bv' pv') rfl rfl HNW.out HO1.out (by decide) (by unfold maxLen; omega) (by omega) (Nat.zero_le _) _ rfl ?_; intro gb capb w7 hown7 hgrow7 hat7 hlt7; have hf7 := grown_facts (w := wz) (o := .cells (nodeCells { n.bare with prev := (s.cells.length : Int) + 1 } bv' pv').toArray 136) (a := ⟨g.a, 0, none⟩) hgrow7 rfl d0 df (HAA.out ▸ AZ.out.an); obtain ⟨e7, f7⟩ := hf7)
  all_goals
    have hg7 : (wz.alloc (.cells (nodeCells { n.bare with prev := (s.cells.length : Int) + 1 } bv' pv').toArray 136)).grownBy w7 g1.vn.ownBlock := ⟨hgrow7.os, hgrow7.tape, hgrow7.output, hgrow7.size, hgrow7.block⟩
    have R := AZ.out.pushNode HXN.out HXO.out RZ.out PZ.out hown7 hg7 (fun k hk => by
      injection hk with hk
      rcases hat7 with h7 | h7
      · exact .inl ((show g1.vn.ownBlock = some gb from h7).trans (congrArg some hk))
      · right
        have : (wz.alloc (.cells (nodeCells { n.bare with prev := (s.cells.length : Int) + 1 } bv' pv').toArray 136)).heap.size = wz.heap.size + 1 := by simp
        have h8 : gb = (wz.alloc (.cells (nodeCells { n.bare with prev := (s.cells.length : Int) + 1 } bv' pv').toArray 136)).heap.size := h7
        simp at hk
        omega)
    rw [HAA.out] at R
    have HR8 := Lib.hid R
    have hrm : ({ (s.newCell x).1 with added := (s.newCell x).1.added ++ [{ n.bare with prev := (s.cells.length : Int) + 1 }] } : Ct.St).Room' := by
      have := HRZ.out
      unfold Ct.St.size at this
      unfold Ct.St.Room' Ct.St.size
      simp
      omega
    have hN8 := nodes_any' (g1.withNodes (.slice (some ⟨gb, 0, none⟩) ((s.newCell x).1.added.length + 1) capb)) _ _ R.1 hrm
    rw [show (g1.withNodes (.slice (some ⟨gb, 0, none⟩) ((s.newCell x).1.added.length + 1) capb)).a = g.a from HAA.out] at hN8
    have HN8 := Lib.hid hN8
    clear hN8 R hg7 hgrow7 hown7 hat7 d0' d0 df e7 f7 hrm
    go_wp2_with fail
    refine HN8.out.mono ?_
    rintro e w8 ⟨rfl, rfl⟩
    go_wp2_with fail
    go_ret
    refine ⟨?_, _, ?_, SZ.out.trans HR8.out.2⟩
    · rw [HFIN.out]
      simp [Ct.St.nodes]
      omega
    · rw [HFIN.out]; exact HR8.out.1
set_option maxRecDepth 100000 in
set_option maxHeartbeats 4000000 in
theorem alloc_desc (g : Ghost) (w : World) (s : Ct.St) (n : Ct.Node) (bv pv : Value) (x : Int) (h : ArenaAt g w s) (hr : s.Room) (h1 : RefsAt g.N w bv n.branches) (h2 : PairsAt g.N w pv n.pairs) (l1 : n.branches.length ≤ 1000000) (l2 : n.pairs.length ≤ 549755813888)
    (hk2 : n.kind ≠ 2) (hm : n.isMain = false) (hk8 : n.kind = 8) :
    Calls Tryz.prog 306 #[.pointer (some ⟨g.a, 0, none⟩), .agg (nodeCells n bv pv).toArray, .int .i64 x] w (Does g w (.int .i64 (s.alloc n x).2) (s.alloc n x).1) := by
  obtain ⟨i0, hi, hz0, hz1, hz2⟩ := info_parts info_Node
  have hfin : s.alloc n x = ({ (s.newCell x).1 with added := (s.newCell x).1.added ++ [{ n.bare with status := (s.cells.length : Int) + 1 }] }, ((s.newCell x).1.added.length : Int) + 3) := by
    unfold Ct.St.alloc; simp [hk8, hm, Ct.St.newCell]
  have q2 : (n.kind == 2) = false := by simp [hk2]
  have q8 : (n.kind == 8) = true := by simp [hk8]
  have HB0 := Lib.hid ((Below.refl w.heap.size w).alloc (Nat.le_refl _) (.cells (nodeCells n bv pv).toArray 136))
  have HA := Lib.hid (heap_alloc_at w (.cells (nodeCells n bv pv).toArray 136))
  have g1 : RefsAt g.N (w.alloc (.cells (nodeCells n bv pv).toArray 136)) bv n.branches := h1.keep (Keep.below HB0.out (fun _ => False)) (fun _ h => h.elim) (fun _ h => .inl h)
  have g2 : PairsAt g.N (w.alloc (.cells (nodeCells n bv pv).toArray 136)) pv n.pairs := h2.keep (Keep.below HB0.out (fun _ => False)) (fun _ h => h.elim) (fun _ h => .inl h)
  have HCL := Lib.hid (clone_any g.N _ n bv pv g1 g2 l1 l2)
  have H := Lib.hid h
  have HRM := Lib.hid hr
  have HNB := Lib.hid h.nlt
  have HFIN := Lib.hid hfin
  clear h h1 h2 g1 g2 hfin
  go_enter Tryz.func306, Tryz.ntmps306
  go_wp2_with (refine wpList_load_row rfl 136 (.tmp 4) rfl w.heap.size rfl 136 (nodeCells n bv pv).toArray (0, 0) _ HA.out Tryz.underlying136 rfl info_Node_size ?_)
  refine HCL.out.mono ?_
  rintro e w1 ⟨cs, rfl, ⟨bv', pv', rfl, hr', hp'⟩, hb⟩
  have X0 := Lib.hid (heap_below hb HA.out (by simp))
  have HONE := Lib.hid (nodeCells_one n bv' pv' hr'.one hp'.one)
  have HM := Lib.hid (fun W => Ready.make (W := W) H.out hb hr' hp')
  clear hb hr' hp'
  go_wp2_with (first
    | (refine wpList_store_row rfl 136 (.tmp 4) (.tmp 8) rfl w.heap.size (nodeCells n bv' pv').toArray rfl rfl 136 _ X0.out info_Node_size rfl HONE.out ?_; obtain ⟨W, hW⟩ : ∃ W, W = w1.setRow w.heap.size (nodeCells n bv' pv').toArray := ⟨_, rfl⟩; rw [← hW]; have hmk := HM.out W hW; have c0 := hmk.1.cell 0; have c2 := hmk.1.cell 2; have c9 := hmk.1.cell 9; have c13 := hmk.1.cell 13; have f2 := hmk.1.free 2; have f9 := hmk.1.free 9; have f13 := hmk.1.free 13; have HRD := Lib.hid hmk.2; clear hW hmk; simp only [nodeCells, List.getElem?_cons_zero, List.getElem?_cons_succ] at c0 c2 c9 c13)
    | (refine wpList_load_row rfl 136 (.tmp 4) rfl w.heap.size rfl 136 (nodeCells n.bare bv' pv').toArray (0, 0) _ HRD.out.blk Tryz.underlying136 rfl info_Node_size ?_))
  generalize hW3 : (((W.setCell ⟨w.heap.size, 2, none⟩ (.int .i64 0)).setCell ⟨w.heap.size, 9, none⟩ (.int .i64 0)).setCell ⟨w.heap.size, 13, none⟩ (.int .i64 0)) = W3 at HRD ⊢
  clear hW3 c0 c2 c9 c13 f2 f9 f13 HM X0 HONE HCL HA
  have HMA := Lib.hid (main_any n.bare bv' pv' W3)
  have em : n.bare.isMain = false := hm
  rw [em] at HMA
  clear em hm
  refine HMA.out.mono ?_
  rintro e w4 ⟨rfl, hb4⟩
  have hrd4 : Ready g w s n.bare w4 bv' pv' := HRD.out.below' hb4
  have c0 := hrd4.blk.cell 0
  simp only [nodeCells, List.getElem?_cons_zero] at c0
  have RD4 := Lib.hid hrd4
  clear hb4 hrd4 HRD HMA
  have q8' : (n.bare.kind == 8) = true := q8
  have HNC := Lib.hid (newCell_any (g.plus w.heap.size) _ s x RD4.out.arena HRM.out)
  go_wp2_with fail
  refine HNC.out.mono ?_
  rintro e w5 ⟨rfl, g1, ha5, hs5⟩
  have hblk5 : NodeBlk w5 w.heap.size n.bare bv' pv' := (hs5.keep.block w.heap.size RD4.out.blk.lt (fun hf => absurd (HNB.out _ (H.out.foot _ hf)) (by omega))).trans RD4.out.blk
  have cF := hblk5.cell 13; have fF := hblk5.free 13
  simp only [nodeCells, List.getElem?_cons_zero, List.getElem?_cons_succ] at cF
  have hrd5 := RD4.out.cell hs5 ha5 hblk5 (i := 13) (nz := { n.bare with status := (s.cells.length : Int) + 1 }) (v := .int .i64 (s.newCell x).2) (HNB.out) (H.out.foot) rfl rfl rfl
  have RD5 := Lib.hid hrd5
  have eN : (s.newCell x).2 = (s.cells.length : Int) + 1 := rfl
  have EN := Lib.hid eN
  clear ha5 hs5 hblk5 hrd5 HNC eN
  go_wp2_with fail
  generalize hWz : w5.setCell ⟨w.heap.size, 13, none⟩ (.int .i64 (s.newCell x).2) = wz at RD5 ⊢
  clear hWz cF fF
  have AZ := Lib.hid RD5.out.arena; have KZ := Lib.hid RD5.out.blk; have SZ := Lib.hid RD5.out.step; have RZ := Lib.hid RD5.out.refs; have PZ := Lib.hid RD5.out.pairs
  have HRZ := Lib.hid (show (s.newCell x).1.size + 1 ≤ 274877906944 by have := HRM.out; unfold Ct.St.Room Ct.St.size at this; unfold Ct.St.newCell Ct.St.size; simp; omega)
  obtain ⟨xs, hxo, hxn⟩ := AZ.out.nodes
  have HXO := Lib.hid hxo; have HXN := Lib.hid hxn
  have d0 := AZ.out.c0
  have df := AZ.out.free 0
  have d0' : ∀ o, (wz.alloc o).cell? ⟨g1.a, 0, none⟩ = some g1.vn := fun o => by rw [World.cell?_alloc_past _ _ _ AZ.out.lt]; exact d0
  have ha := SZ.out.a
  rw [ha] at d0 df d0'
  have c0 := KZ.out.cell 0; have c1 := KZ.out.cell 1; have c2 := KZ.out.cell 2; have c3 := KZ.out.cell 3; have c4 := KZ.out.cell 4; have c5 := KZ.out.cell 5; have c6 := KZ.out.cell 6; have c7 := KZ.out.cell 7; have c8 := KZ.out.cell 8; have c9 := KZ.out.cell 9; have c10 := KZ.out.cell 10; have c11 := KZ.out.cell 11; have c12 := KZ.out.cell 12; have c13 := KZ.out.cell 13
  simp only [nodeCells, List.getElem?_cons_zero, List.getElem?_cons_succ] at c0 c1 c2 c3 c4 c5 c6 c7 c8 c9 c10 c11 c12 c13
  have hb : (s.newCell x).1.added.length ≤ 274877906944 := by have := HRZ.out; unfold Ct.St.size at this; omega
  have HAA := Lib.hid ha
  have HON := Lib.hid (HXO.out.alloc (.cells (nodeCells { n.bare with status := (s.cells.length : Int) + 1 } bv' pv').toArray 136))
  have HNW := Lib.hid (new_row (w := wz) (cs := nodeCells { n.bare with status := (s.cells.length : Int) + 1 } bv' pv') (t := 136))
  have HO1 := Lib.hid (nodeCells_ones { n.bare with status := (s.cells.length : Int) + 1 } bv' pv' RZ.out.one PZ.out.one)
  clear hxo hxn hr ha
  go_region_law (refine step_append_lies _ rfl (.tmp 39) (.tmp 41) 55 rfl 0 136 i0 (.agg zeroNode) 14 152 Tryz.underlying55 hi hz0 hz1 hz2 rfl (by decide) _ (s.newCell x).1.added.length xs rfl HON.out ⟨wz.heap.size, 0, none⟩ 1 1 (nodeCells { n.bare with status := (s.cells.length : Int) + 1 } bv' pv') rfl rfl HNW.out HO1.out (by decide) (by unfold maxLen; omega) (by omega) (Nat.zero_le _) _ rfl ?_; intro gb capb w7 hown7 hgrow7 hat7 hlt7; have hf7 := grown_facts (w := wz) (o := .cells (nodeCells { n.bare with status := (s.cells.length : Int) + 1 } bv' pv').toArray 136) (a := ⟨g.a, 0, none⟩) hgrow7 rfl d0 df (HAA.out ▸ AZ.out.an); obtain ⟨e7, f7⟩ := hf7)
  all_goals
    have hg7 : (wz.alloc (.cells (nodeCells { n.bare with status := (s.cells.length : Int) + 1 } bv' pv').toArray 136)).grownBy w7 g1.vn.ownBlock := ⟨hgrow7.os, hgrow7.tape, hgrow7.output, hgrow7.size, hgrow7.block⟩
    have R := AZ.out.pushNode HXN.out HXO.out RZ.out PZ.out hown7 hg7 (fun k hk => by
      injection hk with hk
      rcases hat7 with h7 | h7
      · exact .inl ((show g1.vn.ownBlock = some gb from h7).trans (congrArg some hk))
      · right
        have : (wz.alloc (.cells (nodeCells { n.bare with status := (s.cells.length : Int) + 1 } bv' pv').toArray 136)).heap.size = wz.heap.size + 1 := by simp
        have h8 : gb = (wz.alloc (.cells (nodeCells { n.bare with status := (s.cells.length : Int) + 1 } bv' pv').toArray 136)).heap.size := h7
        simp at hk
        omega)
    rw [HAA.out] at R
    have HR8 := Lib.hid R
    have hrm : ({ (s.newCell x).1 with added := (s.newCell x).1.added ++ [{ n.bare with status := (s.cells.length : Int) + 1 }] } : Ct.St).Room' := by
      have := HRZ.out
      unfold Ct.St.size at this
      unfold Ct.St.Room' Ct.St.size
      simp
      omega
    have hN8 := nodes_any' (g1.withNodes (.slice (some ⟨gb, 0, none⟩) ((s.newCell x).1.added.length + 1) capb)) _ _ R.1 hrm
    rw [show (g1.withNodes (.slice (some ⟨gb, 0, none⟩) ((s.newCell x).1.added.length + 1) capb)).a = g.a from HAA.out] at hN8
    have HN8 := Lib.hid hN8
    clear hN8 R hg7 hgrow7 hown7 hat7 d0' d0 df e7 f7 hrm
    go_wp2_with fail
    refine HN8.out.mono ?_
    rintro e w8 ⟨rfl, rfl⟩
    go_wp2_with fail
    go_ret
    refine ⟨?_, _, ?_, SZ.out.trans HR8.out.2⟩
    · rw [HFIN.out]
      simp [Ct.St.nodes]
      omega
    · rw [HFIN.out]; exact HR8.out.1
theorem alloc_any (g : Ghost) (w : World) (s : Ct.St) (n : Ct.Node) (bv pv : Value) (x : Int) (h : ArenaAt g w s) (hr : s.Room) (h1 : RefsAt g.N w bv n.branches) (h2 : PairsAt g.N w pv n.pairs) (l1 : n.branches.length ≤ 1000000) (l2 : n.pairs.length ≤ 549755813888) :
    Calls Tryz.prog 306 #[.pointer (some ⟨g.a, 0, none⟩), .agg (nodeCells n bv pv).toArray, .int .i64 x] w (Does g w (.int .i64 (s.alloc n x).2) (s.alloc n x).1) := by
  by_cases hk2 : n.kind = 2
  · exact alloc_inner g w s n bv pv x h hr h1 h2 l1 l2 hk2
  · cases hm : n.isMain
    · by_cases hk8 : n.kind = 8
      · exact alloc_desc g w s n bv pv x h hr h1 h2 l1 l2 hk2 hm hk8
      · exact alloc_none g w s n bv pv x h hr h1 h2 l1 l2 hk2 hm hk8
    · exact alloc_main g w s n bv pv x h hr h1 h2 l1 l2 hk2 hm
end Go.Proofs.YtjlgchdekhmnnaaGreatDoor
end
