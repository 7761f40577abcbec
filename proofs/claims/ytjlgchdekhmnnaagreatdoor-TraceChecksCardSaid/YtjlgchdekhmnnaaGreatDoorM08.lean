/- Parts of a proof: Gcas4, Run. -/
import Derived.Test.YtjlgchdekhmnnaaGreatDoorM07
import Derived.Shelf.Abstract
section
namespace Go.Proofs.YtjlgchdekhmnnaaGreatDoor
open Go.RowKit
set_option linter.unusedVariables false
variable {O : Nat → Prop}
theorem arena_plus {g : Ghost} {w W : World} {s : Ct.St} (h : ArenaAt g w s) (hb : Below w.heap.size w W) {b : Nat} (h1 : w.heap.size ≤ b) (h2 : b < W.heap.size) : ArenaAt (g.plus b) W s :=
  h.keep (Keep.below hb (fun _ => False)) (N' := (g.plus b).N) (fun _ h => h.elim) (fun _ h => h.elim) (fun k hk => hk.elim .inl (fun e => .inr (by omega))) (fun _ h => .inl h) (fun k hk => hk.elim (fun h3 => Nat.lt_of_lt_of_le (h.nlt k h3) hb.size) (fun e => by omega))
theorem arenaO_plus {g : Ghost} {w W : World} {s : Ct.St} (h : ArenaO O g w s) (hb : Below w.heap.size w W) {b : Nat} (h1 : w.heap.size ≤ b) (h2 : b < W.heap.size) : ArenaO O (g.plus b) W s :=
  ⟨arena_plus h.toArenaAt hb h1 h2, fun k hk => ⟨.inl (h.own k hk).1, (h.own k hk).2⟩⟩
theorem krep_plus {g : Ghost} {w W : World} {sv : Value} {f : Value} {k : Ct.K} (h : KRep sv g.N O w f k) (hb : Below w.heap.size w W) {b : Nat} (h1 : w.heap.size ≤ b) : KRep sv (g.plus b).N O W f k :=
  h.keep (Keep.below hb (fun _ => False)) (fun _ h => h.elim) (fun k hk => hk.elim .inl (fun e => .inr (by omega))) (fun _ h => h.elim)
theorem blk_plus {g : Ghost} {w W : World} {s : Ct.St} {b c : Nat} {cs : Array Value} {t : TypeId} (h : ArenaAt g w s) (hb : w.heap.size ≤ b) (hne : b ≠ c) (hc : W.heap[b]? = some (.cells cs t)) : Blk (g.plus c).N W b cs t :=
  ⟨fun hn => hn.elim (fun h1 => absurd (h.nlt b h1) (by omega)) (fun h1 => hne h1), hc⟩
theorem result_kept {g g' : Ghost} {w W w2 : World} {s : Ct.St} {b : Nat} {o : Obj} (h : ArenaO O g w s) (hb : w.heap.size ≤ b) (hW : W.heap[b]? = some o) (hst : StepO O (g.plus b) W g' w2) : w2.heap[b]? = some o := by
  have hlt := (Array.getElem?_eq_some_iff.1 hW).1
  rw [hst.keep.block b hlt (fun hf => hf.elim (fun hf => absurd (h.nlt b (h.foot b hf)) (by omega)) (fun ho => absurd (h.lt b ho) (by omega)))]
  exact hW
theorem handed {g g' : Ghost} {w W w2 : World} {s : Ct.St} {c : Ct.Code × Ct.St} {b : Nat} {cs : List Value} {O' : Nat → Prop} (h : ArenaO O g w s) (hW : Below w.heap.size w W) (h1 : w.heap.size ≤ b) (h2 : b < W.heap.size)
    (ha : ArenaO O' g' w2 c.2) (hst : StepO O (g.plus b) W g' w2) (hO : ∀ k, O' k → O k ∨ W.heap.size ≤ k) (hcr : CodeRep g.sv g'.N O' w2 cs c.1) : RetCode O g w c (.returned (.agg cs.toArray)) (w2.setRow b cs.toArray) := by
  have k1 : Keep (fun k => k = b) w2 (w2.setRow b cs.toArray) := Keep.setRow w2 b _ rfl
  have hin : g'.N b := hst.old _ (.inr rfl)
  have hnb : ¬ O' b := fun ho => (hO b ho).elim (fun h3 => absurd (h.lt b h3) (by omega)) (fun h3 => by omega)
  have hnf : ¬ g'.Foot b := by
    intro hN
    rcases hst.foot _ hN with h3 | h3
    · have := h.nlt b (h.foot b h3); omega
    · omega
  refine ⟨cs, g', O', rfl, ⟨?_, ha.own⟩, ⟨hst.a, ?_, ?_, fun k hk => hst.old k (.inl hk), ?_⟩, fun k hk => (hO k hk).imp id (fun h => Nat.le_trans hW.size h), ?_⟩
  · exact ha.toArenaAt.keep k1 (N' := g'.N) (fun k hk hF => hnf (hk ▸ hF)) (fun k hk => .inl (hk ▸ hin)) (fun _ h => .inl h) (fun _ h => h) (fun k hk => Nat.lt_of_lt_of_le (ha.nlt k hk) k1.size)
  · exact ((Keep.below hW (fun k => g.Foot k ∨ O k)).trans hst.keep (fun k hk => .inl hk)).trans k1 (fun k hk => .inr (by omega))
  · intro k hk
    rcases hst.new _ hk with (h3 | h3) | h3
    · exact .inl h3
    · exact .inr (by omega)
    · exact .inr (Nat.le_trans hW.size h3)
  · intro k hk
    rcases hst.foot _ hk with h3 | h3
    · exact .inl h3
    · exact .inr (Nat.le_trans hW.size h3)
  · exact hcr.keep k1 (fun k hk => .inl (hk ▸ hin)) (fun _ h => .inl h) (fun k hk => .inl (hk ▸ hnb))
set_option maxRecDepth 100000 in
set_option maxHeartbeats 400000 in
theorem rdecide_any (g : Ghost) (w : World) (s : Ct.St) (t : Ct.Trie) (d : Ct.Node) (bv pv : Value) (th : Ct.K) (f : Value) (h : ArenaO O g w s) (hr : s.Room) (hs : Ct.Short s) (hf : KRep g.sv g.N O w f th) :
    Calls Tryz.prog 142 #[.agg (opCells g.sv t), .agg (nodeCells d bv pv).toArray, f] w (RetCode O g w (Ct.rdecideC Ct.stOps t d th s)) := by
  obtain ⟨fn, ff, caps, rfl⟩ := hf.func
  have hNW := ((((News.nil w).alloc (.cells (opCells g.sv t) 181)).alloc (.cells (nodeCells d bv pv).toArray 136)).alloc (.cells #[.func (.func fn) ff caps] 153)).alloc (.cells zeroCode 115)
  obtain ⟨W, hW⟩ : ∃ W, (((w.alloc (.cells (opCells g.sv t) 181)).alloc (.cells (nodeCells d bv pv).toArray 136)).alloc (.cells #[.func (.func fn) ff caps] 153)).alloc (.cells zeroCode 115) = W := ⟨_, rfl⟩
  rw [hW] at hNW
  have z := hNW.size
  simp at z
  have hk1 : KRep g.sv (g.plus (w.heap.size + 3)).N O W (.func (.func 172) #[] #[ptr (w.heap.size + 1), ptr (w.heap.size + 2)]) (.decide1 d th) :=
    ⟨_, _, rfl, ⟨bv, pv, blk_plus h.toArenaAt (by omega) (by omega) (hNW.at_ 1 _ rfl)⟩, ⟨_, blk_plus h.toArenaAt (by omega) (by omega) (hNW.at_ 2 _ rfl), krep_plus hf hNW.below (by omega)⟩⟩
  have hcall := read_any (g.plus (w.heap.size + 3)) W s t d.old (.decide1 d th) _ (arenaO_plus h hNW.below (by omega) (by omega)) hr hs hk1
  have HC := Lib.hid (with_world hW hcall)
  have HN := Lib.hid hNW
  have H := Lib.hid h
  have hmf := hmfG
  have X1 := Lib.hid (hW ▸ hNW.at_ 1 _ rfl)
  have HZ := Lib.hid z
  clear h hf hNW hW hk1 hcall z
  unfold opCells Ghost.sv nodeCells
  go_enter Tryz.func142, Tryz.ntmps142
  go_wp2_with fail
  refine HC.out.mono ?_
  rintro e w2 ⟨cs, g', O', rfl, ha, hst, hOO, hcr⟩
  have X4 := Lib.hid (result_kept H.out (by omega) (HN.out.at_ 3 _ rfl) hst)
  have HO := Lib.hid (all_one hcr.one)
  have HL : cs.toArray.size = zeroCode.size := by rw [List.size_toArray, hcr.length]; rfl
  have HL' := Lib.hid HL
  have hi : (Tryz.prog.info? 115).map (·.size) = some cs.toArray.size := by rw [HL]; exact info_Code_size
  have HI := Lib.hid hi
  have HE := Lib.hid (handed H.out HN.out.below (by omega) (by rw [HZ.out]; omega) ha hst hOO hcr)
  clear ha hst hOO hcr HL hi
  go_wp2_with (refine wpList_store_row rfl 115 (.tmp 6) (.tmp 11) rfl (w.heap.size + 3) cs.toArray rfl rfl 115 zeroCode X4.out HI.out HL'.out.symm HO.out ?_)
  refine bodyPost_ret (v := .agg cs.toArray) (results_cell_row Tryz.results142 _ _ (w.heap.size + 3) 115 _ (0, 0) _ rfl (setRow_heap _ (w.heap.size + 3) _ _ _ _ X4.out) Tryz.underlying115 rfl HI.out) rfl ?_
  exact HE.out
end Go.Proofs.YtjlgchdekhmnnaaGreatDoor
end
section
namespace Go.Proofs.YtjlgchdekhmnnaaGreatDoor
open Go.RowKit
set_option linter.unusedVariables false
variable {O : Nat → Prop}
structure Fin (n : Nat) (s : Ct.St) : Prop where
  room : s.size + n ≤ 274877906944
  short : Ct.Short s
theorem Fin.Room {n : Nat} {s : Ct.St} (h : Fin n s) (hn : 100 ≤ n) : s.Room := by have := h.room; unfold Ct.St.Room; omega
theorem Fin.less {n m : Nat} {s : Ct.St} (h : Fin n s) (hm : m ≤ n) : Fin m s := ⟨by have := h.room; omega, h.short⟩
theorem Ct.fits_kept {L : Nat} {n : Ct.Node} (h : n.fits L) (c : Int) (hc : 0 ≤ c) :
    (if n.kind == 2 then { n.bare with main := c } else if n.isMain then { n.bare with prev := c } else if n.kind == 8 then { n.bare with status := c } else n.bare : Ct.Node).fits L := by
  obtain ⟨h1, h2, h3, h4, h5, h6, h7⟩ := h
  by_cases k2 : n.kind = 2
  · rw [if_pos (by simp [k2])]
    exact ⟨h1, h2, h3, h4, h5, h6, fun hk => absurd hk (by show ¬ (n.kind = 3 ∨ n.kind = 6); omega)⟩
  · rw [if_neg (by simp [k2])]
    by_cases km : n.isMain = true
    · rw [if_pos km]
      exact ⟨h1, h2, h3, h4, h5, h6, fun hk => Ct.valid_prev n c hc hk (h7 hk)⟩
    · rw [if_neg km]
      have hk36 : ¬ (n.kind = 3 ∨ n.kind = 6) := fun hk => km (by unfold Ct.Node.isMain; rcases hk with hk | hk <;> simp [hk])
      split
      · exact ⟨h1, h2, h3, h4, h5, h6, fun hk => absurd hk hk36⟩
      · exact ⟨h1, h2, h3, h4, h5, h6, fun hk => absurd hk hk36⟩
theorem Fin.alloc {n : Nat} {s s' : Ct.St} {nd : Ct.Node} {x r : Int} (h : Fin (n + 2) s) (l : nd.fits s.added.length) (e : s.alloc nd x = (s', r)) : Fin n s' := by
  have hr := h.room
  have e1 : s' = (s.alloc nd x).1 := by rw [e]
  subst e1
  refine ⟨?_, fun m hm => ?_⟩
  · simp only [Ct.St.alloc, Ct.St.newCell, Ct.St.size] at hr ⊢
    split <;> simp only [List.length_append, List.length_singleton] <;> omega
  · have hl : s.added.length ≤ (s.alloc nd x).1.added.length := by
      simp only [Ct.St.alloc, Ct.St.newCell]; split <;> simp
    simp only [Ct.St.alloc, Ct.St.newCell] at hm
    split at hm <;>
    · simp only [List.mem_append, List.mem_singleton] at hm
      rcases hm with hm | hm
      · exact (h.short m hm).mono hl
      · subst hm
        exact (Ct.fits_kept l _ (by omega)).mono hl
theorem Fin.node {n : Nat} {s : Ct.St} (h : Fin n s) (r : Int) : (s.node r).fits s.added.length := h.short.node r
theorem Fin.newCell {n : Nat} {s s' : Ct.St} {x r : Int} (h : Fin (n + 1) s) (e : s.newCell x = (s', r)) : Fin n s' := by
  have hr := h.room
  have e1 : s' = (s.newCell x).1 := by rw [e]
  subst e1
  refine ⟨?_, h.short⟩
  simp only [Ct.St.newCell, Ct.St.size, List.length_append, List.length_singleton] at hr ⊢; omega
theorem Fin.newGen {n : Nat} {s s' : Ct.St} {r : Int} (h : Fin (n + 1) s) (e : s.newGen = (s', r)) : Fin n s' := by
  have hr := h.room
  have e1 : s' = s.newGen.1 := by rw [e]
  subst e1
  refine ⟨?_, h.short⟩
  simp only [Ct.St.newGen, Ct.St.size] at hr ⊢; omega
theorem Step.sv {g g' : Ghost} {w w' : World} (h : Step g w g' w') : g'.sv = g.sv := by unfold Ghost.sv; rw [h.a]
structure Mv (O : Nat → Prop) (g : Ghost) (w : World) (g' : Ghost) (w' : World) : Prop where
  ex : ∃ F : Nat → Prop, Keep F w w' ∧ ∀ k, F k → (g.N k ∧ ¬ O k) ∨ w.heap.size ≤ k
  new : ∀ k, g'.N k → g.N k ∨ w.heap.size ≤ k
theorem Mv.size {g g' : Ghost} {w w' : World} (h : Mv O g w g' w') : w.heap.size ≤ w'.heap.size := by obtain ⟨⟨F, hk, _⟩, _⟩ := h; exact hk.size
theorem Mv.trans {g g1 g2 : Ghost} {w w1 w2 : World} (h : Mv O g w g1 w1) (k : Mv O g1 w1 g2 w2) : Mv O g w g2 w2 := by
  obtain ⟨⟨F, hk, hF⟩, hn⟩ := h
  obtain ⟨⟨G, kk, kF⟩, kn⟩ := k
  refine ⟨⟨fun i => F i ∨ G i, (hk.mono (fun _ _ h => .inl h)).trans kk (fun i h => .inl (.inr h)), fun i hi => ?_⟩, fun i hi => ?_⟩
  · rcases hi with h1 | h1
    · exact hF i h1
    · rcases kF i h1 with h2 | h2
      · exact (hn i h2.1).imp (fun h => ⟨h, h2.2⟩) id
      · exact .inr (Nat.le_trans hk.size h2)
  · rcases kn i hi with h2 | h2
    · exact hn i h2
    · exact .inr (Nat.le_trans hk.size h2)
theorem Mv.below {g : Ghost} {w w' : World} (hb : Below w.heap.size w w') : Mv O g w g w' := ⟨⟨fun _ => False, Keep.below hb _, fun _ h => h.elim⟩, fun _ h => .inl h⟩
theorem Mv.alloc (g : Ghost) (w : World) (o : Obj) : Mv O g w g (w.alloc o) := Mv.below ((Below.refl _ _).alloc (Nat.le_refl _) o)
theorem Mv.plus {g : Ghost} {w W : World} {b : Nat} (hb : Below w.heap.size w W) (h1 : w.heap.size ≤ b) : Mv O g w (g.plus b) W :=
  ⟨⟨fun _ => False, Keep.below hb _, fun _ h => h.elim⟩, fun k hk => hk.elim .inl (fun e => .inr (by omega))⟩
theorem Mv.step {g g' : Ghost} {w w' : World} {s : Ct.St} (ha : ArenaO O g w s) (h : Step g w g' w') : Mv O g w g' w' := ⟨⟨g.Foot, h.keep, fun k hk => .inl ⟨ha.foot k hk, fun ho => (ha.own k ho).2 hk⟩⟩, h.new⟩
theorem Blk.mv {g g' : Ghost} {w w' : World} {b : Nat} {cs : Array Value} {t : TypeId} (h : Blk g.N w b cs t) (m : Mv O g w g' w') : Blk g'.N w' b cs t := by
  obtain ⟨⟨F, hk, hF⟩, hn⟩ := m; exact h.keep hk (fun k hf => (hF k hf).imp And.left id) hn
theorem DescBlk.mv {g g' : Ghost} {w w' : World} {b : Nat} {d : Ct.Node} (h : DescBlk g.N w b d) (m : Mv O g w g' w') : DescBlk g'.N w' b d := by
  obtain ⟨⟨F, hk, hF⟩, hn⟩ := m; exact h.keep hk (fun k hf => (hF k hf).imp And.left id) hn
theorem KRep.mv {sv : Value} {g g' : Ghost} {w w' : World} {k : Ct.K} {f : Value} (h : KRep sv g.N O w f k) (m : Mv O g w g' w') : KRep sv g'.N O w' f k := by
  obtain ⟨⟨F, hk, hF⟩, hn⟩ := m; exact h.keep hk (fun k hf => (hF k hf).imp And.left id) hn (fun k hf => (hF k hf).imp And.right id)
theorem CodeRep.mv {sv : Value} {g g' : Ghost} {w w' : World} {cs : List Value} {c : Ct.Code} (h : CodeRep sv g.N O w cs c) (m : Mv O g w g' w') : CodeRep sv g'.N O w' cs c := by
  obtain ⟨⟨F, hk, hF⟩, hn⟩ := m; exact h.keep hk (fun k hf => (hF k hf).imp And.left id) hn (fun k hf => (hF k hf).imp And.right id)
theorem RefsAt.mv {g g' : Ghost} {w w' : World} {v : Value} {xs : List Int} (h : RefsAt g.N w v xs) (m : Mv O g w g' w') : RefsAt g'.N w' v xs := by
  obtain ⟨⟨F, hk, hF⟩, hn⟩ := m; exact h.keep hk (fun k hf => (hF k hf).imp And.left id) hn
theorem PairsAt.mv {g g' : Ghost} {w w' : World} {v : Value} {xs : List Ct.Pair} (h : PairsAt g.N w v xs) (m : Mv O g w g' w') : PairsAt g'.N w' v xs := by
  obtain ⟨⟨F, hk, hF⟩, hn⟩ := m; exact h.keep hk (fun k hf => (hF k hf).imp And.left id) hn
theorem Blk.at0 {N : Nat → Prop} {w : World} {b : Nat} {cs : Array Value} {t : TypeId} (h : Blk N w b cs t) (i : Nat) (v : Value) (hv : cs[i]? = some v) : w.cell? ⟨b, i, none⟩ = some v := by rw [h.cell i, hv]
theorem Blk.at1 {N : Nat → Prop} {w : World} {b : Nat} {cs : Array Value} {t : TypeId} (h : Blk N w b cs t) (i : Nat) (v : Value) (hv : cs[i]? = some v) : ∀ o, (w.alloc o).cell? ⟨b, i, none⟩ = some v := fun o => by
  rw [World.cell?_alloc_past _ _ _ h.lt, h.cell i, hv]
theorem Blk.at2 {N : Nat → Prop} {w : World} {b : Nat} {cs : Array Value} {t : TypeId} (h : Blk N w b cs t) (i : Nat) (v : Value) (hv : cs[i]? = some v) : ∀ o o', ((w.alloc o).alloc o').cell? ⟨b, i, none⟩ = some v := fun o o' => by
  rw [World.cell?_alloc_past _ _ _ (by have := h.lt; simp; omega)]; exact h.at1 i v hv o
theorem Blk.at3 {N : Nat → Prop} {w : World} {b : Nat} {cs : Array Value} {t : TypeId} (h : Blk N w b cs t) (i : Nat) (v : Value) (hv : cs[i]? = some v) : ∀ o o' o'', (((w.alloc o).alloc o').alloc o'').cell? ⟨b, i, none⟩ = some v := fun o o' o'' => by
  rw [World.cell?_alloc_past _ _ _ (by have := h.lt; simp; omega)]; exact h.at2 i v hv o o'
structure Run (O : Nat → Prop) (g : Ghost) (w : World) (b : Nat) (h : Ghost) (W : World) (s : Ct.St) : Prop where
  arena : ArenaO O h W s
  step : StepO O g w h W
  ol : ∀ k, O k → k < w.heap.size
  low : w.heap.size ≤ b
  inN : h.N b
  out : ¬ h.Foot b
  res : W.heap[b]? = some (.cells zeroCode 115)
  top : ∀ k, g.N k → k < w.heap.size
theorem Run.start {g : Ghost} {w W : World} {s : Ct.St} {os : List Obj} (ha : ArenaO O g w s) (hn : News w W os) {b : Nat} (j : Nat) (hb : b = w.heap.size + j) (hj : os[j]? = some (.cells zeroCode 115)) : Run O g w b (g.plus b) W s := by
  subst hb
  have hr := hn.at_ j _ hj
  have hlt := (Array.getElem?_eq_some_iff.1 hr).1
  refine ⟨⟨arena_plus ha.toArenaAt hn.below (by omega) hlt, fun k hk => ⟨.inl (ha.own k hk).1, (ha.own k hk).2⟩⟩, ⟨rfl, Keep.below hn.below _, fun k hk => hk.elim .inl (fun e => .inr (by omega)), fun _ h => .inl h, fun k hk => .inl hk⟩, fun k hk => ha.lt k hk, by omega, .inr rfl, fun hf => ?_, hr, ha.nlt⟩
  exact absurd (ha.nlt _ (ha.foot _ hf)) (by omega)
theorem Run.below {g : Ghost} {w : World} {b : Nat} {h : Ghost} {W W' : World} {s : Ct.St} (R : Run O g w b h W s) (hb : Below W.heap.size W W') : Run O g w b h W' s :=
  ⟨R.arena.below hb, R.step.trans (Step.below hb).toO, R.ol, R.low, R.inN, R.out, seen_below R.res hb, R.top⟩
theorem Run.alloc {g : Ghost} {w : World} {b : Nat} {h : Ghost} {W : World} {s : Ct.St} (R : Run O g w b h W s) (o : Obj) : Run O g w b h (W.alloc o) s := R.below ((Below.refl _ _).alloc (Nat.le_refl _) o)
theorem Run.next {g : Ghost} {w : World} {b : Nat} {h h' : Ghost} {W W' : World} {s s' : Ct.St} (R : Run O g w b h W s) (ha : ArenaAt h' W' s') (hs : Step h W h' W') : Run O g w b h' W' s' := by
  have hlt := (Array.getElem?_eq_some_iff.1 R.res).1
  refine ⟨R.arena.step ha hs, R.step.trans hs.toO, R.ol, R.low, hs.old _ R.inN, fun hf => ?_, ?_, R.top⟩
  · rcases hs.foot _ hf with h1 | h1
    · exact R.out h1
    · omega
  · rw [hs.keep.block b hlt R.out]; exact R.res
theorem Run.sv {g : Ghost} {w : World} {b : Nat} {h : Ghost} {W : World} {s : Ct.St} (R : Run O g w b h W s) : h.sv = g.sv := R.step.sv
theorem Run.blk {g : Ghost} {w : World} {b : Nat} {h : Ghost} {W : World} {s : Ct.St} (R : Run O g w b h W s) (cs : Array Value) (t : TypeId) : Blk h.N (W.alloc (.cells cs t)) W.heap.size cs t :=
  ⟨fun hn => absurd (R.arena.nlt _ hn) (by omega), heap_alloc_at W _⟩
structure Coded (O : Nat → Prop) (g : Ghost) (w : World) (b : Nat) (h : Ghost) (W : World) (s : Ct.St) (cs : List Value) (c : Ct.Code) : Prop where
  code : ∃ O', ArenaO O' h W s ∧ (∀ k, O' k → O k ∨ w.heap.size ≤ k) ∧ ¬ O' b ∧ CodeRep g.sv h.N O' W cs c
  step : StepO O g w h W
  low : w.heap.size ≤ b
  inN : h.N b
  out : ¬ h.Foot b
  res : W.heap[b]? = some (.cells zeroCode 115)
theorem Coded.one {g : Ghost} {w : World} {b : Nat} {h : Ghost} {W : World} {s : Ct.St} {cs : List Value} {c : Ct.Code} (R : Coded O g w b h W s cs c) : cs.toArray.all (·.oneCell') = true := by obtain ⟨O', _, _, _, hc⟩ := R.code; exact all_one hc.one
theorem Coded.len {g : Ghost} {w : World} {b : Nat} {h : Ghost} {W : World} {s : Ct.St} {cs : List Value} {c : Ct.Code} (R : Coded O g w b h W s cs c) : cs.toArray.size = zeroCode.size := by obtain ⟨O', _, _, _, hc⟩ := R.code; rw [List.size_toArray, hc.length]; rfl
theorem Coded.info {g : Ghost} {w : World} {b : Nat} {h : Ghost} {W : World} {s : Ct.St} {cs : List Value} {c : Ct.Code} (R : Coded O g w b h W s cs c) : (Tryz.prog.info? 115).map (·.size) = some cs.toArray.size := by rw [R.len]; exact info_Code_size
theorem Coded.ret {g : Ghost} {w : World} {b : Nat} {h : Ghost} {W : World} {s : Ct.St} {cs : List Value} {c : Ct.Code} (R : Coded O g w b h W s cs c) : RetCode O g w (c, s) (.returned (.agg cs.toArray)) (W.setRow b cs.toArray) := by
  obtain ⟨O', ha, hO, hb, hc⟩ := R.code
  have k1 : Keep (fun k => k = b) W (W.setRow b cs.toArray) := Keep.setRow W b _ rfl
  refine ⟨cs, h, O', rfl, ⟨?_, ha.own⟩, ⟨R.step.a, R.step.keep.trans k1 (fun k hk => .inr (by have := R.low; omega)), R.step.new, R.step.old, R.step.foot⟩, hO, ?_⟩
  · exact ha.toArenaAt.keep k1 (N' := h.N) (fun k hk hF => R.out (hk ▸ hF)) (fun k hk => .inl (hk ▸ R.inN)) (fun _ h => .inl h) (fun _ h => h) (fun k hk => Nat.lt_of_lt_of_le (ha.nlt k hk) k1.size)
  · exact hc.keep k1 (fun k hk => .inl (hk ▸ R.inN)) (fun _ h => .inl h) (fun k hk => .inl (hk ▸ hb))
theorem Run.coded {g : Ghost} {w : World} {b : Nat} {h : Ghost} {W : World} {s : Ct.St} {cs : List Value} {c : Ct.Code} (R : Run O g w b h W s) (hc : CodeRep g.sv h.N O W cs c) : Coded O g w b h W s cs c :=
  ⟨⟨O, R.arena, fun _ h => .inl h, fun ho => absurd (R.ol b ho) (by have := R.low; omega), hc⟩, R.step, R.low, R.inN, R.out, R.res⟩
theorem Run.ret {g : Ghost} {w : World} {b : Nat} {h : Ghost} {W : World} {s : Ct.St} {cs : List Value} {c : Ct.Code} (R : Run O g w b h W s) (hc : CodeRep g.sv h.N O W cs c) : RetCode O g w (c, s) (.returned (.agg cs.toArray)) (W.setRow b cs.toArray) := (R.coded hc).ret
theorem Run.code2 {g : Ghost} {w : World} {b : Nat} {h : Ghost} {W : World} {s : Ct.St} {c : Ct.Code × Ct.St} {e : Ending} {w' : World} (R : Run O g w b h W s) (hc : RetCode O h W c e w') : ∃ cs h', e = .returned (.agg cs.toArray) ∧ Coded O g w b h' w' c.2 cs c.1 ∧ Mv (fun _ => False) h W h' w' := by
  obtain ⟨cs, g', O', e1, e2, e3, e5, e4⟩ := hc
  have hlt := (Array.getElem?_eq_some_iff.1 R.res).1
  have hnb : ¬ O b := fun ho => absurd (R.ol b ho) (by have := R.low; omega)
  refine ⟨cs, g', e1, ⟨⟨O', e2, fun k hk => (e5 k hk).imp id (fun h => Nat.le_trans R.step.keep.size h), fun hb => (e5 b hb).elim hnb (fun h => by omega), by rw [← R.sv]; exact e4⟩, R.step.trans e3, R.low, e3.old _ R.inN, fun hf => ?_, ?_⟩, ⟨⟨_, e3.keep, fun k hk => .inl ⟨hk.elim (R.arena.foot k) (fun ho => (R.arena.own k ho).1), id⟩⟩, e3.new⟩⟩
  · rcases e3.foot _ hf with h1 | h1
    · exact R.out h1
    · omega
  · rw [e3.keep.block b hlt (fun hf => hf.elim R.out hnb)]; exact R.res
theorem Run.code {g : Ghost} {w : World} {b : Nat} {h : Ghost} {W : World} {s : Ct.St} {c : Ct.Code × Ct.St} {e : Ending} {w' : World} (R : Run O g w b h W s) (hc : RetCode O h W c e w') : ∃ cs h', e = .returned (.agg cs.toArray) ∧ Coded O g w b h' w' c.2 cs c.1 := by
  obtain ⟨cs, h', e1, e2, _⟩ := R.code2 hc
  exact ⟨cs, h', e1, e2⟩
theorem Coded.cell {g : Ghost} {w : World} {b : Nat} {h : Ghost} {W : World} {s : Ct.St} {cs : List Value} {c : Ct.Code} {k : Nat} {xs : Array Value} {t : TypeId} (C : Coded O g w b h W s cs c) (B : Blk h.N W k xs t) (i : Nat) (v : Value) (hv : xs[i]? = some v) : (W.setRow b cs.toArray).cell? ⟨k, i, none⟩ = some v := by
  rw [cell_at (seen_setRow B.2 (fun e => B.1 (e ▸ C.inN))) i, hv]
theorem Run.made {g : Ghost} {w : World} {b : Nat} {h : Ghost} {W : World} {s : Ct.St} {cs : List Value} {c : Ct.Code} {e : Ending} {w' : World} (R : Run O g w b h W s) (hk : CodeRep g.sv h.N O W cs c) (hc : RetCells W cs e w') : e = .returned (.agg cs.toArray) ∧ Coded O g w b h w' s cs c :=
  ⟨hc.1, (R.below hc.2).coded (hk.mv (Mv.below hc.2))⟩
theorem Run.made3 {g : Ghost} {w : World} {b : Nat} {h : Ghost} {W : World} {s : Ct.St} {cs : List Value} {c : Ct.Code} {e : Ending} {w' : World} (R : Run O g w b h W s) (hk : CodeRep g.sv h.N O W cs c) (hc : RetCells W cs e w') : ∃ cs', e = .returned (.agg cs'.toArray) ∧ Coded O g w b h w' s cs' c ∧ Mv O h W h w' :=
  ⟨cs, (R.made hk hc).1, (R.made hk hc).2, Mv.below hc.2⟩
def NodeRes (O : Nat → Prop) (g : Ghost) (w : World) (b : Nat) (h : Ghost) (W : World) (s : Ct.St) (r : Int) (e : Ending) (w' : World) : Prop :=
  ∃ nd bv pv, e = .returned (.agg (nodeCells nd bv pv).toArray) ∧ Hid (s.node r = nd) ∧ Run O g w b h w' s ∧ Mv O h W h w' ∧ RefsAt h.N w' bv nd.branches ∧ PairsAt h.N w' pv nd.pairs
theorem Run.node {g : Ghost} {w : World} {b : Nat} {h : Ghost} {W : World} {s : Ct.St} {n : Nat} (R : Run O g w b h W s) (hf : Fin n s) (hn : 100 ≤ n) (r : Int) :
    Calls Tryz.prog 92 #[.pointer (some ⟨g.a, 0, none⟩), .int .i64 r] W (NodeRes O g w b h W s r) := by
  have hc := node_any h W s r R.arena.toArenaAt (hf.Room hn) hf.short
  rw [R.step.a] at hc
  refine hc.mono ?_
  rintro e w' ⟨cs, rfl, ⟨bv, pv, rfl, h1, h2⟩, hb⟩
  exact ⟨_, bv, pv, rfl, Lib.hid rfl, R.below hb, Mv.below hb, h1.avoid (fun k _ hk => R.arena.nlt k hk), h2.avoid (fun k _ hk => R.arena.nlt k hk)⟩
def IntRes (O : Nat → Prop) (g : Ghost) (w : World) (b : Nat) (h : Ghost) (W : World) (c : Ct.St × Int) (e : Ending) (w' : World) : Prop :=
  ∃ vn vc N s' r, e = .returned (.int .i64 r) ∧ Hid (c = (s', r)) ∧ Run O g w b ⟨g.a, vn, vc, N⟩ w' s' ∧ Mv O h W ⟨g.a, vn, vc, N⟩ w'
theorem Run.does {g : Ghost} {w : World} {b : Nat} {h : Ghost} {W : World} {s : Ct.St} {c : Ct.St × Int} {e : Ending} {w' : World} (R : Run O g w b h W s) (hd : Does h W (.int .i64 c.2) c.1 e w') : IntRes O g w b h W c e w' := by
  obtain ⟨rfl, ⟨a', vn, vc, N⟩, ha, hs⟩ := hd
  have hA : a' = g.a := hs.a.trans R.step.a
  subst hA
  exact ⟨vn, vc, N, c.1, c.2, rfl, Lib.hid rfl, R.next ha hs, Mv.step R.arena hs⟩
theorem Run.allocN {g : Ghost} {w : World} {b : Nat} {h : Ghost} {W : World} {s : Ct.St} {n : Nat} (R : Run O g w b h W s) (hf : Fin n s) (hn : 100 ≤ n) (nd : Ct.Node) (bv pv : Value) (x : Int) (h1 : RefsAt h.N W bv nd.branches) (h2 : PairsAt h.N W pv nd.pairs) (l1 : nd.branches.length ≤ 1000000) (l2 : nd.pairs.length ≤ 549755813888) :
    Calls Tryz.prog 306 #[.pointer (some ⟨g.a, 0, none⟩), .agg (nodeCells nd bv pv).toArray, .int .i64 x] W (IntRes O g w b h W (s.alloc nd x)) := by
  have hc := alloc_any h W s nd bv pv x R.arena.toArenaAt (hf.Room hn) h1 h2 l1 l2
  rw [R.step.a] at hc
  exact hc.mono fun e w' hd => R.does hd
theorem Run.newCell {g : Ghost} {w : World} {b : Nat} {h : Ghost} {W : World} {s : Ct.St} {n : Nat} (R : Run O g w b h W s) (hf : Fin n s) (hn : 100 ≤ n) (x : Int) :
    Calls Tryz.prog 309 #[.pointer (some ⟨g.a, 0, none⟩), .int .i64 x] W (IntRes O g w b h W (s.newCell x)) := by
  have hc := newCell_any h W s x R.arena.toArenaAt (hf.Room hn)
  rw [R.step.a] at hc
  exact hc.mono fun e w' hd => R.does hd
theorem Run.newGen {g : Ghost} {w : World} {b : Nat} {h : Ghost} {W : World} {s : Ct.St} {n : Nat} (R : Run O g w b h W s) (hf : Fin n s) (hn : 100 ≤ n) :
    Calls Tryz.prog 310 #[.pointer (some ⟨g.a, 0, none⟩)] W (IntRes O g w b h W s.newGen) := by
  have hc := newGen_any h W s R.arena.toArenaAt (hf.Room hn)
  rw [R.step.a] at hc
  exact hc.mono fun e w' hd => R.does hd
def Ent (n : FuncId) : Prop := ∀ (args : Array Value) (w : World), (callFunc n args).run Tryz.prog w = .ok (.enter n args) w
def CallRef (k : Ct.K) : Prop := ∀ {O : Nat → Prop} (g : Ghost) (w : World) (s : Ct.St) (n : FuncId) (ff caps : Array Value) (x : Int), ArenaO O g w s → Fin (1000 * k.rank) s → KRep g.sv g.N O w (.func (.func n) ff caps) k →
  Calls Tryz.prog n (ff ++ #[.int .i64 x] ++ caps) w (RetCode O g w (Ct.apply Ct.stOps k x s))
def CallBool (k : Ct.K) : Prop := ∀ {O : Nat → Prop} (g : Ghost) (w : World) (s : Ct.St) (n : FuncId) (ff caps : Array Value) (x : Bool), ArenaO O g w s → Fin (1000 * k.rank) s → KRep g.sv g.N O w (.func (.func n) ff caps) k →
  Calls Tryz.prog n (ff ++ #[.bool x] ++ caps) w (RetCode O g w (Ct.apply Ct.stOps k (Ct.ofBool x) s))
def CallThunk (k : Ct.K) : Prop := ∀ {O : Nat → Prop} (g : Ghost) (w : World) (s : Ct.St) (n : FuncId) (ff caps : Array Value), ArenaO O g w s → Fin (1000 * k.rank) s → KRep g.sv g.N O w (.func (.func n) ff caps) k →
  Calls Tryz.prog n (ff ++ caps) w (RetCode O g w (Ct.apply Ct.stOps k 0 s))
def CallRef2 (k : Ct.K) : Prop := ∀ {O : Nat → Prop} (g : Ghost) (w : World) (s : Ct.St) (n : FuncId) (ff caps : Array Value) (x y : Int), ArenaO O g w s → Fin 500 s → KRep g.sv g.N O w (.func (.func n) ff caps) k →
  Calls Tryz.prog n (ff ++ #[.int .i64 x, .int .i64 y] ++ caps) w (RetCode O g w (Ct.apply2 Ct.stOps k x y s))
end Go.Proofs.YtjlgchdekhmnnaaGreatDoor
end
