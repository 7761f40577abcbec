/- What a function does that hands on another's code; the walk of root.decide. -/
import Derived.Test.YtifehcegnofpkaaGreatDoorGcas3
namespace Go.Proofs.YtifehcegnofpkaaGreatDoor
open Go.RowKit

theorem arena_plus {g : Ghost} {w W : World} {s : Ct.St} (h : ArenaAt g w s) (hb : Below w.heap.size w W) {b : Nat} (h1 : w.heap.size ≤ b) (h2 : b < W.heap.size) : ArenaAt (g.plus b) W s :=
  h.keep (Keep.below hb (fun _ => False)) (N' := (g.plus b).N) (fun _ h => h.elim) (fun _ h => h.elim) (fun k hk => hk.elim .inl (fun e => .inr (by omega))) (fun _ h => .inl h) (fun k hk => hk.elim (fun h3 => Nat.lt_of_lt_of_le (h.nlt k h3) hb.size) (fun e => by omega))
theorem krep_plus {g : Ghost} {w W : World} {sv : Value} {f : Value} {k : Ct.K} (h : KRep sv g.N w f k) (hb : Below w.heap.size w W) {b : Nat} (h1 : w.heap.size ≤ b) : KRep sv (g.plus b).N W f k :=
  h.keep (Keep.below hb (fun _ => False)) (fun _ h => h.elim) (fun k hk => hk.elim .inl (fun e => .inr (by omega)))
theorem blk_plus {g : Ghost} {w W : World} {s : Ct.St} {b c : Nat} {cs : Array Value} {t : TypeId} (h : ArenaAt g w s) (hb : w.heap.size ≤ b) (hne : b ≠ c) (hc : W.heap[b]? = some (.cells cs t)) : Blk (g.plus c).N W b cs t :=
  ⟨fun hn => hn.elim (fun h1 => absurd (h.nlt b h1) (by omega)) (fun h1 => hne h1), hc⟩

/-- The block of the result, behind a call that has changed the arena alone. -/
theorem result_kept {g g' : Ghost} {w W w2 : World} {s : Ct.St} {b : Nat} {o : Obj} (h : ArenaAt g w s) (hb : w.heap.size ≤ b) (hW : W.heap[b]? = some o) (hst : Step (g.plus b) W g' w2) : w2.heap[b]? = some o := by
  have hlt := (Array.getElem?_eq_some_iff.1 hW).1
  rw [hst.keep.block b hlt (fun hf => absurd (h.nlt b (h.foot b hf)) (by omega))]
  exact hW

/-- The end of a function that hands on another's code through its result's block b. -/
theorem handed {g g' : Ghost} {w W w2 : World} {s : Ct.St} {c : Ct.Code × Ct.St} {b : Nat} {cs : List Value} (h : ArenaAt g w s) (hW : Below w.heap.size w W) (h1 : w.heap.size ≤ b) (h2 : b < W.heap.size)
    (ha : ArenaAt g' w2 c.2) (hst : Step (g.plus b) W g' w2) (hcr : CodeRep g.sv g'.N w2 cs c.1) : RetCode g w c (.returned (.agg cs.toArray)) (w2.setRow b cs.toArray) := by
  have k1 : Keep (fun k => k = b) w2 (w2.setRow b cs.toArray) := Keep.setRow w2 b _ rfl
  have hin : g'.N b := hst.old _ (.inr rfl)
  have hnf : ¬ g'.Foot b := by
    intro hN
    rcases hst.foot _ hN with h3 | h3
    · have := h.nlt b (h.foot b h3); omega
    · omega
  refine ⟨cs, g', rfl, ?_, ⟨hst.a, ?_, ?_, fun k hk => hst.old k (.inl hk), ?_⟩, ?_⟩
  · exact ha.keep k1 (N' := g'.N) (fun k hk hF => hnf (hk ▸ hF)) (fun k hk => .inl (hk ▸ hin)) (fun _ h => .inl h) (fun _ h => h) (fun k hk => Nat.lt_of_lt_of_le (ha.nlt k hk) k1.size)
  · exact ((Keep.below hW g.Foot).trans hst.keep (fun k hk => .inl hk)).trans k1 (fun k hk => .inr (by omega))
  · intro k hk
    rcases hst.new _ hk with (h3 | h3) | h3
    · exact .inl h3
    · exact .inr (by omega)
    · exact .inr (Nat.le_trans hW.size h3)
  · intro k hk
    rcases hst.foot _ hk with h3 | h3
    · exact .inl h3
    · exact .inr (Nat.le_trans hW.size h3)
  · exact hcr.keep k1 (fun k hk => .inl (hk ▸ hin)) (fun _ h => .inl h)

set_option maxRecDepth 100000 in
set_option maxHeartbeats 400000 in
theorem rdecide_any (g : Ghost) (w : World) (s : Ct.St) (t : Ct.Trie) (d : Ct.Node) (bv pv : Value) (th : Ct.K) (f : Value) (h : ArenaAt g w s) (hr : s.Room) (hs : Ct.Short s) (hf : KRep g.sv g.N w f th) :
    Calls Tryz.prog 96 #[.agg (opCells g.sv t), .agg (nodeCells d bv pv).toArray, f] w (RetCode g w (Ct.rdecideC Ct.stOps t d th s)) := by
  obtain ⟨fn, caps, rfl⟩ := hf.func
  have hNW := ((((News.nil w).alloc (.cells (opCells g.sv t) 138)).alloc (.cells (nodeCells d bv pv).toArray 131)).alloc (.cells #[.func (.func fn) #[] caps] 114)).alloc (.cells zeroCode 100)
  obtain ⟨W, hW⟩ : ∃ W, (((w.alloc (.cells (opCells g.sv t) 138)).alloc (.cells (nodeCells d bv pv).toArray 131)).alloc (.cells #[.func (.func fn) #[] caps] 114)).alloc (.cells zeroCode 100) = W := ⟨_, rfl⟩
  rw [hW] at hNW
  have z := hNW.size
  simp at z
  have hk1 : KRep g.sv (g.plus (w.heap.size + 3)).N W (.func (.func 124) #[] #[ptr (w.heap.size + 1), ptr (w.heap.size + 2)]) (.decide1 d th) :=
    ⟨_, _, rfl, ⟨bv, pv, blk_plus h (by omega) (by omega) (hNW.at_ 1 _ rfl)⟩, ⟨_, blk_plus h (by omega) (by omega) (hNW.at_ 2 _ rfl), krep_plus hf hNW.below (by omega)⟩⟩
  have hcall := read_any (g.plus (w.heap.size + 3)) W s t d.old (.decide1 d th) _ (arena_plus h hNW.below (by omega) (by omega)) hr hs hk1
  have HC := Lib.hid (with_world hW hcall)
  have HN := Lib.hid hNW
  have H := Lib.hid h
  have hmf : ∀ (fn : Fn) (first cap : Array Value) (w : World), (Instr.makeFunc fn first cap).run Tryz.prog w = .ok (.func fn first cap) w := fun _ _ _ _ => rfl
  have X1 := Lib.hid (hW ▸ hNW.at_ 1 _ rfl)
  have HZ := Lib.hid z
  clear h hf hNW hW hk1 hcall z
  unfold opCells Ghost.sv nodeCells
  go_enter Tryz.func96, Tryz.ntmps96
  go_wp2_with fail
  refine HC.out.mono ?_
  rintro e w2 ⟨cs, g', rfl, ha, hst, hcr⟩
  have X4 := Lib.hid (result_kept H.out (by omega) (HN.out.at_ 3 _ rfl) hst)
  have HO := Lib.hid (all_one hcr.one)
  have HL : cs.toArray.size = zeroCode.size := by rw [List.size_toArray, hcr.length]; rfl
  have HL' := Lib.hid HL
  have hi : (Tryz.prog.info? 100).map (·.size) = some cs.toArray.size := by rw [HL]; exact info_Code_size
  have HI := Lib.hid hi
  have HE := Lib.hid (handed H.out HN.out.below (by omega) (by rw [HZ.out]; omega) ha hst hcr)
  clear ha hst hcr HL hi
  go_wp2_with (refine wpList_store_row rfl 100 (.tmp 6) (.tmp 11) rfl (w.heap.size + 3) cs.toArray rfl rfl 100 zeroCode X4.out HI.out HL'.out.symm HO.out ?_)
  refine bodyPost_ret (v := .agg cs.toArray) (results_cell_row Tryz.results96 _ _ (w.heap.size + 3) 100 _ (0, 0) _ rfl (setRow_heap _ (w.heap.size + 3) _ _ _ _ X4.out) Tryz.underlying100 rfl HI.out) rfl ?_
  exact HE.out
end Go.Proofs.YtifehcegnofpkaaGreatDoor
