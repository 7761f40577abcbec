/- The frame of a function that returns a code: what it knows between two calls. -/
import Derived.Test.YtifehcegnofpkaaGreatDoorGcas4
import Derived.Shelf.Abstract
namespace Go.Proofs.YtifehcegnofpkaaGreatDoor
open Go.RowKit

/-- A state with room for n more nodes, cells, generations and accesses. -/
structure Fin (n : Nat) (s : Ct.St) : Prop where
  room : s.size + n ≤ 274877906944
  short : Ct.Short s
theorem Fin.Room {n : Nat} {s : Ct.St} (h : Fin n s) (hn : 100 ≤ n) : s.Room := by have := h.room; unfold Ct.St.Room; omega
theorem Fin.less {n m : Nat} {s : Ct.St} (h : Fin n s) (hm : m ≤ n) : Fin m s := ⟨by have := h.room; omega, h.short⟩
theorem Fin.alloc {n : Nat} {s s' : Ct.St} {nd : Ct.Node} {x r : Int} (h : Fin (n + 2) s) (l1 : nd.branches.length ≤ 1000000) (l2 : nd.pairs.length ≤ 1000000) (e : s.alloc nd x = (s', r)) : Fin n s' := by
  have hr := h.room
  have e1 : s' = (s.alloc nd x).1 := by rw [e]
  subst e1
  refine ⟨?_, fun m hm => ?_⟩
  · simp only [Ct.St.alloc, Ct.St.newCell, Ct.St.size] at hr ⊢
    split <;> simp only [List.length_append, List.length_singleton] <;> omega
  · have ha : ∀ (k : Ct.Node), k.branches = nd.branches → k.pairs = nd.pairs → k.branches.length ≤ 1000000 ∧ k.pairs.length ≤ 1000000 := fun k e1 e2 => by rw [e1, e2]; exact ⟨l1, l2⟩
    simp only [Ct.St.alloc, Ct.St.newCell] at hm
    split at hm <;>
    · simp only [List.mem_append, List.mem_singleton] at hm
      rcases hm with hm | hm
      · exact h.short m hm
      · subst hm
        refine ha _ ?_ ?_ <;> (repeat' split) <;> rfl
theorem Fin.newCell {n : Nat} {s s' : Ct.St} {x r : Int} (h : Fin (n + 1) s) (e : s.newCell x = (s', r)) : Fin n s' := by
  have hr := h.room
  have e1 : s' = (s.newCell x).1 := by rw [e]
  subst e1
  refine ⟨?_, h.short⟩
  simp only [Ct.St.newCell, Ct.St.size, List.length_append, List.length_singleton] at hr ⊢; omega
theorem Fin.newGen {n : Nat} {s s' : Ct.St} {r : Int} (h : Fin (n + 1) s) (e : s.newGen = (s', r)) : Fin n s' := by
  have hr := h.room
  have e1 : s' = s.newGen.1 := by rw [e]
  subst e1
  refine ⟨?_, h.short⟩
  simp only [Ct.St.newGen, Ct.St.size] at hr ⊢; omega

abbrev Fine (s : Ct.St) : Prop := Fin 1000 s

theorem Step.sv {g g' : Ghost} {w w' : World} (h : Step g w g' w') : g'.sv = g.sv := by unfold Ghost.sv; rw [h.a]

/-- What lies outside of the mutable blocks stays so. -/
structure Mv (g : Ghost) (w : World) (g' : Ghost) (w' : World) : Prop where
  ex : ∃ F : Nat → Prop, Keep F w w' ∧ ∀ k, F k → g.N k ∨ w.heap.size ≤ k
  new : ∀ k, g'.N k → g.N k ∨ w.heap.size ≤ k
theorem Mv.size {g g' : Ghost} {w w' : World} (h : Mv g w g' w') : w.heap.size ≤ w'.heap.size := by obtain ⟨⟨F, hk, _⟩, _⟩ := h; exact hk.size
theorem Mv.trans {g g1 g2 : Ghost} {w w1 w2 : World} (h : Mv g w g1 w1) (k : Mv g1 w1 g2 w2) : Mv g w g2 w2 := by
  obtain ⟨⟨F, hk, hF⟩, hn⟩ := h
  obtain ⟨⟨G, kk, kF⟩, kn⟩ := k
  refine ⟨⟨fun i => F i ∨ G i, (hk.mono (fun _ _ h => .inl h)).trans kk (fun i h => .inl (.inr h)), fun i hi => ?_⟩, fun i hi => ?_⟩
  · rcases hi with h1 | h1
    · exact hF i h1
    · rcases kF i h1 with h2 | h2
      · exact hn i h2
      · exact .inr (Nat.le_trans hk.size h2)
  · rcases kn i hi with h2 | h2
    · exact hn i h2
    · exact .inr (Nat.le_trans hk.size h2)
theorem Mv.below {g : Ghost} {w w' : World} (hb : Below w.heap.size w w') : Mv g w g w' := ⟨⟨fun _ => False, Keep.below hb _, fun _ h => h.elim⟩, fun _ h => .inl h⟩
theorem Mv.alloc (g : Ghost) (w : World) (o : Obj) : Mv g w g (w.alloc o) := Mv.below ((Below.refl _ _).alloc (Nat.le_refl _) o)
theorem Mv.plus {g : Ghost} {w W : World} {b : Nat} (hb : Below w.heap.size w W) (h1 : w.heap.size ≤ b) : Mv g w (g.plus b) W :=
  ⟨⟨fun _ => False, Keep.below hb _, fun _ h => h.elim⟩, fun k hk => hk.elim .inl (fun e => .inr (by omega))⟩
theorem Mv.step {g g' : Ghost} {w w' : World} {s : Ct.St} (ha : ArenaAt g w s) (h : Step g w g' w') : Mv g w g' w' := ⟨⟨g.Foot, h.keep, fun k hk => .inl (ha.foot k hk)⟩, h.new⟩
theorem Blk.mv {g g' : Ghost} {w w' : World} {b : Nat} {cs : Array Value} {t : TypeId} (h : Blk g.N w b cs t) (m : Mv g w g' w') : Blk g'.N w' b cs t := by
  obtain ⟨⟨F, hk, hF⟩, hn⟩ := m; exact h.keep hk hF hn
theorem DescBlk.mv {g g' : Ghost} {w w' : World} {b : Nat} {d : Ct.Node} (h : DescBlk g.N w b d) (m : Mv g w g' w') : DescBlk g'.N w' b d := by
  obtain ⟨⟨F, hk, hF⟩, hn⟩ := m; exact h.keep hk hF hn
theorem KRep.mv {sv : Value} {g g' : Ghost} {w w' : World} {k : Ct.K} {f : Value} (h : KRep sv g.N w f k) (m : Mv g w g' w') : KRep sv g'.N w' f k := by
  obtain ⟨⟨F, hk, hF⟩, hn⟩ := m; exact h.keep hk hF hn
theorem CodeRep.mv {sv : Value} {g g' : Ghost} {w w' : World} {cs : List Value} {c : Ct.Code} (h : CodeRep sv g.N w cs c) (m : Mv g w g' w') : CodeRep sv g'.N w' cs c := by
  obtain ⟨⟨F, hk, hF⟩, hn⟩ := m; exact h.keep hk hF hn
theorem RefsAt.mv {g g' : Ghost} {w w' : World} {v : Value} {xs : List Int} (h : RefsAt g.N w v xs) (m : Mv g w g' w') : RefsAt g'.N w' v xs := by
  obtain ⟨⟨F, hk, hF⟩, hn⟩ := m; exact h.keep hk hF hn
theorem PairsAt.mv {g g' : Ghost} {w w' : World} {v : Value} {xs : List Ct.Pair} (h : PairsAt g.N w v xs) (m : Mv g w g' w') : PairsAt g'.N w' v xs := by
  obtain ⟨⟨F, hk, hF⟩, hn⟩ := m; exact h.keep hk hF hn

/-- A cell of a block that is known, at once and behind new blocks. -/
theorem Blk.at0 {N : Nat → Prop} {w : World} {b : Nat} {cs : Array Value} {t : TypeId} (h : Blk N w b cs t) (i : Nat) (v : Value) (hv : cs[i]? = some v) : w.cell? ⟨b, i, none⟩ = some v := by rw [h.cell i, hv]
theorem Blk.at1 {N : Nat → Prop} {w : World} {b : Nat} {cs : Array Value} {t : TypeId} (h : Blk N w b cs t) (i : Nat) (v : Value) (hv : cs[i]? = some v) : ∀ o, (w.alloc o).cell? ⟨b, i, none⟩ = some v := fun o => by
  rw [World.cell?_alloc_past _ _ _ h.lt, h.cell i, hv]
theorem Blk.at2 {N : Nat → Prop} {w : World} {b : Nat} {cs : Array Value} {t : TypeId} (h : Blk N w b cs t) (i : Nat) (v : Value) (hv : cs[i]? = some v) : ∀ o o', ((w.alloc o).alloc o').cell? ⟨b, i, none⟩ = some v := fun o o' => by
  rw [World.cell?_alloc_past _ _ _ (by have := h.lt; simp; omega)]; exact h.at1 i v hv o
theorem Blk.at3 {N : Nat → Prop} {w : World} {b : Nat} {cs : Array Value} {t : TypeId} (h : Blk N w b cs t) (i : Nat) (v : Value) (hv : cs[i]? = some v) : ∀ o o' o'', (((w.alloc o).alloc o').alloc o'').cell? ⟨b, i, none⟩ = some v := fun o o' o'' => by
  rw [World.cell?_alloc_past _ _ _ (by have := h.lt; simp; omega)]; exact h.at2 i v hv o o'
theorem Blk.at4 {N : Nat → Prop} {w : World} {b : Nat} {cs : Array Value} {t : TypeId} (h : Blk N w b cs t) (i : Nat) (v : Value) (hv : cs[i]? = some v) : ∀ o o' o'' o3, ((((w.alloc o).alloc o').alloc o'').alloc o3).cell? ⟨b, i, none⟩ = some v := fun o o' o'' o3 => by
  rw [World.cell?_alloc_past _ _ _ (by have := h.lt; simp; omega)]; exact h.at3 i v hv o o' o''

/-- A function began at w with the arena's ghost g; its result's block is b; now the world is W, the ghost h, the state s. -/
structure Run (g : Ghost) (w : World) (b : Nat) (h : Ghost) (W : World) (s : Ct.St) : Prop where
  arena : ArenaAt h W s
  step : Step g w h W
  low : w.heap.size ≤ b
  inN : h.N b
  out : ¬ h.Foot b
  res : W.heap[b]? = some (.cells zeroCode 100)
  top : ∀ k, g.N k → k < w.heap.size

theorem Run.start {g : Ghost} {w W : World} {s : Ct.St} {os : List Obj} (ha : ArenaAt g w s) (hn : News w W os) {b : Nat} (j : Nat) (hb : b = w.heap.size + j) (hj : os[j]? = some (.cells zeroCode 100)) : Run g w b (g.plus b) W s := by
  subst hb
  have hr := hn.at_ j _ hj
  have hlt := (Array.getElem?_eq_some_iff.1 hr).1
  refine ⟨arena_plus ha hn.below (by omega) hlt, ⟨rfl, Keep.below hn.below _, fun k hk => hk.elim .inl (fun e => .inr (by omega)), fun _ h => .inl h, fun k hk => .inl hk⟩, by omega, .inr rfl, fun hf => ?_, hr, ha.nlt⟩
  exact absurd (ha.nlt _ (ha.foot _ hf)) (by omega)
theorem Run.below {g : Ghost} {w : World} {b : Nat} {h : Ghost} {W W' : World} {s : Ct.St} (R : Run g w b h W s) (hb : Below W.heap.size W W') : Run g w b h W' s :=
  ⟨R.arena.below hb, R.step.trans (Step.below hb), R.low, R.inN, R.out, seen_below R.res hb, R.top⟩
theorem Run.alloc {g : Ghost} {w : World} {b : Nat} {h : Ghost} {W : World} {s : Ct.St} (R : Run g w b h W s) (o : Obj) : Run g w b h (W.alloc o) s := R.below ((Below.refl _ _).alloc (Nat.le_refl _) o)
theorem Run.next {g : Ghost} {w : World} {b : Nat} {h h' : Ghost} {W W' : World} {s s' : Ct.St} (R : Run g w b h W s) (ha : ArenaAt h' W' s') (hs : Step h W h' W') : Run g w b h' W' s' := by
  have hlt := (Array.getElem?_eq_some_iff.1 R.res).1
  refine ⟨ha, R.step.trans hs, R.low, hs.old _ R.inN, fun hf => ?_, ?_, R.top⟩
  · rcases hs.foot _ hf with h1 | h1
    · exact R.out h1
    · omega
  · rw [hs.keep.block b hlt R.out]; exact R.res
theorem Run.sv {g : Ghost} {w : World} {b : Nat} {h : Ghost} {W : World} {s : Ct.St} (R : Run g w b h W s) : h.sv = g.sv := R.step.sv
theorem Run.blk {g : Ghost} {w : World} {b : Nat} {h : Ghost} {W : World} {s : Ct.St} (R : Run g w b h W s) (cs : Array Value) (t : TypeId) : Blk h.N (W.alloc (.cells cs t)) W.heap.size cs t :=
  ⟨fun hn => absurd (R.arena.nlt _ hn) (by omega), heap_alloc_at W _⟩

/-- The end: the code goes into the result's block. -/
theorem Run.ret {g : Ghost} {w : World} {b : Nat} {h : Ghost} {W : World} {s : Ct.St} {cs : List Value} {c : Ct.Code} (R : Run g w b h W s) (hc : CodeRep g.sv h.N W cs c) : RetCode g w (c, s) (.returned (.agg cs.toArray)) (W.setRow b cs.toArray) := by
  have k1 : Keep (fun k => k = b) W (W.setRow b cs.toArray) := Keep.setRow W b _ rfl
  refine ⟨cs, h, rfl, ?_, ⟨R.step.a, R.step.keep.trans k1 (fun k hk => .inr (by have := R.low; omega)), R.step.new, R.step.old, R.step.foot⟩, ?_⟩
  · exact R.arena.keep k1 (N' := h.N) (fun k hk hF => R.out (hk ▸ hF)) (fun k hk => .inl (hk ▸ R.inN)) (fun _ h => .inl h) (fun _ h => h) (fun k hk => Nat.lt_of_lt_of_le (R.arena.nlt k hk) k1.size)
  · exact hc.keep k1 (fun k hk => .inl (hk ▸ R.inN)) (fun _ h => .inl h)

/-- What is known of a code behind a call. -/
structure Coded (g : Ghost) (w : World) (b : Nat) (h : Ghost) (W : World) (s : Ct.St) (cs : List Value) (c : Ct.Code) : Prop where
  run : Run g w b h W s
  code : CodeRep g.sv h.N W cs c
theorem Coded.res {g : Ghost} {w : World} {b : Nat} {h : Ghost} {W : World} {s : Ct.St} {cs : List Value} {c : Ct.Code} (R : Coded g w b h W s cs c) : W.heap[b]? = some (.cells zeroCode 100) := R.run.res
theorem Coded.one {g : Ghost} {w : World} {b : Nat} {h : Ghost} {W : World} {s : Ct.St} {cs : List Value} {c : Ct.Code} (R : Coded g w b h W s cs c) : cs.toArray.all (·.oneCell') = true := all_one R.code.one
theorem Coded.len {g : Ghost} {w : World} {b : Nat} {h : Ghost} {W : World} {s : Ct.St} {cs : List Value} {c : Ct.Code} (R : Coded g w b h W s cs c) : cs.toArray.size = zeroCode.size := by rw [List.size_toArray, R.code.length]; rfl
theorem Coded.info {g : Ghost} {w : World} {b : Nat} {h : Ghost} {W : World} {s : Ct.St} {cs : List Value} {c : Ct.Code} (R : Coded g w b h W s cs c) : (Tryz.prog.info? 100).map (·.size) = some cs.toArray.size := by rw [R.len]; exact info_Code_size
theorem Coded.ret {g : Ghost} {w : World} {b : Nat} {h : Ghost} {W : World} {s : Ct.St} {cs : List Value} {c : Ct.Code} (R : Coded g w b h W s cs c) : RetCode g w (c, s) (.returned (.agg cs.toArray)) (W.setRow b cs.toArray) := R.run.ret R.code

/-- Behind a call that returns a code. -/
theorem Run.code {g : Ghost} {w : World} {b : Nat} {h : Ghost} {W : World} {s : Ct.St} {c : Ct.Code × Ct.St} {e : Ending} {w' : World} (R : Run g w b h W s) (hc : RetCode h W c e w') : ∃ cs h', e = .returned (.agg cs.toArray) ∧ Coded g w b h' w' c.2 cs c.1 := by
  obtain ⟨cs, g', e1, e2, e3, e4⟩ := hc
  exact ⟨cs, g', e1, R.next e2 e3, by rw [← R.sv]; exact e4⟩
/-- Behind task.Load, CAS, Done. -/
theorem Run.made {g : Ghost} {w : World} {b : Nat} {h : Ghost} {W : World} {s : Ct.St} {cs : List Value} {c : Ct.Code} {e : Ending} {w' : World} (R : Run g w b h W s) (hk : CodeRep g.sv h.N W cs c) (hc : RetCells W cs e w') : e = .returned (.agg cs.toArray) ∧ Coded g w b h w' s cs c :=
  ⟨hc.1, R.below hc.2, hk.mv (Mv.below hc.2)⟩

theorem Run.made3 {g : Ghost} {w : World} {b : Nat} {h : Ghost} {W : World} {s : Ct.St} {cs : List Value} {c : Ct.Code} {e : Ending} {w' : World} (R : Run g w b h W s) (hk : CodeRep g.sv h.N W cs c) (hc : RetCells W cs e w') : ∃ cs', e = .returned (.agg cs'.toArray) ∧ Coded g w b h w' s cs' c ∧ Mv h W h w' :=
  ⟨cs, (R.made hk hc).1, (R.made hk hc).2, Mv.below hc.2⟩
theorem Run.code2 {g : Ghost} {w : World} {b : Nat} {h : Ghost} {W : World} {s : Ct.St} {c : Ct.Code × Ct.St} {e : Ending} {w' : World} (R : Run g w b h W s) (hc : RetCode h W c e w') : ∃ cs h', e = .returned (.agg cs.toArray) ∧ Coded g w b h' w' c.2 cs c.1 ∧ Mv h W h' w' := by
  obtain ⟨cs, g', e1, e2, e3, e4⟩ := hc
  exact ⟨cs, g', e1, ⟨R.next e2 e3, by rw [← R.sv]; exact e4⟩, Mv.step R.arena e3⟩
theorem Coded.cell {g : Ghost} {w : World} {b : Nat} {h : Ghost} {W : World} {s : Ct.St} {cs : List Value} {c : Ct.Code} {k : Nat} {xs : Array Value} {t : TypeId} (C : Coded g w b h W s cs c) (B : Blk h.N W k xs t) (i : Nat) (v : Value) (hv : xs[i]? = some v) : (W.setRow b cs.toArray).cell? ⟨k, i, none⟩ = some v := by
  rw [cell_at (seen_setRow B.2 (fun e => B.1 (e ▸ C.run.inN))) i, hv]

/-- Store.Node. -/
def NodeRes (g : Ghost) (w : World) (b : Nat) (h : Ghost) (W : World) (s : Ct.St) (r : Int) (e : Ending) (w' : World) : Prop :=
  ∃ nd bv pv, e = .returned (.agg (nodeCells nd bv pv).toArray) ∧ Hid (s.node r = nd) ∧ Run g w b h w' s ∧ Mv h W h w' ∧ RefsAt h.N w' bv nd.branches ∧ PairsAt h.N w' pv nd.pairs
theorem Run.node {g : Ghost} {w : World} {b : Nat} {h : Ghost} {W : World} {s : Ct.St} {n : Nat} (R : Run g w b h W s) (hf : Fin n s) (hn : 100 ≤ n) (r : Int) :
    Calls Tryz.prog 266 #[.pointer (some ⟨g.a, 0, none⟩), .int .i64 r] W (NodeRes g w b h W s r) := by
  have hc := node_any h W s r R.arena (hf.Room hn) hf.short
  rw [R.step.a] at hc
  refine hc.mono ?_
  rintro e w' ⟨cs, rfl, ⟨bv, pv, rfl, h1, h2⟩, hb⟩
  exact ⟨_, bv, pv, rfl, Lib.hid rfl, R.below hb, Mv.below hb, h1.avoid (fun k _ hk => R.arena.nlt k hk), h2.avoid (fun k _ hk => R.arena.nlt k hk)⟩

/-- A call that returns a number and changes the arena. -/
def IntRes (g : Ghost) (w : World) (b : Nat) (h : Ghost) (W : World) (c : Ct.St × Int) (e : Ending) (w' : World) : Prop :=
  ∃ vn vc N s' r, e = .returned (.int .i64 r) ∧ Hid (c = (s', r)) ∧ Run g w b ⟨g.a, vn, vc, N⟩ w' s' ∧ Mv h W ⟨g.a, vn, vc, N⟩ w'
theorem Run.does {g : Ghost} {w : World} {b : Nat} {h : Ghost} {W : World} {s : Ct.St} {c : Ct.St × Int} {e : Ending} {w' : World} (R : Run g w b h W s) (hd : Does h W (.int .i64 c.2) c.1 e w') : IntRes g w b h W c e w' := by
  obtain ⟨rfl, ⟨a', vn, vc, N⟩, ha, hs⟩ := hd
  have hA : a' = g.a := hs.a.trans R.step.a
  subst hA
  exact ⟨vn, vc, N, c.1, c.2, rfl, Lib.hid rfl, R.next ha hs, Mv.step R.arena hs⟩
theorem Run.allocN {g : Ghost} {w : World} {b : Nat} {h : Ghost} {W : World} {s : Ct.St} {n : Nat} (R : Run g w b h W s) (hf : Fin n s) (hn : 100 ≤ n) (nd : Ct.Node) (bv pv : Value) (x : Int) (h1 : RefsAt h.N W bv nd.branches) (h2 : PairsAt h.N W pv nd.pairs) (l1 : nd.branches.length ≤ 1000000) (l2 : nd.pairs.length ≤ 1000000) :
    Calls Tryz.prog 261 #[.pointer (some ⟨g.a, 0, none⟩), .agg (nodeCells nd bv pv).toArray, .int .i64 x] W (IntRes g w b h W (s.alloc nd x)) := by
  have hc := alloc_any h W s nd bv pv x R.arena (hf.Room hn) h1 h2 l1 l2
  rw [R.step.a] at hc
  exact hc.mono fun e w' hd => R.does hd
theorem Run.newCell {g : Ghost} {w : World} {b : Nat} {h : Ghost} {W : World} {s : Ct.St} {n : Nat} (R : Run g w b h W s) (hf : Fin n s) (hn : 100 ≤ n) (x : Int) :
    Calls Tryz.prog 264 #[.pointer (some ⟨g.a, 0, none⟩), .int .i64 x] W (IntRes g w b h W (s.newCell x)) := by
  have hc := newCell_any h W s x R.arena (hf.Room hn)
  rw [R.step.a] at hc
  exact hc.mono fun e w' hd => R.does hd
theorem Run.newGen {g : Ghost} {w : World} {b : Nat} {h : Ghost} {W : World} {s : Ct.St} {n : Nat} (R : Run g w b h W s) (hf : Fin n s) (hn : 100 ≤ n) :
    Calls Tryz.prog 265 #[.pointer (some ⟨g.a, 0, none⟩)] W (IntRes g w b h W s.newGen) := by
  have hc := newGen_any h W s R.arena (hf.Room hn)
  rw [R.step.a] at hc
  exact hc.mono fun e w' hd => R.does hd

/-- A call of the function enters its body. -/
def Ent (n : FuncId) : Prop := ∀ (args : Array Value) (w : World), (callFunc n args).run Tryz.prog w = .ok (.enter n args) w
/-- The closure k, called with a Ref. -/
def CallRef (k : Ct.K) : Prop := ∀ (g : Ghost) (w : World) (s : Ct.St) (n : FuncId) (caps : Array Value) (x : Int), ArenaAt g w s → Fin (1000 * k.rank) s → KRep g.sv g.N w (.func (.func n) #[] caps) k →
  Calls Tryz.prog n (#[.int .i64 x] ++ caps) w (RetCode g w (Ct.apply Ct.stOps k x s))
/-- .. with a bool. -/
def CallBool (k : Ct.K) : Prop := ∀ (g : Ghost) (w : World) (s : Ct.St) (n : FuncId) (caps : Array Value) (x : Bool), ArenaAt g w s → Fin (1000 * k.rank) s → KRep g.sv g.N w (.func (.func n) #[] caps) k →
  Calls Tryz.prog n (#[.bool x] ++ caps) w (RetCode g w (Ct.apply Ct.stOps k (Ct.ofBool x) s))
/-- .. without an argument. -/
def CallThunk (k : Ct.K) : Prop := ∀ (g : Ghost) (w : World) (s : Ct.St) (n : FuncId) (caps : Array Value), ArenaAt g w s → Fin (1000 * k.rank) s → KRep g.sv g.N w (.func (.func n) #[] caps) k →
  Calls Tryz.prog n caps w (RetCode g w (Ct.apply Ct.stOps k 0 s))
/-- .. with two Refs. -/
def CallRef2 (k : Ct.K) : Prop := ∀ (g : Ghost) (w : World) (s : Ct.St) (n : FuncId) (caps : Array Value) (x y : Int), ArenaAt g w s → Fin 500 s → KRep g.sv g.N w (.func (.func n) #[] caps) k →
  Calls Tryz.prog n (#[.int .i64 x, .int .i64 y] ++ caps) w (RetCode g w (Ct.apply2 Ct.stOps k x y s))
end Go.Proofs.YtifehcegnofpkaaGreatDoor
