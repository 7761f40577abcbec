/- How the plain model's data lie in memory: lists, nodes, the arena; what a call may change. -/
import Derived.Test.YtifehcegnofpkaaGreatDoorProg
import Derived.Test.YtifehcegnofpkaaGreatDoorCt
import Derived.WalkKit
import Derived.IntWalk
import Derived.WalkSpells
import Derived.WalkLawsBesides
import Derived.OwnWalk
import Derived.Lib.Hide
namespace Go.Proofs.YtifehcegnofpkaaGreatDoor
open Go.RowKit

/-- Outside of the blocks F nothing that was there has changed. -/
structure Keep (F : Nat → Prop) (w w' : World) : Prop where
  os : w'.os = w.os
  tape : w'.tape = w.tape
  output : w'.output = w.output
  size : w.heap.size ≤ w'.heap.size
  block : ∀ k, k < w.heap.size → ¬ F k → w'.heap[k]? = w.heap[k]?

theorem Keep.refl (F : Nat → Prop) (w : World) : Keep F w w := ⟨rfl, rfl, rfl, Nat.le_refl _, fun _ _ _ => rfl⟩
theorem Keep.trans {F G : Nat → Prop} {a b c : World} (h : Keep F a b) (k : Keep G b c) (hG : ∀ i, G i → F i ∨ a.heap.size ≤ i) : Keep F a c :=
  ⟨k.os.trans h.os, k.tape.trans h.tape, k.output.trans h.output, Nat.le_trans h.size k.size, fun i hi hn =>
    (k.block i (Nat.lt_of_lt_of_le hi h.size) (fun hg => by rcases hG i hg with h1 | h1; exact hn h1; omega)).trans (h.block i hi hn)⟩
theorem Keep.mono {F G : Nat → Prop} {w w' : World} (h : Keep F w w') (hG : ∀ k, k < w.heap.size → F k → G k) : Keep G w w' :=
  ⟨h.os, h.tape, h.output, h.size, fun k hk hn => h.block k hk (fun hf => hn (hG k hk hf))⟩
theorem Keep.below {w w' : World} (h : Below w.heap.size w w') (F : Nat → Prop) : Keep F w w' := ⟨h.os, h.tape, h.output, h.size, fun k hk _ => h.block k hk⟩
theorem Keep.toBelow {F : Nat → Prop} {w w' : World} (h : Keep F w w') (B : Nat) (hB : B ≤ w.heap.size) (hF : ∀ k, F k → B ≤ k) : Below B w w' :=
  ⟨h.os, h.tape, h.output, h.size, fun k hk => h.block k (by omega) (fun hf => by have := hF k hf; omega)⟩
theorem Keep.alloc (F : Nat → Prop) (w : World) (o : Obj) : Keep F w (w.alloc o) := Keep.below ((Below.refl _ _).alloc (Nat.le_refl _) o) F
theorem Keep.drew {F : Nat → Prop} {a w : World} (h : Keep F a w) : Keep F a w.drew := ⟨h.os, h.tape, h.output, h.size, h.block⟩
theorem Keep.drewN {F : Nat → Prop} {a w : World} (h : Keep F a w) (n : Nat) : Keep F a (w.drewN n) := ⟨h.os, h.tape, h.output, h.size, h.block⟩
theorem Keep.setCell {F : Nat → Prop} (w : World) (p : Addr) (v : Value) (hp : F p.block) : Keep F w (w.setCell p v) :=
  ⟨rfl, rfl, rfl, by simp [World.setCell], fun k _ hn => Below.heap_setCell _ _ _ _ (fun e => hn (e ▸ hp))⟩
theorem Keep.cell {F : Nat → Prop} {w w' : World} (h : Keep F w w') {a : Addr} {v : Value} (hc : w.cell? a = some v) (hF : ¬ F a.block) : w'.cell? a = some v :=
  (World.cell?_of_block (h.block a.block (World.block_lt_of_cell? _ _ hc) hF)).trans hc

/-- A block that is not among N holds just these cells. -/
def Blk (N : Nat → Prop) (w : World) (b : Nat) (cs : Array Value) (t : TypeId) : Prop := ¬ N b ∧ w.heap[b]? = some (.cells cs t (0, 0))
theorem Blk.lt {N : Nat → Prop} {w : World} {b : Nat} {cs : Array Value} {t : TypeId} (h : Blk N w b cs t) : b < w.heap.size := (Array.getElem?_eq_some_iff.1 h.2).1
theorem Blk.keep {N N' F : Nat → Prop} {w w' : World} {b : Nat} {cs : Array Value} {t : TypeId} (h : Blk N w b cs t) (hk : Keep F w w') (hF : ∀ k, F k → N k ∨ w.heap.size ≤ k) (hN : ∀ k, N' k → N k ∨ w.heap.size ≤ k) : Blk N' w' b cs t := by
  have hb := h.lt
  refine ⟨fun hn => ?_, ?_⟩
  · rcases hN b hn with h1 | h1
    · exact h.1 h1
    · omega
  · rw [hk.block b hb (fun hf => by rcases hF b hf with h1 | h1; exact h.1 h1; omega)]
    exact h.2
theorem Blk.cell {N : Nat → Prop} {w : World} {b : Nat} {cs : Array Value} {t : TypeId} (h : Blk N w b cs t) (i : Nat) : w.cell? ⟨b, i, none⟩ = cs[i]? := by
  simp [World.cell?, h.2]
theorem Blk.free {N : Nat → Prop} {w : World} {b : Nat} {cs : Array Value} {t : TypeId} (h : Blk N w b cs t) (i : Nat) : w.frozen? ⟨b, i, none⟩ = false := by
  simp [World.frozen?, h.2]

/-- A slice of numbers of kind int (Refs among them), in memory that is not among N. -/
def RefsAt (N : Nat → Prop) (w : World) (v : Value) (xs : List Int) : Prop :=
  (v = .slice none 0 0 ∧ xs = []) ∨
  ∃ b off cap, v = .slice (some ⟨b, off, none⟩) xs.length cap ∧ ¬ N b ∧ b < w.heap.size ∧ xs.length ≤ cap ∧ cap ≤ maxLen ∧ ∀ j, j < xs.length → w.cell? ⟨b, off + j, none⟩ = some (.int .i64 (xs.getD j 0))

/-- A slice of pairs. -/
def PairsAt (N : Nat → Prop) (w : World) (v : Value) (xs : List Ct.Pair) : Prop :=
  (v = .slice none 0 0 ∧ xs = []) ∨
  ∃ b off cap, v = .slice (some ⟨b, off, none⟩) xs.length cap ∧ ¬ N b ∧ b < w.heap.size ∧ xs.length ≤ cap ∧ cap ≤ maxLen ∧
    ∀ j, j < xs.length → w.cell? ⟨b, off + 2 * j, none⟩ = some (.string (xs.getD j ⟨.empty, 0⟩).key) ∧ w.cell? ⟨b, off + 2 * j + 1, none⟩ = some (.int .u64 ((xs.getD j ⟨.empty, 0⟩).value : Nat))

theorem RefsAt.keep {N N' F : Nat → Prop} {w w' : World} {v : Value} {xs : List Int} (h : RefsAt N w v xs) (hk : Keep F w w') (hF : ∀ k, F k → N k ∨ w.heap.size ≤ k) (hN : ∀ k, N' k → N k ∨ w.heap.size ≤ k) : RefsAt N' w' v xs := by
  rcases h with h | ⟨b, off, cap, hv, hb, hl, hc, hm, hcell⟩
  · exact .inl h
  · refine .inr ⟨b, off, cap, hv, fun hn => ?_, Nat.lt_of_lt_of_le hl hk.size, hc, hm, fun j hj => ?_⟩
    · rcases hN b hn with h1 | h1
      · exact hb h1
      · omega
    · exact hk.cell (hcell j hj) (fun hf => by rcases hF b hf with h1 | h1; exact hb h1; exact absurd hl (by omega))
theorem PairsAt.keep {N N' F : Nat → Prop} {w w' : World} {v : Value} {xs : List Ct.Pair} (h : PairsAt N w v xs) (hk : Keep F w w') (hF : ∀ k, F k → N k ∨ w.heap.size ≤ k) (hN : ∀ k, N' k → N k ∨ w.heap.size ≤ k) : PairsAt N' w' v xs := by
  rcases h with h | ⟨b, off, cap, hv, hb, hl, hc, hm, hcell⟩
  · exact .inl h
  · refine .inr ⟨b, off, cap, hv, fun hn => ?_, Nat.lt_of_lt_of_le hl hk.size, hc, hm, fun j hj => ?_⟩
    · rcases hN b hn with h1 | h1
      · exact hb h1
      · omega
    · have hnf : ¬ F b := fun hf => by rcases hF b hf with h1 | h1; exact hb h1; exact absurd hl (by omega)
      exact ⟨hk.cell (hcell j hj).1 hnf, hk.cell (hcell j hj).2 hnf⟩

/-- The fourteen cells of a node. -/
def nodeCells (n : Ct.Node) (bv pv : Value) : List Value :=
  [.int .i64 n.kind, .int .i64 n.gen, .int .i64 n.main, .int .u64 (n.bitmap : Nat), bv, .int .u64 (n.hash : Nat), .string n.key, .int .u64 (n.value : Nat), pv,
    .int .i64 n.prev, .int .i64 n.old, .int .i64 n.expected, .int .i64 n.new, .int .i64 n.status]

/-- Cells that hold a node. -/
def NodeAt (N : Nat → Prop) (w : World) (cs : List Value) (n : Ct.Node) : Prop :=
  ∃ bv pv, cs = nodeCells n bv pv ∧ RefsAt N w bv n.branches ∧ PairsAt N w pv n.pairs
theorem NodeAt.keep {N N' F : Nat → Prop} {w w' : World} {cs : List Value} {n : Ct.Node} (h : NodeAt N w cs n) (hk : Keep F w w') (hF : ∀ k, F k → N k ∨ w.heap.size ≤ k) (hN : ∀ k, N' k → N k ∨ w.heap.size ≤ k) : NodeAt N' w' cs n := by
  obtain ⟨bv, pv, e, h1, h2⟩ := h
  exact ⟨bv, pv, e, h1.keep hk hF hN, h2.keep hk hF hN⟩
theorem NodeAt.length {N : Nat → Prop} {w : World} {cs : List Value} {n : Ct.Node} (h : NodeAt N w cs n) : cs.length = 14 := by
  obtain ⟨bv, pv, rfl, _, _⟩ := h; rfl

/-- A row of cells that holds nodes, fourteen cells each. -/
def NodesAt (N : Nat → Prop) (w : World) (xs : List Value) (l : List Ct.Node) : Prop :=
  ∃ rows : List (List Value), xs = rows.flatten ∧ rows.length = l.length ∧ ∀ i (h : i < rows.length) (h' : i < l.length), NodeAt N w rows[i] l[i]

theorem NodesAt.keep {N N' F : Nat → Prop} {w w' : World} {xs : List Value} {l : List Ct.Node} (h : NodesAt N w xs l) (hk : Keep F w w') (hF : ∀ k, F k → N k ∨ w.heap.size ≤ k) (hN : ∀ k, N' k → N k ∨ w.heap.size ≤ k) : NodesAt N' w' xs l := by
  obtain ⟨rows, e, hl, hr⟩ := h
  exact ⟨rows, e, hl, fun i h1 h2 => (hr i h1 h2).keep hk hF hN⟩

/-- What lies where: the arena's block, its two lists, and all blocks that may change. -/
structure Ghost where
  a : Nat
  vn : Value
  vc : Value
  N : Nat → Prop

/-- The arena's own blocks. -/
def Ghost.Foot (g : Ghost) (k : Nat) : Prop := k = g.a ∨ g.vn.ownBlock = some k ∨ g.vc.ownBlock = some k

/-- The arena at a state. -/
structure ArenaAt (g : Ghost) (w : World) (s : Ct.St) : Prop where
  block : w.heap[g.a]? = some (.cells #[g.vn, g.vc, .int .i64 (s.gen : Nat), .int .i64 (s.acc : Nat)] 86 (0, 0))
  nodes : ∃ xs, w.ownsRow 0 131 14 g.vn s.added.length xs ∧ NodesAt g.N w xs s.added
  cells : w.ownsRow 0 46 1 g.vc s.cells.length (s.cells.map (Value.int .i64))
  foot : ∀ k, g.Foot k → g.N k
  an : g.vn.ownBlock ≠ some g.a
  ac : g.vc.ownBlock ≠ some g.a
  nc : ∀ k, g.vn.ownBlock = some k → g.vc.ownBlock ≠ some k
  nlt : ∀ k, g.N k → k < w.heap.size

/-- One step: the arena's own blocks may have changed, new blocks may have come. -/
structure Step (g : Ghost) (w : World) (g' : Ghost) (w' : World) : Prop where
  a : g'.a = g.a
  keep : Keep g.Foot w w'
  new : ∀ k, g'.N k → g.N k ∨ w.heap.size ≤ k
  old : ∀ k, g.N k → g'.N k
  foot : ∀ k, g'.Foot k → g.Foot k ∨ w.heap.size ≤ k

theorem Step.refl (g : Ghost) (w : World) : Step g w g w := ⟨rfl, Keep.refl _ _, fun _ h => .inl h, fun _ h => h, fun _ h => .inl h⟩
theorem Step.trans {g g1 g2 : Ghost} {w w1 w2 : World} (h : Step g w g1 w1) (k : Step g1 w1 g2 w2) : Step g w g2 w2 := by
  refine ⟨k.a.trans h.a, h.keep.trans k.keep h.foot, fun i hi => ?_, fun i hi => k.old i (h.old i hi), fun i hi => ?_⟩
  · rcases k.new i hi with h1 | h1
    · exact h.new i h1
    · exact .inr (Nat.le_trans h.keep.size h1)
  · rcases k.foot i hi with h1 | h1
    · exact h.foot i h1
    · exact .inr (Nat.le_trans h.keep.size h1)
theorem Step.below {g : Ghost} {w w' : World} (h : Below w.heap.size w w') : Step g w g w' := ⟨rfl, Keep.below h _, fun _ h => .inl h, fun _ h => h, fun _ h => .inl h⟩

theorem ownsRow_keep {F : Nat → Prop} {w w' : World} {base : Nat} {e : TypeId} {size : Nat} {v : Value} {n : Nat} {xs : List Value} (h : w.ownsRow base e size v n xs) (hk : Keep F w w') (hF : ∀ k, v.ownBlock = some k → ¬ F k) : w'.ownsRow base e size v n xs := by
  refine ⟨h.1, ?_⟩
  rcases h.2 with hn | ⟨g, cap, cur, rfl, hb, hgg, rest⟩
  · exact .inl hn
  · refine .inr ⟨g, cap, cur, rfl, hb, ?_, rest⟩
    rw [hk.block g (Array.getElem?_eq_some_iff.1 hgg).1 (hF g rfl)]
    exact hgg

/-- What changes none of the arena's own blocks leaves the arena as it was. -/
theorem ArenaAt.keep {g : Ghost} {w w' : World} {s : Ct.St} {F N' : Nat → Prop} (h : ArenaAt g w s) (hk : Keep F w w') (hd : ∀ k, F k → ¬ g.Foot k) (hF : ∀ k, F k → g.N k ∨ w.heap.size ≤ k)
    (hN : ∀ k, N' k → g.N k ∨ w.heap.size ≤ k) (hO : ∀ k, g.N k → N' k) (hL : ∀ k, N' k → k < w'.heap.size) : ArenaAt { g with N := N' } w' s := by
  have hlt := (Array.getElem?_eq_some_iff.1 h.block).1
  obtain ⟨xs, h1, h2⟩ := h.nodes
  refine ⟨?_, ⟨xs, ownsRow_keep h1 hk (fun k hv hf => hd k hf (.inr (.inl hv))), h2.keep hk hF hN⟩, ownsRow_keep h.cells hk (fun k hv hf => hd k hf (.inr (.inr hv))), fun k hf => hO k (h.foot k hf), h.an, h.ac, h.nc, hL⟩
  rw [hk.block g.a hlt (fun hf => hd g.a hf (.inl rfl))]
  exact h.block
theorem ArenaAt.below {g : Ghost} {w w' : World} {s : Ct.St} (h : ArenaAt g w s) (hb : Below w.heap.size w w') : ArenaAt g w' s :=
  h.keep (Keep.below hb (fun _ => False)) (fun _ h => h.elim) (fun _ h => h.elim) (fun _ h => .inl h) (fun _ h => h) (fun k hk => Nat.lt_of_lt_of_le (h.nlt k hk) hb.size)
end Go.Proofs.YtifehcegnofpkaaGreatDoor
