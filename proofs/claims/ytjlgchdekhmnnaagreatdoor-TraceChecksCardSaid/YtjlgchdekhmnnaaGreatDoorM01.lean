/- Parts of a proof: Rep, Arena, Arena2, Arena3. -/
import Derived.Test.YtjlgchdekhmnnaaGreatDoorProg
import Derived.Test.YtjlgchdekhmnnaaGreatDoorM00
import Derived.WalkKit
import Derived.IntWalk
import Derived.WalkSpells
import Derived.WalkLawsBesides
import Derived.OwnWalk
import Derived.Lib.Hide
import Derived.Maps.AppendAt
section
namespace Go.Proofs.YtjlgchdekhmnnaaGreatDoor
open Go.RowKit
theorem sI {α : Type} (l : List α) (i : Nat) (a : α) : l.toArray.setIfInBounds i a = (l.set i a).toArray := List.setIfInBounds_toArray l i a
theorem sZ {α : Type} {x a : α} {l : List α} : (x :: l).set 0 a = a :: l := List.set_cons_zero
theorem sS {α : Type} {x a : α} {l : List α} {n : Nat} : (x :: l).set (n + 1) a = x :: l.set n a := List.set_cons_succ
theorem hmfG : ∀ (fn : Fn) (first cap : Array Value) (w : World), (Instr.makeFunc fn first cap).run Tryz.prog w = .ok (.func fn first cap) w := fun _ _ _ _ => rfl
structure Keep (F : Nat → Prop) (w w' : World) : Prop where
  os : w'.os = w.os
  tape : w'.tape = w.tape
  output : w'.output = w.output
  size : w.heap.size ≤ w'.heap.size
  block : ∀ k, k < w.heap.size → ¬ F k → w'.heap[k]? = w.heap[k]?
theorem Keep.refl (F : Nat → Prop) (w : World) : Keep F w w := ⟨rfl, rfl, rfl, Nat.le_refl _, fun _ _ _ => rfl⟩
theorem Keep.trans {F G : Nat → Prop} {a b c : World} (h : Keep F a b) (k : Keep G b c) (hG : ∀ i, G i → F i ∨ a.heap.size ≤ i) : Keep F a c :=
  ⟨k.os.trans h.os, k.tape.trans h.tape, k.output.trans h.output, Nat.le_trans h.size k.size, fun i hi hn =>
    (k.block i (Nat.lt_of_lt_of_le hi h.size) (fun hg => by rcases hG i hg with h1 | h1; exact hn h1; omega)).trans (h.block i hi hn)⟩
theorem Keep.mono {F G : Nat → Prop} {w w' : World} (h : Keep F w w') (hG : ∀ k, k < w.heap.size → F k → G k) : Keep G w w' :=
  ⟨h.os, h.tape, h.output, h.size, fun k hk hn => h.block k hk (fun hf => hn (hG k hk hf))⟩
theorem Keep.below {w w' : World} (h : Below w.heap.size w w') (F : Nat → Prop) : Keep F w w' := ⟨h.os, h.tape, h.output, h.size, fun k hk _ => h.block k hk⟩
theorem Keep.toBelow {F : Nat → Prop} {w w' : World} (h : Keep F w w') (B : Nat) (hB : B ≤ w.heap.size) (hF : ∀ k, F k → B ≤ k) : Below B w w' :=
  ⟨h.os, h.tape, h.output, h.size, fun k hk => h.block k (by omega) (fun hf => by have := hF k hf; omega)⟩
theorem Keep.alloc (F : Nat → Prop) (w : World) (o : Obj) : Keep F w (w.alloc o) := Keep.below ((Below.refl _ _).alloc (Nat.le_refl _) o) F
theorem Keep.drew {F : Nat → Prop} {a w : World} (h : Keep F a w) : Keep F a w.drew := ⟨h.os, h.tape, h.output, h.size, h.block⟩
theorem Keep.drewN {F : Nat → Prop} {a w : World} (h : Keep F a w) (n : Nat) : Keep F a (w.drewN n) := ⟨h.os, h.tape, h.output, h.size, h.block⟩
theorem Keep.setCell {F : Nat → Prop} (w : World) (p : Addr) (v : Value) (hp : F p.block) : Keep F w (w.setCell p v) :=
  ⟨rfl, rfl, rfl, by simp [World.setCell], fun k _ hn => Below.heap_setCell _ _ _ _ (fun e => hn (e ▸ hp))⟩
theorem Keep.cell {F : Nat → Prop} {w w' : World} (h : Keep F w w') {a : Addr} {v : Value} (hc : w.cell? a = some v) (hF : ¬ F a.block) : w'.cell? a = some v :=
  (World.cell?_of_block (h.block a.block (World.block_lt_of_cell? _ _ hc) hF)).trans hc
def Blk (N : Nat → Prop) (w : World) (b : Nat) (cs : Array Value) (t : TypeId) : Prop := ¬ N b ∧ w.heap[b]? = some (.cells cs t (0, 0))
theorem Blk.lt {N : Nat → Prop} {w : World} {b : Nat} {cs : Array Value} {t : TypeId} (h : Blk N w b cs t) : b < w.heap.size := (Array.getElem?_eq_some_iff.1 h.2).1
theorem Blk.keep {N N' F : Nat → Prop} {w w' : World} {b : Nat} {cs : Array Value} {t : TypeId} (h : Blk N w b cs t) (hk : Keep F w w') (hF : ∀ k, F k → N k ∨ w.heap.size ≤ k) (hN : ∀ k, N' k → N k ∨ w.heap.size ≤ k) : Blk N' w' b cs t := by
  have hb := h.lt
  refine ⟨fun hn => ?_, ?_⟩
  · rcases hN b hn with h1 | h1
    · exact h.1 h1
    · omega
  · rw [hk.block b hb (fun hf => by rcases hF b hf with h1 | h1; exact h.1 h1; omega)]
    exact h.2
theorem Blk.cell {N : Nat → Prop} {w : World} {b : Nat} {cs : Array Value} {t : TypeId} (h : Blk N w b cs t) (i : Nat) : w.cell? ⟨b, i, none⟩ = cs[i]? := by
  simp [World.cell?, h.2]
theorem Blk.free {N : Nat → Prop} {w : World} {b : Nat} {cs : Array Value} {t : TypeId} (h : Blk N w b cs t) (i : Nat) : w.frozen? ⟨b, i, none⟩ = false := by
  simp [World.frozen?, h.2]
def RefsAt (N : Nat → Prop) (w : World) (v : Value) (xs : List Int) : Prop :=
  (v = .slice none 0 0 ∧ xs = []) ∨
  ∃ b off cap, v = .slice (some ⟨b, off, none⟩) xs.length cap ∧ ¬ N b ∧ b < w.heap.size ∧ xs.length ≤ cap ∧ cap ≤ maxLen ∧ ∀ j, j < xs.length → w.cell? ⟨b, off + j, none⟩ = some (.int .i64 (xs.getD j 0))
def PairsAt (N : Nat → Prop) (w : World) (v : Value) (xs : List Ct.Pair) : Prop :=
  (v = .slice none 0 0 ∧ xs = []) ∨
  ∃ b off cap, v = .slice (some ⟨b, off, none⟩) xs.length cap ∧ ¬ N b ∧ b < w.heap.size ∧ xs.length ≤ cap ∧ cap ≤ maxLen ∧
    ∀ j, j < xs.length → w.cell? ⟨b, off + 2 * j, none⟩ = some (.string (xs.getD j ⟨.empty, 0⟩).key) ∧ w.cell? ⟨b, off + 2 * j + 1, none⟩ = some (.int .u64 ((xs.getD j ⟨.empty, 0⟩).value : Nat))
theorem RefsAt.keep {N N' F : Nat → Prop} {w w' : World} {v : Value} {xs : List Int} (h : RefsAt N w v xs) (hk : Keep F w w') (hF : ∀ k, F k → N k ∨ w.heap.size ≤ k) (hN : ∀ k, N' k → N k ∨ w.heap.size ≤ k) : RefsAt N' w' v xs := by
  rcases h with h | ⟨b, off, cap, hv, hb, hl, hc, hm, hcell⟩
  · exact .inl h
  · refine .inr ⟨b, off, cap, hv, fun hn => ?_, Nat.lt_of_lt_of_le hl hk.size, hc, hm, fun j hj => ?_⟩
    · rcases hN b hn with h1 | h1
      · exact hb h1
      · omega
    · exact hk.cell (hcell j hj) (fun hf => by rcases hF b hf with h1 | h1; exact hb h1; exact absurd hl (by omega))
theorem PairsAt.keep {N N' F : Nat → Prop} {w w' : World} {v : Value} {xs : List Ct.Pair} (h : PairsAt N w v xs) (hk : Keep F w w') (hF : ∀ k, F k → N k ∨ w.heap.size ≤ k) (hN : ∀ k, N' k → N k ∨ w.heap.size ≤ k) : PairsAt N' w' v xs := by
  rcases h with h | ⟨b, off, cap, hv, hb, hl, hc, hm, hcell⟩
  · exact .inl h
  · refine .inr ⟨b, off, cap, hv, fun hn => ?_, Nat.lt_of_lt_of_le hl hk.size, hc, hm, fun j hj => ?_⟩
    · rcases hN b hn with h1 | h1
      · exact hb h1
      · omega
    · have hnf : ¬ F b := fun hf => by rcases hF b hf with h1 | h1; exact hb h1; exact absurd hl (by omega)
      exact ⟨hk.cell (hcell j hj).1 hnf, hk.cell (hcell j hj).2 hnf⟩
def nodeCells (n : Ct.Node) (bv pv : Value) : List Value :=
  [.int .i64 n.kind, .int .i64 n.gen, .int .i64 n.main, .int .u64 (n.bitmap : Nat), bv, .int .u64 (n.hash : Nat), .string n.key, .int .u64 (n.value : Nat), pv,
    .int .i64 n.prev, .int .i64 n.old, .int .i64 n.expected, .int .i64 n.new, .int .i64 n.status]
def NodeAt (N : Nat → Prop) (w : World) (cs : List Value) (n : Ct.Node) : Prop :=
  ∃ bv pv, cs = nodeCells n bv pv ∧ RefsAt N w bv n.branches ∧ PairsAt N w pv n.pairs
theorem NodeAt.keep {N N' F : Nat → Prop} {w w' : World} {cs : List Value} {n : Ct.Node} (h : NodeAt N w cs n) (hk : Keep F w w') (hF : ∀ k, F k → N k ∨ w.heap.size ≤ k) (hN : ∀ k, N' k → N k ∨ w.heap.size ≤ k) : NodeAt N' w' cs n := by
  obtain ⟨bv, pv, e, h1, h2⟩ := h
  exact ⟨bv, pv, e, h1.keep hk hF hN, h2.keep hk hF hN⟩
theorem NodeAt.length {N : Nat → Prop} {w : World} {cs : List Value} {n : Ct.Node} (h : NodeAt N w cs n) : cs.length = 14 := by
  obtain ⟨bv, pv, rfl, _, _⟩ := h; rfl
def NodesAt (N : Nat → Prop) (w : World) (xs : List Value) (l : List Ct.Node) : Prop :=
  ∃ rows : List (List Value), xs = rows.flatten ∧ rows.length = l.length ∧ ∀ i (h : i < rows.length) (h' : i < l.length), NodeAt N w rows[i] l[i]
theorem NodesAt.keep {N N' F : Nat → Prop} {w w' : World} {xs : List Value} {l : List Ct.Node} (h : NodesAt N w xs l) (hk : Keep F w w') (hF : ∀ k, F k → N k ∨ w.heap.size ≤ k) (hN : ∀ k, N' k → N k ∨ w.heap.size ≤ k) : NodesAt N' w' xs l := by
  obtain ⟨rows, e, hl, hr⟩ := h
  exact ⟨rows, e, hl, fun i h1 h2 => (hr i h1 h2).keep hk hF hN⟩
structure Ghost where
  a : Nat
  vn : Value
  vc : Value
  N : Nat → Prop
def Ghost.Foot (g : Ghost) (k : Nat) : Prop := k = g.a ∨ g.vn.ownBlock = some k ∨ g.vc.ownBlock = some k
structure ArenaAt (g : Ghost) (w : World) (s : Ct.St) : Prop where
  block : w.heap[g.a]? = some (.cells #[g.vn, g.vc, .int .i64 (s.gen : Nat), .int .i64 (s.acc : Nat)] 93 (0, 0))
  nodes : ∃ xs, w.ownsRow 0 136 14 g.vn s.added.length xs ∧ NodesAt g.N w xs s.added
  cells : w.ownsRow 0 40 1 g.vc s.cells.length (s.cells.map (Value.int .i64))
  foot : ∀ k, g.Foot k → g.N k
  an : g.vn.ownBlock ≠ some g.a
  ac : g.vc.ownBlock ≠ some g.a
  nc : ∀ k, g.vn.ownBlock = some k → g.vc.ownBlock ≠ some k
  nlt : ∀ k, g.N k → k < w.heap.size
structure Step (g : Ghost) (w : World) (g' : Ghost) (w' : World) : Prop where
  a : g'.a = g.a
  keep : Keep g.Foot w w'
  new : ∀ k, g'.N k → g.N k ∨ w.heap.size ≤ k
  old : ∀ k, g.N k → g'.N k
  foot : ∀ k, g'.Foot k → g.Foot k ∨ w.heap.size ≤ k
theorem Step.refl (g : Ghost) (w : World) : Step g w g w := ⟨rfl, Keep.refl _ _, fun _ h => .inl h, fun _ h => h, fun _ h => .inl h⟩
theorem Step.trans {g g1 g2 : Ghost} {w w1 w2 : World} (h : Step g w g1 w1) (k : Step g1 w1 g2 w2) : Step g w g2 w2 := by
  refine ⟨k.a.trans h.a, h.keep.trans k.keep h.foot, fun i hi => ?_, fun i hi => k.old i (h.old i hi), fun i hi => ?_⟩
  · rcases k.new i hi with h1 | h1
    · exact h.new i h1
    · exact .inr (Nat.le_trans h.keep.size h1)
  · rcases k.foot i hi with h1 | h1
    · exact h.foot i h1
    · exact .inr (Nat.le_trans h.keep.size h1)
theorem Step.below {g : Ghost} {w w' : World} (h : Below w.heap.size w w') : Step g w g w' := ⟨rfl, Keep.below h _, fun _ h => .inl h, fun _ h => h, fun _ h => .inl h⟩
theorem ownsRow_keep {F : Nat → Prop} {w w' : World} {base : Nat} {e : TypeId} {size : Nat} {v : Value} {n : Nat} {xs : List Value} (h : w.ownsRow base e size v n xs) (hk : Keep F w w') (hF : ∀ k, v.ownBlock = some k → ¬ F k) : w'.ownsRow base e size v n xs := by
  refine ⟨h.1, ?_⟩
  rcases h.2 with hn | ⟨g, cap, cur, rfl, hb, hgg, rest⟩
  · exact .inl hn
  · refine .inr ⟨g, cap, cur, rfl, hb, ?_, rest⟩
    rw [hk.block g (Array.getElem?_eq_some_iff.1 hgg).1 (hF g rfl)]
    exact hgg
theorem ArenaAt.keep {g : Ghost} {w w' : World} {s : Ct.St} {F N' : Nat → Prop} (h : ArenaAt g w s) (hk : Keep F w w') (hd : ∀ k, F k → ¬ g.Foot k) (hF : ∀ k, F k → g.N k ∨ w.heap.size ≤ k)
    (hN : ∀ k, N' k → g.N k ∨ w.heap.size ≤ k) (hO : ∀ k, g.N k → N' k) (hL : ∀ k, N' k → k < w'.heap.size) : ArenaAt { g with N := N' } w' s := by
  have hlt := (Array.getElem?_eq_some_iff.1 h.block).1
  obtain ⟨xs, h1, h2⟩ := h.nodes
  refine ⟨?_, ⟨xs, ownsRow_keep h1 hk (fun k hv hf => hd k hf (.inr (.inl hv))), h2.keep hk hF hN⟩, ownsRow_keep h.cells hk (fun k hv hf => hd k hf (.inr (.inr hv))), fun k hf => hO k (h.foot k hf), h.an, h.ac, h.nc, hL⟩
  rw [hk.block g.a hlt (fun hf => hd g.a hf (.inl rfl))]
  exact h.block
theorem ArenaAt.below {g : Ghost} {w w' : World} {s : Ct.St} (h : ArenaAt g w s) (hb : Below w.heap.size w w') : ArenaAt g w' s :=
  h.keep (Keep.below hb (fun _ => False)) (fun _ h => h.elim) (fun _ h => h.elim) (fun _ h => .inl h) (fun _ h => h) (fun k hk => Nat.lt_of_lt_of_le (h.nlt k hk) hb.size)
end Go.Proofs.YtjlgchdekhmnnaaGreatDoor
end
section
namespace Go.Proofs.YtjlgchdekhmnnaaGreatDoor
open Go.RowKit
theorem ArenaAt.c0 {g : Ghost} {w : World} {s : Ct.St} (h : ArenaAt g w s) : w.cell? ⟨g.a, 0, none⟩ = some g.vn := by simp [World.cell?, h.block]
theorem ArenaAt.c1 {g : Ghost} {w : World} {s : Ct.St} (h : ArenaAt g w s) : w.cell? ⟨g.a, 1, none⟩ = some g.vc := by simp [World.cell?, h.block]
theorem ArenaAt.c2 {g : Ghost} {w : World} {s : Ct.St} (h : ArenaAt g w s) : w.cell? ⟨g.a, 2, none⟩ = some (.int .i64 (s.gen : Nat)) := by simp [World.cell?, h.block]
theorem ArenaAt.c3 {g : Ghost} {w : World} {s : Ct.St} (h : ArenaAt g w s) : w.cell? ⟨g.a, 3, none⟩ = some (.int .i64 (s.acc : Nat)) := by simp [World.cell?, h.block]
theorem ArenaAt.free {g : Ghost} {w : World} {s : Ct.St} (h : ArenaAt g w s) (i : Nat) : w.frozen? ⟨g.a, i, none⟩ = false := by simp [World.frozen?, h.block]
theorem ArenaAt.lt {g : Ghost} {w : World} {s : Ct.St} (h : ArenaAt g w s) : g.a < w.heap.size := (Array.getElem?_eq_some_iff.1 h.block).1
theorem own_len {w : World} {base : Nat} {e : TypeId} {size : Nat} {v : Value} {n : Nat} {xs : List Value} (h : w.ownsRow base e size v n xs) : ∃ a cap, v = .slice a n cap := by
  rcases h.2 with ⟨rfl, rfl⟩ | ⟨g, cap, cur, rfl, _⟩
  · exact ⟨_, _, rfl⟩
  · exact ⟨_, _, rfl⟩
theorem nodes_any (g : Ghost) (w : World) (s : Ct.St) (h : ArenaAt g w s) (hr : s.Room) :
    Calls Tryz.prog 91 #[.pointer (some ⟨g.a, 0, none⟩)] w fun e w' => e = .returned (.int .i64 (s.nodes : Nat)) ∧ w = w' := by
  have c0 := h.c0
  obtain ⟨xs, hx, _⟩ := h.nodes
  obtain ⟨a, cap, hv⟩ := own_len hx
  rw [hv] at c0
  have hb : s.added.length ≤ 274877906944 := by unfold Ct.St.Room Ct.St.size at hr; omega
  have Hn := Lib.hid (show ((s.nodes : Nat) : Int) = 2 + (s.added.length : Int) by unfold Ct.St.nodes; omega)
  clear hx hv h hr
  go_enter Tryz.func91, Tryz.ntmps91
  go_wp2_with fail
  go_ret
  exact ⟨by rw [Hn.out]; rfl, rfl⟩
theorem nodes_any' (g : Ghost) (w : World) (s : Ct.St) (h : ArenaAt g w s) (hr : s.Room') :
    Calls Tryz.prog 91 #[.pointer (some ⟨g.a, 0, none⟩)] w fun e w' => e = .returned (.int .i64 (s.nodes : Nat)) ∧ w = w' := by
  have c0 := h.c0
  obtain ⟨xs, hx, _⟩ := h.nodes
  obtain ⟨a, cap, hv⟩ := own_len hx
  rw [hv] at c0
  have hb : s.added.length ≤ 274877906944 := by unfold Ct.St.Room' Ct.St.size at hr; omega
  have Hn := Lib.hid (show ((s.nodes : Nat) : Int) = 2 + (s.added.length : Int) by unfold Ct.St.nodes; omega)
  clear hx hv h hr
  go_enter Tryz.func91, Tryz.ntmps91
  go_wp2_with fail
  go_ret
  exact ⟨by rw [Hn.out]; rfl, rfl⟩
theorem hasCell_any (g : Ghost) (w : World) (s : Ct.St) (c : Int) (h : ArenaAt g w s) :
    Calls Tryz.prog 311 #[.pointer (some ⟨g.a, 0, none⟩), .int .i64 c] w fun e w' => e = .returned (.bool (s.hasCell c)) ∧ w = w' := by
  have c1 := h.c1
  obtain ⟨a, cap, hv⟩ := own_len h.cells
  rw [hv] at c1
  by_cases h1 : 1 ≤ c
  · have Hn := Lib.hid (show s.hasCell c = decide (c ≤ (s.cells.length : Int)) by unfold Ct.St.hasCell; simp [h1])
    clear hv h
    go_enter Tryz.func311, Tryz.ntmps311
    go_wp2_with fail
    go_ret
    exact ⟨by rw [Hn.out]; rfl, rfl⟩
  · have Hn := Lib.hid (show s.hasCell c = false by unfold Ct.St.hasCell; simp [h1])
    clear hv h
    go_enter Tryz.func311, Tryz.ntmps311
    go_wp2_with fail
    go_ret
    exact ⟨by rw [Hn.out]; rfl, rfl⟩
theorem ArenaAt.set {g : Ghost} {w : World} {s : Ct.St} (h : ArenaAt g w s) (w' : World) (s' : Ct.St) (hk : Keep (fun k => k = g.a) w w')
    (hb : w'.heap[g.a]? = some (.cells #[g.vn, g.vc, .int .i64 (s'.gen : Nat), .int .i64 (s'.acc : Nat)] 93 (0, 0))) (ha : s'.added = s.added) (hc : s'.cells = s.cells) : ArenaAt g w' s' := by
  obtain ⟨xs, h1, h2⟩ := h.nodes
  have hN : ∀ k, k = g.a → g.N k ∨ w.heap.size ≤ k := fun k hk => .inl (h.foot k (.inl hk))
  refine ⟨hb, ⟨xs, ?_, ?_⟩, ?_, h.foot, h.an, h.ac, h.nc, fun k hk' => Nat.lt_of_lt_of_le (h.nlt k hk') hk.size⟩
  · rw [ha]; exact ownsRow_keep h1 hk (fun k hv e => h.an (by rw [hv, e]))
  · rw [ha]; exact h2.keep hk hN (fun k hk => .inl hk)
  · rw [hc]; exact ownsRow_keep h.cells hk (fun k hv e => h.ac (by rw [hv, e]))
theorem heap_setCell_at (w : World) (b i : Nat) (v : Value) (cs : Array Value) (t : TypeId) (fr : Nat × Nat) (h : w.heap[b]? = some (.cells cs t fr)) :
    (w.setCell ⟨b, i, none⟩ v).heap[b]? = some (.cells (cs.setIfInBounds i v) t fr) := by
  simp only [World.setCell, Array.getElem?_modify]
  rw [if_pos trivial, h]
  rfl
theorem ArenaAt.setGen {g : Ghost} {w : World} {s : Ct.St} (h : ArenaAt g w s) (n : Nat) : ArenaAt g (w.setCell ⟨g.a, 2, none⟩ (.int .i64 (n : Nat))) { s with gen := n } := by
  refine h.set _ _ (Keep.setCell w ⟨g.a, 2, none⟩ _ rfl) ?_ rfl rfl
  rw [heap_setCell_at w g.a 2 _ _ _ _ h.block]; rfl
theorem ArenaAt.setAcc {g : Ghost} {w : World} {s : Ct.St} (h : ArenaAt g w s) (n : Nat) : ArenaAt g (w.setCell ⟨g.a, 3, none⟩ (.int .i64 (n : Nat))) { s with acc := n } := by
  refine h.set _ _ (Keep.setCell w ⟨g.a, 3, none⟩ _ rfl) ?_ rfl rfl
  rw [heap_setCell_at w g.a 3 _ _ _ _ h.block]; rfl
theorem Step.setCell {g : Ghost} (w : World) (i : Nat) (v : Value) : Step g w g (w.setCell ⟨g.a, i, none⟩ v) :=
  ⟨rfl, Keep.setCell w _ v (.inl rfl), fun _ h => .inl h, fun _ h => h, fun _ h => .inl h⟩
def Does (g : Ghost) (w : World) (v : Value) (s' : Ct.St) (e : Ending) (w' : World) : Prop :=
  e = .returned v ∧ ∃ g', ArenaAt g' w' s' ∧ Step g w g' w'
theorem newGen_any (g : Ghost) (w : World) (s : Ct.St) (h : ArenaAt g w s) (hr : s.Room) :
    Calls Tryz.prog 310 #[.pointer (some ⟨g.a, 0, none⟩)] w (Does g w (.int .i64 s.newGen.2) s.newGen.1) := by
  have c2 := h.c2
  have fz := h.free 2
  have hb : s.gen ≤ 274877906944 := by unfold Ct.St.Room Ct.St.size at hr; omega
  have H := Lib.hid h
  clear h hr
  go_enter Tryz.func310, Tryz.ntmps310
  go_wp2_with fail
  go_ret
  exact ⟨rfl, g, H.out.setGen (s.gen + 1), Step.setCell w _ _⟩
end Go.Proofs.YtjlgchdekhmnnaaGreatDoor
end
section
namespace Go.Proofs.YtjlgchdekhmnnaaGreatDoor
open Go.RowKit
theorem info_Ref : (Tryz.prog.info? 40).map (fun i => (i.zero, i.size, i.bytes)) = some (some (.int .i64 0), 1, 8) := by kernel_rfl
theorem one_new {v : Value} {w : World} {t : TypeId} : ∀ j u, ([v] : List Value)[j]? = some u → (w.alloc (.cells #[v] t)).cell? ((⟨w.heap.size, 0, none⟩ : Addr).add j) = some u := by
  intro j u hj
  match j, hj with
  | 0, hj => simp at hj; subst hj; simp [Addr.add]
def Ghost.withCells (g : Ghost) (vc : Value) : Ghost := { g with vc := vc, N := fun k => g.N k ∨ vc.ownBlock = some k }
theorem grown_keep {w w' : World} {row : Option Nat} (h : w.grownBy w' row) : Keep (fun k => row = some k) w w' :=
  ⟨h.os, h.tape, h.output, h.size, fun k hk hn => h.block k hk (fun e => hn e.symm)⟩
theorem ArenaAt.pushCell {g : Ghost} {w w1 : World} {s : Ct.St} {x : Int} {vc' : Value} {t : TypeId} (h : ArenaAt g w s)
    (hown : w1.ownsRow 0 40 1 vc' (s.cells.length + 1) (s.cells.map (Value.int .i64) ++ [.int .i64 x])) (hg : (w.alloc (.cells #[.int .i64 x] t)).grownBy w1 g.vc.ownBlock)
    (hblk : ∀ k, vc'.ownBlock = some k → g.vc.ownBlock = some k ∨ w.heap.size ≤ k) :
    ArenaAt (g.withCells vc') (w1.setCell ⟨g.a, 1, none⟩ vc') (s.newCell x).1 ∧ Step g w (g.withCells vc') (w1.setCell ⟨g.a, 1, none⟩ vc') := by
  have hlt := h.lt
  have hk1 : Keep (fun k => g.vc.ownBlock = some k) w w1 := (Keep.alloc _ w _).trans (grown_keep hg) (fun _ h => .inl h)
  have hk2 : Keep g.Foot w (w1.setCell ⟨g.a, 1, none⟩ vc') := (hk1.mono (fun k _ hf => .inr (.inr hf)) : Keep g.Foot w w1).trans (Keep.setCell w1 ⟨g.a, 1, none⟩ vc' (F := fun k => k = g.a) rfl) (fun k hk => .inl (.inl hk))
  have hfn : ∀ k, g.Foot k → g.N k ∨ w.heap.size ≤ k := fun k hf => .inl (h.foot k hf)
  have hnew : ∀ k, (g.withCells vc').N k → g.N k ∨ w.heap.size ≤ k := by
    rintro k (hn | hn)
    · exact .inl hn
    · rcases hblk k hn with h1 | h1
      · exact .inl (h.foot k (.inr (.inr h1)))
      · exact .inr h1
  have ha1 : w1.heap[g.a]? = w.heap[g.a]? := hk1.block g.a hlt (h.ac)
  obtain ⟨xs, n1, n2⟩ := h.nodes
  have hne : vc'.ownBlock ≠ some g.a := by
    intro he
    rcases hblk _ he with h1 | h1
    · exact h.ac h1
    · omega
  refine ⟨⟨?_, ⟨xs, ?_, n2.keep hk2 hfn hnew⟩, ?_, ?_, h.an, hne, ?_, ?_⟩, ⟨rfl, hk2, hnew, fun k hn => .inl hn, ?_⟩⟩
  · show (w1.setCell ⟨g.a, 1, none⟩ vc').heap[g.a]? = _
    rw [heap_setCell_at w1 g.a 1 vc' _ _ _ (ha1.trans h.block)]
    rfl
  · refine ownsRow_keep (ownsRow_keep n1 hk1 (fun k hv e => h.nc k hv e)) (Keep.setCell w1 ⟨g.a, 1, none⟩ vc' (F := fun k => k = g.a) rfl) (fun k hv e => h.an (e ▸ hv))
  · have := ownsRow_keep hown (Keep.setCell w1 ⟨g.a, 1, none⟩ vc' (F := fun k => k = g.a) rfl) (fun k hv e => hne (by rw [hv, e]))
    show (w1.setCell ⟨g.a, 1, none⟩ vc').ownsRow 0 40 1 vc' _ _
    simpa [Ct.St.newCell] using this
  · rintro k (hf | hf | hf)
    · exact .inl (h.foot k (.inl hf))
    · exact .inl (h.foot k (.inr (.inl hf)))
    · exact .inr hf
  · intro k hv he
    rcases hblk k he with h1 | h1
    · exact h.nc k hv h1
    · have := (n1.lt k hv).2
      omega
  · rintro k (hf | hf)
    · exact Nat.lt_of_lt_of_le (h.nlt k hf) hk2.size
    · have := (hown.lt k hf).2
      simpa [World.setCell] using this
  · rintro k (hf | hf | hf)
    · exact .inl (.inl hf)
    · exact .inl (.inr (.inl hf))
    · rcases hblk k hf with h1 | h1
      · exact .inl (.inr (.inr h1))
      · exact .inr h1
set_option maxHeartbeats 800000 in
theorem newCell_any (g : Ghost) (w : World) (s : Ct.St) (x : Int) (h : ArenaAt g w s) (hr : s.Room) :
    Calls Tryz.prog 309 #[.pointer (some ⟨g.a, 0, none⟩), .int .i64 x] w (Does g w (.int .i64 (s.newCell x).2) (s.newCell x).1) := by
  obtain ⟨i0, hi, hz0, hz1, hz2⟩ := info_parts info_Ref
  have c1 := h.c1
  have fz := h.free 1
  have hlt := h.lt
  have hb : s.cells.length ≤ 274877906944 := by unfold Ct.St.Room Ct.St.size at hr; omega
  have H := Lib.hid h
  clear h hr
  go_enter Tryz.func309, Tryz.ntmps309
  go_wp2_with (at_builtin; refine wpList_append_own_at _ rfl _ _ 56 rfl 0 40 i0 (.int .i64 0) 1 8 Tryz.underlying56 hi hz0 hz1 hz2 rfl (by decide) _ _ _ rfl (H.out.cells.alloc _) ⟨w.heap.size, 0, none⟩ 1 1 [.int .i64 x] rfl rfl one_new ?c2 ?c3 ?c4 ?c5 ?_)
  case c2 => intro u hu; simp at hu; subst hu; rfl
  case c3 => unfold maxLen; omega
  case c4 => omega
  case c5 => exact Nat.zero_le _
  intro v' w1 hown' hgrow _ hblk
  have hblk' : ∀ k, v'.ownBlock = some k → g.vc.ownBlock = some k ∨ w.heap.size ≤ k := by
    intro k hk
    rcases hblk with e | e
    · exact .inl (e ▸ hk)
    · rw [e] at hk
      injection hk with hk
      right
      have : (w.alloc (.cells #[Value.int .i64 x] 40)).heap.size = w.heap.size + 1 := by simp
      omega
  have R := Lib.hid (H.out.pushCell hown' hgrow hblk')
  have hk1 : Keep (fun k => g.vc.ownBlock = some k) w w1 := (Keep.alloc _ w _).trans (grown_keep hgrow) (fun _ h => .inl h)
  have d1 : w1.cell? ⟨g.a, 1, none⟩ = some g.vc := hk1.cell c1 H.out.ac
  have f1 : w1.frozen? ⟨g.a, 1, none⟩ = false := by
    rw [World.frozen?_of_block (w := w) (hk1.block g.a hlt H.out.ac)]; exact fz
  obtain ⟨ad, cap, hv'⟩ := own_len hown'
  have hsz : g.a < w1.heap.size := Nat.lt_of_lt_of_le hlt hk1.size
  clear hown' hgrow hblk hblk' hk1 c1 fz
  subst hv'
  go_wp2_with fail
  go_ret
  exact ⟨rfl, _, R.out.1, R.out.2⟩
end Go.Proofs.YtjlgchdekhmnnaaGreatDoor
end
section
namespace Go.Proofs.YtjlgchdekhmnnaaGreatDoor
open Go.RowKit
theorem own_at {w : World} {base : Nat} {e : TypeId} {v : Value} {n : Nat} {xs : List Value} (h : w.ownsRow base e 1 v n xs) {j : Nat} (hj : j < n) :
    ∃ b cap, v = .slice (some ⟨b, 0, none⟩) n cap ∧ (∃ u, xs[j]? = some u ∧ w.cell? ⟨b, j, none⟩ = some u) ∧ w.frozen? ⟨b, j, none⟩ = false ∧ v.ownBlock = some b := by
  obtain ⟨hl, h2⟩ := h
  rcases h2 with ⟨_, hn⟩ | ⟨g, cap, cur, rfl, hb, hg, hc, hm, hcs, ht⟩
  · omega
  · refine ⟨g, cap, rfl, ?_, ?_, rfl⟩
    · have hx : j < xs.length := by omega
      refine ⟨xs[j], List.getElem?_eq_getElem hx, ?_⟩
      rw [cell_of_row w g j cur e (0, 0) hg]
      have : (cur.toList.take (n * 1))[j]? = xs[j]? := by rw [ht]
      rw [List.getElem?_take, if_pos (by omega), List.getElem?_eq_getElem hx] at this
      simpa using this
    · simp [World.frozen?, hg]
theorem ArenaAt.cellAt {g : Ghost} {w : World} {s : Ct.St} (h : ArenaAt g w s) {j : Nat} (hj : j < s.cells.length) :
    ∃ b cap, g.vc = .slice (some ⟨b, 0, none⟩) s.cells.length cap ∧ w.cell? ⟨b, j, none⟩ = some (.int .i64 (s.cells.getD j 0)) ∧ w.frozen? ⟨b, j, none⟩ = false ∧ g.vc.ownBlock = some b := by
  obtain ⟨b, cap, hv, ⟨u, hu, hc⟩, hf, ho⟩ := own_at h.cells hj
  refine ⟨b, cap, hv, ?_, hf, ho⟩
  rw [hc]
  rw [List.getElem?_map, List.getElem?_eq_getElem hj] at hu
  simp at hu
  rw [← hu, List.getD_eq_getElem?_getD, List.getElem?_eq_getElem hj]
  rfl
theorem ArenaAt.storeCell {g : Ghost} {w : World} {s : Ct.St} {b j : Nat} (h : ArenaAt g w s) (hb : g.vc.ownBlock = some b) (hj : j < s.cells.length) (x : Int) :
    ArenaAt g (w.setCell ⟨b, j, none⟩ (.int .i64 x)) { s with cells := s.cells.set j x } ∧ Step g w g (w.setCell ⟨b, j, none⟩ (.int .i64 x)) := by
  have hk : Keep (fun k => k = b) w (w.setCell ⟨b, j, none⟩ (.int .i64 x)) := Keep.setCell w ⟨b, j, none⟩ _ rfl
  have hfb : g.Foot b := .inr (.inr hb)
  have hN : ∀ k, k = b → g.N k ∨ w.heap.size ≤ k := fun k hk => .inl (hk ▸ h.foot b hfb)
  obtain ⟨xs, n1, n2⟩ := h.nodes
  have hab : g.a ≠ b := fun e => h.ac (by rw [hb, e])
  refine ⟨⟨?_, ⟨xs, ownsRow_keep n1 hk (fun k hv e => h.nc k hv (e ▸ hb)), n2.keep hk hN (fun k hk => .inl hk)⟩, ?_, h.foot, h.an, h.ac, h.nc, fun k hk' => Nat.lt_of_lt_of_le (h.nlt k hk') hk.size⟩, ⟨rfl, hk.mono (fun k _ e => e ▸ hfb), fun _ h => .inl h, fun _ h => h, fun _ h => .inl h⟩⟩
  · rw [hk.block g.a h.lt hab]; exact h.block
  · obtain ⟨hl, h2⟩ := h.cells
    refine ⟨by simp, .inr ?_⟩
    rcases h2 with ⟨_, hn⟩ | ⟨g', cap, cur, hv, hbb, hg, hc, hm, hcs, ht⟩
    · omega
    · rw [hv] at hb
      simp [Value.ownBlock] at hb
      subst hb
      refine ⟨g', cap, cur.setIfInBounds j (.int .i64 x), by simpa using hv, hbb, heap_setCell_at w g' j _ _ _ _ hg, by simpa using hc, hm, by simpa using hcs, ?_⟩
      simp only [List.length_set, Nat.mul_one] at ht ⊢
      rw [List.map_set, ← ht]
      rw [Array.toList_setIfInBounds, List.take_set]
set_option maxHeartbeats 800000 in
theorem load_any (g : Ghost) (w : World) (s : Ct.St) (c : Int) (h : ArenaAt g w s) (hr : s.Room) :
    Calls Tryz.prog 308 #[.pointer (some ⟨g.a, 0, none⟩), .int .i64 c] w (Does g w (.int .i64 (s.load c).2) (s.load c).1) := by
  have c3 := h.c3
  have fz := h.free 3
  have hb : s.acc ≤ 274877906944 := by unfold Ct.St.Room Ct.St.size at hr; omega
  have hb2 : s.cells.length ≤ 274877906944 := by unfold Ct.St.Room Ct.St.size at hr; omega
  have h1 := h.setAcc (s.acc + 1)
  have st := Step.setCell (g := g) w 3 (.int .i64 ((s.acc + 1 : Nat) : Int))
  have hw : (w.setCell ⟨g.a, 3, none⟩ (.int .i64 ((s.acc + 1 : Nat) : Int))) = w.setCell ⟨g.a, 3, none⟩ (.int .i64 ((s.acc : Int) + 1)) := by
    rw [show ((s.acc + 1 : Nat) : Int) = (s.acc : Int) + 1 by omega]
  rw [hw] at h1 st
  generalize hW : w.setCell ⟨g.a, 3, none⟩ (.int .i64 ((s.acc : Int) + 1)) = W at h1 st
  have HW := Lib.hid hW
  have hhas := hasCell_any g W _ c h1
  have e1 : ({ s with acc := s.acc + 1 } : Ct.St).hasCell c = s.hasCell c := rfl
  rw [e1] at hhas
  have H1 := Lib.hid h1; have HS := Lib.hid st; have HH := Lib.hid hhas
  clear h h1 st hhas hw hW hr e1
  cases hc : s.hasCell c
  · have Hv := Lib.hid (show (s.load c).2 = 0 by unfold Ct.St.load; rw [hc]; rfl)
    rw [hc] at HH
    clear hc
    go_enter Tryz.func308, Tryz.ntmps308
    go_wp2_with fail
    rw [HW.out]
    refine HH.out.mono ?_
    rintro e w' ⟨rfl, rfl⟩
    go_wp2_with fail
    go_ret
    exact ⟨by rw [Hv.out]; rfl, g, H1.out, HS.out⟩
  · have hv : (s.load c).2 = s.cells.getD (c.toNat - 1) 0 := by unfold Ct.St.load; rw [hc]; rfl
    have hcr : 1 ≤ c ∧ c ≤ s.cells.length := by unfold Ct.St.hasCell at hc; simpa using hc
    obtain ⟨n, rfl⟩ : ∃ n : Nat, c = n + 1 := ⟨(c - 1).toNat, by omega⟩
    rw [show ((n : Int) + 1).toNat - 1 = n by omega] at hv
    have Hv := Lib.hid hv
    have hn : n < s.cells.length := by omega
    obtain ⟨b, cap, hvc, hcell, _, _⟩ := H1.out.cellAt (j := n) hn
    have c1 := H1.out.c1
    rw [hvc] at c1
    rw [hc] at HH
    simp only at c1 hcell
    generalize s.cells.getD n 0 = z at *
    clear hc hv hvc hcr
    go_enter Tryz.func308, Tryz.ntmps308
    go_wp2_with fail
    rw [HW.out]
    refine HH.out.mono ?_
    rintro e w' ⟨rfl, rfl⟩
    go_wp2_with fail
    go_ret
    exact ⟨by rw [Hv.out]; rfl, g, H1.out, HS.out⟩
end Go.Proofs.YtjlgchdekhmnnaaGreatDoor
end
