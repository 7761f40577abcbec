/- How the program's closures lie in memory. -/
import Derived.Test.YtifehcegnofpkaaGreatDoorRep
import Derived.Test.YtifehcegnofpkaaGreatDoorK
namespace Go.Proofs.YtifehcegnofpkaaGreatDoor
open Go.RowKit

/-- The cells of a gcas.Op. -/
def opCells (sv : Value) (t : Ct.Trie) : Array Value := #[sv, .int .i64 t.root, .bool t.readOnly]

/-- A variable that holds a node of which the closures read only its numbers. -/
def DescBlk (N : Nat → Prop) (w : World) (b : Nat) (d : Ct.Node) : Prop := ∃ bv pv, Blk N w b (nodeCells d bv pv).toArray 131

def resCells (r : Ct.Result) : List Value := [.int .i64 r.err, .bool r.found, .int .u64 (r.value : Nat), .string r.key, .int .i64 r.count, .int .i64 r.ref, .int .i64 r.trie.root, .bool r.trie.readOnly]

def ptr (b : Nat) : Value := .pointer (some ⟨b, 0, none⟩)

/-- The func value f lies in memory as the closure k. -/
def KRep (sv : Value) (N : Nat → Prop) (w : World) : Value → Ct.K → Prop
  | f, .read1 t i th => ∃ b0 b1 b2, f = .func (.func 106) #[] #[ptr b0, ptr b1, ptr b2] ∧ Blk N w b0 (opCells sv t) 138 ∧ Blk N w b1 #[.int .i64 i] 46 ∧ (∃ u, Blk N w b2 #[u] 97 ∧ KRep sv N w u th)
  | f, .settle1 t i m prev th => ∃ b0 b1 b2 b3 b4, f = .func (.func 131) #[] #[ptr b0, ptr b1, ptr b2, ptr b3, ptr b4] ∧ (∃ u, Blk N w b0 #[u] 97 ∧ KRep sv N w u th) ∧ Blk N w b1 #[.int .i64 m] 46 ∧ Blk N w b2 (opCells sv t) 138 ∧ Blk N w b3 #[.int .i64 i] 46 ∧ Blk N w b4 #[.int .i64 prev] 45
  | f, .again1 t i m prev th => ∃ b0 b1 b2 b3 b4, f = .func (.func 134) #[] #[ptr b0, ptr b1, ptr b2, ptr b3, ptr b4] ∧ Blk N w b0 #[.int .i64 prev] 45 ∧ (∃ u, Blk N w b1 #[u] 97 ∧ KRep sv N w u th) ∧ Blk N w b2 #[.int .i64 m] 46 ∧ Blk N w b3 (opCells sv t) 138 ∧ Blk N w b4 #[.int .i64 i] 46
  | f, .again2 t i m th => ∃ b0 b1 b2 b3, f = .func (.func 135) #[] #[ptr b0, ptr b1, ptr b2, ptr b3] ∧ (∃ u, Blk N w b0 #[u] 97 ∧ KRep sv N w u th) ∧ Blk N w b1 #[.int .i64 m] 46 ∧ Blk N w b2 (opCells sv t) 138 ∧ Blk N w b3 #[.int .i64 i] 46
  | f, .sroot t i prev p ag => ∃ b0 b1 b2 b3 b4, f = .func (.func 138) #[] #[ptr b0, ptr b1, ptr b2, ptr b3, ptr b4] ∧ Blk N w b0 (opCells sv t) 138 ∧ Blk N w b1 #[.int .i64 i] 46 ∧ Blk N w b2 #[.int .i64 prev] 45 ∧ Blk N w b3 #[.int .i64 p] 46 ∧ (∃ u, Blk N w b4 #[u] 98 ∧ KRep sv N w u ag)
  | f, .back1 old th => ∃ b0 b1, f = .func (.func 163) #[] #[ptr b0, ptr b1] ∧ (∃ u, Blk N w b0 #[u] 97 ∧ KRep sv N w u th) ∧ Blk N w b1 #[.int .i64 old] 46
  | f, .root1 t th => ∃ b0 b1, f = .func (.func 165) #[] #[ptr b0, ptr b1] ∧ Blk N w b0 (opCells sv t) 138 ∧ (∃ u, Blk N w b1 #[u] 97 ∧ KRep sv N w u th)
  | f, .root2 t v d th => ∃ b0 b1 b2 b3, f = .func (.func 166) #[] #[ptr b0, ptr b1, ptr b2, ptr b3] ∧ Blk N w b0 (opCells sv t) 138 ∧ Blk N w b1 #[.int .i64 v] 46 ∧ (∃ u, Blk N w b2 #[u] 97 ∧ KRep sv N w u th) ∧ DescBlk N w b3 d
  | f, .root3 t v d th => ∃ b0 b1 b2 b3, f = .func (.func 167) #[] #[ptr b0, ptr b1, ptr b2, ptr b3] ∧ DescBlk N w b0 d ∧ Blk N w b1 (opCells sv t) 138 ∧ Blk N w b2 #[.int .i64 v] 46 ∧ (∃ u, Blk N w b3 #[u] 97 ∧ KRep sv N w u th)
  | f, .root4 t v th => ∃ b0 b1 b2, f = .func (.func 168) #[] #[ptr b0, ptr b1, ptr b2] ∧ Blk N w b0 (opCells sv t) 138 ∧ Blk N w b1 #[.int .i64 v] 46 ∧ (∃ u, Blk N w b2 #[u] 97 ∧ KRep sv N w u th)
  | f, .complete1 r th => ∃ b0 b1, f = .func (.func 123) #[] #[ptr b0, ptr b1] ∧ (∃ u, Blk N w b0 #[u] 97 ∧ KRep sv N w u th) ∧ Blk N w b1 #[.int .i64 r] 46
  | f, .help1 t th => ∃ b0 b1, f = .func (.func 93) #[] #[ptr b0, ptr b1] ∧ Blk N w b0 (opCells sv t) 138 ∧ (∃ u, Blk N w b1 #[u] 97 ∧ KRep sv N w u th)
  | f, .help2 t v d th => ∃ b0 b1 b2 b3, f = .func (.func 94) #[] #[ptr b0, ptr b1, ptr b2, ptr b3] ∧ Blk N w b0 (opCells sv t) 138 ∧ Blk N w b1 #[.int .i64 v] 46 ∧ (∃ u, Blk N w b2 #[u] 97 ∧ KRep sv N w u th) ∧ DescBlk N w b3 d
  | f, .help3 t v d th => ∃ b0 b1 b2 b3, f = .func (.func 97) #[] #[ptr b0, ptr b1, ptr b2, ptr b3] ∧ DescBlk N w b0 d ∧ Blk N w b1 (opCells sv t) 138 ∧ Blk N w b2 #[.int .i64 v] 46 ∧ (∃ u, Blk N w b3 #[u] 97 ∧ KRep sv N w u th)
  | f, .help4 t v th => ∃ b0 b1 b2, f = .func (.func 98) #[] #[ptr b0, ptr b1, ptr b2] ∧ Blk N w b0 (opCells sv t) 138 ∧ Blk N w b1 #[.int .i64 v] 46 ∧ (∃ u, Blk N w b2 #[u] 97 ∧ KRep sv N w u th)
  | f, .decide1 d th => ∃ b0 b1, f = .func (.func 124) #[] #[ptr b0, ptr b1] ∧ DescBlk N w b0 d ∧ (∃ u, Blk N w b1 #[u] 114 ∧ KRep sv N w u th)
  | f, .decide2 th => ∃ b0, f = .func (.func 125) #[] #[ptr b0] ∧ (∃ u, Blk N w b0 #[u] 114 ∧ KRep sv N w u th)
  | f, .repl1 t v d th => ∃ b0 b1 b2 b3, f = .func (.func 140) #[] #[ptr b0, ptr b1, ptr b2, ptr b3] ∧ (∃ u, Blk N w b0 #[u] 98 ∧ KRep sv N w u th) ∧ Blk N w b1 (opCells sv t) 138 ∧ DescBlk N w b2 d ∧ Blk N w b3 #[.int .i64 v] 46
  | f, .repl2 t v d th => ∃ b0 b1 b2 b3, f = .func (.func 141) #[] #[ptr b0, ptr b1, ptr b2, ptr b3] ∧ DescBlk N w b0 d ∧ Blk N w b1 (opCells sv t) 138 ∧ Blk N w b2 #[.int .i64 v] 46 ∧ (∃ u, Blk N w b3 #[u] 98 ∧ KRep sv N w u th)
  | f, .repl3 t v th => ∃ b0 b1 b2, f = .func (.func 142) #[] #[ptr b0, ptr b1, ptr b2] ∧ Blk N w b0 (opCells sv t) 138 ∧ Blk N w b1 #[.int .i64 v] 46 ∧ (∃ u, Blk N w b2 #[u] 98 ∧ KRep sv N w u th)
  | f, .repl4 st th => ∃ b0 b1, f = .func (.func 143) #[] #[ptr b0, ptr b1] ∧ (∃ u, Blk N w b0 #[u] 98 ∧ KRep sv N w u th) ∧ Blk N w b1 #[.int .i64 st] 46
  | f, .clr0 t => ∃ b0, f = .func (.func 80) #[] #[ptr b0] ∧ Blk N w b0 (opCells sv t) 138
  | f, .clr1 t => ∃ b0, f = .func (.func 112) #[] #[ptr b0] ∧ Blk N w b0 (opCells sv t) 138
  | f, .clr2 t r => ∃ b0 b1, f = .func (.func 113) #[] #[ptr b0, ptr b1] ∧ Blk N w b0 (opCells sv t) 138 ∧ Blk N w b1 #[.int .i64 r] 46
  | f, .clr3 t => ∃ b0, f = .func (.func 114) #[] #[ptr b0] ∧ Blk N w b0 (opCells sv t) 138
  | f, .snap0 t => ∃ b0 b1 b2, f = .func (.func 68) #[] #[ptr b0, ptr b1, ptr b2] ∧ Blk N w b0 #[.int .i64 t.root, .bool t.readOnly] 72 ∧ Blk N w b1 (opCells sv t) 138 ∧ Blk N w b2 #[sv] 88
  | f, .snapR1 t => ∃ b0 b1, f = .func (.func 70) #[] #[ptr b0, ptr b1] ∧ Blk N w b0 (opCells sv t) 138 ∧ Blk N w b1 #[sv] 88
  | f, .snapR2  => ∃ b0, f = .func (.func 72) #[] #[ptr b0] ∧ Blk N w b0 #[sv] 88
  | f, .snapP  => ∃ b0, f = .func (.func 75) #[] #[ptr b0] ∧ Blk N w b0 #[sv] 88
  | f, .frz0 t => ∃ b0 b1 b2, f = .func (.func 76) #[] #[ptr b0, ptr b1, ptr b2] ∧ Blk N w b0 #[.int .i64 t.root, .bool t.readOnly] 72 ∧ Blk N w b1 #[sv] 88 ∧ Blk N w b2 (opCells sv t) 138
  | f, .frzR1  => ∃ b0, f = .func (.func 77) #[] #[ptr b0] ∧ Blk N w b0 #[sv] 88
  | f, .frzP  => ∃ b0, f = .func (.func 79) #[] #[ptr b0] ∧ Blk N w b0 #[sv] 88
  | f, .part1 t th => ∃ b0 b1, f = .func (.func 108) #[] #[ptr b0, ptr b1] ∧ Blk N w b0 (opCells sv t) 138 ∧ (∃ u, Blk N w b1 #[u] 154 ∧ KRep sv N w u th)
  | f, .part2 t r th => ∃ b0 b1 b2, f = .func (.func 109) #[] #[ptr b0, ptr b1, ptr b2] ∧ Blk N w b0 (opCells sv t) 138 ∧ Blk N w b1 #[.int .i64 r] 46 ∧ (∃ u, Blk N w b2 #[u] 154 ∧ KRep sv N w u th)
  | f, .part3 t r m th => ∃ b0 b1 b2 b3, f = .func (.func 111) #[] #[ptr b0, ptr b1, ptr b2, ptr b3] ∧ Blk N w b0 (opCells sv t) 138 ∧ (∃ u, Blk N w b1 #[u] 154 ∧ KRep sv N w u th) ∧ Blk N w b2 #[.int .i64 r] 46 ∧ Blk N w b3 #[.int .i64 m] 46
  | f, .fin res => ∃ b0, f = .func (.func 40) #[] #[ptr b0] ∧ Blk N w b0 (resCells res).toArray 74

theorem DescBlk.keep {N N' F : Nat → Prop} {w w' : World} {b : Nat} {d : Ct.Node} (h : DescBlk N w b d) (hk : Keep F w w') (hF : ∀ k, F k → N k ∨ w.heap.size ≤ k) (hN : ∀ k, N' k → N k ∨ w.heap.size ≤ k) : DescBlk N' w' b d := by
  obtain ⟨bv, pv, h⟩ := h
  exact ⟨bv, pv, h.keep hk hF hN⟩

theorem KRep.keep {sv : Value} {N N' F : Nat → Prop} {w w' : World} (hk : Keep F w w') (hF : ∀ k, F k → N k ∨ w.heap.size ≤ k) (hN : ∀ k, N' k → N k ∨ w.heap.size ≤ k) : ∀ {k : Ct.K} {f : Value}, KRep sv N w f k → KRep sv N' w' f k := by
  intro k
  induction k with
  | read1 _ _ _ ih => rintro f ⟨b0, b1, b2, rfl, h0, h1, ⟨u2, h2, r2⟩⟩; exact ⟨b0, b1, b2, rfl, h0.keep hk hF hN, h1.keep hk hF hN, ⟨u2, h2.keep hk hF hN, ih r2⟩⟩
  | settle1 _ _ _ _ _ ih => rintro f ⟨b0, b1, b2, b3, b4, rfl, ⟨u0, h0, r0⟩, h1, h2, h3, h4⟩; exact ⟨b0, b1, b2, b3, b4, rfl, ⟨u0, h0.keep hk hF hN, ih r0⟩, h1.keep hk hF hN, h2.keep hk hF hN, h3.keep hk hF hN, h4.keep hk hF hN⟩
  | again1 _ _ _ _ _ ih => rintro f ⟨b0, b1, b2, b3, b4, rfl, h0, ⟨u1, h1, r1⟩, h2, h3, h4⟩; exact ⟨b0, b1, b2, b3, b4, rfl, h0.keep hk hF hN, ⟨u1, h1.keep hk hF hN, ih r1⟩, h2.keep hk hF hN, h3.keep hk hF hN, h4.keep hk hF hN⟩
  | again2 _ _ _ _ ih => rintro f ⟨b0, b1, b2, b3, rfl, ⟨u0, h0, r0⟩, h1, h2, h3⟩; exact ⟨b0, b1, b2, b3, rfl, ⟨u0, h0.keep hk hF hN, ih r0⟩, h1.keep hk hF hN, h2.keep hk hF hN, h3.keep hk hF hN⟩
  | sroot _ _ _ _ _ ih => rintro f ⟨b0, b1, b2, b3, b4, rfl, h0, h1, h2, h3, ⟨u4, h4, r4⟩⟩; exact ⟨b0, b1, b2, b3, b4, rfl, h0.keep hk hF hN, h1.keep hk hF hN, h2.keep hk hF hN, h3.keep hk hF hN, ⟨u4, h4.keep hk hF hN, ih r4⟩⟩
  | back1 _ _ ih => rintro f ⟨b0, b1, rfl, ⟨u0, h0, r0⟩, h1⟩; exact ⟨b0, b1, rfl, ⟨u0, h0.keep hk hF hN, ih r0⟩, h1.keep hk hF hN⟩
  | root1 _ _ ih => rintro f ⟨b0, b1, rfl, h0, ⟨u1, h1, r1⟩⟩; exact ⟨b0, b1, rfl, h0.keep hk hF hN, ⟨u1, h1.keep hk hF hN, ih r1⟩⟩
  | root2 _ _ _ _ ih => rintro f ⟨b0, b1, b2, b3, rfl, h0, h1, ⟨u2, h2, r2⟩, h3⟩; exact ⟨b0, b1, b2, b3, rfl, h0.keep hk hF hN, h1.keep hk hF hN, ⟨u2, h2.keep hk hF hN, ih r2⟩, h3.keep hk hF hN⟩
  | root3 _ _ _ _ ih => rintro f ⟨b0, b1, b2, b3, rfl, h0, h1, h2, ⟨u3, h3, r3⟩⟩; exact ⟨b0, b1, b2, b3, rfl, h0.keep hk hF hN, h1.keep hk hF hN, h2.keep hk hF hN, ⟨u3, h3.keep hk hF hN, ih r3⟩⟩
  | root4 _ _ _ ih => rintro f ⟨b0, b1, b2, rfl, h0, h1, ⟨u2, h2, r2⟩⟩; exact ⟨b0, b1, b2, rfl, h0.keep hk hF hN, h1.keep hk hF hN, ⟨u2, h2.keep hk hF hN, ih r2⟩⟩
  | complete1 _ _ ih => rintro f ⟨b0, b1, rfl, ⟨u0, h0, r0⟩, h1⟩; exact ⟨b0, b1, rfl, ⟨u0, h0.keep hk hF hN, ih r0⟩, h1.keep hk hF hN⟩
  | help1 _ _ ih => rintro f ⟨b0, b1, rfl, h0, ⟨u1, h1, r1⟩⟩; exact ⟨b0, b1, rfl, h0.keep hk hF hN, ⟨u1, h1.keep hk hF hN, ih r1⟩⟩
  | help2 _ _ _ _ ih => rintro f ⟨b0, b1, b2, b3, rfl, h0, h1, ⟨u2, h2, r2⟩, h3⟩; exact ⟨b0, b1, b2, b3, rfl, h0.keep hk hF hN, h1.keep hk hF hN, ⟨u2, h2.keep hk hF hN, ih r2⟩, h3.keep hk hF hN⟩
  | help3 _ _ _ _ ih => rintro f ⟨b0, b1, b2, b3, rfl, h0, h1, h2, ⟨u3, h3, r3⟩⟩; exact ⟨b0, b1, b2, b3, rfl, h0.keep hk hF hN, h1.keep hk hF hN, h2.keep hk hF hN, ⟨u3, h3.keep hk hF hN, ih r3⟩⟩
  | help4 _ _ _ ih => rintro f ⟨b0, b1, b2, rfl, h0, h1, ⟨u2, h2, r2⟩⟩; exact ⟨b0, b1, b2, rfl, h0.keep hk hF hN, h1.keep hk hF hN, ⟨u2, h2.keep hk hF hN, ih r2⟩⟩
  | decide1 _ _ ih => rintro f ⟨b0, b1, rfl, h0, ⟨u1, h1, r1⟩⟩; exact ⟨b0, b1, rfl, h0.keep hk hF hN, ⟨u1, h1.keep hk hF hN, ih r1⟩⟩
  | decide2 _ ih => rintro f ⟨b0, rfl, ⟨u0, h0, r0⟩⟩; exact ⟨b0, rfl, ⟨u0, h0.keep hk hF hN, ih r0⟩⟩
  | repl1 _ _ _ _ ih => rintro f ⟨b0, b1, b2, b3, rfl, ⟨u0, h0, r0⟩, h1, h2, h3⟩; exact ⟨b0, b1, b2, b3, rfl, ⟨u0, h0.keep hk hF hN, ih r0⟩, h1.keep hk hF hN, h2.keep hk hF hN, h3.keep hk hF hN⟩
  | repl2 _ _ _ _ ih => rintro f ⟨b0, b1, b2, b3, rfl, h0, h1, h2, ⟨u3, h3, r3⟩⟩; exact ⟨b0, b1, b2, b3, rfl, h0.keep hk hF hN, h1.keep hk hF hN, h2.keep hk hF hN, ⟨u3, h3.keep hk hF hN, ih r3⟩⟩
  | repl3 _ _ _ ih => rintro f ⟨b0, b1, b2, rfl, h0, h1, ⟨u2, h2, r2⟩⟩; exact ⟨b0, b1, b2, rfl, h0.keep hk hF hN, h1.keep hk hF hN, ⟨u2, h2.keep hk hF hN, ih r2⟩⟩
  | repl4 _ _ ih => rintro f ⟨b0, b1, rfl, ⟨u0, h0, r0⟩, h1⟩; exact ⟨b0, b1, rfl, ⟨u0, h0.keep hk hF hN, ih r0⟩, h1.keep hk hF hN⟩
  | clr0 _ => rintro f ⟨b0, rfl, h0⟩; exact ⟨b0, rfl, h0.keep hk hF hN⟩
  | clr1 _ => rintro f ⟨b0, rfl, h0⟩; exact ⟨b0, rfl, h0.keep hk hF hN⟩
  | clr2 _ _ => rintro f ⟨b0, b1, rfl, h0, h1⟩; exact ⟨b0, b1, rfl, h0.keep hk hF hN, h1.keep hk hF hN⟩
  | clr3 _ => rintro f ⟨b0, rfl, h0⟩; exact ⟨b0, rfl, h0.keep hk hF hN⟩
  | snap0 _ => rintro f ⟨b0, b1, b2, rfl, h0, h1, h2⟩; exact ⟨b0, b1, b2, rfl, h0.keep hk hF hN, h1.keep hk hF hN, h2.keep hk hF hN⟩
  | snapR1 _ => rintro f ⟨b0, b1, rfl, h0, h1⟩; exact ⟨b0, b1, rfl, h0.keep hk hF hN, h1.keep hk hF hN⟩
  | snapR2  => rintro f ⟨b0, rfl, h0⟩; exact ⟨b0, rfl, h0.keep hk hF hN⟩
  | snapP  => rintro f ⟨b0, rfl, h0⟩; exact ⟨b0, rfl, h0.keep hk hF hN⟩
  | frz0 _ => rintro f ⟨b0, b1, b2, rfl, h0, h1, h2⟩; exact ⟨b0, b1, b2, rfl, h0.keep hk hF hN, h1.keep hk hF hN, h2.keep hk hF hN⟩
  | frzR1  => rintro f ⟨b0, rfl, h0⟩; exact ⟨b0, rfl, h0.keep hk hF hN⟩
  | frzP  => rintro f ⟨b0, rfl, h0⟩; exact ⟨b0, rfl, h0.keep hk hF hN⟩
  | part1 _ _ ih => rintro f ⟨b0, b1, rfl, h0, ⟨u1, h1, r1⟩⟩; exact ⟨b0, b1, rfl, h0.keep hk hF hN, ⟨u1, h1.keep hk hF hN, ih r1⟩⟩
  | part2 _ _ _ ih => rintro f ⟨b0, b1, b2, rfl, h0, h1, ⟨u2, h2, r2⟩⟩; exact ⟨b0, b1, b2, rfl, h0.keep hk hF hN, h1.keep hk hF hN, ⟨u2, h2.keep hk hF hN, ih r2⟩⟩
  | part3 _ _ _ _ ih => rintro f ⟨b0, b1, b2, b3, rfl, h0, ⟨u1, h1, r1⟩, h2, h3⟩; exact ⟨b0, b1, b2, b3, rfl, h0.keep hk hF hN, ⟨u1, h1.keep hk hF hN, ih r1⟩, h2.keep hk hF hN, h3.keep hk hF hN⟩
  | fin _ => rintro f ⟨b0, rfl, h0⟩; exact ⟨b0, rfl, h0.keep hk hF hN⟩

theorem KRep.func {sv : Value} {N : Nat → Prop} {w : World} : ∀ {k : Ct.K} {f : Value}, KRep sv N w f k → ∃ n caps, f = .func (.func n) #[] caps
  | .read1 _ _ _, _, ⟨_, _, _, e, _⟩ => ⟨_, _, e⟩
  | .settle1 _ _ _ _ _, _, ⟨_, _, _, _, _, e, _⟩ => ⟨_, _, e⟩
  | .again1 _ _ _ _ _, _, ⟨_, _, _, _, _, e, _⟩ => ⟨_, _, e⟩
  | .again2 _ _ _ _, _, ⟨_, _, _, _, e, _⟩ => ⟨_, _, e⟩
  | .sroot _ _ _ _ _, _, ⟨_, _, _, _, _, e, _⟩ => ⟨_, _, e⟩
  | .back1 _ _, _, ⟨_, _, e, _⟩ => ⟨_, _, e⟩
  | .root1 _ _, _, ⟨_, _, e, _⟩ => ⟨_, _, e⟩
  | .root2 _ _ _ _, _, ⟨_, _, _, _, e, _⟩ => ⟨_, _, e⟩
  | .root3 _ _ _ _, _, ⟨_, _, _, _, e, _⟩ => ⟨_, _, e⟩
  | .root4 _ _ _, _, ⟨_, _, _, e, _⟩ => ⟨_, _, e⟩
  | .complete1 _ _, _, ⟨_, _, e, _⟩ => ⟨_, _, e⟩
  | .help1 _ _, _, ⟨_, _, e, _⟩ => ⟨_, _, e⟩
  | .help2 _ _ _ _, _, ⟨_, _, _, _, e, _⟩ => ⟨_, _, e⟩
  | .help3 _ _ _ _, _, ⟨_, _, _, _, e, _⟩ => ⟨_, _, e⟩
  | .help4 _ _ _, _, ⟨_, _, _, e, _⟩ => ⟨_, _, e⟩
  | .decide1 _ _, _, ⟨_, _, e, _⟩ => ⟨_, _, e⟩
  | .decide2 _, _, ⟨_, e, _⟩ => ⟨_, _, e⟩
  | .repl1 _ _ _ _, _, ⟨_, _, _, _, e, _⟩ => ⟨_, _, e⟩
  | .repl2 _ _ _ _, _, ⟨_, _, _, _, e, _⟩ => ⟨_, _, e⟩
  | .repl3 _ _ _, _, ⟨_, _, _, e, _⟩ => ⟨_, _, e⟩
  | .repl4 _ _, _, ⟨_, _, e, _⟩ => ⟨_, _, e⟩
  | .clr0 _, _, ⟨_, e, _⟩ => ⟨_, _, e⟩
  | .clr1 _, _, ⟨_, e, _⟩ => ⟨_, _, e⟩
  | .clr2 _ _, _, ⟨_, _, e, _⟩ => ⟨_, _, e⟩
  | .clr3 _, _, ⟨_, e, _⟩ => ⟨_, _, e⟩
  | .snap0 _, _, ⟨_, _, _, e, _⟩ => ⟨_, _, e⟩
  | .snapR1 _, _, ⟨_, _, e, _⟩ => ⟨_, _, e⟩
  | .snapR2 , _, ⟨_, e, _⟩ => ⟨_, _, e⟩
  | .snapP , _, ⟨_, e, _⟩ => ⟨_, _, e⟩
  | .frz0 _, _, ⟨_, _, _, e, _⟩ => ⟨_, _, e⟩
  | .frzR1 , _, ⟨_, e, _⟩ => ⟨_, _, e⟩
  | .frzP , _, ⟨_, e, _⟩ => ⟨_, _, e⟩
  | .part1 _ _, _, ⟨_, _, e, _⟩ => ⟨_, _, e⟩
  | .part2 _ _ _, _, ⟨_, _, _, e, _⟩ => ⟨_, _, e⟩
  | .part3 _ _ _ _, _, ⟨_, _, _, _, e, _⟩ => ⟨_, _, e⟩
  | .fin _, _, ⟨_, e, _⟩ => ⟨_, _, e⟩

def doneCells (r : Ct.Result) : List Value := [.int .i64 0, .int .i64 0, .int .i64 0, .int .i64 0, .nilFunc, .nilFunc] ++ resCells r
def loadCells (c : Int) (f : Value) : List Value := [.int .i64 1, .int .i64 c, .int .i64 0, .int .i64 0, f, .nilFunc] ++ resCells {}
def casCells (c old new : Int) (f : Value) : List Value := [.int .i64 2, .int .i64 c, .int .i64 old, .int .i64 new, .nilFunc, f] ++ resCells {}

/-- Cells that hold a code. -/
def CodeRep (sv : Value) (N : Nat → Prop) (w : World) (cs : List Value) : Ct.Code → Prop
  | .done r => cs = doneCells r
  | .load c k => ∃ f, cs = loadCells c f ∧ KRep sv N w f k
  | .cas c old new k => ∃ f, cs = casCells c old new f ∧ KRep sv N w f k

theorem CodeRep.keep {sv : Value} {N N' F : Nat → Prop} {w w' : World} {cs : List Value} {c : Ct.Code} (h : CodeRep sv N w cs c) (hk : Keep F w w') (hF : ∀ k, F k → N k ∨ w.heap.size ≤ k) (hN : ∀ k, N' k → N k ∨ w.heap.size ≤ k) : CodeRep sv N' w' cs c := by
  cases c with
  | done r => exact h
  | load c k => obtain ⟨f, e, h⟩ := h; exact ⟨f, e, h.keep hk hF hN⟩
  | cas c o n k => obtain ⟨f, e, h⟩ := h; exact ⟨f, e, h.keep hk hF hN⟩
theorem CodeRep.length {sv : Value} {N : Nat → Prop} {w : World} {cs : List Value} {c : Ct.Code} (h : CodeRep sv N w cs c) : cs.length = 14 := by
  cases c with
  | done r => rw [h]; rfl
  | load c k => obtain ⟨f, e, h⟩ := h; rw [e]; rfl
  | cas c o n k => obtain ⟨f, e, h⟩ := h; rw [e]; rfl
theorem CodeRep.one {sv : Value} {N : Nat → Prop} {w : World} {cs : List Value} {c : Ct.Code} (h : CodeRep sv N w cs c) : ∀ v ∈ cs, v.oneCell' = true := by
  cases c with
  | done r =>
    rw [h]; intro v hv
    simp only [doneCells, resCells, List.cons_append, List.nil_append, List.mem_cons, List.not_mem_nil, or_false] at hv
    rcases hv with rfl | rfl | rfl | rfl | rfl | rfl | rfl | rfl | rfl | rfl | rfl | rfl | rfl | rfl <;> rfl
  | load c k =>
    obtain ⟨f, e, h⟩ := h
    obtain ⟨n, caps, rfl⟩ := h.func
    rw [e]; intro v hv
    simp only [loadCells, resCells, List.cons_append, List.nil_append, List.mem_cons, List.not_mem_nil, or_false] at hv
    rcases hv with rfl | rfl | rfl | rfl | rfl | rfl | rfl | rfl | rfl | rfl | rfl | rfl | rfl | rfl <;> rfl
  | cas c o n k =>
    obtain ⟨f, e, h⟩ := h
    obtain ⟨n, caps, rfl⟩ := h.func
    rw [e]; intro v hv
    simp only [casCells, resCells, List.cons_append, List.nil_append, List.mem_cons, List.not_mem_nil, or_false] at hv
    rcases hv with rfl | rfl | rfl | rfl | rfl | rfl | rfl | rfl | rfl | rfl | rfl | rfl | rfl | rfl <;> rfl
end Go.Proofs.YtifehcegnofpkaaGreatDoor