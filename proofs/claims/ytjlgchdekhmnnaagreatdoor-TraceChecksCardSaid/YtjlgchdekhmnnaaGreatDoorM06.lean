/- Parts of a proof: KRep. -/
import Derived.Test.YtjlgchdekhmnnaaGreatDoorM01
import Derived.Test.YtjlgchdekhmnnaaGreatDoorM05
section
namespace Go.Proofs.YtjlgchdekhmnnaaGreatDoor
open Go.RowKit
set_option linter.unusedVariables false
variable {O : Nat → Prop}
def opCells (sv : Value) (t : Ct.Trie) : Array Value := #[sv, .int .i64 t.root, .bool t.readOnly]
def DescBlk (N : Nat → Prop) (w : World) (b : Nat) (d : Ct.Node) : Prop := ∃ bv pv, Blk N w b (nodeCells d bv pv).toArray 136
def resCells (r : Ct.Result) : List Value := [.int .i64 r.err, .bool r.found, .int .u64 (r.value : Nat), .string r.key, .int .i64 r.count, .int .i64 r.ref, .int .i64 r.trie.root, .bool r.trie.readOnly]
def ptr (b : Nat) : Value := .pointer (some ⟨b, 0, none⟩)
def lookCells (sv : Value) (t : Ct.Trie) (l : Ct.Look) : List Value := [sv, .int .i64 t.root, .bool t.readOnly, .string l.key, .int .u64 (l.hash : Nat)]
def LookBox (N : Nat → Prop) (w : World) (b : Nat) (sv : Value) (t : Ct.Trie) (l : Ct.Look) : Prop :=
  ∃ fb, Blk N w b #[ptr fb] 188 ∧ Blk N w fb (lookCells sv t l).toArray 190
def renCells (sv : Value) (t : Ct.Trie) (i c x : Int) (u : Value) : List Value := [sv, .int .i64 t.root, .bool t.readOnly, .int .i64 i, .int .i64 c, .int .i64 x, u]
def setCells (sv : Value) (t : Ct.Trie) (p : Ct.Setting) : List Value :=
  [sv, .int .i64 t.root, .bool t.readOnly, .string p.key, .int .u64 (p.hash : Nat), .int .u64 (p.value : Nat), .int .i64 p.policy, .int .u64 (p.expect : Nat), .int .i64 p.gen, .int .i64 p.parent, .int .i64 p.inn, .int .i64 p.level]
def SetAt (sv : Value) (O : Nat → Prop) (w : World) (b : Nat) (t : Ct.Trie) (p : Ct.Setting) : Prop := O b ∧ w.heap[b]? = some (.cells (setCells sv t p).toArray 184 (0, 0))
def SetBox (N O : Nat → Prop) (w : World) (b : Nat) (sv : Value) (t : Ct.Trie) (p : Ct.Setting) : Prop := ∃ pb, Blk N w b #[ptr pb] 179 ∧ SetAt sv O w pb t p
def remCells (sv : Value) (t : Ct.Trie) (d : Ct.Removal) (vp : Value) : List Value :=
  [sv, .int .i64 t.root, .bool t.readOnly, .string d.key, .int .u64 (d.hash : Nat), .bool d.only, .int .u64 (d.expect : Nat), .int .i64 d.gen, vp]
structure RemV (sv : Value) (O : Nat → Prop) (w : World) (b : Nat) (t : Ct.Trie) (d : Ct.Removal) (vp : Value) : Prop where
  own : O b
  at_ : w.heap[b]? = some (.cells (remCells sv t d vp).toArray 187 (0, 0))
  row : w.ownsRow 0 40 1 vp d.path.length (d.path.map (Value.int .i64))
  rown : ∀ k, vp.ownBlock = some k → O k ∧ k ≠ b
def RemAt (sv : Value) (O : Nat → Prop) (w : World) (b : Nat) (t : Ct.Trie) (d : Ct.Removal) : Prop := ∃ vp, RemV sv O w b t d vp
def RemBox (N O : Nat → Prop) (w : World) (b : Nat) (sv : Value) (t : Ct.Trie) (d : Ct.Removal) : Prop := ∃ pb, Blk N w b #[ptr pb] 185 ∧ RemAt sv O w pb t d
def KRep (sv : Value) (N O : Nat → Prop) (w : World) : Value → Ct.K → Prop
  | f, .read1 t i th => ∃ b0 b1 b2, f = .func (.func 152) #[] #[ptr b0, ptr b1, ptr b2] ∧ Blk N w b0 (opCells sv t) 181 ∧ Blk N w b1 #[.int .i64 i] 40 ∧ (∃ u, Blk N w b2 #[u] 112 ∧ KRep sv N O w u th)
  | f, .settle1 t i m prev th => ∃ b0 b1 b2 b3 b4, f = .func (.func 179) #[] #[ptr b0, ptr b1, ptr b2, ptr b3, ptr b4] ∧ (∃ u, Blk N w b0 #[u] 112 ∧ KRep sv N O w u th) ∧ Blk N w b1 #[.int .i64 m] 40 ∧ Blk N w b2 (opCells sv t) 181 ∧ Blk N w b3 #[.int .i64 i] 40 ∧ Blk N w b4 #[.int .i64 prev] 41
  | f, .again1 t i m prev th => ∃ b0 b1 b2 b3 b4, f = .func (.func 182) #[] #[ptr b0, ptr b1, ptr b2, ptr b3, ptr b4] ∧ Blk N w b0 #[.int .i64 prev] 41 ∧ (∃ u, Blk N w b1 #[u] 112 ∧ KRep sv N O w u th) ∧ Blk N w b2 #[.int .i64 m] 40 ∧ Blk N w b3 (opCells sv t) 181 ∧ Blk N w b4 #[.int .i64 i] 40
  | f, .again2 t i m th => ∃ b0 b1 b2 b3, f = .func (.func 183) #[] #[ptr b0, ptr b1, ptr b2, ptr b3] ∧ (∃ u, Blk N w b0 #[u] 112 ∧ KRep sv N O w u th) ∧ Blk N w b1 #[.int .i64 m] 40 ∧ Blk N w b2 (opCells sv t) 181 ∧ Blk N w b3 #[.int .i64 i] 40
  | f, .sroot t i prev p ag => ∃ b0 b1 b2 b3 b4, f = .func (.func 186) #[] #[ptr b0, ptr b1, ptr b2, ptr b3, ptr b4] ∧ Blk N w b0 (opCells sv t) 181 ∧ Blk N w b1 #[.int .i64 i] 40 ∧ Blk N w b2 #[.int .i64 prev] 41 ∧ Blk N w b3 #[.int .i64 p] 40 ∧ (∃ u, Blk N w b4 #[u] 113 ∧ KRep sv N O w u ag)
  | f, .back1 old th => ∃ b0 b1, f = .func (.func 211) #[] #[ptr b0, ptr b1] ∧ (∃ u, Blk N w b0 #[u] 112 ∧ KRep sv N O w u th) ∧ Blk N w b1 #[.int .i64 old] 40
  | f, .root1 t th => ∃ b0 b1, f = .func (.func 213) #[] #[ptr b0, ptr b1] ∧ Blk N w b0 (opCells sv t) 181 ∧ (∃ u, Blk N w b1 #[u] 112 ∧ KRep sv N O w u th)
  | f, .root2 t v d th => ∃ b0 b1 b2 b3, f = .func (.func 214) #[] #[ptr b0, ptr b1, ptr b2, ptr b3] ∧ Blk N w b0 (opCells sv t) 181 ∧ Blk N w b1 #[.int .i64 v] 40 ∧ (∃ u, Blk N w b2 #[u] 112 ∧ KRep sv N O w u th) ∧ DescBlk N w b3 d
  | f, .root3 t v d th => ∃ b0 b1 b2 b3, f = .func (.func 215) #[] #[ptr b0, ptr b1, ptr b2, ptr b3] ∧ DescBlk N w b0 d ∧ Blk N w b1 (opCells sv t) 181 ∧ Blk N w b2 #[.int .i64 v] 40 ∧ (∃ u, Blk N w b3 #[u] 112 ∧ KRep sv N O w u th)
  | f, .root4 t v th => ∃ b0 b1 b2, f = .func (.func 216) #[] #[ptr b0, ptr b1, ptr b2] ∧ Blk N w b0 (opCells sv t) 181 ∧ Blk N w b1 #[.int .i64 v] 40 ∧ (∃ u, Blk N w b2 #[u] 112 ∧ KRep sv N O w u th)
  | f, .complete1 r th => ∃ b0 b1, f = .func (.func 171) #[] #[ptr b0, ptr b1] ∧ (∃ u, Blk N w b0 #[u] 112 ∧ KRep sv N O w u th) ∧ Blk N w b1 #[.int .i64 r] 40
  | f, .help1 t th => ∃ b0 b1, f = .func (.func 139) #[] #[ptr b0, ptr b1] ∧ Blk N w b0 (opCells sv t) 181 ∧ (∃ u, Blk N w b1 #[u] 112 ∧ KRep sv N O w u th)
  | f, .help2 t v d th => ∃ b0 b1 b2 b3, f = .func (.func 140) #[] #[ptr b0, ptr b1, ptr b2, ptr b3] ∧ Blk N w b0 (opCells sv t) 181 ∧ Blk N w b1 #[.int .i64 v] 40 ∧ (∃ u, Blk N w b2 #[u] 112 ∧ KRep sv N O w u th) ∧ DescBlk N w b3 d
  | f, .help3 t v d th => ∃ b0 b1 b2 b3, f = .func (.func 143) #[] #[ptr b0, ptr b1, ptr b2, ptr b3] ∧ DescBlk N w b0 d ∧ Blk N w b1 (opCells sv t) 181 ∧ Blk N w b2 #[.int .i64 v] 40 ∧ (∃ u, Blk N w b3 #[u] 112 ∧ KRep sv N O w u th)
  | f, .help4 t v th => ∃ b0 b1 b2, f = .func (.func 144) #[] #[ptr b0, ptr b1, ptr b2] ∧ Blk N w b0 (opCells sv t) 181 ∧ Blk N w b1 #[.int .i64 v] 40 ∧ (∃ u, Blk N w b2 #[u] 112 ∧ KRep sv N O w u th)
  | f, .decide1 d th => ∃ b0 b1, f = .func (.func 172) #[] #[ptr b0, ptr b1] ∧ DescBlk N w b0 d ∧ (∃ u, Blk N w b1 #[u] 153 ∧ KRep sv N O w u th)
  | f, .decide2 th => ∃ b0, f = .func (.func 173) #[] #[ptr b0] ∧ (∃ u, Blk N w b0 #[u] 153 ∧ KRep sv N O w u th)
  | f, .repl1 t v d th => ∃ b0 b1 b2 b3, f = .func (.func 188) #[] #[ptr b0, ptr b1, ptr b2, ptr b3] ∧ (∃ u, Blk N w b0 #[u] 113 ∧ KRep sv N O w u th) ∧ Blk N w b1 (opCells sv t) 181 ∧ DescBlk N w b2 d ∧ Blk N w b3 #[.int .i64 v] 40
  | f, .repl2 t v d th => ∃ b0 b1 b2 b3, f = .func (.func 189) #[] #[ptr b0, ptr b1, ptr b2, ptr b3] ∧ DescBlk N w b0 d ∧ Blk N w b1 (opCells sv t) 181 ∧ Blk N w b2 #[.int .i64 v] 40 ∧ (∃ u, Blk N w b3 #[u] 113 ∧ KRep sv N O w u th)
  | f, .repl3 t v th => ∃ b0 b1 b2, f = .func (.func 190) #[] #[ptr b0, ptr b1, ptr b2] ∧ Blk N w b0 (opCells sv t) 181 ∧ Blk N w b1 #[.int .i64 v] 40 ∧ (∃ u, Blk N w b2 #[u] 113 ∧ KRep sv N O w u th)
  | f, .repl4 st th => ∃ b0 b1, f = .func (.func 191) #[] #[ptr b0, ptr b1] ∧ (∃ u, Blk N w b0 #[u] 113 ∧ KRep sv N O w u th) ∧ Blk N w b1 #[.int .i64 st] 40
  | f, .clr0 t => ∃ b0, f = .func (.func 124) #[] #[ptr b0] ∧ Blk N w b0 (opCells sv t) 181
  | f, .clr1 t => ∃ b0, f = .func (.func 158) #[] #[ptr b0] ∧ Blk N w b0 (opCells sv t) 181
  | f, .clr2 t r => ∃ b0 b1, f = .func (.func 159) #[] #[ptr b0, ptr b1] ∧ Blk N w b0 (opCells sv t) 181 ∧ Blk N w b1 #[.int .i64 r] 40
  | f, .clr3 t => ∃ b0, f = .func (.func 160) #[] #[ptr b0] ∧ Blk N w b0 (opCells sv t) 181
  | f, .snap0 t => ∃ b0 b1 b2, f = .func (.func 112) #[] #[ptr b0, ptr b1, ptr b2] ∧ Blk N w b0 #[.int .i64 t.root, .bool t.readOnly] 43 ∧ Blk N w b1 (opCells sv t) 181 ∧ Blk N w b2 #[sv] 95
  | f, .snapR1 t => ∃ b0 b1, f = .func (.func 114) #[] #[ptr b0, ptr b1] ∧ Blk N w b0 (opCells sv t) 181 ∧ Blk N w b1 #[sv] 95
  | f, .snapR2  => ∃ b0, f = .func (.func 116) #[] #[ptr b0] ∧ Blk N w b0 #[sv] 95
  | f, .snapP  => ∃ b0, f = .func (.func 119) #[] #[ptr b0] ∧ Blk N w b0 #[sv] 95
  | f, .frz0 t => ∃ b0 b1 b2, f = .func (.func 120) #[] #[ptr b0, ptr b1, ptr b2] ∧ Blk N w b0 #[.int .i64 t.root, .bool t.readOnly] 43 ∧ Blk N w b1 #[sv] 95 ∧ Blk N w b2 (opCells sv t) 181
  | f, .frzR1  => ∃ b0, f = .func (.func 121) #[] #[ptr b0] ∧ Blk N w b0 #[sv] 95
  | f, .frzP  => ∃ b0, f = .func (.func 123) #[] #[ptr b0] ∧ Blk N w b0 #[sv] 95
  | f, .part1 t th => ∃ b0 b1, f = .func (.func 154) #[] #[ptr b0, ptr b1] ∧ Blk N w b0 (opCells sv t) 181 ∧ (∃ u, Blk N w b1 #[u] 197 ∧ KRep sv N O w u th)
  | f, .part2 t r th => ∃ b0 b1 b2, f = .func (.func 155) #[] #[ptr b0, ptr b1, ptr b2] ∧ Blk N w b0 (opCells sv t) 181 ∧ Blk N w b1 #[.int .i64 r] 40 ∧ (∃ u, Blk N w b2 #[u] 197 ∧ KRep sv N O w u th)
  | f, .part3 t r m th => ∃ b0 b1 b2 b3, f = .func (.func 157) #[] #[ptr b0, ptr b1, ptr b2, ptr b3] ∧ Blk N w b0 (opCells sv t) 181 ∧ (∃ u, Blk N w b1 #[u] 197 ∧ KRep sv N O w u th) ∧ Blk N w b2 #[.int .i64 r] 40 ∧ Blk N w b3 #[.int .i64 m] 40
  | f, .fin res => ∃ b0, f = .func (.func 77) #[] #[ptr b0] ∧ Blk N w b0 (resCells res).toArray 45
  | f, .swap1 t i n th => ∃ b0 b1 b2 b3, f = .func (.func 253) #[] #[ptr b0, ptr b1, ptr b2, ptr b3] ∧ (∃ u, Blk N w b0 #[u] 113 ∧ KRep sv N O w u th) ∧ Blk N w b1 (opCells sv t) 181 ∧ Blk N w b2 #[.int .i64 i] 40 ∧ Blk N w b3 #[.int .i64 n] 40
  | f, .swap2 n th => ∃ b0 b1, f = .func (.func 254) #[] #[ptr b0, ptr b1] ∧ (∃ u, Blk N w b0 #[u] 113 ∧ KRep sv N O w u th) ∧ Blk N w b1 #[.int .i64 n] 40
  | f, .fnd0 t l => ∃ b0 b1, f = .func (.func 108) #[] #[ptr b0, ptr b1] ∧ Blk N w b0 #[.string l.key] 9 ∧ LookBox N w b1 sv t l
  | f, .fnd1 t l => ∃ b0, f = .func (.func 110) #[] #[ptr b0] ∧ LookBox N w b0 sv t l
  | f, .fnd2 t l level => ∃ b0 b1, f = .func (.func 145) #[] #[ptr b0, ptr b1] ∧ LookBox N w b0 sv t l ∧ Blk N w b1 #[.int .i64 level] 3
  | f, .ren1 t i c index th => ∃ b0 u, f = .func (.func 261) #[ptr b0] #[] ∧ Blk N w b0 (renCells sv t i c index u).toArray 279 ∧ KRep sv N O w u th
  | f, .ren2 i th => ∃ b0 b1, f = .func (.func 275) #[] #[ptr b0, ptr b1] ∧ (∃ rb t1 i1 c1 x1 u, Blk N w b0 #[ptr rb] 277 ∧ Blk N w rb (renCells sv t1 i1 c1 x1 u).toArray 279 ∧ KRep sv N O w u th) ∧ Blk N w b1 #[.int .i64 i] 40
  | f, .cln1 t parent child hash level th => ∃ b0 b1 b2 b3 b4 b5, f = .func (.func 222) #[] #[ptr b0, ptr b1, ptr b2, ptr b3, ptr b4, ptr b5] ∧ Blk N w b0 #[.int .u64 (hash : Nat)] 27 ∧ Blk N w b1 #[.int .i64 level] 3 ∧ Blk N w b2 (opCells sv t) 181 ∧ Blk N w b3 #[.int .i64 child] 40 ∧ (∃ u, Blk N w b4 #[u] 113 ∧ KRep sv N O w u th) ∧ Blk N w b5 #[.int .i64 parent] 40
  | f, .cln2 t parent m index level th => ∃ b0 b1 b2 b3 b4 b5, f = .func (.func 223) #[] #[ptr b0, ptr b1, ptr b2, ptr b3, ptr b4, ptr b5] ∧ Blk N w b0 (opCells sv t) 181 ∧ (∃ u, Blk N w b1 #[u] 113 ∧ KRep sv N O w u th) ∧ Blk N w b2 #[.int .i64 m] 40 ∧ Blk N w b3 #[.int .i64 index] 3 ∧ Blk N w b4 #[.int .i64 level] 3 ∧ Blk N w b5 #[.int .i64 parent] 40
  | f, .put0 t p => ∃ b0 b1 b2, f = .func (.func 104) #[] #[ptr b0, ptr b1, ptr b2] ∧ Blk N w b0 #[.string p.key] 9 ∧ Blk N w b1 #[.int .i64 p.policy] 3 ∧ SetBox N O w b2 sv t p
  | f, .putB t p => ∃ b0, f = .func (.func 137) #[ptr b0] #[] ∧ SetAt sv O w b0 t p
  | f, .putV t p => ∃ b0, f = .func (.func 168) #[ptr b0] #[] ∧ SetAt sv O w b0 t p
  | f, .putA t p => ∃ b0, f = .func (.func 201) #[ptr b0] #[] ∧ SetAt sv O w b0 t p
  | f, .putR t p => ∃ b0, f = .func (.func 235) #[ptr b0] #[] ∧ SetAt sv O w b0 t p
  | f, .putS t p found v => ∃ b0 b1 b2, f = .func (.func 258) #[] #[ptr b0, ptr b1, ptr b2] ∧ SetBox N O w b0 sv t p ∧ Blk N w b1 #[.bool found] 4 ∧ Blk N w b2 #[.int .u64 (v : Nat)] 27
  | f, .drp0 t d => ∃ b0 b1, f = .func (.func 106) #[] #[ptr b0, ptr b1] ∧ Blk N w b0 #[.string d.key] 9 ∧ RemBox N O w b1 sv t d
  | f, .drpB t d => ∃ b0, f = .func (.func 138) #[ptr b0] #[] ∧ RemAt sv O w b0 t d
  | f, .drpV t d => ∃ b0, f = .func (.func 204) #[ptr b0] #[] ∧ RemAt sv O w b0 t d
  | f, .drpA t d => ∃ b0, f = .func (.func 237) #[ptr b0] #[] ∧ RemAt sv O w b0 t d
  | f, .drpR t d => ∃ b0, f = .func (.func 267) #[ptr b0] #[] ∧ RemAt sv O w b0 t d
  | f, .drpS t d v => ∃ b0 b1, f = .func (.func 277) #[] #[ptr b0, ptr b1] ∧ RemBox N O w b0 sv t d ∧ Blk N w b1 #[.int .u64 (v : Nat)] 27
  | f, .drpU t d l v => ∃ b0 b1 b2, f = .func (.func 281) #[] #[ptr b0, ptr b1, ptr b2] ∧ RemBox N O w b0 sv t d ∧ Blk N w b1 #[.int .u64 (v : Nat)] 27 ∧ Blk N w b2 #[.int .i64 l] 3
  | f, .drpX t d l v => ∃ b0 b1 b2, f = .func (.func 282) #[] #[ptr b0, ptr b1, ptr b2] ∧ RemBox N O w b0 sv t d ∧ Blk N w b1 #[.int .i64 l] 3 ∧ Blk N w b2 #[.int .u64 (v : Nat)] 27
theorem DescBlk.keep {N N' F : Nat → Prop} {w w' : World} {b : Nat} {d : Ct.Node} (h : DescBlk N w b d) (hk : Keep F w w') (hF : ∀ k, F k → N k ∨ w.heap.size ≤ k) (hN : ∀ k, N' k → N k ∨ w.heap.size ≤ k) : DescBlk N' w' b d := by
  obtain ⟨bv, pv, h⟩ := h
  exact ⟨bv, pv, h.keep hk hF hN⟩
theorem LookBox.keep {sv : Value} {t : Ct.Trie} {l : Ct.Look} {N N' F : Nat → Prop} {w w' : World} {b : Nat} (h : LookBox N w b sv t l) (hk : Keep F w w') (hF : ∀ k, F k → N k ∨ w.heap.size ≤ k) (hN : ∀ k, N' k → N k ∨ w.heap.size ≤ k) : LookBox N' w' b sv t l := by
  obtain ⟨fb, h1, h2⟩ := h
  exact ⟨fb, h1.keep hk hF hN, h2.keep hk hF hN⟩
theorem own_block {O F : Nat → Prop} {w w' : World} {b : Nat} {o : Obj} (h : w.heap[b]? = some o) (ho : O b) (hk : Keep F w w') (hO : ∀ k, F k → ¬ O k ∨ w.heap.size ≤ k) : w'.heap[b]? = some o := by
  have hlt := (Array.getElem?_eq_some_iff.1 h).1
  rw [hk.block b hlt (fun hf => (hO b hf).elim (fun hn => hn ho) (fun hn => by omega))]; exact h
theorem SetAt.keep {sv : Value} {t : Ct.Trie} {p : Ct.Setting} {N N' O F : Nat → Prop} {w w' : World} {b : Nat} (h : SetAt sv O w b t p) (hk : Keep F w w') (hF : ∀ k, F k → N k ∨ w.heap.size ≤ k) (hN : ∀ k, N' k → N k ∨ w.heap.size ≤ k) (hO : ∀ k, F k → ¬ O k ∨ w.heap.size ≤ k) : SetAt sv O w' b t p :=
  ⟨h.1, own_block h.2 h.1 hk hO⟩
theorem SetBox.keep {sv : Value} {t : Ct.Trie} {p : Ct.Setting} {N N' O F : Nat → Prop} {w w' : World} {b : Nat} (h : SetBox N O w b sv t p) (hk : Keep F w w') (hF : ∀ k, F k → N k ∨ w.heap.size ≤ k) (hN : ∀ k, N' k → N k ∨ w.heap.size ≤ k) (hO : ∀ k, F k → ¬ O k ∨ w.heap.size ≤ k) : SetBox N' O w' b sv t p := by
  obtain ⟨pb, h1, h2⟩ := h
  exact ⟨pb, h1.keep hk hF hN, h2.keep hk hF hN hO⟩
theorem RemV.keep {sv : Value} {t : Ct.Trie} {d : Ct.Removal} {O F : Nat → Prop} {w w' : World} {b : Nat} {vp : Value} (h : RemV sv O w b t d vp) (hk : Keep F w w') (hO : ∀ k, F k → ¬ O k ∨ w.heap.size ≤ k) : RemV sv O w' b t d vp := by
  refine ⟨h.own, own_block h.at_ h.own hk hO, ⟨h.row.1, ?_⟩, h.rown⟩
  rcases h.row.2 with hn | ⟨g, cap, cur, e, hb, hg, rest⟩
  · exact .inl hn
  · exact .inr ⟨g, cap, cur, e, hb, own_block hg (h.rown g (by rw [e]; rfl)).1 hk hO, rest⟩
theorem RemAt.keep {sv : Value} {t : Ct.Trie} {d : Ct.Removal} {N N' O F : Nat → Prop} {w w' : World} {b : Nat} (h : RemAt sv O w b t d) (hk : Keep F w w') (hF : ∀ k, F k → N k ∨ w.heap.size ≤ k) (hN : ∀ k, N' k → N k ∨ w.heap.size ≤ k) (hO : ∀ k, F k → ¬ O k ∨ w.heap.size ≤ k) : RemAt sv O w' b t d := by
  obtain ⟨vp, h⟩ := h
  exact ⟨vp, h.keep hk hO⟩
theorem RemBox.keep {sv : Value} {t : Ct.Trie} {d : Ct.Removal} {N N' O F : Nat → Prop} {w w' : World} {b : Nat} (h : RemBox N O w b sv t d) (hk : Keep F w w') (hF : ∀ k, F k → N k ∨ w.heap.size ≤ k) (hN : ∀ k, N' k → N k ∨ w.heap.size ≤ k) (hO : ∀ k, F k → ¬ O k ∨ w.heap.size ≤ k) : RemBox N' O w' b sv t d := by
  obtain ⟨pb, h1, h2⟩ := h
  exact ⟨pb, h1.keep hk hF hN, h2.keep hk hF hN hO⟩
theorem KRep.keep {sv : Value} {N N' F : Nat → Prop} {w w' : World} (hk : Keep F w w') (hF : ∀ k, F k → N k ∨ w.heap.size ≤ k) (hN : ∀ k, N' k → N k ∨ w.heap.size ≤ k) (hO : ∀ k, F k → ¬ O k ∨ w.heap.size ≤ k) : ∀ {k : Ct.K} {f : Value}, KRep sv N O w f k → KRep sv N' O w' f k := by
  intro k
  induction k with
  | read1 _ _ _ ih => rintro f ⟨b0, b1, b2, rfl, h0, h1, ⟨u2, h2, r2⟩⟩; exact ⟨b0, b1, b2, rfl, h0.keep hk hF hN, h1.keep hk hF hN, ⟨u2, h2.keep hk hF hN, ih r2⟩⟩
  | settle1 _ _ _ _ _ ih => rintro f ⟨b0, b1, b2, b3, b4, rfl, ⟨u0, h0, r0⟩, h1, h2, h3, h4⟩; exact ⟨b0, b1, b2, b3, b4, rfl, ⟨u0, h0.keep hk hF hN, ih r0⟩, h1.keep hk hF hN, h2.keep hk hF hN, h3.keep hk hF hN, h4.keep hk hF hN⟩
  | again1 _ _ _ _ _ ih => rintro f ⟨b0, b1, b2, b3, b4, rfl, h0, ⟨u1, h1, r1⟩, h2, h3, h4⟩; exact ⟨b0, b1, b2, b3, b4, rfl, h0.keep hk hF hN, ⟨u1, h1.keep hk hF hN, ih r1⟩, h2.keep hk hF hN, h3.keep hk hF hN, h4.keep hk hF hN⟩
  | again2 _ _ _ _ ih => rintro f ⟨b0, b1, b2, b3, rfl, ⟨u0, h0, r0⟩, h1, h2, h3⟩; exact ⟨b0, b1, b2, b3, rfl, ⟨u0, h0.keep hk hF hN, ih r0⟩, h1.keep hk hF hN, h2.keep hk hF hN, h3.keep hk hF hN⟩
  | sroot _ _ _ _ _ ih => rintro f ⟨b0, b1, b2, b3, b4, rfl, h0, h1, h2, h3, ⟨u4, h4, r4⟩⟩; exact ⟨b0, b1, b2, b3, b4, rfl, h0.keep hk hF hN, h1.keep hk hF hN, h2.keep hk hF hN, h3.keep hk hF hN, ⟨u4, h4.keep hk hF hN, ih r4⟩⟩
  | back1 _ _ ih => rintro f ⟨b0, b1, rfl, ⟨u0, h0, r0⟩, h1⟩; exact ⟨b0, b1, rfl, ⟨u0, h0.keep hk hF hN, ih r0⟩, h1.keep hk hF hN⟩
  | root1 _ _ ih => rintro f ⟨b0, b1, rfl, h0, ⟨u1, h1, r1⟩⟩; exact ⟨b0, b1, rfl, h0.keep hk hF hN, ⟨u1, h1.keep hk hF hN, ih r1⟩⟩
  | root2 _ _ _ _ ih => rintro f ⟨b0, b1, b2, b3, rfl, h0, h1, ⟨u2, h2, r2⟩, h3⟩; exact ⟨b0, b1, b2, b3, rfl, h0.keep hk hF hN, h1.keep hk hF hN, ⟨u2, h2.keep hk hF hN, ih r2⟩, h3.keep hk hF hN⟩
  | root3 _ _ _ _ ih => rintro f ⟨b0, b1, b2, b3, rfl, h0, h1, h2, ⟨u3, h3, r3⟩⟩; exact ⟨b0, b1, b2, b3, rfl, h0.keep hk hF hN, h1.keep hk hF hN, h2.keep hk hF hN, ⟨u3, h3.keep hk hF hN, ih r3⟩⟩
  | root4 _ _ _ ih => rintro f ⟨b0, b1, b2, rfl, h0, h1, ⟨u2, h2, r2⟩⟩; exact ⟨b0, b1, b2, rfl, h0.keep hk hF hN, h1.keep hk hF hN, ⟨u2, h2.keep hk hF hN, ih r2⟩⟩
  | complete1 _ _ ih => rintro f ⟨b0, b1, rfl, ⟨u0, h0, r0⟩, h1⟩; exact ⟨b0, b1, rfl, ⟨u0, h0.keep hk hF hN, ih r0⟩, h1.keep hk hF hN⟩
  | help1 _ _ ih => rintro f ⟨b0, b1, rfl, h0, ⟨u1, h1, r1⟩⟩; exact ⟨b0, b1, rfl, h0.keep hk hF hN, ⟨u1, h1.keep hk hF hN, ih r1⟩⟩
  | help2 _ _ _ _ ih => rintro f ⟨b0, b1, b2, b3, rfl, h0, h1, ⟨u2, h2, r2⟩, h3⟩; exact ⟨b0, b1, b2, b3, rfl, h0.keep hk hF hN, h1.keep hk hF hN, ⟨u2, h2.keep hk hF hN, ih r2⟩, h3.keep hk hF hN⟩
  | help3 _ _ _ _ ih => rintro f ⟨b0, b1, b2, b3, rfl, h0, h1, h2, ⟨u3, h3, r3⟩⟩; exact ⟨b0, b1, b2, b3, rfl, h0.keep hk hF hN, h1.keep hk hF hN, h2.keep hk hF hN, ⟨u3, h3.keep hk hF hN, ih r3⟩⟩
  | help4 _ _ _ ih => rintro f ⟨b0, b1, b2, rfl, h0, h1, ⟨u2, h2, r2⟩⟩; exact ⟨b0, b1, b2, rfl, h0.keep hk hF hN, h1.keep hk hF hN, ⟨u2, h2.keep hk hF hN, ih r2⟩⟩
  | decide1 _ _ ih => rintro f ⟨b0, b1, rfl, h0, ⟨u1, h1, r1⟩⟩; exact ⟨b0, b1, rfl, h0.keep hk hF hN, ⟨u1, h1.keep hk hF hN, ih r1⟩⟩
  | decide2 _ ih => rintro f ⟨b0, rfl, ⟨u0, h0, r0⟩⟩; exact ⟨b0, rfl, ⟨u0, h0.keep hk hF hN, ih r0⟩⟩
  | repl1 _ _ _ _ ih => rintro f ⟨b0, b1, b2, b3, rfl, ⟨u0, h0, r0⟩, h1, h2, h3⟩; exact ⟨b0, b1, b2, b3, rfl, ⟨u0, h0.keep hk hF hN, ih r0⟩, h1.keep hk hF hN, h2.keep hk hF hN, h3.keep hk hF hN⟩
  | repl2 _ _ _ _ ih => rintro f ⟨b0, b1, b2, b3, rfl, h0, h1, h2, ⟨u3, h3, r3⟩⟩; exact ⟨b0, b1, b2, b3, rfl, h0.keep hk hF hN, h1.keep hk hF hN, h2.keep hk hF hN, ⟨u3, h3.keep hk hF hN, ih r3⟩⟩
  | repl3 _ _ _ ih => rintro f ⟨b0, b1, b2, rfl, h0, h1, ⟨u2, h2, r2⟩⟩; exact ⟨b0, b1, b2, rfl, h0.keep hk hF hN, h1.keep hk hF hN, ⟨u2, h2.keep hk hF hN, ih r2⟩⟩
  | repl4 _ _ ih => rintro f ⟨b0, b1, rfl, ⟨u0, h0, r0⟩, h1⟩; exact ⟨b0, b1, rfl, ⟨u0, h0.keep hk hF hN, ih r0⟩, h1.keep hk hF hN⟩
  | clr0 _ => rintro f ⟨b0, rfl, h0⟩; exact ⟨b0, rfl, h0.keep hk hF hN⟩
  | clr1 _ => rintro f ⟨b0, rfl, h0⟩; exact ⟨b0, rfl, h0.keep hk hF hN⟩
  | clr2 _ _ => rintro f ⟨b0, b1, rfl, h0, h1⟩; exact ⟨b0, b1, rfl, h0.keep hk hF hN, h1.keep hk hF hN⟩
  | clr3 _ => rintro f ⟨b0, rfl, h0⟩; exact ⟨b0, rfl, h0.keep hk hF hN⟩
  | snap0 _ => rintro f ⟨b0, b1, b2, rfl, h0, h1, h2⟩; exact ⟨b0, b1, b2, rfl, h0.keep hk hF hN, h1.keep hk hF hN, h2.keep hk hF hN⟩
  | snapR1 _ => rintro f ⟨b0, b1, rfl, h0, h1⟩; exact ⟨b0, b1, rfl, h0.keep hk hF hN, h1.keep hk hF hN⟩
  | snapR2  => rintro f ⟨b0, rfl, h0⟩; exact ⟨b0, rfl, h0.keep hk hF hN⟩
  | snapP  => rintro f ⟨b0, rfl, h0⟩; exact ⟨b0, rfl, h0.keep hk hF hN⟩
  | frz0 _ => rintro f ⟨b0, b1, b2, rfl, h0, h1, h2⟩; exact ⟨b0, b1, b2, rfl, h0.keep hk hF hN, h1.keep hk hF hN, h2.keep hk hF hN⟩
  | frzR1  => rintro f ⟨b0, rfl, h0⟩; exact ⟨b0, rfl, h0.keep hk hF hN⟩
  | frzP  => rintro f ⟨b0, rfl, h0⟩; exact ⟨b0, rfl, h0.keep hk hF hN⟩
  | part1 _ _ ih => rintro f ⟨b0, b1, rfl, h0, ⟨u1, h1, r1⟩⟩; exact ⟨b0, b1, rfl, h0.keep hk hF hN, ⟨u1, h1.keep hk hF hN, ih r1⟩⟩
  | part2 _ _ _ ih => rintro f ⟨b0, b1, b2, rfl, h0, h1, ⟨u2, h2, r2⟩⟩; exact ⟨b0, b1, b2, rfl, h0.keep hk hF hN, h1.keep hk hF hN, ⟨u2, h2.keep hk hF hN, ih r2⟩⟩
  | part3 _ _ _ _ ih => rintro f ⟨b0, b1, b2, b3, rfl, h0, ⟨u1, h1, r1⟩, h2, h3⟩; exact ⟨b0, b1, b2, b3, rfl, h0.keep hk hF hN, ⟨u1, h1.keep hk hF hN, ih r1⟩, h2.keep hk hF hN, h3.keep hk hF hN⟩
  | fin _ => rintro f ⟨b0, rfl, h0⟩; exact ⟨b0, rfl, h0.keep hk hF hN⟩
  | swap1 _ _ _ _ ih => rintro f ⟨b0, b1, b2, b3, rfl, ⟨u0, h0, r0⟩, h1, h2, h3⟩; exact ⟨b0, b1, b2, b3, rfl, ⟨u0, h0.keep hk hF hN, ih r0⟩, h1.keep hk hF hN, h2.keep hk hF hN, h3.keep hk hF hN⟩
  | swap2 _ _ ih => rintro f ⟨b0, b1, rfl, ⟨u0, h0, r0⟩, h1⟩; exact ⟨b0, b1, rfl, ⟨u0, h0.keep hk hF hN, ih r0⟩, h1.keep hk hF hN⟩
  | fnd0 _ _ => rintro f ⟨b0, b1, rfl, h0, h1⟩; exact ⟨b0, b1, rfl, h0.keep hk hF hN, h1.keep hk hF hN⟩
  | fnd1 _ _ => rintro f ⟨b0, rfl, h0⟩; exact ⟨b0, rfl, h0.keep hk hF hN⟩
  | fnd2 _ _ _ => rintro f ⟨b0, b1, rfl, h0, h1⟩; exact ⟨b0, b1, rfl, h0.keep hk hF hN, h1.keep hk hF hN⟩
  | ren1 _ _ _ _ _ ih => rintro f ⟨b0, u, rfl, h0, r0⟩; exact ⟨b0, u, rfl, h0.keep hk hF hN, ih r0⟩
  | ren2 _ _ ih => rintro f ⟨b0, b1, rfl, ⟨rb, t1, i1, c1, x1, u0, h0, j0, r0⟩, h1⟩; exact ⟨b0, b1, rfl, ⟨rb, t1, i1, c1, x1, u0, h0.keep hk hF hN, j0.keep hk hF hN, ih r0⟩, h1.keep hk hF hN⟩
  | cln1 _ _ _ _ _ _ ih => rintro f ⟨b0, b1, b2, b3, b4, b5, rfl, h0, h1, h2, h3, ⟨u4, h4, r4⟩, h5⟩; exact ⟨b0, b1, b2, b3, b4, b5, rfl, h0.keep hk hF hN, h1.keep hk hF hN, h2.keep hk hF hN, h3.keep hk hF hN, ⟨u4, h4.keep hk hF hN, ih r4⟩, h5.keep hk hF hN⟩
  | cln2 _ _ _ _ _ _ ih => rintro f ⟨b0, b1, b2, b3, b4, b5, rfl, h0, ⟨u1, h1, r1⟩, h2, h3, h4, h5⟩; exact ⟨b0, b1, b2, b3, b4, b5, rfl, h0.keep hk hF hN, ⟨u1, h1.keep hk hF hN, ih r1⟩, h2.keep hk hF hN, h3.keep hk hF hN, h4.keep hk hF hN, h5.keep hk hF hN⟩
  | put0 _ _ => rintro f ⟨b0, b1, b2, rfl, h0, h1, h2⟩; exact ⟨b0, b1, b2, rfl, h0.keep hk hF hN, h1.keep hk hF hN, h2.keep hk hF hN hO⟩
  | putB _ _ => rintro f ⟨b0, rfl, h0⟩; exact ⟨b0, rfl, h0.keep hk hF hN hO⟩
  | putV _ _ => rintro f ⟨b0, rfl, h0⟩; exact ⟨b0, rfl, h0.keep hk hF hN hO⟩
  | putA _ _ => rintro f ⟨b0, rfl, h0⟩; exact ⟨b0, rfl, h0.keep hk hF hN hO⟩
  | putR _ _ => rintro f ⟨b0, rfl, h0⟩; exact ⟨b0, rfl, h0.keep hk hF hN hO⟩
  | putS _ _ _ _ => rintro f ⟨b0, b1, b2, rfl, h0, h1, h2⟩; exact ⟨b0, b1, b2, rfl, h0.keep hk hF hN hO, h1.keep hk hF hN, h2.keep hk hF hN⟩
  | drp0 _ _ => rintro f ⟨b0, b1, rfl, h0, h1⟩; exact ⟨b0, b1, rfl, h0.keep hk hF hN, h1.keep hk hF hN hO⟩
  | drpB _ _ => rintro f ⟨b0, rfl, h0⟩; exact ⟨b0, rfl, h0.keep hk hF hN hO⟩
  | drpV _ _ => rintro f ⟨b0, rfl, h0⟩; exact ⟨b0, rfl, h0.keep hk hF hN hO⟩
  | drpA _ _ => rintro f ⟨b0, rfl, h0⟩; exact ⟨b0, rfl, h0.keep hk hF hN hO⟩
  | drpR _ _ => rintro f ⟨b0, rfl, h0⟩; exact ⟨b0, rfl, h0.keep hk hF hN hO⟩
  | drpS _ _ _ => rintro f ⟨b0, b1, rfl, h0, h1⟩; exact ⟨b0, b1, rfl, h0.keep hk hF hN hO, h1.keep hk hF hN⟩
  | drpU _ _ _ _ => rintro f ⟨b0, b1, b2, rfl, h0, h1, h2⟩; exact ⟨b0, b1, b2, rfl, h0.keep hk hF hN hO, h1.keep hk hF hN, h2.keep hk hF hN⟩
  | drpX _ _ _ _ => rintro f ⟨b0, b1, b2, rfl, h0, h1, h2⟩; exact ⟨b0, b1, b2, rfl, h0.keep hk hF hN hO, h1.keep hk hF hN, h2.keep hk hF hN⟩
theorem KRep.func {sv : Value} {N : Nat → Prop} {w : World} : ∀ {k : Ct.K} {f : Value}, KRep sv N O w f k → ∃ n ff caps, f = .func (.func n) ff caps
  | .read1 _ _ _, _, ⟨_, _, _, e, _⟩ => ⟨_, _, _, e⟩
  | .settle1 _ _ _ _ _, _, ⟨_, _, _, _, _, e, _⟩ => ⟨_, _, _, e⟩
  | .again1 _ _ _ _ _, _, ⟨_, _, _, _, _, e, _⟩ => ⟨_, _, _, e⟩
  | .again2 _ _ _ _, _, ⟨_, _, _, _, e, _⟩ => ⟨_, _, _, e⟩
  | .sroot _ _ _ _ _, _, ⟨_, _, _, _, _, e, _⟩ => ⟨_, _, _, e⟩
  | .back1 _ _, _, ⟨_, _, e, _⟩ => ⟨_, _, _, e⟩
  | .root1 _ _, _, ⟨_, _, e, _⟩ => ⟨_, _, _, e⟩
  | .root2 _ _ _ _, _, ⟨_, _, _, _, e, _⟩ => ⟨_, _, _, e⟩
  | .root3 _ _ _ _, _, ⟨_, _, _, _, e, _⟩ => ⟨_, _, _, e⟩
  | .root4 _ _ _, _, ⟨_, _, _, e, _⟩ => ⟨_, _, _, e⟩
  | .complete1 _ _, _, ⟨_, _, e, _⟩ => ⟨_, _, _, e⟩
  | .help1 _ _, _, ⟨_, _, e, _⟩ => ⟨_, _, _, e⟩
  | .help2 _ _ _ _, _, ⟨_, _, _, _, e, _⟩ => ⟨_, _, _, e⟩
  | .help3 _ _ _ _, _, ⟨_, _, _, _, e, _⟩ => ⟨_, _, _, e⟩
  | .help4 _ _ _, _, ⟨_, _, _, e, _⟩ => ⟨_, _, _, e⟩
  | .decide1 _ _, _, ⟨_, _, e, _⟩ => ⟨_, _, _, e⟩
  | .decide2 _, _, ⟨_, e, _⟩ => ⟨_, _, _, e⟩
  | .repl1 _ _ _ _, _, ⟨_, _, _, _, e, _⟩ => ⟨_, _, _, e⟩
  | .repl2 _ _ _ _, _, ⟨_, _, _, _, e, _⟩ => ⟨_, _, _, e⟩
  | .repl3 _ _ _, _, ⟨_, _, _, e, _⟩ => ⟨_, _, _, e⟩
  | .repl4 _ _, _, ⟨_, _, e, _⟩ => ⟨_, _, _, e⟩
  | .clr0 _, _, ⟨_, e, _⟩ => ⟨_, _, _, e⟩
  | .clr1 _, _, ⟨_, e, _⟩ => ⟨_, _, _, e⟩
  | .clr2 _ _, _, ⟨_, _, e, _⟩ => ⟨_, _, _, e⟩
  | .clr3 _, _, ⟨_, e, _⟩ => ⟨_, _, _, e⟩
  | .snap0 _, _, ⟨_, _, _, e, _⟩ => ⟨_, _, _, e⟩
  | .snapR1 _, _, ⟨_, _, e, _⟩ => ⟨_, _, _, e⟩
  | .snapR2 , _, ⟨_, e, _⟩ => ⟨_, _, _, e⟩
  | .snapP , _, ⟨_, e, _⟩ => ⟨_, _, _, e⟩
  | .frz0 _, _, ⟨_, _, _, e, _⟩ => ⟨_, _, _, e⟩
  | .frzR1 , _, ⟨_, e, _⟩ => ⟨_, _, _, e⟩
  | .frzP , _, ⟨_, e, _⟩ => ⟨_, _, _, e⟩
  | .part1 _ _, _, ⟨_, _, e, _⟩ => ⟨_, _, _, e⟩
  | .part2 _ _ _, _, ⟨_, _, _, e, _⟩ => ⟨_, _, _, e⟩
  | .part3 _ _ _ _, _, ⟨_, _, _, _, e, _⟩ => ⟨_, _, _, e⟩
  | .fin _, _, ⟨_, e, _⟩ => ⟨_, _, _, e⟩
  | .swap1 _ _ _ _, _, ⟨_, _, _, _, e, _⟩ => ⟨_, _, _, e⟩
  | .swap2 _ _, _, ⟨_, _, e, _⟩ => ⟨_, _, _, e⟩
  | .fnd0 _ _, _, ⟨_, _, e, _⟩ => ⟨_, _, _, e⟩
  | .fnd1 _ _, _, ⟨_, e, _⟩ => ⟨_, _, _, e⟩
  | .fnd2 _ _ _, _, ⟨_, _, e, _⟩ => ⟨_, _, _, e⟩
  | .ren1 _ _ _ _ _, _, ⟨_, _, e, _⟩ => ⟨_, _, _, e⟩
  | .ren2 _ _, _, ⟨_, _, e, _⟩ => ⟨_, _, _, e⟩
  | .cln1 _ _ _ _ _ _, _, ⟨_, _, _, _, _, _, e, _⟩ => ⟨_, _, _, e⟩
  | .cln2 _ _ _ _ _ _, _, ⟨_, _, _, _, _, _, e, _⟩ => ⟨_, _, _, e⟩
  | .put0 _ _, _, ⟨_, _, _, e, _⟩ => ⟨_, _, _, e⟩
  | .putB _ _, _, ⟨_, e, _⟩ => ⟨_, _, _, e⟩
  | .putV _ _, _, ⟨_, e, _⟩ => ⟨_, _, _, e⟩
  | .putA _ _, _, ⟨_, e, _⟩ => ⟨_, _, _, e⟩
  | .putR _ _, _, ⟨_, e, _⟩ => ⟨_, _, _, e⟩
  | .putS _ _ _ _, _, ⟨_, _, _, e, _⟩ => ⟨_, _, _, e⟩
  | .drp0 _ _, _, ⟨_, _, e, _⟩ => ⟨_, _, _, e⟩
  | .drpB _ _, _, ⟨_, e, _⟩ => ⟨_, _, _, e⟩
  | .drpV _ _, _, ⟨_, e, _⟩ => ⟨_, _, _, e⟩
  | .drpA _ _, _, ⟨_, e, _⟩ => ⟨_, _, _, e⟩
  | .drpR _ _, _, ⟨_, e, _⟩ => ⟨_, _, _, e⟩
  | .drpS _ _ _, _, ⟨_, _, e, _⟩ => ⟨_, _, _, e⟩
  | .drpU _ _ _ _, _, ⟨_, _, _, e, _⟩ => ⟨_, _, _, e⟩
  | .drpX _ _ _ _, _, ⟨_, _, _, e, _⟩ => ⟨_, _, _, e⟩
def doneCells (r : Ct.Result) : List Value := [.int .i64 0, .int .i64 0, .int .i64 0, .int .i64 0, .nilFunc, .nilFunc] ++ resCells r
def loadCells (c : Int) (f : Value) : List Value := [.int .i64 1, .int .i64 c, .int .i64 0, .int .i64 0, f, .nilFunc] ++ resCells {}
def casCells (c old new : Int) (f : Value) : List Value := [.int .i64 2, .int .i64 c, .int .i64 old, .int .i64 new, .nilFunc, f] ++ resCells {}
def CodeRep (sv : Value) (N O : Nat → Prop) (w : World) (cs : List Value) : Ct.Code → Prop
  | .done r => cs = doneCells r
  | .load c k => ∃ f, cs = loadCells c f ∧ KRep sv N O w f k
  | .cas c old new k => ∃ f, cs = casCells c old new f ∧ KRep sv N O w f k
theorem CodeRep.keep {sv : Value} {N N' F : Nat → Prop} {w w' : World} {cs : List Value} {c : Ct.Code} (h : CodeRep sv N O w cs c) (hk : Keep F w w') (hF : ∀ k, F k → N k ∨ w.heap.size ≤ k) (hN : ∀ k, N' k → N k ∨ w.heap.size ≤ k) (hO : ∀ k, F k → ¬ O k ∨ w.heap.size ≤ k) : CodeRep sv N' O w' cs c := by
  cases c with
  | done r => exact h
  | load c k => obtain ⟨f, e, h⟩ := h; exact ⟨f, e, h.keep hk hF hN hO⟩
  | cas c o n k => obtain ⟨f, e, h⟩ := h; exact ⟨f, e, h.keep hk hF hN hO⟩
theorem CodeRep.length {sv : Value} {N : Nat → Prop} {w : World} {cs : List Value} {c : Ct.Code} (h : CodeRep sv N O w cs c) : cs.length = 14 := by
  cases c with
  | done r => rw [h]; rfl
  | load c k => obtain ⟨f, e, h⟩ := h; rw [e]; rfl
  | cas c o n k => obtain ⟨f, e, h⟩ := h; rw [e]; rfl
theorem CodeRep.one {sv : Value} {N : Nat → Prop} {w : World} {cs : List Value} {c : Ct.Code} (h : CodeRep sv N O w cs c) : ∀ v ∈ cs, v.oneCell' = true := by
  cases c with
  | done r =>
    rw [h]; intro v hv
    simp only [doneCells, resCells, List.cons_append, List.nil_append, List.mem_cons, List.not_mem_nil, or_false] at hv
    rcases hv with rfl | rfl | rfl | rfl | rfl | rfl | rfl | rfl | rfl | rfl | rfl | rfl | rfl | rfl <;> rfl
  | load c k =>
    obtain ⟨f, e, h⟩ := h
    obtain ⟨n, ff, caps, rfl⟩ := h.func
    rw [e]; intro v hv
    simp only [loadCells, resCells, List.cons_append, List.nil_append, List.mem_cons, List.not_mem_nil, or_false] at hv
    rcases hv with rfl | rfl | rfl | rfl | rfl | rfl | rfl | rfl | rfl | rfl | rfl | rfl | rfl | rfl <;> rfl
  | cas c o n k =>
    obtain ⟨f, e, h⟩ := h
    obtain ⟨n, ff, caps, rfl⟩ := h.func
    rw [e]; intro v hv
    simp only [casCells, resCells, List.cons_append, List.nil_append, List.mem_cons, List.not_mem_nil, or_false] at hv
    rcases hv with rfl | rfl | rfl | rfl | rfl | rfl | rfl | rfl | rfl | rfl | rfl | rfl | rfl | rfl <;> rfl
end Go.Proofs.YtjlgchdekhmnnaaGreatDoor
end
