/- Parts of a proof: K. -/
import Derived.Test.YtjlgchdekhmnnaaGreatDoorM00
section
namespace Go.Ct
set_option linter.unusedSimpArgs false
structure Ops (σ : Type) where
  alloc : Node → Int → σ → Int × σ
  newCell : Int → σ → Int × σ
  newGen : σ → Int × σ
  node : Int → σ → Node
structure Look where
  key : ByteArray := .empty
  hash : Nat := 0
structure Setting where
  key : ByteArray := .empty
  hash : Nat := 0
  value : Nat := 0
  policy : Int := 0
  expect : Nat := 0
  gen : Int := 0
  parent : Int := 0
  inn : Int := 0
  level : Int := 0
structure Removal where
  key : ByteArray := .empty
  hash : Nat := 0
  only : Bool := false
  expect : Nat := 0
  gen : Int := 0
  path : List Int := []
inductive K where
  | read1 (t : Trie) (i : Int) (th : K)                       -- Read$1
  | settle1 (t : Trie) (i m prev : Int) (th : K)              -- settle$1
  | again1 (t : Trie) (i m prev : Int) (th : K)               -- settle$1$1
  | again2 (t : Trie) (i m : Int) (th : K)                    -- settle$1$1$1
  | sroot (t : Trie) (i prev p : Int) (ag : K)                -- settle$1$2
  | back1 (old : Int) (th : K)                                -- back$1
  | root1 (t : Trie) (th : K)                                 -- root$1
  | root2 (t : Trie) (v : Int) (d : Node) (th : K)            -- root$1$1
  | root3 (t : Trie) (v : Int) (d : Node) (th : K)            -- root$1$1$1
  | root4 (t : Trie) (v : Int) (th : K)                       -- root$1$1$1$1
  | complete1 (r : Int) (th : K)                              -- Complete$1
  | help1 (t : Trie) (th : K)                                 -- Help$1
  | help2 (t : Trie) (v : Int) (d : Node) (th : K)            -- Help$1$1
  | help3 (t : Trie) (v : Int) (d : Node) (th : K)            -- Help$1$1$1, a func()
  | help4 (t : Trie) (v : Int) (th : K)                       -- Help$1$1$1$1
  | decide1 (d : Node) (th : K)                               -- decide$1
  | decide2 (th : K)                                          -- decide$1$1
  | repl1 (t : Trie) (v : Int) (d : Node) (th : K)            -- Replace$1
  | repl2 (t : Trie) (v : Int) (d : Node) (th : K)            -- Replace$1$1, a func()
  | repl3 (t : Trie) (v : Int) (th : K)                       -- Replace$1$1$1
  | repl4 (s : Int) (th : K)                                  -- Replace$1$1$1$1
  | clr0 (t : Trie)                                           -- Clear$1, a func()
  | clr1 (t : Trie)                                           -- cleared$1
  | clr2 (t : Trie) (r : Int)                                 -- cleared$1$1
  | clr3 (t : Trie)                                           -- cleared$1$1$1
  | snap0 (t : Trie)                                          -- Snapshot$1, a func()
  | snapR1 (t : Trie)                                         -- Snapshot$1$1
  | snapR2                                                    -- Snapshot$1$1$1
  | snapP                                                     -- Snapshot$1$2, of two Refs
  | frz0 (t : Trie)                                           -- Freeze$1, a func()
  | frzR1                                                     -- Freeze$1$1
  | frzP                                                      -- Freeze$1$2, of two Refs
  | part1 (t : Trie) (th : K)                                 -- parted$1; what follows takes two Refs
  | part2 (t : Trie) (r : Int) (th : K)                       -- parted$1$1
  | part3 (t : Trie) (r m : Int) (th : K)                     -- parted$1$1$1
  | fin (res : Result)                                        -- finished$1, a func()
  | swap1 (t : Trie) (i n : Int) (th : K)                     -- Swap$1
  | swap2 (n : Int) (th : K)                                  -- Swap$1$1
  | fnd0 (t : Trie) (l : Look)                                -- Lookup$1, a func()
  | fnd1 (t : Trie) (l : Look)                                -- Lookup$1$1
  | fnd2 (t : Trie) (l : Look) (level : Int)                  -- descend$1
  | ren1 (t : Trie) (i c index : Int) (th : K)                -- renewal.replaced
  | ren2 (i : Int) (th : K)                                   -- replaced$1
  | cln1 (t : Trie) (parent child : Int) (hash : Nat) (level : Int) (th : K)  -- Clean$1
  | cln2 (t : Trie) (parent m index level : Int) (th : K)     -- Clean$1$1
  | put0 (t : Trie) (p : Setting)                             -- Set$1, a func()
  | putB (t : Trie) (p : Setting)                             -- setting.begin
  | putV (t : Trie) (p : Setting)                             -- setting.visit
  | putA (t : Trie) (p : Setting)                             -- setting.again
  | putR (t : Trie) (p : Setting)                             -- setting.renewed
  | putS (t : Trie) (p : Setting) (found : Bool) (v : Nat)    -- setting.replace$1
  | drp0 (t : Trie) (d : Removal)                             -- Remove$1, a func()
  | drpB (t : Trie) (d : Removal)                             -- removal.begin
  | drpV (t : Trie) (d : Removal)                             -- removal.visit
  | drpA (t : Trie) (d : Removal)                             -- removal.again
  | drpR (t : Trie) (d : Removal)                             -- removal.renewed
  | drpS (t : Trie) (d : Removal) (v : Nat)                   -- removal.replace$1
  | drpU (t : Trie) (d : Removal) (l : Int) (v : Nat)         -- removal.up$1
  | drpX (t : Trie) (d : Removal) (l : Int) (v : Nat)         -- removal.up$1$1
def K.rank : K → Nat
  | .read1 _ _ th => th.rank + 11
  | .settle1 _ _ _ _ th => th.rank + 10
  | .again1 _ _ _ _ th => th.rank + 3
  | .again2 _ _ _ th => th.rank + 2
  | .sroot _ _ _ _ ag => ag.rank + 1
  | .back1 _ th => th.rank + 1
  | .root1 _ th => th.rank + 5
  | .root2 _ _ _ th => th.rank + 4
  | .root3 _ _ _ th => th.rank + 3
  | .root4 _ _ th => th.rank + 2
  | .complete1 _ th => th.rank + 1
  | .help1 _ th => th.rank + 18
  | .help2 _ _ _ th => th.rank + 17
  | .help3 _ _ _ th => th.rank + 3
  | .help4 _ _ th => th.rank + 2
  | .decide1 _ th => th.rank + 2
  | .decide2 th => th.rank + 1
  | .repl1 _ _ _ th => th.rank + 18
  | .repl2 _ _ _ th => th.rank + 4
  | .repl3 _ _ th => th.rank + 3
  | .repl4 _ th => th.rank + 1
  | .swap1 _ _ _ th => th.rank + 12
  | .swap2 _ th => th.rank + 1
  | .ren1 _ _ _ _ th => th.rank + 14
  | .ren2 _ th => th.rank + 1
  | .cln1 _ _ _ _ _ th => th.rank + 26
  | .cln2 _ _ _ _ _ th => th.rank + 14
  | _ => 1
def inc (x : Int) : Int := IntKind.i64.wrap (x + 1)
def dec (x : Int) : Int := IntKind.i64.wrap (x - 1)
inductive Code where
  | done (r : Result)
  | load (c : Int) (k : K)
  | cas (c old new : Int) (k : K)
def Code.rank : Code → Nat
  | .done _ => 0
  | .load _ k => k.rank
  | .cas _ _ _ k => k.rank
def ofBool (b : Bool) : Int := if b then 1 else 0
section
variable {σ : Type} (O : Ops σ)
def readC (t : Trie) (i : Int) (th : K) (s : σ) : Code × σ := (.load (O.node i s).main (.read1 t i th), s)
def settleC (t : Trie) (i m : Int) (th : K) (s : σ) : Code × σ := (.load (O.node m s).prev (.settle1 t i m (O.node m s).prev th), s)
def backC (i m p : Int) (th : K) (s : σ) : Code × σ := (.cas (O.node i s).main m (O.node p s).old (.back1 (O.node p s).old th), s)
def decideC (prev p : Int) (commit : Bool) (th : K) (s : σ) : Code × σ :=
  if commit then (.cas prev p 0 th, s) else let x := O.alloc { kind := 7, old := p } 0 s; (.cas prev p x.1 th, x.2)
def rootC (t : Trie) (th : K) (s : σ) : Code × σ := (.load t.root (.root1 t th), s)
def completeC (t : Trie) (v st : Int) (th : K) (s : σ) : Code × σ :=
  let w := if st = 1 then (O.node v s).new else (O.node v s).old
  (.cas t.root v w (.complete1 w th), s)
def helpC (t : Trie) (th : K) (s : σ) : Code × σ := (.load t.root (.help1 t th), s)
def rdecideC (t : Trie) (d : Node) (th : K) (s : σ) : Code × σ := readC O t d.old (.decide1 d th) s
def replaceC (t : Trie) (old expected new : Int) (th : K) (s : σ) : Code × σ :=
  let x := O.alloc { kind := 8, old := old, expected := expected, new := new } 0 s
  (.cas t.root old x.1 (.repl1 t x.1 (O.node x.1 x.2) th), x.2)
def clearC (t : Trie) (s : σ) : Code × σ := helpC t (.clr1 t) s
def partedC (t : Trie) (th : K) (s : σ) : Code × σ := helpC t (.part1 t th) s
def begunC (m : Int) (s : σ) : Int × σ := let g := O.newGen s; O.alloc { kind := 2, gen := g.1 } m g.2
def copiedC (m : Int) (s : σ) : Code × σ := let i := begunC O m s; let c := O.newCell i.1 i.2; (.done { found := true, trie := { root := c.1 } }, c.2)
def frozenC (r : Int) (s : σ) : Code × σ := let c := O.newCell r s; (.done { found := true, trie := { root := c.1, readOnly := true } }, c.2)
def swapC (t : Trie) (i old n : Int) (th : K) (s : σ) : Code × σ := (.cas (O.node i s).main old n (.swap1 t i n th), s)
def present (v : Nat) : Code := .done { found := true, value := v }
def absent : Code := .done {}
def pairC (l : Look) (x : Node) : Code := if keyEq x.key l.key then present x.value else absent
def fndC (t : Trie) (l : Look) (i level : Int) (s : σ) : Code × σ := readC O t i (.fnd2 t l level) s
def fndVisit (t : Trie) (l : Look) (level m : Int) (s : σ) : Code × σ :=
  if (O.node m s).kind = 3 then
    if (blookup (O.node m s) (slice l.hash level)).2 = false then (absent, s)
    else if (O.node (blookup (O.node m s) (slice l.hash level)).1 s).kind = 4 then (pairC l (O.node (blookup (O.node m s) (slice l.hash level)).1 s), s)
    else fndC O t l (blookup (O.node m s) (slice l.hash level)).1 (inc level) s
  else if (O.node m s).kind = 5 then (pairC l (O.node m s), s)
  else if (O.node m s).kind = 6 then (if (pfind (O.node m s).pairs l.key).2 = true then present (pfind (O.node m s).pairs l.key).1 else absent, s)
  else (absent, s)
def cleanC (t : Trie) (parent child : Int) (hash : Nat) (level : Int) (th : K) (s : σ) : Code × σ := readC O t parent (.cln1 t parent child hash level th) s
def permits (p : Setting) (found : Bool) (v : Nat) : Bool :=
  if p.policy = 1 then !found else if p.policy = 2 then found else if p.policy = 3 then found && v == p.expect else true
def refused (found : Bool) (v : Nat) : Code := .done { found := found, value := v }
def putStartC (t : Trie) (p : Setting) (s : σ) : Code × σ := helpC t (.putB t p) s
def putDescendC (t : Trie) (p : Setting) (b : Int) (s : σ) : Code × σ :=
  readC O t b (.putV t { p with parent := p.inn, inn := b, level := inc p.level }) s
def putReplaceC (t : Trie) (p : Setting) (m : Int) (n : Node) (ok found : Bool) (v : Nat) (s : σ) : Code × σ :=
  if ok = false then (.done {}, s) else swapC O t p.inn m (O.alloc n m s).1 (.putS t p found v) (O.alloc n m s).2
def putListC (t : Trie) (p : Setting) (m : Int) (n : Node) (s : σ) : Code × σ :=
  if permits p (pfind n.pairs p.key).2 (pfind n.pairs p.key).1 = false then (refused (pfind n.pairs p.key).2 (pfind n.pairs p.key).1, s)
  else putReplaceC O t p m (grown n p.key p.value).1 (grown n p.key p.value).2 (pfind n.pairs p.key).2 (pfind n.pairs p.key).1 s
def putNode (p : Setting) : Node := { kind := 4, hash := p.hash, key := p.key, value := p.value }
def putAddedC (t : Trie) (p : Setting) (m : Int) (n : Node) (i : Int) (s : σ) : Code × σ :=
  if permits p false 0 = false then (refused false 0, s)
  else
    let x := O.alloc (putNode p) 0 s
    putReplaceC O t p m (pinserted n i x.1).1 (pinserted n i x.1).2 false 0 x.2
def dualMain (x : Int) (single : Node) (p : Setting) (gen : Int) : Nat → σ → Int × σ
  | 0, s => O.alloc { kind := 6, hash := p.hash, pairs := pof2 ⟨single.key, single.value⟩ ⟨p.key, p.value⟩ } 0 s
  | f + 1, s =>
    let here := slice p.hash (10 - f : Nat)
    let there := slice single.hash (10 - f : Nat)
    if here ≠ there then
      let y := O.alloc (putNode p) 0 s
      O.alloc (pinserted (pinserted { kind := 3 } there x).1 here y.1).1 0 y.2
    else
      let m := dualMain x single p gen f s
      let i := O.alloc { kind := 2, gen := gen } m.1 m.2
      O.alloc (pinserted { kind := 3 } here i.1).1 0 i.2
def dualC (x : Int) (p : Setting) (level gen : Int) (s : σ) : (Int × Int) × σ :=
  if level < 0 ∨ 11 < level ∨ gen < 1 then ((0, 2), s)
  else if (O.node x s).kind ≠ 4 ∨ 64 < p.key.size ∨ keyEq p.key (O.node x s).key = true then ((0, 1), s)
  else if (commonOf (O.node x s).hash p.hash : Int) < level then ((0, 1), s)
  else let r := dualMain O x (O.node x s) p gen (11 - level).toNat s; ((r.1, 0), r.2)
def putSingleC (t : Trie) (p : Setting) (m : Int) (n : Node) (i b : Int) (x : Node) (s : σ) : Code × σ :=
  if keyEq x.key p.key then
    if permits p true x.value = false then (refused true x.value, s)
    else
      let y := O.alloc (putNode p) 0 s
      putReplaceC O t p m (pupdated n i y.1).1 (pupdated n i y.1).2 true x.value y.2
  else if permits p false 0 = false then (refused false 0, s)
  else
    let q := dualC O b p (inc p.level) p.gen s
    if q.1.2 ≠ 0 then (.done { err := q.1.2 }, q.2)
    else
      let j := O.alloc { kind := 2, gen := p.gen } q.1.1 q.2
      putReplaceC O t p m (pupdated n i j.1).1 (pupdated n i j.1).2 false 0 j.2
def putInnerC (t : Trie) (p : Setting) (m : Int) (n : Node) (s : σ) : Code × σ :=
  let i := slice p.hash p.level
  let b := blookup n i
  if b.2 = false then putAddedC O t p m n i s
  else if (O.node b.1 s).kind = 4 then putSingleC O t p m n i b.1 (O.node b.1 s) s
  else if (O.node b.1 s).gen ≠ p.gen then readC O t b.1 (.ren1 t p.inn m i (.putR t p)) s
  else putDescendC O t p b.1 s
def putVisitC (t : Trie) (p : Setting) (m : Int) (s : σ) : Code × σ :=
  if (O.node m s).kind = 5 then cleanC O t p.parent p.inn p.hash (dec p.level) (.putA t p) s
  else if (O.node m s).kind = 6 then putListC O t p m (O.node m s) s
  else if (O.node m s).kind = 3 then putInnerC O t p m (O.node m s) s
  else (.done {}, s)
def meant (d : Removal) (v : Nat) : Bool := !d.only || v == d.expect
def returned (v : Nat) (count : Int) : Code := .done { found := true, value := v, count := count }
def drpStartC (t : Trie) (d : Removal) (s : σ) : Code × σ := helpC t (.drpB t d) s
def drpDescendC (t : Trie) (d : Removal) (i : Int) (s : σ) : Code × σ := readC O t i (.drpV t { d with path := d.path ++ [i] }) s
def drpReplaceC (t : Trie) (d : Removal) (m : Int) (n : Node) (v : Nat) (s : σ) : Code × σ :=
  swapC O t (d.path.getD (d.path.length - 1) 0) m (O.alloc n m s).1 (.drpS t d v) (O.alloc n m s).2
def drpListC (t : Trie) (d : Removal) (m : Int) (n : Node) (s : σ) : Code × σ :=
  if (pfind n.pairs d.key).2 = false then (absent, s)
  else if meant d (pfind n.pairs d.key).1 = false then (returned (pfind n.pairs d.key).1 0, s)
  else if (shrunk n d.key).2 = false then (absent, s)
  else drpReplaceC O t d m (shrunk n d.key).1 (pfind n.pairs d.key).1 s
def drpSole (n : Node) (i : Int) (s : σ) : Node := if (bsole (premoved n i).1).2 = true then O.node (bsole (premoved n i).1).1 s else {}
def drpInnerC (t : Trie) (d : Removal) (m : Int) (n : Node) (s : σ) : Code × σ :=
  let level : Int := d.path.length - 1
  let i := slice d.hash level
  let b := blookup n i
  if b.2 = false then (absent, s)
  else if (O.node b.1 s).kind = 4 then
    if keyEq (O.node b.1 s).key d.key = false then (absent, s)
    else if meant d (O.node b.1 s).value = false then (returned (O.node b.1 s).value 0, s)
    else drpReplaceC O t d m (contracted (premoved n i).1 level (drpSole O n i s)) (O.node b.1 s).value s
  else if (O.node b.1 s).gen ≠ d.gen then readC O t b.1 (.ren1 t (d.path.getD (d.path.length - 1) 0) m i (.drpR t d)) s
  else drpDescendC O t d b.1 s
def drpVisitC (t : Trie) (d : Removal) (m : Int) (s : σ) : Code × σ :=
  if (O.node m s).kind = 5 then cleanC O t (if 1 < d.path.length then d.path.getD (d.path.length - 2) 0 else 0) (d.path.getD (d.path.length - 1) 0) d.hash (d.path.length - 2) (.drpA t d) s
  else if (O.node m s).kind = 6 then drpListC O t d m (O.node m s) s
  else if (O.node m s).kind = 3 then drpInnerC O t d m (O.node m s) s
  else (absent, s)
def drpUpC (t : Trie) (d : Removal) (l : Int) (v : Nat) (s : σ) : Code × σ :=
  if l < 1 then (returned v 1, s) else readC O t (d.path.getD l.toNat 0) (.drpU t d l v) s
def apply2 : K → Int → Int → σ → Code × σ
  | .snapP, _, m, s => copiedC O m s
  | .frzP, r, _, s => frozenC O r s
  | _, _, _, s => (.done {}, s)
def apply : K → Int → σ → Code × σ
  | .read1 t i th, x, s => settleC O t i x th s
  | .settle1 t i m prev th, p, s =>
    if p = 0 then apply th m s
    else if (O.node p s).isMain = false then backC O i m p th s
    else if t.readOnly then decideC O prev p false (.again1 t i m prev th) s
    else rootC t (.sroot t i prev p (.again1 t i m prev th)) s
  | .again1 t i m prev th, _, s => (.load prev (.again2 t i m th), s)
  | .again2 _ i m th, p, s => if p = 0 then apply th m s else backC O i m p th s
  | .sroot _ i prev p ag, r, s => decideC O prev p ((O.node r s).gen == (O.node i s).gen) ag s
  | .back1 old th, _, s => apply th old s
  | .root1 t th, v, s => if (O.node v s).kind = 2 then apply th v s else (.load (O.node v s).status (.root2 t v (O.node v s) th), s)
  | .root2 t v d th, st, s => if st = 0 then (.cas d.status 0 2 (.root3 t v d th), s) else completeC O t v st th s
  | .root3 t v d th, _, s => (.load d.status (.root4 t v th), s)
  | .root4 t v th, st, s => completeC O t v st th s
  | .complete1 r th, _, s => apply th r s
  | .help1 t th, v, s => if (O.node v s).kind = 2 then apply th v s else (.load (O.node v s).status (.help2 t v (O.node v s) th), s)
  | .help2 t v d th, st, s => if st = 0 then rdecideC O t d (.help3 t v d th) s else completeC O t v st th s
  | .help3 t v d th, _, s => (.load d.status (.help4 t v th), s)
  | .help4 t v th, st, s => completeC O t v st th s
  | .decide1 d th, m, s => (.cas d.status 0 (if m = d.expected then 1 else 2) (.decide2 th), s)
  | .decide2 th, _, s => apply th 0 s
  | .repl1 t v d th, ok, s => if ok = 0 then apply th 0 s else rdecideC O t d (.repl2 t v d th) s
  | .repl2 t v d th, _, s => (.load d.status (.repl3 t v th), s)
  | .repl3 t v th, st, s => completeC O t v st (.repl4 st th) s
  | .repl4 st th, _, s => apply th (if st = 1 then 1 else 0) s
  | .clr0 t, _, s => clearC t s
  | .clr1 t, r, s => readC O t r (.clr2 t r) s
  | .clr2 t r, m, s =>
    let c := O.alloc { kind := 3 } 0 s
    let g := O.newGen c.2
    let n := O.alloc { kind := 2, gen := g.1 } c.1 g.2
    replaceC O t r m n.1 (.clr3 t) n.2
  | .clr3 t, ok, s => if ok = 0 then clearC t s else (.done { found := true }, s)
  | .snap0 t, _, s => if t.readOnly then (.load t.root (.snapR1 t), s) else partedC t .snapP s
  | .snapR1 t, r, s => readC O t r .snapR2 s
  | .snapR2, m, s => copiedC O m s
  | .snapP, _, s => (.done {}, s)
  | .frz0 t, _, s => if t.readOnly then (.load t.root .frzR1, s) else partedC t .frzP s
  | .frzR1, r, s => frozenC O r s
  | .frzP, _, s => (.done {}, s)
  | .part1 t th, r, s => readC O t r (.part2 t r th) s
  | .part2 t r th, m, s => let n := begunC O m s; replaceC O t r m n.1 (.part3 t r m th) n.2
  | .part3 t r m th, ok, s => if ok = 0 then partedC t th s else apply2 O th r m s
  | .fin res, _, s => (.done res, s)
  | .swap1 t i n th, ok, s => if ok = 0 then apply th 0 s else settleC O t i n (.swap2 n th) s
  | .swap2 n th, m, s => apply th (if m = n then 1 else 0) s
  | .fnd0 t l, _, s => if keyValid l.key = false then (.done { err := 1 }, s) else helpC t (.fnd1 t l) s
  | .fnd1 t l, r, s => fndC O t l r 0 s
  | .fnd2 t l level, m, s => fndVisit O t l level m s
  | .ren1 t i c index th, m, s =>
    let x := O.alloc { kind := 2, gen := (O.node i s).gen } m s
    if (pupdated (O.node c x.2) index x.1).2 = false then apply th 0 x.2
    else let y := O.alloc (pupdated (O.node c x.2) index x.1).1 c x.2; swapC O t i c y.1 (.ren2 x.1 th) y.2
  | .ren2 i th, ok, s => if ok = 0 then apply th 0 s else apply th i s
  | .cln1 t parent child hash level th, m, s =>
    if (blookup (O.node m s) (slice hash level)).2 = false ∨ (blookup (O.node m s) (slice hash level)).1 ≠ child then apply th 0 s
    else readC O t child (.cln2 t parent m (slice hash level) level th) s
  | .cln2 t parent m index level th, c, s =>
    if (untombed (O.node c s)).2 = false then apply th 0 s
    else
      let x := O.alloc (untombed (O.node c s)).1 0 s
      if (pupdated (O.node m s) index x.1).2 = false then apply th 0 x.2
      else let y := O.alloc (contracted (pupdated (O.node m s) index x.1).1 level (untombed (O.node c s)).1) m x.2; swapC O t parent m y.1 th y.2
  | .put0 t p, _, s => if keyValid p.key = false ∨ p.policy < 0 ∨ 3 < p.policy then (.done { err := 1 }, s) else putStartC t p s
  | .putB t p, r, s => readC O t r (.putV t { p with gen := (O.node r s).gen, parent := 0, inn := r, level := 0 }) s
  | .putV t p, m, s => putVisitC O t p m s
  | .putA t p, _, s => putStartC t p s
  | .putR t p, b, s => if b = 0 then putStartC t p s else putDescendC O t p b s
  | .putS t p found v, ok, s => if ok = 0 then putStartC t p s else (.done { found := found, value := v, count := 1 }, s)
  | .drp0 t d, _, s => if keyValid d.key = false then (.done { err := 1 }, s) else drpStartC t d s
  | .drpB t d, r, s => drpDescendC O t { d with gen := (O.node r s).gen, path := [] } r s
  | .drpV t d, m, s => drpVisitC O t d m s
  | .drpA t d, _, s => drpStartC t d s
  | .drpR t d, b, s => if b = 0 then drpStartC t d s else drpDescendC O t d b s
  | .drpS t d v, ok, s => if ok = 0 then drpStartC t d s else drpUpC O t d (d.path.length - 1) v s
  | .drpU t d l v, m, s => if (O.node m s).kind ≠ 5 then (returned v 1, s) else cleanC O t (d.path.getD (l.toNat - 1) 0) (d.path.getD l.toNat 0) d.hash (l - 1) (.drpX t d l v) s
  | .drpX t d l v, _, s => drpUpC O t d (l - 1) v s
end
theorem apply2_rank {σ : Type} (O : Ops σ) (k : K) (x y : Int) (s : σ) : (apply2 O k x y s).1.rank ≤ 60 := by
  unfold apply2; split <;> simp [copiedC, frozenC, Code.rank]
section
variable {σ : Type} (O : Ops σ)
theorem readC_rank (t : Trie) (i : Int) (th : K) (s : σ) : (readC O t i th s).1.rank = th.rank + 11 := rfl
theorem helpC_rank (t : Trie) (th : K) (s : σ) : (helpC t th s).1.rank = th.rank + 18 := rfl
theorem swapC_rank (t : Trie) (i o n : Int) (th : K) (s : σ) : (swapC O t i o n th s).1.rank = th.rank + 12 := rfl
theorem cleanC_rank (t : Trie) (a b : Int) (h : Nat) (l : Int) (th : K) (s : σ) : (cleanC O t a b h l th s).1.rank = th.rank + 37 := rfl
theorem pairC_rank (l : Look) (x : Node) : (pairC l x).rank ≤ 60 := by unfold pairC present absent; split <;> simp [Code.rank]
theorem fndVisit_rank (t : Trie) (l : Look) (v m : Int) (s : σ) : (fndVisit O t l v m s).1.rank ≤ 60 := by
  unfold fndVisit; repeat' split
  all_goals first
    | exact pairC_rank _ _
    | (simp only [fndC, readC_rank, K.rank]; omega)
    | (simp [present, absent, Code.rank]; done)
theorem putReplaceC_rank (t : Trie) (p : Setting) (m : Int) (n : Node) (ok f : Bool) (v : Nat) (s : σ) : (putReplaceC O t p m n ok f v s).1.rank ≤ 60 := by
  unfold putReplaceC; split
  · simp [Code.rank]
  · rw [swapC_rank]; simp [K.rank]
theorem putVisitC_rank (t : Trie) (p : Setting) (m : Int) (s : σ) : (putVisitC O t p m s).1.rank ≤ 60 := by
  have hR := putReplaceC_rank O
  unfold putVisitC putListC putInnerC putAddedC putSingleC putDescendC
  repeat' split
  all_goals (try simp only [])
  all_goals first
    | exact hR _ _ _ _ _ _ _ _
    | (simp only [readC_rank, cleanC_rank, helpC_rank, K.rank]; omega)
    | (simp [refused, Code.rank]; done)
    | (repeat' split)
  all_goals first
    | exact hR _ _ _ _ _ _ _ _
    | (simp only [readC_rank, cleanC_rank, helpC_rank, K.rank]; omega)
    | (simp [refused, Code.rank]; done)
theorem drpReplaceC_rank (t : Trie) (d : Removal) (m : Int) (n : Node) (v : Nat) (s : σ) : (drpReplaceC O t d m n v s).1.rank ≤ 60 := by
  unfold drpReplaceC; rw [swapC_rank]; simp [K.rank]
theorem drpVisitC_rank (t : Trie) (d : Removal) (m : Int) (s : σ) : (drpVisitC O t d m s).1.rank ≤ 60 := by
  have hR := drpReplaceC_rank O
  unfold drpVisitC drpListC drpInnerC drpDescendC
  repeat' split
  all_goals (try simp only [])
  all_goals first
    | exact hR _ _ _ _ _ _
    | (simp only [readC_rank, cleanC_rank, helpC_rank, K.rank]; omega)
    | (simp [returned, absent, Code.rank]; done)
    | (repeat' split)
  all_goals first
    | exact hR _ _ _ _ _ _
    | (simp only [readC_rank, cleanC_rank, helpC_rank, K.rank]; omega)
    | (simp [returned, absent, Code.rank]; done)
theorem drpUpC_rank (t : Trie) (d : Removal) (l : Int) (v : Nat) (s : σ) : (drpUpC O t d l v s).1.rank ≤ 60 := by
  unfold drpUpC; split
  · simp [returned, Code.rank]
  · rw [readC_rank]; simp [K.rank]
end
theorem apply_rank {σ : Type} (O : Ops σ) (k : K) : ∀ (x : Int) (s : σ), (apply O k x s).1.rank ≤ max k.rank 60 := by
  induction k <;> intro x s
  case swap1 t i n th ih =>
    unfold apply; split
    · exact Nat.le_trans (ih _ _) (by simp only [K.rank]; omega)
    · simp only [settleC, Code.rank, K.rank]; omega
  case swap2 n th ih => unfold apply; exact Nat.le_trans (ih _ _) (by simp only [K.rank]; omega)
  case fnd0 => unfold apply; split <;> first | (rw [helpC_rank]; simp only [K.rank]; omega) | simp [Code.rank]
  case fnd1 => unfold apply fndC; rw [readC_rank]; simp only [K.rank]; omega
  case fnd2 => unfold apply; exact Nat.le_trans (fndVisit_rank O _ _ _ _ _) (by omega)
  case ren1 t i c index th ih =>
    simp only [apply]; split
    · exact Nat.le_trans (ih _ _) (by simp only [K.rank]; omega)
    · rw [swapC_rank]; simp only [K.rank]; omega
  case ren2 i th ih => unfold apply; split <;> exact Nat.le_trans (ih _ _) (by simp only [K.rank]; omega)
  case cln1 a b c d e th ih =>
    unfold apply; split
    · exact Nat.le_trans (ih _ _) (by simp only [K.rank]; omega)
    · rw [readC_rank]; simp only [K.rank]; omega
  case cln2 a b c d e th ih =>
    simp only [apply]; split
    · exact Nat.le_trans (ih _ _) (by simp only [K.rank]; omega)
    · split
      · exact Nat.le_trans (ih _ _) (by simp only [K.rank]; omega)
      · rw [swapC_rank]; simp only [K.rank]; omega
  case put0 => unfold apply; split <;> first | (unfold putStartC; rw [helpC_rank]; simp only [K.rank]; omega) | simp [Code.rank]
  case putB => unfold apply; rw [readC_rank]; simp only [K.rank]; omega
  case putV => unfold apply; exact Nat.le_trans (putVisitC_rank O _ _ _ _) (by omega)
  case putA => unfold apply putStartC; rw [helpC_rank]; simp only [K.rank]; omega
  case putR => unfold apply; split <;> first | (unfold putStartC; rw [helpC_rank]; simp only [K.rank]; omega) | (unfold putDescendC; rw [readC_rank]; simp only [K.rank]; omega)
  case putS => unfold apply; split <;> first | (unfold putStartC; rw [helpC_rank]; simp only [K.rank]; omega) | simp [Code.rank]
  case drp0 => unfold apply; split <;> first | (unfold drpStartC; rw [helpC_rank]; simp only [K.rank]; omega) | simp [Code.rank]
  case drpB => unfold apply drpDescendC; rw [readC_rank]; simp only [K.rank]; omega
  case drpV => unfold apply; exact Nat.le_trans (drpVisitC_rank O _ _ _ _) (by omega)
  case drpA => unfold apply drpStartC; rw [helpC_rank]; simp only [K.rank]; omega
  case drpR => unfold apply; split <;> first | (unfold drpStartC; rw [helpC_rank]; simp only [K.rank]; omega) | (unfold drpDescendC; rw [readC_rank]; simp only [K.rank]; omega)
  case drpS => unfold apply; split <;> first | (unfold drpStartC; rw [helpC_rank]; simp only [K.rank]; omega) | exact Nat.le_trans (drpUpC_rank O _ _ _ _ _) (by omega)
  case drpU => unfold apply; split <;> first | (rw [cleanC_rank]; simp only [K.rank]; omega) | simp [returned, Code.rank]
  case drpX => unfold apply; exact Nat.le_trans (drpUpC_rank O _ _ _ _ _) (by omega)
  all_goals simp only [apply, readC, settleC, backC, decideC, rootC, completeC, helpC, rdecideC, replaceC, clearC, partedC, begunC, copiedC, frozenC] <;> (repeat' split) <;>
    first
    | (simp only [Code.rank, K.rank]; omega)
    | (rename_i ih _; have := ih; simp only [K.rank]; exact Nat.le_trans (this _ _) (by omega))
    | (rename_i ih _ _; have := ih; simp only [K.rank]; exact Nat.le_trans (this _ _) (by omega))
    | (rename_i ih; have := ih; simp only [K.rank]; exact Nat.le_trans (this _ _) (by omega))
    | (rename_i ih _ _ _; have := ih; simp only [K.rank]; exact Nat.le_trans (this _ _) (by omega))
    | exact Nat.le_trans (apply2_rank O _ _ _ _) (by omega)
def stOps : Ops St where
  alloc n x s := ((s.alloc n x).2, (s.alloc n x).1)
  newCell x s := ((s.newCell x).2, (s.newCell x).1)
  newGen s := (s.newGen.2, s.newGen.1)
  node r s := s.node r
def step : Code → St → Code × St
  | .done r, s => (.done r, s)
  | .load c k, s => apply stOps k (s.load c).2 (s.load c).1
  | .cas c old new k, s => apply stOps k (ofBool (s.cas c old new).2) (s.cas c old new).1
end Go.Ct
end
