/- The plain model of the program's tasks: closures as data, and what they do. Nothing of the translation. -/
import Derived.Test.YtifehcegnofpkaaGreatDoorCt
namespace Go.Ct

/-- What a computation needs of a store. -/
structure Ops (σ : Type) where
  alloc : Node → Int → σ → Int × σ
  newCell : Int → σ → Int × σ
  newGen : σ → Int × σ
  node : Int → σ → Node

/-- The closures of packages gcas, root, wipe. Each continues with others. -/
inductive K where
  | read1 (t : Trie) (i : Int) (th : K)                       -- Read$1
  | settle1 (t : Trie) (i m prev : Int) (th : K)              -- settle$1
  | again1 (t : Trie) (i m prev : Int) (th : K)               -- settle$1$1
  | again2 (t : Trie) (i m : Int) (th : K)                    -- settle$1$1$1
  | sroot (t : Trie) (i prev p : Int) (ag : K)                -- settle$1$2
  | back1 (old : Int) (th : K)                                -- back$1
  | root1 (t : Trie) (th : K)                                 -- root$1
  | root2 (t : Trie) (v : Int) (d : Node) (th : K)            -- root$1$1
  | root3 (t : Trie) (v : Int) (d : Node) (th : K)            -- root$1$1$1
  | root4 (t : Trie) (v : Int) (th : K)                       -- root$1$1$1$1
  | complete1 (r : Int) (th : K)                              -- Complete$1
  | help1 (t : Trie) (th : K)                                 -- Help$1
  | help2 (t : Trie) (v : Int) (d : Node) (th : K)            -- Help$1$1
  | help3 (t : Trie) (v : Int) (d : Node) (th : K)            -- Help$1$1$1, a func()
  | help4 (t : Trie) (v : Int) (th : K)                       -- Help$1$1$1$1
  | decide1 (d : Node) (th : K)                               -- decide$1
  | decide2 (th : K)                                          -- decide$1$1
  | repl1 (t : Trie) (v : Int) (d : Node) (th : K)            -- Replace$1
  | repl2 (t : Trie) (v : Int) (d : Node) (th : K)            -- Replace$1$1, a func()
  | repl3 (t : Trie) (v : Int) (th : K)                       -- Replace$1$1$1
  | repl4 (s : Int) (th : K)                                  -- Replace$1$1$1$1
  | clr0 (t : Trie)                                           -- Clear$1, a func()
  | clr1 (t : Trie)                                           -- cleared$1
  | clr2 (t : Trie) (r : Int)                                 -- cleared$1$1
  | clr3 (t : Trie)                                           -- cleared$1$1$1
  | snap0 (t : Trie)                                          -- Snapshot$1, a func()
  | snapR1 (t : Trie)                                         -- Snapshot$1$1
  | snapR2                                                    -- Snapshot$1$1$1
  | snapP                                                     -- Snapshot$1$2, of two Refs
  | frz0 (t : Trie)                                           -- Freeze$1, a func()
  | frzR1                                                     -- Freeze$1$1
  | frzP                                                      -- Freeze$1$2, of two Refs
  | part1 (t : Trie) (th : K)                                 -- parted$1; what follows takes two Refs
  | part2 (t : Trie) (r : Int) (th : K)                       -- parted$1$1
  | part3 (t : Trie) (r m : Int) (th : K)                     -- parted$1$1$1
  | fin (res : Result)                                        -- finished$1, a func()

/-- How much room a closure needs (in thousands). -/
def K.rank : K → Nat
  | .read1 _ _ th => th.rank + 11
  | .settle1 _ _ _ _ th => th.rank + 10
  | .again1 _ _ _ _ th => th.rank + 3
  | .again2 _ _ _ th => th.rank + 2
  | .sroot _ _ _ _ ag => ag.rank + 1
  | .back1 _ th => th.rank + 1
  | .root1 _ th => th.rank + 5
  | .root2 _ _ _ th => th.rank + 4
  | .root3 _ _ _ th => th.rank + 3
  | .root4 _ _ th => th.rank + 2
  | .complete1 _ th => th.rank + 1
  | .help1 _ th => th.rank + 18
  | .help2 _ _ _ th => th.rank + 17
  | .help3 _ _ _ th => th.rank + 3
  | .help4 _ _ th => th.rank + 2
  | .decide1 _ th => th.rank + 2
  | .decide2 th => th.rank + 1
  | .repl1 _ _ _ th => th.rank + 18
  | .repl2 _ _ _ th => th.rank + 4
  | .repl3 _ _ th => th.rank + 3
  | .repl4 _ th => th.rank + 1
  | _ => 1

/-- A code: finished, or an access with what follows it. -/
inductive Code where
  | done (r : Result)
  | load (c : Int) (k : K)
  | cas (c old new : Int) (k : K)

def Code.rank : Code → Nat
  | .done _ => 0
  | .load _ k => k.rank
  | .cas _ _ _ k => k.rank

def ofBool (b : Bool) : Int := if b then 1 else 0

section
variable {σ : Type} (O : Ops σ)

def readC (t : Trie) (i : Int) (th : K) (s : σ) : Code × σ := (.load (O.node i s).main (.read1 t i th), s)
def settleC (t : Trie) (i m : Int) (th : K) (s : σ) : Code × σ := (.load (O.node m s).prev (.settle1 t i m (O.node m s).prev th), s)
def backC (i m p : Int) (th : K) (s : σ) : Code × σ := (.cas (O.node i s).main m (O.node p s).old (.back1 (O.node p s).old th), s)
def decideC (prev p : Int) (commit : Bool) (th : K) (s : σ) : Code × σ :=
  if commit then (.cas prev p 0 th, s) else let x := O.alloc { kind := 7, old := p } 0 s; (.cas prev p x.1 th, x.2)
def rootC (t : Trie) (th : K) (s : σ) : Code × σ := (.load t.root (.root1 t th), s)
def completeC (t : Trie) (v st : Int) (th : K) (s : σ) : Code × σ :=
  let w := if st = 1 then (O.node v s).new else (O.node v s).old
  (.cas t.root v w (.complete1 w th), s)
def helpC (t : Trie) (th : K) (s : σ) : Code × σ := (.load t.root (.help1 t th), s)
def rdecideC (t : Trie) (d : Node) (th : K) (s : σ) : Code × σ := readC O t d.old (.decide1 d th) s
def replaceC (t : Trie) (old expected new : Int) (th : K) (s : σ) : Code × σ :=
  let x := O.alloc { kind := 8, old := old, expected := expected, new := new } 0 s
  (.cas t.root old x.1 (.repl1 t x.1 (O.node x.1 x.2) th), x.2)
def clearC (t : Trie) (s : σ) : Code × σ := helpC t (.clr1 t) s
def partedC (t : Trie) (th : K) (s : σ) : Code × σ := helpC t (.part1 t th) s
def begunC (m : Int) (s : σ) : Int × σ := let g := O.newGen s; O.alloc { kind := 2, gen := g.1 } m g.2
def copiedC (m : Int) (s : σ) : Code × σ := let i := begunC O m s; let c := O.newCell i.1 i.2; (.done { found := true, trie := { root := c.1 } }, c.2)
def frozenC (r : Int) (s : σ) : Code × σ := let c := O.newCell r s; (.done { found := true, trie := { root := c.1, readOnly := true } }, c.2)
/-- What a closure of two Refs does. -/
def apply2 : K → Int → Int → σ → Code × σ
  | .snapP, _, m, s => copiedC O m s
  | .frzP, r, _, s => frozenC O r s
  | _, _, _, s => (.done {}, s)

/-- What a closure does with its argument (a Ref, or a bool as 0 or 1; a func() ignores it). -/
def apply : K → Int → σ → Code × σ
  | .read1 t i th, x, s => settleC O t i x th s
  | .settle1 t i m prev th, p, s =>
    if p = 0 then apply th m s
    else if (O.node p s).isMain = false then backC O i m p th s
    else if t.readOnly then decideC O prev p false (.again1 t i m prev th) s
    else rootC t (.sroot t i prev p (.again1 t i m prev th)) s
  | .again1 t i m prev th, _, s => (.load prev (.again2 t i m th), s)
  | .again2 _ i m th, p, s => if p = 0 then apply th m s else backC O i m p th s
  | .sroot _ i prev p ag, r, s => decideC O prev p ((O.node r s).gen == (O.node i s).gen) ag s
  | .back1 old th, _, s => apply th old s
  | .root1 t th, v, s => if (O.node v s).kind = 2 then apply th v s else (.load (O.node v s).status (.root2 t v (O.node v s) th), s)
  | .root2 t v d th, st, s => if st = 0 then (.cas d.status 0 2 (.root3 t v d th), s) else completeC O t v st th s
  | .root3 t v d th, _, s => (.load d.status (.root4 t v th), s)
  | .root4 t v th, st, s => completeC O t v st th s
  | .complete1 r th, _, s => apply th r s
  | .help1 t th, v, s => if (O.node v s).kind = 2 then apply th v s else (.load (O.node v s).status (.help2 t v (O.node v s) th), s)
  | .help2 t v d th, st, s => if st = 0 then rdecideC O t d (.help3 t v d th) s else completeC O t v st th s
  | .help3 t v d th, _, s => (.load d.status (.help4 t v th), s)
  | .help4 t v th, st, s => completeC O t v st th s
  | .decide1 d th, m, s => (.cas d.status 0 (if m = d.expected then 1 else 2) (.decide2 th), s)
  | .decide2 th, _, s => apply th 0 s
  | .repl1 t v d th, ok, s => if ok = 0 then apply th 0 s else rdecideC O t d (.repl2 t v d th) s
  | .repl2 t v d th, _, s => (.load d.status (.repl3 t v th), s)
  | .repl3 t v th, st, s => completeC O t v st (.repl4 st th) s
  | .repl4 st th, _, s => apply th (if st = 1 then 1 else 0) s
  | .clr0 t, _, s => clearC t s
  | .clr1 t, r, s => readC O t r (.clr2 t r) s
  | .clr2 t r, m, s =>
    let c := O.alloc { kind := 3 } 0 s
    let g := O.newGen c.2
    let n := O.alloc { kind := 2, gen := g.1 } c.1 g.2
    replaceC O t r m n.1 (.clr3 t) n.2
  | .clr3 t, ok, s => if ok = 0 then clearC t s else (.done { found := true }, s)
  | .snap0 t, _, s => if t.readOnly then (.load t.root (.snapR1 t), s) else partedC t .snapP s
  | .snapR1 t, r, s => readC O t r .snapR2 s
  | .snapR2, m, s => copiedC O m s
  | .snapP, _, s => (.done {}, s)
  | .frz0 t, _, s => if t.readOnly then (.load t.root .frzR1, s) else partedC t .frzP s
  | .frzR1, r, s => frozenC O r s
  | .frzP, _, s => (.done {}, s)
  | .part1 t th, r, s => readC O t r (.part2 t r th) s
  | .part2 t r th, m, s => let n := begunC O m s; replaceC O t r m n.1 (.part3 t r m th) n.2
  | .part3 t r m th, ok, s => if ok = 0 then partedC t th s else apply2 O th r m s
  | .fin res, _, s => (.done res, s)
end

theorem apply2_rank {σ : Type} (O : Ops σ) (k : K) (x y : Int) (s : σ) : (apply2 O k x y s).1.rank ≤ 60 := by
  unfold apply2; split <;> simp [copiedC, frozenC, Code.rank]
theorem apply_rank {σ : Type} (O : Ops σ) (k : K) : ∀ (x : Int) (s : σ), (apply O k x s).1.rank ≤ max k.rank 60 := by
  induction k <;> intro x s <;> simp only [apply, readC, settleC, backC, decideC, rootC, completeC, helpC, rdecideC, replaceC, clearC, partedC, begunC, copiedC, frozenC] <;> (repeat' split) <;>
    first
    | (simp only [Code.rank, K.rank]; omega)
    | (rename_i ih _; have := ih; simp only [K.rank]; exact Nat.le_trans (this _ _) (by omega))
    | (rename_i ih _ _; have := ih; simp only [K.rank]; exact Nat.le_trans (this _ _) (by omega))
    | (rename_i ih; have := ih; simp only [K.rank]; exact Nat.le_trans (this _ _) (by omega))
    | (rename_i ih _ _ _; have := ih; simp only [K.rank]; exact Nat.le_trans (this _ _) (by omega))
    | exact Nat.le_trans (apply2_rank O _ _ _ _) (by omega)

/-- The arena as a store. -/
def stOps : Ops St where
  alloc n x s := ((s.alloc n x).2, (s.alloc n x).1)
  newCell x s := ((s.newCell x).2, (s.newCell x).1)
  newGen s := (s.newGen.2, s.newGen.1)
  node r s := s.node r

/-- One step of a task. -/
def step : Code → St → Code × St
  | .done r, s => (.done r, s)
  | .load c k, s => apply stOps k (s.load c).2 (s.load c).1
  | .cas c old new k, s => apply stOps k (ofBool (s.cas c old new).2) (s.cas c old new).1
end Go.Ct
