/- Parts of a proof: Ir, Ra, Pg. -/
import Derived.Test.YtmliojdkmfhmmaaGreatW07
import Derived.Test.YtmliojdkmfhmmaaGreatProg
import Derived.Test.YtmliojdkmfhmmaaGreatW04
import Derived.Lib.Bytealg
set_option linter.unusedVariables false
set_option linter.unusedSimpArgs false
set_option maxRecDepth 100000
set_option maxHeartbeats 4000000
section
namespace Go.Ct
def winnerI (v s : Int) : I Int:=bif s==1 then .node v fun d=>.ret d.new else .node v fun d=>.ret d.old
def wonI (t : Trie) (v s : Int) : I Int:=(winnerI v s).bind fun w=>.cas t.root v w fun _=>.ret w
def rootI (t : Trie) : I Int :=
 .load t.root fun v=>.node v fun d=>bif d.kind==2 then .ret v else
  .node v fun d=>.load d.status fun s=>bif s==0 then
   .node v fun d=>.cas d.status 0 2 fun _=>.node v fun d=>.load d.status fun s=>wonI t v s
  else wonI t v s
def backI (i m p : Int) : I Int:=.node i fun a=>.node p fun b=>.cas a.main m b.old fun _=>.node p fun b=>.ret b.old
def lastI (i m : Int) : I Int:=.node m fun n=>.load n.prev fun p=>bif p==0 then .ret m else backI i m p
def failI (i m p : Int) : I Int:=.node m fun n=>.alloc { kind:=7,old:=p } 0 fun f=>.cas n.prev p f fun _=>lastI i m
def settleI (t : Trie) (i m : Int) : I Int :=
 .node m fun n=>.load n.prev fun p=>bif p==0 then .ret m else
  .node p fun b=>bif b.isMain then
   bif t.readOnly then failI i m p else
    (rootI t).bind fun r=>.node r fun a=>.node i fun b=>bif a.gen==b.gen then .node m fun n=>.cas n.prev p 0 fun _=>lastI i m else failI i m p
  else backI i m p
def readI (t : Trie) (i : Int) : I Int:=.node i fun n=>.load n.main fun m=>settleI t i m
def decideI (t : Trie) (v : Int) : I Unit :=
 .node v fun d=>(readI t d.old).bind fun m=>.node v fun d=>bif m==d.expected then
  .node v fun d=>.cas d.status 0 1 fun _=>.ret () else .node v fun d=>.cas d.status 0 2 fun _=>.ret ()
def helpI (t : Trie) : I Int :=
 .load t.root fun v=>.node v fun d=>bif d.kind==2 then .ret v else
  .node v fun d=>.load d.status fun s=>bif s==0 then
   (decideI t v).bind fun _=>.node v fun d=>.load d.status fun s=>wonI t v s
  else wonI t v s
def gcasI (t : Trie) (i old n : Int) : I Bool :=
 .node i fun a=>.cas a.main old n fun ok=>bif ok then (settleI t i n).bind fun m=>.ret (m==n) else .ret false
def rdcssI (t : Trie) (old expected new : Int) : I Bool :=
 .alloc { kind:=8,old:=old,expected:=expected,new:=new } 0 fun d=>.cas t.root old d fun ok=>bif ok then
  (decideI t d).bind fun _=>.node d fun n=>.load n.status fun s=>(winnerI d s).bind fun w=>.cas t.root d w fun _=>.ret (s==1)
 else .ret false
def replaceI (c index r : Int) : I Int:=.node c fun n=>.alloc (pupdated n index r).1 c .ret
def renewI (t : Trie) (i c index : Int) : I Int :=
 .node c fun n=>(readI t (blookup n index).1).bind fun m=>.node i fun a=>.alloc { kind:=2,gen:=a.gen } m fun j =>
  (replaceI c index j).bind fun r=>(gcasI t i c r).bind fun ok=>bif ok then .ret j else .ret 0
def cleanI (t : Trie) (parent child : Int) (h : Nat) (level : Int) : I Bool :=
 (readI t parent).bind fun m=>.node m fun n=>bif !(blookup n (slice h level)).2 then .ret false else bif (blookup n (slice h level)).1 != child then .ret false else
  (readI t child).bind fun q=>.node q fun b=>bif !(untombed b).2 then .ret false else
   .alloc (untombed b).1 0 fun s=>.node m fun n=>.alloc (contracted (pupdated n (slice h level) s).1 level (untombed b).1) m fun r=>gcasI t parent m r
def valueR (found : Bool) (v : Nat) : Result:={ found:=found,value:=v }
def findI (t : Trie) (key : ByteArray) (h : Nat) : Nat→Int→Int→I Result
 | 0,_,_=>.ret {}
 | n+1,i,level=>(readI t i).bind fun r=>.node r fun m =>
  bif m.kind==5 then (bif keyEq m.key key then .ret (valueR true m.value) else .ret (valueR false 0))
  else bif m.kind==6 then .ret (valueR (pfind m.pairs key).2 (pfind m.pairs key).1)
  else bif !(blookup m (slice h level)).2 then .ret (valueR false 0)
  else .node (blookup m (slice h level)).1 fun s=>bif s.kind==4 then (bif keyEq s.key key then .ret (valueR true s.value) else .ret (valueR false 0))
   else findI t key h n (blookup m (slice h level)).1 (level+1)
def lookupI (c : Call) (n : Nat) : I Result:=(helpI c.trie).bind fun r=>findI c.trie c.key (hashOf c.key c.mask) n r 0
def permitsC (c : Call) (found : Bool) (v : Nat) : Bool :=
 bif c.policy==1 then !found else bif c.policy==2 then found else bif c.policy==3 then found && v==c.expect else true
def swappedR (found : Bool) (v : Nat) : Result:={ found:=found,value:=v,count:=1 }
def swappedI (found : Bool) (v : Nat) (ok : Bool) : I (Result × Int):=.ret (swappedR found v,bif ok then 1 else 0)
def dualUp (h : Nat) (gen first : Int) (k : Int) : Nat→List (Node × Int)→List (Node × Int)
 | 0,l=>l
 | n+1,l=>dualUp h gen first (k - 1) n (l ++ [({ kind:=2,gen:=gen },first+l.length - 1),({ kind:=3,bitmap:=Bm.withE 0 (slice h (k - 1)),branches:=[first+l.length - 1+1] },0)])
def bpair (i a k b : Int) : Node:={ kind:=3,bitmap:=Bm.withE (Bm.withE 0 i) k,branches:=if k<i then [b,a] else [a,b] }
def dualNodes (x : Node) (at_ : Int) (h : Nat) (key : ByteArray) (v : Nat) (level gen first : Int) : List (Node × Int) :=
 let c:=commonOf x.hash h
 if 11≤c then dualUp h gen first 11 (11 - level).toNat [({ kind:=6,hash:=h,pairs:=pof2 ⟨x.key,x.value⟩ ⟨key,v⟩ },0)]
 else dualUp h gen first c ((c : Int) - level).toNat [({ kind:=4,hash:=h,key:=key,value:=v },0),(bpair (slice x.hash c) at_ (slice h c) first,0)]
def allocsI : List (Node × Int)→Int→I Int
 | [],r=>.ret r
 | n::l,_=>.alloc n.1 n.2 fun r=>allocsI l r
def dualI (x : Node) (at_ : Int) (h : Nat) (key : ByteArray) (v : Nat) (level gen : Int) : I Int :=
 match dualNodes x at_ h key v level gen 0 with
 | []=>.ret 0
 | n::_=>.alloc n.1 n.2 fun f=>allocsI (dualNodes x at_ h key v level gen f).tail f
def putLeafI (c : Call) (i m : Int) (h : Nat) (level gen : Int) : I (Result × Int) :=
 .node m fun n=>bif n.kind==6 then
  bif !permitsC c (pfind n.pairs c.key).2 (pfind n.pairs c.key).1 then .ret (valueR (pfind n.pairs c.key).2 (pfind n.pairs c.key).1,1)
  else .alloc (grown n c.key c.value).1 m fun a=>(gcasI c.trie i m a).bind (swappedI (pfind n.pairs c.key).2 (pfind n.pairs c.key).1)
 else .node (blookup n (slice h level)).1 fun s=>bif (blookup n (slice h level)).2 && s.kind==2 then .ret ({},2)
 else bif (blookup n (slice h level)).2 && keyEq s.key c.key then
  bif !permitsC c true s.value then .ret (valueR true s.value,1)
  else .alloc { kind:=4,hash:=h,key:=c.key,value:=c.value } 0 fun a=>(replaceI m (slice h level) a).bind fun r=>(gcasI c.trie i m r).bind (swappedI true s.value)
 else bif !permitsC c false 0 then .ret (valueR false 0,1)
 else bif !(blookup n (slice h level)).2 then
  .alloc { kind:=4,hash:=h,key:=c.key,value:=c.value } 0 fun a=>.alloc (pinserted n (slice h level) a).1 m fun r=>(gcasI c.trie i m r).bind (swappedI false 0)
 else (dualI s (blookup n (slice h level)).1 h c.key c.value (level+1) gen).bind fun d=>.alloc { kind:=2,gen:=gen } d fun j =>
  (replaceI m (slice h level) j).bind fun r=>(gcasI c.trie i m r).bind (swappedI false 0)
def belowI (t : Trie) (i m ix gen : Int) : I Int :=
 .node m fun n=>.node (blookup n ix).1 fun b=>bif b.gen==gen then .ret (blookup n ix).1 else renewI t i m ix
def putIn (c : Call) (h : Nat) (gen : Int) : Nat→Int→Int→Int→I (Option Result)
 | 0,_,_,_=>.ret none
 | n+1,parent,i,level=>(readI c.trie i).bind fun m=>.node m fun a=>bif a.kind==5 then (cleanI c.trie parent i h (level - 1)).bind fun _=>.ret none
  else (putLeafI c i m h level gen).bind fun r=>bif r.2==1 then .ret (some r.1) else bif r.2==0 then .ret none
  else (belowI c.trie i m (slice h level) gen).bind fun b=>bif b==0 then .ret none else putIn c h gen n i b (level+1)
def putI (c : Call) (k : Nat) : Nat→I Result
 | 0=>.ret {}
 | n+1=>(helpI c.trie).bind fun i=>.node i fun a=>(putIn c (hashOf c.key c.mask) a.gen k 0 i 0).bind fun
  | some r=>.ret r
  | none=>putI c k n
def dropLeafI (c : Call) (i m : Int) (h : Nat) (level : Int) : I (Result × Int) :=
 .node m fun n=>bif n.kind==6 then
  bif !(pfind n.pairs c.key).2 then .ret (valueR (pfind n.pairs c.key).2 (pfind n.pairs c.key).1,1)
  else bif c.only && (pfind n.pairs c.key).1 != c.expect then .ret (valueR (pfind n.pairs c.key).2 (pfind n.pairs c.key).1,1)
  else .alloc (shrunk n c.key).1 m fun a=>(gcasI c.trie i m a).bind (swappedI true (pfind n.pairs c.key).1)
 else .node (blookup n (slice h level)).1 fun s=>bif (blookup n (slice h level)).2 && s.kind==2 then .ret ({},2)
 else bif !(blookup n (slice h level)).2 then .ret (valueR false 0,1)
 else bif !keyEq s.key c.key then .ret (valueR false 0,1)
 else bif c.only && s.value != c.expect then .ret (valueR true s.value,1)
 else .node (bsole (premoved n (slice h level)).1).1 fun q=>.alloc (contracted (premoved n (slice h level)).1 level q) m fun r=>(gcasI c.trie i m r).bind (swappedI true s.value)
def upI (t : Trie) (path : List Int) (h : Nat) : Nat→I Unit
 | 0=>.ret ()
 | l+1=>(readI t (path.getD (l+1) 0)).bind fun m=>.node m fun n=>bif n.kind != 5 then .ret ()
  else (cleanI t (path.getD l 0) (path.getD (l+1) 0) h l).bind fun _=>upI t path h l
def dropIn (c : Call) (h : Nat) (gen : Int) : Nat→List Int→Int→Int→I (Option Result)
 | 0,_,_,_=>.ret none
 | n+1,path,i,level=>(readI c.trie i).bind fun m=>.node m fun a=>bif a.kind==5 then (cleanI c.trie (path.getD (level - 1).toNat 0) i h (level - 1)).bind fun _=>.ret none
  else (dropLeafI c i m h level).bind fun r=>bif r.2==1 then (bif r.1.count==1 then (upI c.trie path h (path.length - 1)).bind fun _=>.ret (some r.1) else .ret (some r.1)) else bif r.2==0 then .ret none
  else (belowI c.trie i m (slice h level) gen).bind fun b=>bif b==0 then .ret none else dropIn c h gen n (path ++ [b]) b (level+1)
def dropI (c : Call) (k : Nat) : Nat→I Result
 | 0=>.ret {}
 | n+1=>(helpI c.trie).bind fun i=>.node i fun a=>(dropIn c (hashOf c.key c.mask) a.gen k [i] i 0).bind fun
  | some r=>.ret r
  | none=>dropI c k n
def copiedI (m : Int) : I Result:=.gen fun g=>.alloc { kind:=2,gen:=g } m fun i=>.cell i fun c=>.ret { found:=true,trie:={ root:=c } }
def frozenI (r : Int) : I Result:=.cell r fun c=>.ret { found:=true,trie:={ root:=c,readOnly:=true } }
def snapI (t : Trie) (freeze : Bool) : Nat→I Result
 | 0=>.ret {}
 | n+1=>(helpI t).bind fun r=>(readI t r).bind fun m=>.gen fun g=>.alloc { kind:=2,gen:=g } m fun i=>(rdcssI t r m i).bind fun ok =>
  bif !ok then snapI t freeze n else bif freeze then frozenI r else copiedI m
def snapshotI (t : Trie) (freeze : Bool) (n : Nat) : I Result :=
 bif t.readOnly then .load t.root fun r=>bif freeze then frozenI r else (readI t r).bind copiedI
 else snapI t freeze n
def clearI (t : Trie) : Nat→I Result
 | 0=>.ret {}
 | n+1=>(helpI t).bind fun r=>(readI t r).bind fun m=>.alloc { kind:=3 } 0 fun c=>.gen fun g=>.alloc { kind:=2,gen:=g } c fun i=>(rdcssI t r m i).bind fun ok =>
  bif ok then .ret { found:=true } else clearI t n
def refused (c : Call) : Int :=
 bif c.kind==7 || c.kind==9 then (bif keyValid c.key then 0 else 1)
 else bif c.kind==8 then (bif keyValid c.key && decide (0≤c.policy) && decide (c.policy≤3) then 0 else 1)
 else bif c.kind==13 || c.kind==14 then (bif c.trie.readOnly then 0 else 7)
 else 0
def callI (c : Call) (n : Nat) : I Result :=
 if refused c≠0 then .ret { err:=refused c }
 else if c.kind=1 then (readI c.trie c.a).bind fun r=>.ret { ref:=r }
 else if c.kind=2 then (gcasI c.trie c.a c.b c.n).bind fun r=>.ret { found:=r }
 else if c.kind=3 then (helpI c.trie).bind fun r=>.ret { ref:=r }
 else if c.kind=4 then (rdcssI c.trie c.a c.b c.n).bind fun r=>.ret { found:=r }
 else if c.kind=5 then (renewI c.trie c.a c.b c.index).bind fun r=>.ret { ref:=r,found:=r != 0 }
 else if c.kind=6 then (cleanI c.trie c.a c.b c.hash c.index).bind fun r=>.ret { found:=r }
 else if c.kind=7 then lookupI c n
 else if c.kind=8 then putI c n n
 else if c.kind=9 then dropI c n n
 else if c.kind=10 then snapshotI c.trie false n
 else if c.kind=11 then snapshotI c.trie true n
 else if c.kind=12 then clearI c.trie n
 else .ret c.answer
def repeatX (free : Nat) (x : X) : X:={ x with e:={ x.e with a:=0,m:=0,c:=0,g:=0,free:=free,stopped:=false } }
end Go.Ct
end
section
namespace Go.E
theorem Reads.loc {w w' : World} {sz n : Nat} {v : Value} {xs : List Value} (h : Reads w sz v n xs) (hk : ∀ k,v.ownBlock=some k→w'.heap[k]? = w.heap[k]?) : Reads w' sz v n xs:=by
 refine ⟨h.1,?_⟩
 rcases h.2 with hn | ⟨b,off,cap,rfl,hb,h1,h2,h3⟩
 ·exact .inl hn
 ·have e:=hk b rfl
  have hb' : b<w'.heap.size:=by
   rw [Array.getElem?_eq_getElem hb] at e
   exact (Array.getElem?_eq_some_iff.1 e).1
  exact .inr ⟨b,off,cap,rfl,hb',h1,h2,fun j u hu=>(World.cell?_of_block e).trans (h3 j u hu)⟩
theorem Reads.lt {w : World} {sz n : Nat} {v : Value} {xs : List Value} (h : Reads w sz v n xs) {k : Nat} (hk : v.ownBlock=some k) : k<w.heap.size:=by
 rcases h.2 with ⟨rfl,_⟩ | ⟨b,off,cap,rfl,hb,_⟩
 ·cases hk
 ·injection hk with hk; exact hk ▸ hb
end Go.E
namespace Go.Proofs.YtmliojdkmfhmmaaGreat
open Go.RowKit Go.E
structure Lq where
 pb : Option Addr:=none
 cb : Nat:=0
 pp : Option Addr:=none
 cp : Nat:=0
def pairC (p : Ct.Pair) : List Value:=[.string p.key,.int .u64 ((p.value : Nat) : Int)]
theorem pairC_len (p : Ct.Pair) : (pairC p).length=2:=rfl
theorem pairC_one (p : Ct.Pair) : (pairC p).all Value.oneCell'=true:=rfl
def nodeC (n : Ct.Node) (q : Lq) : List Value :=
 [.int .i64 n.kind,.int .i64 n.gen,.int .i64 n.main,.int .u64 ((n.bitmap : Nat) : Int),.slice q.pb n.branches.length q.cb,.int .u64 ((n.hash : Nat) : Int),.string n.key,.int .u64 ((n.value : Nat) : Int),.slice q.pp n.pairs.length q.cp,
  .int .i64 n.prev,.int .i64 n.old,.int .i64 n.expected,.int .i64 n.new,.int .i64 n.status]
def nodeP (z : Ct.Node × Lq) : List Value:=nodeC z.1 z.2
theorem nodeP_len (z : Ct.Node × Lq) : (nodeP z).length=14:=rfl
theorem nodeP_one (z : Ct.Node × Lq) : (nodeP z).all Value.oneCell'=true:=rfl
def accV (a : Ct.Acc) : List Value:=[.int .i64 a.kind,.int .i64 a.cell,.int .i64 a.old,.int .i64 a.new]
def resV (r : Ct.Result) : List Value:=[.int .i64 r.err,.bool r.found,.int .u64 ((r.value : Nat) : Int),.string r.key,.int .i64 r.count,.int .i64 r.ref,.int .i64 r.trie.root,.bool r.trie.readOnly]
def callV (c : Ct.Call) (vs vw : Value) : List Value :=
 [.int .i64 c.kind,.int .i64 c.trie.root,.bool c.trie.readOnly,.int .i64 c.a,.int .i64 c.b,.int .i64 c.n,.int .i64 c.index,.int .u64 ((c.hash : Nat) : Int),.int .u64 ((c.mask : Nat) : Int),.string c.key,
  .int .u64 ((c.value : Nat) : Int),.int .u64 ((c.expect : Nat) : Int),.int .i64 c.policy,.bool c.only,.bool c.walk.started,vs,vw] ++ resV c.answer
def branchR (n : Ct.Node) (q : Lq) : As:=rsl 1 (.slice q.pb n.branches.length q.cb) n.branches.length (n.branches.map (Value.int .i64))
def pairR (n : Ct.Node) (q : Lq) : As:=rsl 2 (.slice q.pp n.pairs.length q.cp) n.pairs.length (n.pairs.flatMap pairC)
def nodeR (n : Ct.Node) (q : Lq) : As:=se [branchR n q,pairR n q]
def LqAt (w : World) (R : Nat→Prop) (z : Ct.Node × Lq) : Prop :=
 Reads w 1 (.slice z.2.pb z.1.branches.length z.2.cb) z.1.branches.length (z.1.branches.map (Value.int .i64))∧Reads w 2 (.slice z.2.pp z.1.pairs.length z.2.cp) z.1.pairs.length (z.1.pairs.flatMap pairC) ∧
  ∀ k,(Value.slice z.2.pb z.1.branches.length z.2.cb).ownBlock=some k∨(Value.slice z.2.pp z.1.pairs.length z.2.cp).ownBlock=some k→R k
def nodesF (zs : List (Ct.Node × Lq)) : As where
 p w O R:=(∀ k,¬ O k)∧(∀ z ∈ zs,LqAt w R z)∧∀ k,R k→k<w.heap.size
 loc {w w' O R} h hs hk:=by
  refine ⟨h.1,fun z hz=>?_,fun k hR=>Nat.lt_of_lt_of_le (h.2.2 k hR) hs.2.2.2⟩
  obtain ⟨h1,h2,h3⟩:=h.2.1 z hz
  exact ⟨h1.loc fun k hv=>hk k (.inr (h3 k (.inl hv))),h2.loc fun k hv=>hk k (.inr (h3 k (.inr hv))),h3⟩
 dom h hk:=hk.elim (fun h0=>absurd h0 (h.1 _)) (h.2.2 _)
 dis h hk:=absurd hk (h.1 _)
variable {B w : World} {L : List As}
theorem nodeR_of {R : Nat→Prop} {z : Ct.Node × Lq} (h : LqAt w R z) : ∃ R',(nodeR z.1 z.2).p w (fun _=>False) R'∧∀ k,R' k→R k:=by
 obtain ⟨h1,h2,h3⟩:=h
 refine ⟨fun k=>(Value.slice z.2.pb z.1.branches.length z.2.cb).ownBlock=some k∨(Value.slice z.2.pp z.1.pairs.length z.2.cp).ownBlock=some k,?_,h3⟩
 refine ⟨fun _ _=>False,fun i k=>match i with | 0=>(Value.slice z.2.pb z.1.branches.length z.2.cb).ownBlock=some k | _=>(Value.slice z.2.pp z.1.pairs.length z.2.cp).ownBlock=some k,?_,fun i j k _ _ _ h=>h.elim,fun k=>⟨fun h=>h.elim,fun ⟨_,_,h⟩=>h⟩,fun k=>?_⟩
 ·intro i a ha
  match i,ha with
  | 0,ha=>injection ha with ha; subst ha; exact ⟨h1,fun _ h=>h,fun _=>Iff.rfl⟩
  | 1,ha=>injection ha with ha; subst ha; exact ⟨h2,fun _ h=>h,fun _=>Iff.rfl⟩
  | n+2,ha=>simp at ha
 ·constructor
  ·rintro (h | h)
   ·exact ⟨0,by simp,h⟩
   ·exact ⟨1,by simp,h⟩
  ·rintro ⟨i,hi,h⟩
   match i,hi,h with
   | 0,_,h=>exact .inl h
   | 1,_,h=>exact .inr h
end Go.Proofs.YtmliojdkmfhmmaaGreat
namespace Go.E
open Go.Proofs.YtmliojdkmfhmmaaGreat Go.RowKit
variable {B w : World} {L : List As}
theorem SH.getN {zs : List (Ct.Node × Lq)} (h : SH B w L) (m : At L (nodesF zs)) {z : Ct.Node × Lq} (hz : z ∈ zs) : SH B w (nodeR z.1 z.2::L) :=
 h.dup m fun _ _ hA=>nodeR_of (hA.2.1 z hz)
theorem SH.addN {zs : List (Ct.Node × Lq)} {n : Ct.Node} {q : Lq} (h : SH B w (branchR n q::pairR n q::nodesF zs::L)) : SH B w (nodesF (zs ++ [(n,q)])::L):=by
 have h' : SH B w (Go.E.se [branchR n q,pairR n q,nodesF zs]::L):=SH.is (l:=[branchR n q,pairR n q,nodesF zs]) h
 refine h'.wk fun O R hA=>?_
 obtain ⟨Os,Rs,h1,h2,h3,h4⟩:=hA
 have b:=h1 0 _ rfl
 have p:=h1 1 _ rfl
 have f:=h1 2 _ rfl
 refine ⟨fun _=>False,R,⟨fun _ h=>h,fun z hz=>?_,fun k hk=>?_⟩,fun _ h=>h.elim,fun k hk=>.inr hk⟩
 ·rcases List.mem_append.1 hz with hz | hz
  ·obtain ⟨g1,g2,g3⟩:=f.2.1 z hz
   exact ⟨g1,g2,fun k hk=>(h4 k).2 ⟨2,by simp,g3 k hk⟩⟩
  ·rw [List.mem_singleton] at hz; subst hz
   exact ⟨b.1,p.1,fun k hk=>hk.elim (fun hk=>(h4 k).2 ⟨0,by simp,(b.2.2 k).2 hk⟩) fun hk=>(h4 k).2 ⟨1,by simp,(p.2.2 k).2 hk⟩⟩
 ·obtain ⟨i,hi,hk⟩:=(h4 k).1 hk
  match i,hi,hk with
  | 0,_,hk=>exact b.1.lt ((b.2.2 k).1 hk)
  | 1,_,hk=>exact p.1.lt ((p.2.2 k).1 hk)
  | 2,_,hk=>exact f.2.2 k hk
theorem SH.duN {n : Ct.Node} {q : Lq} (h : SH B w L) (m : At L (nodeR n q)) : SH B w (nodeR n q::L):=h.dup m fun O R hA=>by
 obtain ⟨Os,Rs,h1,h2,h3,h4⟩:=hA
 have b:=h1 0 _ rfl
 have p:=h1 1 _ rfl
 exact nodeR_of (z:=(n,q)) ⟨b.1,p.1,fun k hk=>hk.elim (fun hk=>(h4 k).2 ⟨0,by simp,(b.2.2 k).2 hk⟩) fun hk=>(h4 k).2 ⟨1,by simp,(p.2.2 k).2 hk⟩⟩
end Go.E
namespace Go.Proofs.YtmliojdkmfhmmaaGreat
open Go.RowKit Go.E
def nodesOf (s : Ct.St) : List Ct.Node:=Ct.markNode::Ct.markNode::s.added
structure Mq where
 pn : Option Addr
 cn : Nat
 pc : Option Addr
 cc : Nat
 zs : List (Ct.Node × Lq)
def memL (b : Nat) (s : Ct.St) (q : Mq) : List As :=
 [bl b [.slice q.pn q.zs.length q.cn,.slice q.pc s.cells.length q.cc,.int .i64 ((s.gen : Nat) : Int),.int .i64 ((s.acc : Nat) : Int)] 64,
  osl 77 14 (.slice q.pn q.zs.length q.cn) q.zs.length (q.zs.flatMap nodeP),osl 36 1 (.slice q.pc s.cells.length q.cc) s.cells.length (s.cells.map (Value.int .i64)),nodesF q.zs]
def memA (b : Nat) (s : Ct.St) : As:=ex fun q : Mq=>se (pu (q.zs.map Prod.fst=nodesOf s)::memL b s q)
structure Eq' where
 pg : Option Addr
 cg : Nat
 pm : Option Addr
 cm : Nat
 pc : Option Addr
 cc : Nat
 pi : Option Addr
 ci : Nat
def exV (mb : Nat) (e : Ct.Ex) (q : Eq') : List Value :=
 .pointer (some ⟨mb,0,none⟩)::callV e.call (.slice none 0 0) (.slice none 0 0) ++
 ([.slice q.pg e.got.length q.cg,.slice q.pm e.made.length q.cm,.slice q.pc e.cells.length q.cc,.slice q.pi e.gens.length q.ci,
  .int .i64 ((e.a : Nat) : Int),.int .i64 ((e.m : Nat) : Int),.int .i64 ((e.c : Nat) : Int),.int .i64 ((e.g : Nat) : Int),.int .i64 ((e.free : Nat) : Int),.bool e.stopped] ++ (accV e.next ++ (.bool e.done::resV e.result ++ [.bool false,.slice none 0 0,.slice none 0 0])))
def exL (b mb : Nat) (e : Ct.Ex) (q : Eq') : List As :=
 [bl b (exV mb e q) 115,osl 36 1 (.slice q.pg e.got.length q.cg) e.got.length (e.got.map (Value.int .i64)),osl 36 1 (.slice q.pm e.made.length q.cm) e.made.length (e.made.map (Value.int .i64)),
  osl 33 1 (.slice q.pc e.cells.length q.cc) e.cells.length (e.cells.map (Value.int .i64)),osl 3 1 (.slice q.pi e.gens.length q.ci) e.gens.length (e.gens.map (Value.int .i64))]
def exA (b mb : Nat) (e : Ct.Ex) : As:=ex fun q : Eq'=>se (exL b mb e q)
end Go.Proofs.YtmliojdkmfhmmaaGreat
end
section
namespace Go.Ct
theorem bytesLess_irrefl : ∀ a : List UInt8,Op.bytesLess a a=false
 | []=>rfl
 | x::a=>by unfold Op.bytesLess; simp [bytesLess_irrefl a]
theorem bytesLess_trans : ∀ a b c : List UInt8,Op.bytesLess a b=true→Op.bytesLess b c=true→Op.bytesLess a c=true
 | [],[],c,h,_=>by simp [Op.bytesLess] at h
 | [],_::_,[],_,k=>by simp [Op.bytesLess] at k
 | [],_::_,_::_,_,_=>by simp [Op.bytesLess]
 | _::_,[],_,h,_=>by simp [Op.bytesLess] at h
 | _::_,_::_,[],_,k=>by simp [Op.bytesLess] at k
 | x::a,y::b,z::c,h,k=>by
  unfold Op.bytesLess at h k ⊢
  simp only [Bool.or_eq_true,Bool.and_eq_true,decide_eq_true_eq,beq_iff_eq] at h k ⊢
  rcases h with h | ⟨rfl,h⟩
  ·rcases k with k | ⟨rfl,k⟩
   ·exact .inl (UInt8.lt_trans h k)
   ·exact .inl h
  ·rcases k with k | ⟨rfl,k⟩
   ·exact .inl k
   ·exact .inr ⟨rfl,bytesLess_trans a b c h k⟩
theorem toList_data (a : ByteArray) : a.toList=a.data.toList:=ByteArray.toList_eq a
theorem keyLt_trans {a b c : ByteArray} (h : keyLt a b=true) (k : keyLt b c=true) : keyLt a c=true:=bytesLess_trans _ _ _ h k
theorem keyLt_irrefl (a : ByteArray) : keyLt a a=false:=bytesLess_irrefl _
theorem pv_tail {a : Pair} {l : List Pair} (h : pairsValid (a::l)=true) : pairsValid l=true:=by
 cases l with
 | nil=>rfl
 | cons b l=>rw [pairsValid,Bool.and_eq_true] at h; exact h.2
theorem pv_head : ∀ {a : Pair} {l : List Pair},pairsValid (a::l)=true→∀ q ∈ l,keyLt a.key q.key=true
 | a,[],_,q,hq=>by cases hq
 | a,b::l,h,q,hq=>by
  have h1 : keyLt a.key b.key=true:=by rw [pairsValid,Bool.and_eq_true] at h; exact h.1
  rcases List.mem_cons.1 hq with rfl | hq
  ·exact h1
  ·exact keyLt_trans h1 (pv_head (pv_tail h) q hq)
theorem pv_lt : ∀ (l : List Pair),pairsValid l=true→∀ m n,m<n→n<l.length→keyLt (pat l m).key (pat l n).key=true
 | [],_,m,n,_,hn=>by simp at hn
 | a::l,h,m,n,hm,hn=>by
  obtain ⟨n,rfl⟩ : ∃ k,n=k+1 :=⟨n - 1,by omega⟩
  have hn' : n<l.length:=by simpa using hn
  have e2 : pat (a::l) (n+1)=pat l n:=by simp [pat]
  rw [e2]
  cases m with
  | zero =>
   refine pv_head h _ ?_
   unfold pat; rw [List.getD_eq_getElem?_getD,List.getElem?_eq_getElem hn']; exact List.getElem_mem hn'
  | succ m =>
   rw [show pat (a::l) (m+1)=pat l m by simp [pat]]
   exact pv_lt l (pv_tail h) m n (by omega) hn'
theorem pbelow_le : ∀ (l : List Pair) (key : ByteArray),pbelow l key≤l.length
 | [],_=>Nat.le_refl _
 | q::l,key=>by
  unfold pbelow; split
  ·have:=pbelow_le l key; simp; omega
  ·simp
theorem pbelow_lt : ∀ (l : List Pair) (key : ByteArray) (m : Nat),m<pbelow l key→keyLt (pat l m).key key=true
 | [],_,m,h=>by simp [pbelow] at h
 | q::l,key,m,h=>by
  unfold pbelow at h
  split at h
  ·rename_i hq
   cases m with
   | zero=>simpa [pat] using hq
   | succ m=>rw [show pat (q::l) (m+1)=pat l m by simp [pat]]; exact pbelow_lt l key m (by omega)
  ·omega
theorem pbelow_at : ∀ (l : List Pair) (key : ByteArray),pbelow l key<l.length→keyLt (pat l (pbelow l key)).key key=false
 | [],_,h=>by simp at h
 | q::l,key,h=>by
  unfold pbelow at h ⊢
  split
  ·rename_i hq
   rw [if_pos hq] at h
   rw [show pat (q::l) (pbelow l key+1)=pat l (pbelow l key) by simp [pat]]
   exact pbelow_at l key (by simpa using h)
  ·rename_i hq
   simpa [pat] using hq
theorem pbelow_eq (l : List Pair) (key : ByteArray) (i : Nat) (hi : i≤l.length) (h1 : ∀ m,m<i→keyLt (pat l m).key key=true) (h2 : ∀ m,i≤m→m<l.length→keyLt (pat l m).key key=false) : pbelow l key=i:=by
 rcases Nat.lt_trichotomy (pbelow l key) i with h | h | h
 ·have:=pbelow_at l key (by omega)
  rw [h1 _ h] at this; cases this
 ·exact h
 ·have h3:=pbelow_lt l key i h
  rw [h2 i (Nat.le_refl _) (by have:=pbelow_le l key; omega)] at h3; cases h3
end Go.Ct
end
