/- Parts of a proof: Ir, Ra, Pg. -/
import Derived.Test.YtnhdmcipglnkfaaGreatW07
import Derived.Test.YtnhdmcipglnkfaaGreatProg
import Derived.Test.YtnhdmcipglnkfaaGreatW04
import Derived.Lib.Bytealg
set_option linter.unusedVariables false
set_option linter.unusedSimpArgs false
set_option maxRecDepth 100000
set_option maxHeartbeats 4000000
section
namespace Go.Ct
def wR(v s:Int):I Int:=bif s==1 then .node v λd=>.ret d.new else .node v λd=>.ret d.dC
def Mj(t:bC)(v s:Int):I Int:=(wR v s).bind λw=>.eA t.root v w λ_=>.ret w
def GS(t:bC):I Int:=
 .load t.root λv=>.node v λd=>bif d.kind==2 then .ret v else
  .node v λd=>.load d.status λs=>bif s==0 then
   .node v λd=>.eA d.status 0 2 λ_=>.node v λd=>.load d.status λs=>Mj t v s
  else Mj t v s
def EO(i m p:Int):I Int:=.node i λa=>.node p λb=>.eA a.main m b.dC λ_=>.node p λb=>.ret b.dC
def GV(i m:Int):I Int:=.node m λn=>.load n.prev λp=>bif p==0 then .ret m else EO i m p
def EN(i m p:Int):I Int:=.node m λn=>.alloc {kind:=7,dC:=p} 0 λf=>.eA n.prev p f λ_=>GV i m
def wQ(t:bC)(i m:Int):I Int:=
 .node m λn=>.load n.prev λp=>bif p==0 then .ret m else
  .node p λb=>bif b.bM then
   bif t.readOnly then EN i m p else
    (GS t).bind λr=>.node r λa=>.node i λb=>bif a.gen==b.gen then .node m λn=>.eA n.prev p 0 λ_=>GV i m else EN i m p
  else EO i m p
def oJ(t:bC)(i:Int):I Int:=.node i λn=>.load n.main λm=>wQ t i m
def vR(t:bC)(v:Int):I Unit:=
 .node v λd=>(oJ t d.dC).bind λm=>.node v λd=>bif m==d.aK then
  .node v λd=>.eA d.status 0 1 λ_=>.ret ()else .node v λd=>.eA d.status 0 2 λ_=>.ret ()
def tV(t:bC):I Int:=
 .load t.root λv=>.node v λd=>bif d.kind==2 then .ret v else
  .node v λd=>.load d.status λs=>bif s==0 then
   (vR t v).bind λ_=>.node v λd=>.load d.status λs=>Mj t v s
  else Mj t v s
def mE(t:bC)(i dC n:Int):I Bool:=
 .node i λa=>.eA a.main dC n λok=>bif ok then(wQ t i n).bind λm=>.ret (m==n)else .ret false
def Dn(t:bC)(dC aK new:Int):I Bool:=
 .alloc {kind:=8,dC:=dC,aK:=aK,new:=new} 0 λd=>.eA t.root dC d λok=>bif ok then
  (vR t d).bind λ_=>.node d λn=>.load n.status λs=>(wR d s).bind λw=>.eA t.root d w λ_=>.ret (s==1)
 else .ret false
def nU(c index r:Int):I Int:=.node c λn=>.alloc (aP n index r).1 c .ret
def Hx(t:bC)(i c index:Int):I Int:=
 .node c λn=>(oJ t (aB n index).1).bind λm=>.node i λa=>.alloc {kind:=2,gen:=a.gen} m λj=>
  (nU c index j).bind λr=>(mE t i c r).bind λok=>bif ok then .ret j else .ret 0
def yF(t:bC)(parent child:Int)(h:Nat)(level:Int):I Bool:=
 (oJ t parent).bind λm=>.node m λn=>bif !(aB n (slice h level)).2 then .ret false else bif (aB n (slice h level)).1 != child then .ret false else
  (oJ t child).bind λq=>.node q λb=>bif !(aT b).2 then .ret false else
   .alloc (aT b).1 0 λs=>.node m λn=>.alloc (bQ (aP n (slice h level) s).1 level (aT b).1) m λr=>mE t parent m r
def cC(found:Bool)(v:Nat):Result:={found:=found,value:=v}
def Mp(t:bC)(key:ByteArray)(h:Nat):Nat->Int->Int->I Result
 |0,_,_=>.ret {}
 |n+1,i,level=>(oJ t i).bind λr=>.node r λm=>
  bif m.kind==5 then(bif bR m.key key then .ret (cC true m.value)else .ret (cC false 0))
  else bif m.kind==6 then .ret (cC (bB m.aF key).2 (bB m.aF key).1)
  else bif !(aB m (slice h level)).2 then .ret (cC false 0)
  else .node (aB m (slice h level)).1 λs=>bif s.kind==4 then(bif bR s.key key then .ret (cC true s.value)else .ret (cC false 0))
   else Mp t key h n (aB m (slice h level)).1 (level+1)
def tH(c:Call)(n:Nat):I Result:=(tV c.aE).bind λr=>Mp c.aE c.key (aH c.key c.aI) n r 0
def cS(c:Call)(found:Bool)(v:Nat):Bool:=
 bif c.bF==1 then !found else bif c.bF==2 then found else bif c.bF==3 then found&&v==c.expect else true
def dL(found:Bool)(v:Nat):Result:={found:=found,value:=v,count:=1}
def kJ(found:Bool)(v:Nat)(ok:Bool):I (Result×Int):=.ret (dL found v,bif ok then 1 else 0)
def eZ(h:Nat)(gen first:Int)(k:Int):Nat->List (Node×Int)->List (Node×Int)
 |0,l=>l
 |n+1,l=>eZ h gen first (k-1) n (l++[({kind:=2,gen:=gen},first+l.length-1),({kind:=3,aD:=Bm.cI 0 (slice h (k-1)),aA:=[first+l.length-1+1]},0)])
def fX(i a k b:Int):Node:={kind:=3,aD:=Bm.cI (Bm.cI 0 i) k,aA:=if k<i then[b,a]else[a,b]}
def bT(x:Node)(at_:Int)(h:Nat)(key:ByteArray)(v:Nat)(level gen first:Int):List (Node×Int):=
 let c:=aJ x.hash h
 if 11<=c then eZ h gen first 11 (11-level).toNat [({kind:=6,hash:=h,aF:=gG ⟨x.key,x.value⟩ ⟨key,v⟩},0)]
 else eZ h gen first c ((c:Int)-level).toNat [({kind:=4,hash:=h,key:=key,value:=v},0),(fX (slice x.hash c) at_ (slice h c) first,0)]
def gR:List (Node×Int)->Int->I Int
 |[],r=>.ret r
 |n::l,_=>.alloc n.1 n.2 λr=>gR l r
def nM(x:Node)(at_:Int)(h:Nat)(key:ByteArray)(v:Nat)(level gen:Int):I Int:=
 match bT x at_ h key v level gen 0 with
 |[]=>.ret 0
 |n::_=>.alloc n.1 n.2 λf=>gR (bT x at_ h key v level gen f).tail f
def lJ(c:Call)(i m:Int)(h:Nat)(level gen:Int):I (Result×Int):=
 .node m λn=>bif n.kind==6 then
  bif !cS c (bB n.aF c.key).2 (bB n.aF c.key).1 then .ret (cC (bB n.aF c.key).2 (bB n.aF c.key).1,1)
  else .alloc (grown n c.key c.value).1 m λa=>(mE c.aE i m a).bind (kJ (bB n.aF c.key).2 (bB n.aF c.key).1)
 else .node (aB n (slice h level)).1 λs=>bif (aB n (slice h level)).2&&s.kind==2 then .ret ({},2)
 else bif (aB n (slice h level)).2&&bR s.key c.key then
  bif !cS c true s.value then .ret (cC true s.value,1)
  else .alloc {kind:=4,hash:=h,key:=c.key,value:=c.value} 0 λa=>(nU m (slice h level) a).bind λr=>(mE c.aE i m r).bind (kJ true s.value)
 else bif !cS c false 0 then .ret (cC false 0,1)
 else bif !(aB n (slice h level)).2 then
  .alloc {kind:=4,hash:=h,key:=c.key,value:=c.value} 0 λa=>.alloc (aS n (slice h level) a).1 m λr=>(mE c.aE i m r).bind (kJ false 0)
 else(nM s (aB n (slice h level)).1 h c.key c.value (level+1) gen).bind λd=>.alloc {kind:=2,gen:=gen} d λj=>
  (nU m (slice h level) j).bind λr=>(mE c.aE i m r).bind (kJ false 0)
def qS(t:bC)(i m ix gen:Int):I Int:=
 .node m λn=>.node (aB n ix).1 λb=>bif b.gen==gen then .ret (aB n ix).1 else Hx t i m ix
def Dx(c:Call)(h:Nat)(gen:Int):Nat->Int->Int->Int->I (Option Result)
 |0,_,_,_=>.ret none
 |n+1,parent,i,level=>(oJ c.aE i).bind λm=>.node m λa=>bif a.kind==5 then(yF c.aE parent i h (level-1)).bind λ_=>.ret none
  else(lJ c i m h level gen).bind λr=>bif r.2==1 then .ret (some r.1)else bif r.2==0 then .ret none
  else(qS c.aE i m (slice h level) gen).bind λb=>bif b==0 then .ret none else Dx c h gen n i b (level+1)
def yN(c:Call)(k:Nat):Nat->I Result
 |0=>.ret {}
 |n+1=>(tV c.aE).bind λi=>.node i λa=>(Dx c (aH c.key c.aI) a.gen k 0 i 0).bind λ
  |some r=>.ret r
  |none=>yN c k n
def kT(c:Call)(i m:Int)(h:Nat)(level:Int):I (Result×Int):=
 .node m λn=>bif n.kind==6 then
  bif !(bB n.aF c.key).2 then .ret (cC (bB n.aF c.key).2 (bB n.aF c.key).1,1)
  else bif c.only&&(bB n.aF c.key).1 != c.expect then .ret (cC (bB n.aF c.key).2 (bB n.aF c.key).1,1)
  else .alloc (gC n c.key).1 m λa=>(mE c.aE i m a).bind (kJ true (bB n.aF c.key).1)
 else .node (aB n (slice h level)).1 λs=>bif (aB n (slice h level)).2&&s.kind==2 then .ret ({},2)
 else bif !(aB n (slice h level)).2 then .ret (cC false 0,1)
 else bif !bR s.key c.key then .ret (cC false 0,1)
 else bif c.only&&s.value != c.expect then .ret (cC true s.value,1)
 else .node (fF (bL n (slice h level)).1).1 λq=>.alloc (bQ (bL n (slice h level)).1 level q) m λr=>(mE c.aE i m r).bind (kJ true s.value)
def QP(t:bC)(path:List Int)(h:Nat):Nat->I Unit
 |0=>.ret ()
 |l+1=>(oJ t (path.getD (l+1) 0)).bind λm=>.node m λn=>bif n.kind != 5 then .ret ()
  else(yF t (path.getD l 0) (path.getD (l+1) 0) h l).bind λ_=>QP t path h l
def sY(c:Call)(h:Nat)(gen:Int):Nat->List Int->Int->Int->I (Option Result)
 |0,_,_,_=>.ret none
 |n+1,path,i,level=>(oJ c.aE i).bind λm=>.node m λa=>bif a.kind==5 then(yF c.aE (path.getD (level-1).toNat 0) i h (level-1)).bind λ_=>.ret none
  else(kT c i m h level).bind λr=>bif r.2==1 then(bif r.1.count==1 then(QP c.aE path h (path.length-1)).bind λ_=>.ret (some r.1)else .ret (some r.1))else bif r.2==0 then .ret none
  else(qS c.aE i m (slice h level) gen).bind λb=>bif b==0 then .ret none else sY c h gen n (path++[b]) b (level+1)
def pE(c:Call)(k:Nat):Nat->I Result
 |0=>.ret {}
 |n+1=>(tV c.aE).bind λi=>.node i λa=>(sY c (aH c.key c.aI) a.gen k [i] i 0).bind λ
  |some r=>.ret r
  |none=>pE c k n
def wK(m:Int):I Result:=.gen λg=>.alloc {kind:=2,gen:=g} m λi=>.cell i λc=>.ret {found:=true,aE:={root:=c}}
def Oo(r:Int):I Result:=.cell r λc=>.ret {found:=true,aE:={root:=c,readOnly:=true}}
def Xl(t:bC)(freeze:Bool):Nat->I Result
 |0=>.ret {}
 |n+1=>(tV t).bind λr=>(oJ t r).bind λm=>.gen λg=>.alloc {kind:=2,gen:=g} m λi=>(Dn t r m i).bind λok=>
  bif !ok then Xl t freeze n else bif freeze then Oo r else wK m
def iL(t:bC)(freeze:Bool)(n:Nat):I Result:=
 bif t.readOnly then .load t.root λr=>bif freeze then Oo r else(oJ t r).bind wK
 else Xl t freeze n
def vK(t:bC):Nat->I Result
 |0=>.ret {}
 |n+1=>(tV t).bind λr=>(oJ t r).bind λm=>.alloc {kind:=3} 0 λc=>.gen λg=>.alloc {kind:=2,gen:=g} c λi=>(Dn t r m i).bind λok=>
  bif ok then .ret {found:=true}else vK t n
def wr(k:Int):Int:=IntKind.i64.wrap k
structure Wk where
 started:Bool:=false
 stack:List (Int×Int):=[]
 wait:List bN:=[]
structure Nx where
 w:Wk:={}
 p:bN:=⟨.empty,0⟩
 ok:Bool:=false
def iI(b:Nat):Nat->Int->Int
 |0,k=>k
 |f+1,k=>bif decide (k<64)&&!Bm.has b k then iI b f (k+1)else k
def eQ(b:Nat)(k:Int):Int:=iI b (64-k).toNat k
def Wk.meet(w:Wk)(m:Int)(n:Node):Wk:=
 bif n.kind==3 then⟨w.started,(m,0)::w.stack,w.wait⟩else bif n.kind==5 then⟨w.started,w.stack,[⟨n.key,n.value⟩]⟩else bif n.kind==6 then⟨w.started,w.stack,n.aF⟩else w
def wS(t:bC)(w:Wk)(i:Int):I Wk:=(oJ t i).bind λm=>.node m λn=>.ret (w.meet m n)
def TC(t:bC)(st:Bool)(K:Wk->I Nx):List (Int×Int)->I Nx
 |[]=>.ret ⟨⟨st,[],[]⟩,⟨.empty,0⟩,false⟩
 |p::l=>.node p.1 λc=>bif eQ c.aD p.2==64 then TC t st K l else
  .node (aB c (eQ c.aD p.2)).1 λs=>bif s.kind==4 then .ret ⟨⟨st,(p.1,eQ c.aD p.2+1)::l,[]⟩,⟨s.key,s.value⟩,true⟩
   else(wS t ⟨st,(p.1,eQ c.aD p.2+1)::l,[]⟩ (aB c (eQ c.aD p.2)).1).bind K
def Nn(t:bC)(K:Wk->I Nx)(w:Wk):I Nx:=match w.wait with
 |p::ps=>.ret ⟨⟨w.started,w.stack,ps⟩,p,true⟩
 |[]=>TC t w.started K w.stack
def iS(t:bC):Nat->Wk->I Nx
 |0,w=>Nn t (λw=>.ret ⟨w,⟨.empty,0⟩,false⟩) w
 |n+1,w=>Nn t (iS t n) w
def Il(t:bC)(n:Nat)(w:Wk):I Nx:=
 bif w.started then iS t n w else .load t.root λr=>(wS t ⟨true,w.stack,w.wait⟩ r).bind (iS t n)
def zY(t:bC)(n:Nat):Nat->Int->Wk->I Result
 |0,_,_=>.ret {}
 |c+1,k,w=>(Il t n w).bind λz=>bif !z.ok then .ret {count:=k}else zY t n c (wr (k+1)) z.w
def Mz(n:Nat):Nat:=(n+1)*10000000000000
def refused(c:Call):Int:=
 bif c.kind==7||c.kind==9 then(bif bU c.key then 0 else 1)
 else bif c.kind==8 then(bif bU c.key&&decide (0<=c.bF)&&decide (c.bF<=3)then 0 else 1)
 else bif c.kind==13||c.kind==14 then(bif c.aE.readOnly then 0 else 7)
 else 0
def bY(c:Call)(n:Nat):I Result:=
 if refused c≠0 then .ret {err:=refused c}
 else if c.kind=1 then(oJ c.aE c.a).bind λr=>.ret {ref:=r}
 else if c.kind=2 then(mE c.aE c.a c.b c.n).bind λr=>.ret {found:=r}
 else if c.kind=3 then(tV c.aE).bind λr=>.ret {ref:=r}
 else if c.kind=4 then(Dn c.aE c.a c.b c.n).bind λr=>.ret {found:=r}
 else if c.kind=5 then(Hx c.aE c.a c.b c.index).bind λr=>.ret {ref:=r,found:=r != 0}
 else if c.kind=6 then(yF c.aE c.a c.b c.hash c.index).bind λr=>.ret {found:=r}
 else if c.kind=7 then tH c n
 else if c.kind=8 then yN c n n
 else if c.kind=9 then pE c n n
 else if c.kind=10 then iL c.aE false n
 else if c.kind=11 then iL c.aE true n
 else if c.kind=12 then vK c.aE n
 else if c.kind=14 then zY c.aE n (Mz n) 0 {}
 else .ret c.answer
def cD(free:Nat)(x:X):X:={x with e:={x.e with a:=0,m:=0,c:=0,g:=0,free:=free,aC:=false}}
end Go.Ct
end
section
namespace Go.E
theorem Reads.loc{w w':World}{sz n:Nat}{v:Value}{xs:List Value}(h:Reads w sz v n xs)(hk:∀k,v.ownBlock=some k->w'.heap[k]?=w.heap[k]?):Reads w' sz v n xs:=by
 refine⟨h.1,?_⟩
 rcases h.2 with hn|⟨b,off,cap,rfl,hb,h1,h2,h3⟩
 ·exact .inl hn
 ·have e:=hk b rfl
  have hb':b<w'.heap.size:=by
   rw[CL hb]at e
   exact(Array.getElem?_eq_some_iff.1 e).1
  exact .inr ⟨b,off,cap,rfl,hb',h1,h2,λj u hu=>(World.cell?_of_block e).trans (h3 j u hu)⟩
theorem Reads.lt{w:World}{sz n:Nat}{v:Value}{xs:List Value}(h:Reads w sz v n xs){k:Nat}(hk:v.ownBlock=some k):k<w.heap.size:=by
 rcases h.2 with⟨rfl,_⟩|⟨b,off,cap,rfl,hb,_⟩
 ·cases hk
 ·injection hk with hk;exact hk▸hb
end Go.E
namespace Go.Q9
open Go.RowKit Go.E
structure Lq where
 pb:Option Addr:=none
 cb:Nat:=0
 pp:Option Addr:=none
 cp:Nat:=0
def aR(p:Ct.bN):List Value:=[↑p.key,.int .u64 (p.value:Int)]
theorem bH(p:Ct.bN):(aR p).length=2:=rfl
theorem eU(p:Ct.bN):(aR p).all Value.oneCell'=true:=rfl
def aL(n:Ct.Node)(q:Lq):List Value:=
 [↑n.kind,↑n.gen,↑n.main,.int .u64 (n.aD:Int),.slice q.pb n.aA.length q.cb,.int .u64 (n.hash:Int),↑n.key,.int .u64 (n.value:Int),.slice q.pp n.aF.length q.cp,
  .int .i64 n.prev,↑n.dC,↑n.aK,↑n.new,↑n.status]
def cB(z:Ct.Node×Lq):List Value:=aL z.1 z.2
theorem fN(z:Ct.Node×Lq):(cB z).length=14:=rfl
theorem Cl(z:Ct.Node×Lq):(cB z).all Value.oneCell'=true:=rfl
def Dh(a:Ct.Acc):List Value:=[↑a.kind,↑a.cell,↑a.dC,↑a.new]
def xC(r:Ct.Result):List Value:=[↑r.err,↑r.found,.int .u64 (r.value:Int),↑r.key,↑r.count,↑r.ref,↑r.aE.root,↑r.aE.readOnly]
def m7(c:Ct.Call)(vs vw:Value):List Value:=
 [↑c.kind,↑c.aE.root,↑c.aE.readOnly,↑c.a,↑c.b,↑c.n,↑c.index,.int .u64 (c.hash:Int),.int .u64 (c.aI:Int),↑c.key,
  .int .u64 (c.value:Int),.int .u64 (c.expect:Int),.int .i64 c.bF,.bool c.only,.bool c.walk.started,vs,vw]++xC c.answer
def aY(n:Ct.Node)(q:Lq):As:=bV 1 (.slice q.pb n.aA.length q.cb) n.aA.length (n.aA.map (Value.int .i64))
def cH(n:Ct.Node)(q:Lq):As:=bV 2 (.slice q.pp n.aF.length q.cp) n.aF.length (n.aF.flatMap aR)
def aM(n:Ct.Node)(q:Lq):As:=se [aY n q,cH n q]
def j5(w:World)(R:Nat->Prop)(z:Ct.Node×Lq):Prop:=
 Reads w 1 (.slice z.2.pb z.1.aA.length z.2.cb) z.1.aA.length (z.1.aA.map (Value.int .i64))/\Reads w 2 (.slice z.2.pp z.1.aF.length z.2.cp) z.1.aF.length (z.1.aF.flatMap aR)/\
  ∀k,(Value.slice z.2.pb z.1.aA.length z.2.cb).ownBlock=some k\/(Value.slice z.2.pp z.1.aF.length z.2.cp).ownBlock=some k->R k
def bE(zs:List (Ct.Node×Lq)):As where
 p w O R:=(∀k,¬O k)/\(∀z∈zs,j5 w R z)/\∀k,R k->k<w.heap.size
 loc {w w' O R} h hs hk:=by
  refine⟨h.1,λz hz=>?_,λk hR=>DM (h.2.2 k hR) hs.2.2.2⟩
  obtain⟨h1,h2,h3⟩:=h.2.1 z hz
  exact⟨h1.loc λk hv=>hk k (.inr (h3 k (.inl hv))),h2.loc λk hv=>hk k (.inr (h3 k (.inr hv))),h3⟩
 Ua h hk:=hk.elim (λh0=>absurd h0 (h.1 _)) (h.2.2 _)
 Wu h hk:=absurd hk (h.1 _)
variable{B w:World}{L:List As}
theorem Ko{R:Nat->Prop}{z:Ct.Node×Lq}(h:j5 w R z):∃R',(aM z.1 z.2).p w (λ_=>False) R'/\∀k,R' k->R k:=by
 obtain⟨h1,h2,h3⟩:=h
 refine⟨λk=>(Value.slice z.2.pb z.1.aA.length z.2.cb).ownBlock=some k\/(Value.slice z.2.pp z.1.aF.length z.2.cp).ownBlock=some k,?_,h3⟩
 refine⟨λ_ _=>False,λi k=>match i with|0=>(Value.slice z.2.pb z.1.aA.length z.2.cb).ownBlock=some k|_=>(Value.slice z.2.pp z.1.aF.length z.2.cp).ownBlock=some k,?_,λi j k _ _ _ h=>h.elim,λk=>⟨λh=>h.elim,λ⟨_,_,h⟩=>h⟩,λk=>?_⟩
 ·intro i a ha
  match i,ha with
  |0,ha=>injection ha with ha;subst ha;exact⟨h1,λ_ h=>h,λ_=>Iff.rfl⟩
  |1,ha=>injection ha with ha;subst ha;exact⟨h2,λ_ h=>h,λ_=>Iff.rfl⟩
  |n+2,ha=>simp at ha
 ·constructor
  ·rintro(h|h)
   ·exact⟨0,by simp,h⟩
   ·exact⟨1,by simp,h⟩
  ·rintro⟨i,hi,h⟩
   match i,hi,h with
   |0,_,h=>exact .inl h
   |1,_,h=>exact .inr h
end Go.Q9
namespace Go.E
open Go.Q9 Go.RowKit
variable{B w:World}{L:List As}
theorem SH.Ll{zs:List (Ct.Node×Lq)}(h:SH B w L)(m:At L (bE zs)){z:Ct.Node×Lq}(hz:z∈zs):SH B w (aM z.1 z.2::L):=
 h.dup m λ_ _ hA=>Ko (hA.2.1 z hz)
theorem SH.HU{zs:List (Ct.Node×Lq)}{n:Ct.Node}{q:Lq}(h:SH B w (aY n q::cH n q::bE zs::L)):SH B w (bE (zs++[(n,q)])::L):=by
 have h':SH B w (Go.E.se [aY n q,cH n q,bE zs]::L):=SH.is (l:=[aY n q,cH n q,bE zs]) h
 refine h'.wk λO R hA=>?_
 obtain⟨Os,Rs,h1,h2,h3,h4⟩:=hA
 have b:=h1 0 _ rfl
 have p:=h1 1 _ rfl
 have f:=h1 2 _ rfl
 refine⟨λ_=>False,R,⟨λ_ h=>h,λz hz=>?_,λk hk=>?_⟩,λ_ h=>h.elim,λk hk=>.inr hk⟩
 ·rcases List.mem_append.1 hz with hz|hz
  ·obtain⟨g1,g2,g3⟩:=f.2.1 z hz
   exact⟨g1,g2,λk hk=>(h4 k).2 ⟨2,by simp,g3 k hk⟩⟩
  ·rw[cE]at hz;subst hz
   exact⟨b.1,p.1,λk hk=>hk.elim (λhk=>(h4 k).2 ⟨0,by simp,(b.2.2 k).2 hk⟩) λhk=>(h4 k).2 ⟨1,by simp,(p.2.2 k).2 hk⟩⟩
 ·obtain⟨i,hi,hk⟩:=(h4 k).1 hk
  match i,hi,hk with
  |0,_,hk=>exact b.1.lt ((b.2.2 k).1 hk)
  |1,_,hk=>exact p.1.lt ((p.2.2 k).1 hk)
  |2,_,hk=>exact f.2.2 k hk
theorem SH.Gs{n:Ct.Node}{q:Lq}(h:SH B w L)(m:At L (aM n q)):SH B w (aM n q::L):=h.dup m λO R hA=>by
 obtain⟨Os,Rs,h1,h2,h3,h4⟩:=hA
 have b:=h1 0 _ rfl
 have p:=h1 1 _ rfl
 exact Ko (z:=(n,q)) ⟨b.1,p.1,λk hk=>hk.elim (λhk=>(h4 k).2 ⟨0,by simp,(b.2.2 k).2 hk⟩) λhk=>(h4 k).2 ⟨1,by simp,(p.2.2 k).2 hk⟩⟩
end Go.E
namespace Go.Q9
open Go.RowKit Go.E
def aW(s:Ct.St):List Ct.Node:=Ct.gY::Ct.gY::s.aG
structure Mq where
 pn:Option Addr
 cn:Nat
 pc:Option Addr
 cc:Nat
 zs:List (Ct.Node×Lq)
def DX(b:Nat)(s:Ct.St)(q:Mq):List As:=
 [bl b [.slice q.pn q.zs.length q.cn,.slice q.pc s.cells.length q.cc,↑(s.gen:Int),↑(s.acc:Int)] 75,
  aU 53 14 (.slice q.pn q.zs.length q.cn) q.zs.length (q.zs.flatMap cB),aU 44 1 (.slice q.pc s.cells.length q.cc) s.cells.length (s.cells.map (Value.int .i64)),bE q.zs]
def cR(b:Nat)(s:Ct.St):As:=ex λq:Mq=>se (pu (q.zs.map Prod.fst=aW s)::DX b s q)
structure o7 where
 pg:Option Addr
 cg:Nat
 pm:Option Addr
 cm:Nat
 pc:Option Addr
 cc:Nat
 pi:Option Addr
 ci:Nat
def vT(mb:Nat)(e:Ct.Ex)(q:o7):List Value:=
 .pointer (some ⟨mb,0,none⟩)::m7 e.call (.slice none 0 0) (.slice none 0 0)++
 ([.slice q.pg e.eG.length q.cg,.slice q.pm e.made.length q.cm,.slice q.pc e.cells.length q.cc,.slice q.pi e.dG.length q.ci,
  .int .i64 (e.a:Int),.int .i64 (e.m:Int),.int .i64 (e.c:Int),.int .i64 (e.g:Int),.int .i64 (e.free:Int),.bool e.aC]++(Dh e.next++(.bool e.done::xC e.result++[.bool false,.slice none 0 0,.slice none 0 0])))
def OY(b mb:Nat)(e:Ct.Ex)(q:o7):List As:=
 [bl b (vT mb e q) 135,aU 44 1 (.slice q.pg e.eG.length q.cg) e.eG.length (e.eG.map (Value.int .i64)),aU 44 1 (.slice q.pm e.made.length q.cm) e.made.length (e.made.map (Value.int .i64)),
  aU 33 1 (.slice q.pc e.cells.length q.cc) e.cells.length (e.cells.map (Value.int .i64)),aU 3 1 (.slice q.pi e.dG.length q.ci) e.dG.length (e.dG.map (Value.int .i64))]
def VE(b mb:Nat)(e:Ct.Ex):As:=ex λq:o7=>se (OY b mb e q)
end Go.Q9
end
section
namespace Go.Ct
theorem kV:∀a:List UInt8,Op.bytesLess a a=false
 |[]=>rfl
 |x::a=>by unfold Op.bytesLess;simp[kV a]
theorem oC:∀a b c:List UInt8,Op.bytesLess a b=true->Op.bytesLess b c=true->Op.bytesLess a c=true
 |[],[],c,h,_=>by simp[Op.bytesLess]at h
 |[],_::_,[],_,k=>by simp[Op.bytesLess]at k
 |[],_::_,_::_,_,_=>by simp[Op.bytesLess]
 |_::_,[],_,h,_=>by simp[Op.bytesLess]at h
 |_::_,_::_,[],_,k=>by simp[Op.bytesLess]at k
 |x::a,y::b,z::c,h,k=>by
  unfold Op.bytesLess at h k ⊢
  simp only[Bool.or_eq_true,Qb,Ft,mQ]at h k ⊢
  rcases h with h|⟨rfl,h⟩
  ·rcases k with k|⟨rfl,k⟩
   ·exact .inl (UInt8.lt_trans h k)
   ·exact .inl h
  ·rcases k with k|⟨rfl,k⟩
   ·exact .inl k
   ·exact .inr ⟨rfl,oC a b c h k⟩
theorem toList_data(a:ByteArray):a.toList=a.data.toList:=ByteArray.toList_eq a
theorem kA{a b c:ByteArray}(h:dM a b=true)(k:dM b c=true):dM a c=true:=oC _ _ _ h k
theorem mL(a:ByteArray):dM a a=false:=kV _
theorem zZ{a:bN}{l:List bN}(h:aQ (a::l)=true):aQ l=true:=by
 cases l with
 |nil=>rfl
 |cons b l=>rw[aQ,Qb]at h;exact h.2
theorem Qm:∀{a:bN} {l:List bN},aQ (a::l)=true->∀q∈l,dM a.key q.key=true
 |a,[],_,q,hq=>by cases hq
 |a,b::l,h,q,hq=>by
  have h1:dM a.key b.key=true:=by rw[aQ,Qb]at h;exact h.1
  rcases List.mem_cons.1 hq with rfl|hq
  ·exact h1
  ·exact kA h1 (Qm (zZ h) q hq)
theorem Eh:∀(l:List bN),aQ l=true->∀m n,m<n->n<l.length->dM (iE l m).key (iE l n).key=true
 |[],_,m,n,_,hn=>by simp at hn
 |a::l,h,m,n,hm,hn=>by
  obtain⟨n,rfl⟩:∃k,n=k+1:=⟨n-1,by omega⟩
  have hn':n<l.length:=by simpa using hn
  have e2:iE (a::l) (n+1)=iE l n:=by simp[iE]
  rw[e2]
  cases m with
  |zero=>
   refine Qm h _ ?_
   unfold iE;rw[dI,fM hn'];exact wU hn'
  |succ m=>
   rw[show iE (a::l) (m+1)=iE l m by simp[iE]]
   exact Eh l (zZ h) m n (by omega) hn'
theorem sE:∀(l:List bN) (key:ByteArray),aZ l key<=l.length
 |[],_=>JV _
 |q::l,key=>by
  unfold aZ;split
  ·have:=sE l key;simp;omega
  ·simp
theorem wG:∀(l:List bN) (key:ByteArray) (m:Nat),m<aZ l key->dM (iE l m).key key=true
 |[],_,m,h=>by simp[aZ]at h
 |q::l,key,m,h=>by
  unfold aZ at h
  split at h
  ·rename_i hq
   cases m with
   |zero=>simpa[iE]using hq
   |succ m=>rw[show iE (q::l) (m+1)=iE l m by simp[iE]];exact wG l key m (by omega)
  ·omega
theorem Dl:∀(l:List bN) (key:ByteArray),aZ l key<l.length->dM (iE l (aZ l key)).key key=false
 |[],_,h=>by simp at h
 |q::l,key,h=>by
  unfold aZ at h ⊢
  split
  ·rename_i hq
   rw[if_pos hq]at h
   rw[show iE (q::l) (aZ l key+1)=iE l (aZ l key) by simp[iE]]
   exact Dl l key (by simpa using h)
  ·rename_i hq
   simpa[iE]using hq
theorem Ny(l:List bN)(key:ByteArray)(i:Nat)(hi:i<=l.length)(h1:∀m,m<i->dM (iE l m).key key=true)(h2:∀m,i<=m->m<l.length->dM (iE l m).key key=false):aZ l key=i:=by
 rcases Nat.lt_trichotomy (aZ l key) i with h|h|h
 ·have:=Dl l key (by omega)
  rw[h1 _ h]at this;cases this
 ·exact h
 ·have h3:=wG l key i h
  rw[h2 i (JV _) (by have:=sE l key;omega)]at h3;cases h3
end Go.Ct
end
