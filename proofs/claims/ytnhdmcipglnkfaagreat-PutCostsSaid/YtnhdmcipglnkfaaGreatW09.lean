/- Parts of a proof: Ir, Ra, Pg. -/
import Derived.Test.YtnhdmcipglnkfaaGreatW07
import Derived.Test.YtnhdmcipglnkfaaGreatProg
import Derived.Test.YtnhdmcipglnkfaaGreatW04
import Derived.Lib.Bytealg
set_option linter.unusedVariables false
set_option linter.unusedSimpArgs false
set_option maxRecDepth 100000
set_option maxHeartbeats 4000000
section
namespace Go.Ct
def Ad(v s:Int):I Int:=bif s==1 then .node v λd=>.ret d.new else .node v λd=>.ret d.dO
def Uq(t:aX)(v s:Int):I Int:=(Ad v s).bind λw=>.cH t.root v w λ_=>.ret w
def TQ(t:aX):I Int:=
 .load t.root λv=>.node v λd=>bif d.kind==2 then .ret v else
  .node v λd=>.load d.status λs=>bif s==0 then
   .node v λd=>.cH d.status 0 2 λ_=>.node v λd=>.load d.status λs=>Uq t v s
  else Uq t v s
def RX(i m p:Int):I Int:=.node i λa=>.node p λb=>.cH a.main m b.dO λ_=>.node p λb=>.ret b.dO
def SM(i m:Int):I Int:=.node m λn=>.load n.prev λp=>bif p==0 then .ret m else RX i m p
def QR(i m p:Int):I Int:=.node m λn=>.alloc {kind:=7,dO:=p} 0 λf=>.cH n.prev p f λ_=>SM i m
def Av(t:aX)(i m:Int):I Int:=
 .node m λn=>.load n.prev λp=>bif p==0 then .ret m else
  .node p λb=>bif b.bG then
   bif t.readOnly then QR i m p else
    (TQ t).bind λr=>.node r λa=>.node i λb=>bif a.gen==b.gen then .node m λn=>.cH n.prev p 0 λ_=>SM i m else QR i m p
  else RX i m p
def sE(t:aX)(i:Int):I Int:=.node i λn=>.load n.main λm=>Av t i m
def Bg(t:aX)(v:Int):I Unit:=
 .node v λd=>(sE t d.dO).bind λm=>.node v λd=>bif m==d.aS then
  .node v λd=>.cH d.status 0 1 λ_=>.ret ()else .node v λd=>.cH d.status 0 2 λ_=>.ret ()
def xP(t:aX):I Int:=
 .load t.root λv=>.node v λd=>bif d.kind==2 then .ret v else
  .node v λd=>.load d.status λs=>bif s==0 then
   (Bg t v).bind λ_=>.node v λd=>.load d.status λs=>Uq t v s
  else Uq t v s
def pD(t:aX)(i dO n:Int):I Bool:=
 .node i λa=>.cH a.main dO n λok=>bif ok then(Av t i n).bind λm=>.ret (m==n)else .ret false
def Iw(t:aX)(dO aS new:Int):I Bool:=
 .alloc {kind:=8,dO:=dO,aS:=aS,new:=new} 0 λd=>.cH t.root dO d λok=>bif ok then
  (Bg t d).bind λ_=>.node d λn=>.load n.status λs=>(Ad d s).bind λw=>.cH t.root d w λ_=>.ret (s==1)
 else .ret false
def rK(c index r:Int):I Int:=.node c λn=>.alloc (aM n index r).1 c .ret
def Rj(t:aX)(i c index:Int):I Int:=
 .node c λn=>(sE t (aB n index).1).bind λm=>.node i λa=>.alloc {kind:=2,gen:=a.gen} m λj=>
  (rK c index j).bind λr=>(pD t i c r).bind λok=>bif ok then .ret j else .ret 0
def Dk(t:aX)(parent child:Int)(h:Nat)(level:Int):I Bool:=
 (sE t parent).bind λm=>.node m λn=>bif !(aB n (slice h level)).2 then .ret false else bif (aB n (slice h level)).1 != child then .ret false else
  (sE t child).bind λq=>.node q λb=>bif !(aP b).2 then .ret false else
   .alloc (aP b).1 0 λs=>.node m λn=>.alloc (bI (aM n (slice h level) s).1 level (aP b).1) m λr=>pD t parent m r
def dN(found:Bool)(v:Nat):Result:={found:=found,value:=v}
def FT(t:aX)(key:ByteArray)(h:Nat):Nat->Int->Int->I Result
 |0,_,_=>.ret {}
 |n+1,i,level=>(sE t i).bind λr=>.node r λm=>
  bif m.kind==5 then(bif bO m.key key then .ret (dN true m.value)else .ret (dN false 0))
  else bif m.kind==6 then .ret (dN (bN m.aH key).2 (bN m.aH key).1)
  else bif !(aB m (slice h level)).2 then .ret (dN false 0)
  else .node (aB m (slice h level)).1 λs=>bif s.kind==4 then(bif bO s.key key then .ret (dN true s.value)else .ret (dN false 0))
   else FT t key h n (aB m (slice h level)).1 (level+1)
def Bf(c:Call)(n:Nat):I Result:=(xP c.aF).bind λr=>FT c.aF c.key (aE c.key c.aI) n r 0
def cB(c:Call)(found:Bool)(v:Nat):Bool:=
 bif c.bF==1 then !found else bif c.bF==2 then found else bif c.bF==3 then found&&v==c.expect else true
def dL(found:Bool)(v:Nat):Result:={found:=found,value:=v,count:=1}
def mH(found:Bool)(v:Nat)(ok:Bool):I (Result×Int):=.ret (dL found v,bif ok then 1 else 0)
def gI(h:Nat)(gen first:Int)(k:Int):Nat->List (Node×Int)->List (Node×Int)
 |0,l=>l
 |n+1,l=>gI h gen first (k-1) n (l++[({kind:=2,gen:=gen},first+l.length-1),({kind:=3,aC:=Bm.cR 0 (slice h (k-1)),aA:=[first+l.length-1+1]},0)])
def iA(i a k b:Int):Node:={kind:=3,aC:=Bm.cR (Bm.cR 0 i) k,aA:=if k<i then[b,a]else[a,b]}
def bU(x:Node)(at_:Int)(h:Nat)(key:ByteArray)(v:Nat)(level gen first:Int):List (Node×Int):=
 let c:=aJ x.hash h
 if 11<=c then gI h gen first 11 (11-level).toNat [({kind:=6,hash:=h,aH:=gE ⟨x.key,x.value⟩ ⟨key,v⟩},0)]
 else gI h gen first c ((c:Int)-level).toNat [({kind:=4,hash:=h,key:=key,value:=v},0),(iA (slice x.hash c) at_ (slice h c) first,0)]
def iX:List (Node×Int)->Int->I Int
 |[],r=>.ret r
 |n::l,_=>.alloc n.1 n.2 λr=>iX l r
def rM(x:Node)(at_:Int)(h:Nat)(key:ByteArray)(v:Nat)(level gen:Int):I Int:=
 match bU x at_ h key v level gen 0 with
 |[]=>.ret 0
 |n::_=>.alloc n.1 n.2 λf=>iX (bU x at_ h key v level gen f).tail f
def nR(c:Call)(i m:Int)(h:Nat)(level gen:Int):I (Result×Int):=
 .node m λn=>bif n.kind==6 then
  bif !cB c (bN n.aH c.key).2 (bN n.aH c.key).1 then .ret (dN (bN n.aH c.key).2 (bN n.aH c.key).1,1)
  else .alloc (grown n c.key c.value).1 m λa=>(pD c.aF i m a).bind (mH (bN n.aH c.key).2 (bN n.aH c.key).1)
 else .node (aB n (slice h level)).1 λs=>bif (aB n (slice h level)).2&&s.kind==2 then .ret ({},2)
 else bif (aB n (slice h level)).2&&bO s.key c.key then
  bif !cB c true s.value then .ret (dN true s.value,1)
  else .alloc {kind:=4,hash:=h,key:=c.key,value:=c.value} 0 λa=>(rK m (slice h level) a).bind λr=>(pD c.aF i m r).bind (mH true s.value)
 else bif !cB c false 0 then .ret (dN false 0,1)
 else bif !(aB n (slice h level)).2 then
  .alloc {kind:=4,hash:=h,key:=c.key,value:=c.value} 0 λa=>.alloc (aO n (slice h level) a).1 m λr=>(pD c.aF i m r).bind (mH false 0)
 else(rM s (aB n (slice h level)).1 h c.key c.value (level+1) gen).bind λd=>.alloc {kind:=2,gen:=gen} d λj=>
  (rK m (slice h level) j).bind λr=>(pD c.aF i m r).bind (mH false 0)
def vB(t:aX)(i m ix gen:Int):I Int:=
 .node m λn=>.node (aB n ix).1 λb=>bif b.gen==gen then .ret (aB n ix).1 else Rj t i m ix
def Pn(c:Call)(h:Nat)(gen:Int):Nat->Int->Int->Int->I (Option Result)
 |0,_,_,_=>.ret none
 |n+1,parent,i,level=>(sE c.aF i).bind λm=>.node m λa=>bif a.kind==5 then(Dk c.aF parent i h (level-1)).bind λ_=>.ret none
  else(nR c i m h level gen).bind λr=>bif r.2==1 then .ret (some r.1)else bif r.2==0 then .ret none
  else(vB c.aF i m (slice h level) gen).bind λb=>bif b==0 then .ret none else Pn c h gen n i b (level+1)
def Jf(c:Call)(k:Nat):Nat->I Result
 |0=>.ret {}
 |n+1=>(xP c.aF).bind λi=>.node i λa=>(Pn c (aE c.key c.aI) a.gen k 0 i 0).bind λ
  |some r=>.ret r
  |none=>Jf c k n
def nG(c:Call)(i m:Int)(h:Nat)(level:Int):I (Result×Int):=
 .node m λn=>bif n.kind==6 then
  bif !(bN n.aH c.key).2 then .ret (dN (bN n.aH c.key).2 (bN n.aH c.key).1,1)
  else bif c.only&&(bN n.aH c.key).1 != c.expect then .ret (dN (bN n.aH c.key).2 (bN n.aH c.key).1,1)
  else .alloc (jH n c.key).1 m λa=>(pD c.aF i m a).bind (mH true (bN n.aH c.key).1)
 else .node (aB n (slice h level)).1 λs=>bif (aB n (slice h level)).2&&s.kind==2 then .ret ({},2)
 else bif !(aB n (slice h level)).2 then .ret (dN false 0,1)
 else bif !bO s.key c.key then .ret (dN false 0,1)
 else bif c.only&&s.value != c.expect then .ret (dN true s.value,1)
 else .node (iP (cG n (slice h level)).1).1 λq=>.alloc (bI (cG n (slice h level)).1 level q) m λr=>(pD c.aF i m r).bind (mH true s.value)
def O9(t:aX)(path:List Int)(h:Nat):Nat->I Unit
 |0=>.ret ()
 |l+1=>(sE t (path.getD (l+1) 0)).bind λm=>.node m λn=>bif n.kind != 5 then .ret ()
  else(Dk t (path.getD l 0) (path.getD (l+1) 0) h l).bind λ_=>O9 t path h l
def zC(c:Call)(h:Nat)(gen:Int):Nat->List Int->Int->Int->I (Option Result)
 |0,_,_,_=>.ret none
 |n+1,path,i,level=>(sE c.aF i).bind λm=>.node m λa=>bif a.kind==5 then(Dk c.aF (path.getD (level-1).toNat 0) i h (level-1)).bind λ_=>.ret none
  else(nG c i m h level).bind λr=>bif r.2==1 then(bif r.1.count==1 then(O9 c.aF path h (path.length-1)).bind λ_=>.ret (some r.1)else .ret (some r.1))else bif r.2==0 then .ret none
  else(vB c.aF i m (slice h level) gen).bind λb=>bif b==0 then .ret none else zC c h gen n (path++[b]) b (level+1)
def vM(c:Call)(k:Nat):Nat->I Result
 |0=>.ret {}
 |n+1=>(xP c.aF).bind λi=>.node i λa=>(zC c (aE c.key c.aI) a.gen k [i] i 0).bind λ
  |some r=>.ret r
  |none=>vM c k n
def Au(m:Int):I Result:=.gen λg=>.alloc {kind:=2,gen:=g} m λi=>.cell i λc=>.ret {found:=true,aF:={root:=c}}
def Nu(r:Int):I Result:=.cell r λc=>.ret {found:=true,aF:={root:=c,readOnly:=true}}
def II(t:aX)(freeze:Bool):Nat->I Result
 |0=>.ret {}
 |n+1=>(xP t).bind λr=>(sE t r).bind λm=>.gen λg=>.alloc {kind:=2,gen:=g} m λi=>(Iw t r m i).bind λok=>
  bif !ok then II t freeze n else bif freeze then Nu r else Au m
def kK(t:aX)(freeze:Bool)(n:Nat):I Result:=
 bif t.readOnly then .load t.root λr=>bif freeze then Nu r else(sE t r).bind Au
 else II t freeze n
def yI(t:aX):Nat->I Result
 |0=>.ret {}
 |n+1=>(xP t).bind λr=>(sE t r).bind λm=>.alloc {kind:=3} 0 λc=>.gen λg=>.alloc {kind:=2,gen:=g} c λi=>(Iw t r m i).bind λok=>
  bif ok then .ret {found:=true}else yI t n
def wr(k:Int):Int:=IntKind.i64.wrap k
structure Wk where
 started:Bool:=false
 stack:List (Int×Int):=[]
 wait:List bA:=[]
structure Nx where
 w:Wk:={}
 p:bA:=⟨.empty,0⟩
 ok:Bool:=false
def aC0(n:Nat):Nat:=(n+1)*10000000000000
def refused(c:Call):Int:=
 bif c.kind==7||c.kind==9 then(bif bR c.key then 0 else 1)
 else bif c.kind==8 then(bif bR c.key&&decide (0<=c.bF)&&decide (c.bF<=3)then 0 else 1)
 else bif c.kind==13||c.kind==14 then(bif c.aF.readOnly then 0 else 7)
 else 0
def cA(c:Call)(n:Nat):I Result:=
 if refused c≠0 then .ret {err:=refused c}
 else if c.kind=1 then(sE c.aF c.a).bind λr=>.ret {ref:=r}
 else if c.kind=2 then(pD c.aF c.a c.b c.n).bind λr=>.ret {found:=r}
 else if c.kind=3 then(xP c.aF).bind λr=>.ret {ref:=r}
 else if c.kind=4 then(Iw c.aF c.a c.b c.n).bind λr=>.ret {found:=r}
 else if c.kind=5 then(Rj c.aF c.a c.b c.index).bind λr=>.ret {ref:=r,found:=r != 0}
 else if c.kind=6 then(Dk c.aF c.a c.b c.hash c.index).bind λr=>.ret {found:=r}
 else if c.kind=7 then Bf c n
 else if c.kind=8 then Jf c n n
 else if c.kind=9 then vM c n n
 else if c.kind=10 then kK c.aF false n
 else if c.kind=11 then kK c.aF true n
 else if c.kind=12 then yI c.aF n
 else .ret c.answer
def cE(free:Nat)(x:X):X:={x with e:={x.e with a:=0,m:=0,c:=0,g:=0,free:=free,aD:=false}}
end Go.Ct
end
section
namespace Go.E
theorem Reads.loc{w w':World}{sz n:Nat}{v:Value}{xs:List Value}(h:Reads w sz v n xs)(hk:∀k,v.ownBlock=some k->w'.heap[k]?=w.heap[k]?):Reads w' sz v n xs:=by
 refine⟨h.1,?_⟩
 rcases h.2 with hn|⟨b,off,cap,rfl,hb,h1,h2,h3⟩
 ·exact .inl hn
 ·have e:=hk b rfl
  have CU:b<w'.heap.size:=by
   rw[WH hb]at e
   exact(Array.getElem?_eq_some_iff.1 e).1
  exact .inr ⟨b,off,cap,rfl,CU,h1,h2,λj u hu=>(World.cell?_of_block e).trans (h3 j u hu)⟩
theorem Reads.lt{w:World}{sz n:Nat}{v:Value}{xs:List Value}(h:Reads w sz v n xs){k:Nat}(hk:v.ownBlock=some k):k<w.heap.size:=by
 rcases h.2 with⟨rfl,_⟩|⟨b,off,cap,rfl,hb,_⟩
 ·cases hk
 ·injection hk with hk;exact hk▸hb
end Go.E
namespace Go.Q9
open Go.RowKit Go.E
structure Lq where
 pb:Option Addr:=none
 cb:Nat:=0
 pp:Option Addr:=none
 cp:Nat:=0
def aR(p:Ct.bA):List Value:=[↑p.key,.int .u64 (p.value:Int)]
theorem bJ(p:Ct.bA):(aR p).length=2:=rfl
theorem eW(p:Ct.bA):(aR p).all Value.oneCell'=true:=rfl
def aK(n:Ct.Node)(q:Lq):List Value:=
 [↑n.kind,↑n.gen,↑n.main,.int .u64 (n.aC:Int),.slice q.pb n.aA.length q.cb,.int .u64 (n.hash:Int),↑n.key,.int .u64 (n.value:Int),.slice q.pp n.aH.length q.cp,
  .int .i64 n.prev,↑n.dO,↑n.aS,↑n.new,↑n.status]
def bY(z:Ct.Node×Lq):List Value:=aK z.1 z.2
theorem gH(z:Ct.Node×Lq):(bY z).length=14:=rfl
theorem Iz(z:Ct.Node×Lq):(bY z).all Value.oneCell'=true:=rfl
def aD3(a:Ct.Acc):List Value:=[↑a.kind,↑a.cell,↑a.dO,↑a.new]
def Bn(r:Ct.Result):List Value:=[↑r.err,↑r.found,.int .u64 (r.value:Int),↑r.key,↑r.count,↑r.ref,↑r.aF.root,↑r.aF.readOnly]
def aJc(c:Ct.Call)(vs vw:Value):List Value:=
 [↑c.kind,↑c.aF.root,↑c.aF.readOnly,↑c.a,↑c.b,↑c.n,↑c.index,.int .u64 (c.hash:Int),.int .u64 (c.aI:Int),↑c.key,
  .int .u64 (c.value:Int),.int .u64 (c.expect:Int),.int .i64 c.bF,.bool c.only,.bool c.walk.started,vs,vw]++Bn c.answer
def bE(n:Ct.Node)(q:Lq):As:=bS 1 (.slice q.pb n.aA.length q.cb) n.aA.length (n.aA.map (Value.int .i64))
def cP(n:Ct.Node)(q:Lq):As:=bS 2 (.slice q.pp n.aH.length q.cp) n.aH.length (n.aH.flatMap aR)
def aL(n:Ct.Node)(q:Lq):As:=se [bE n q,cP n q]
def aJd(w:World)(R:Nat->Prop)(z:Ct.Node×Lq):Prop:=
 Reads w 1 (.slice z.2.pb z.1.aA.length z.2.cb) z.1.aA.length (z.1.aA.map (Value.int .i64))/\Reads w 2 (.slice z.2.pp z.1.aH.length z.2.cp) z.1.aH.length (z.1.aH.flatMap aR)/\
  ∀k,(Value.slice z.2.pb z.1.aA.length z.2.cb).ownBlock=some k\/(Value.slice z.2.pp z.1.aH.length z.2.cp).ownBlock=some k->R k
def bH(zs:List (Ct.Node×Lq)):As where
 p w O R:=(∀k,¬O k)/\(∀z∈zs,aJd w R z)/\∀k,R k->k<w.heap.size
 loc {w w' O R} h hs hk:=by
  refine⟨h.1,λz hz=>?_,λk hR=>Lz (h.2.2 k hR) hs.2.2.2⟩
  obtain⟨h1,h2,h3⟩:=h.2.1 z hz
  exact⟨h1.loc λk hv=>hk k (.inr (h3 k (.inl hv))),h2.loc λk hv=>hk k (.inr (h3 k (.inr hv))),h3⟩
 DC h hk:=hk.elim (λh0=>absurd h0 (h.1 _)) (h.2.2 _)
 DZ h hk:=absurd hk (h.1 _)
variable{B w:World}{L:List As}
theorem Sv{R:Nat->Prop}{z:Ct.Node×Lq}(h:aJd w R z):∃R',(aL z.1 z.2).p w (λ_=>False) R'/\∀k,R' k->R k:=by
 obtain⟨h1,h2,h3⟩:=h
 refine⟨λk=>(Value.slice z.2.pb z.1.aA.length z.2.cb).ownBlock=some k\/(Value.slice z.2.pp z.1.aH.length z.2.cp).ownBlock=some k,?_,h3⟩
 refine⟨λ_ _=>False,λi k=>match i with|0=>(Value.slice z.2.pb z.1.aA.length z.2.cb).ownBlock=some k|_=>(Value.slice z.2.pp z.1.aH.length z.2.cp).ownBlock=some k,?_,λi j k _ _ _ h=>h.elim,λk=>⟨λh=>h.elim,λ⟨_,_,h⟩=>h⟩,λk=>?_⟩
 ·intro i a ha
  match i,ha with
  |0,ha=>injection ha with ha;subst ha;exact⟨h1,λ_ h=>h,λ_=>Iff.rfl⟩
  |1,ha=>injection ha with ha;subst ha;exact⟨h2,λ_ h=>h,λ_=>Iff.rfl⟩
  |n+2,ha=>simp at ha
 ·constructor
  ·rintro(h|h)
   ·exact⟨0,by simp,h⟩
   ·exact⟨1,by simp,h⟩
  ·rintro⟨i,hi,h⟩
   match i,hi,h with
   |0,_,h=>exact .inl h
   |1,_,h=>exact .inr h
end Go.Q9
namespace Go.E
open Go.Q9 Go.RowKit
variable{B w:World}{L:List As}
theorem SH.IG{zs:List (Ct.Node×Lq)}(h:SH B w L)(m:At L (bH zs)){z:Ct.Node×Lq}(hz:z∈zs):SH B w (aL z.1 z.2::L):=
 h.dup m λ_ _ hA=>Sv (hA.2.1 z hz)
theorem SH.VM{zs:List (Ct.Node×Lq)}{n:Ct.Node}{q:Lq}(h:SH B w (bE n q::cP n q::bH zs::L)):SH B w (bH (zs++[(n,q)])::L):=by
 have h':SH B w (Go.E.se [bE n q,cP n q,bH zs]::L):=SH.is (l:=[bE n q,cP n q,bH zs]) h
 refine h'.wk λO R hA=>?_
 obtain⟨Os,Rs,h1,h2,h3,h4⟩:=hA
 have b:=h1 0 _ rfl
 have p:=h1 1 _ rfl
 have f:=h1 2 _ rfl
 refine⟨λ_=>False,R,⟨λ_ h=>h,λz hz=>?_,λk hk=>?_⟩,λ_ h=>h.elim,λk hk=>.inr hk⟩
 ·rcases List.mem_append.1 hz with hz|hz
  ·obtain⟨g1,g2,g3⟩:=f.2.1 z hz
   exact⟨g1,g2,λk hk=>(h4 k).2 ⟨2,by simp,g3 k hk⟩⟩
  ·rw[Ur]at hz;subst hz
   exact⟨b.1,p.1,λk hk=>hk.elim (λhk=>(h4 k).2 ⟨0,by simp,(b.2.2 k).2 hk⟩) λhk=>(h4 k).2 ⟨1,by simp,(p.2.2 k).2 hk⟩⟩
 ·obtain⟨i,hi,hk⟩:=(h4 k).1 hk
  match i,hi,hk with
  |0,_,hk=>exact b.1.lt ((b.2.2 k).1 hk)
  |1,_,hk=>exact p.1.lt ((p.2.2 k).1 hk)
  |2,_,hk=>exact f.2.2 k hk
theorem SH.Wr{n:Ct.Node}{q:Lq}(h:SH B w L)(m:At L (aL n q)):SH B w (aL n q::L):=h.dup m λO R hA=>by
 obtain⟨Os,Rs,h1,h2,h3,h4⟩:=hA
 have b:=h1 0 _ rfl
 have p:=h1 1 _ rfl
 exact Sv (z:=(n,q)) ⟨b.1,p.1,λk hk=>hk.elim (λhk=>(h4 k).2 ⟨0,by simp,(b.2.2 k).2 hk⟩) λhk=>(h4 k).2 ⟨1,by simp,(p.2.2 k).2 hk⟩⟩
end Go.E
namespace Go.Q9
open Go.RowKit Go.E
def aZ(s:Ct.St):List Ct.Node:=Ct.iH::Ct.iH::s.aG
structure Mq where
 pn:Option Addr
 cn:Nat
 pc:Option Addr
 cc:Nat
 zs:List (Ct.Node×Lq)
def AA(b:Nat)(s:Ct.St)(q:Mq):List As:=
 [bl b [.slice q.pn q.zs.length q.cn,.slice q.pc s.cells.length q.cc,↑(s.gen:Int),↑(s.acc:Int)] 75,
  aV 53 14 (.slice q.pn q.zs.length q.cn) q.zs.length (q.zs.flatMap bY),aV 44 1 (.slice q.pc s.cells.length q.cc) s.cells.length (s.cells.map (Value.int .i64)),bH q.zs]
def dX(b:Nat)(s:Ct.St):As:=ex λq:Mq=>se (pu (q.zs.map Prod.fst=aZ s)::AA b s q)
structure Eq' where
 pg:Option Addr
 cg:Nat
 pm:Option Addr
 cm:Nat
 pc:Option Addr
 cc:Nat
 pi:Option Addr
 ci:Nat
def Bl(mb:Nat)(e:Ct.Ex)(q:Eq'):List Value:=
 .pointer (some ⟨mb,0,none⟩)::aJc e.call (.slice none 0 0) (.slice none 0 0)++
 ([.slice q.pg e.eV.length q.cg,.slice q.pm e.made.length q.cm,.slice q.pc e.cells.length q.cc,.slice q.pi e.dU.length q.ci,
  .int .i64 (e.a:Int),.int .i64 (e.m:Int),.int .i64 (e.c:Int),.int .i64 (e.g:Int),.int .i64 (e.free:Int),.bool e.aD]++(aD3 e.next++(.bool e.done::Bn e.result++[.bool false,.slice none 0 0,.slice none 0 0])))
def G7(b mb:Nat)(e:Ct.Ex)(q:Eq'):List As:=
 [bl b (Bl mb e q) 135,aV 44 1 (.slice q.pg e.eV.length q.cg) e.eV.length (e.eV.map (Value.int .i64)),aV 44 1 (.slice q.pm e.made.length q.cm) e.made.length (e.made.map (Value.int .i64)),
  aV 33 1 (.slice q.pc e.cells.length q.cc) e.cells.length (e.cells.map (Value.int .i64)),aV 3 1 (.slice q.pi e.dU.length q.ci) e.dU.length (e.dU.map (Value.int .i64))]
def exA(b mb:Nat)(e:Ct.Ex):As:=ex λq:Eq'=>se (G7 b mb e q)
end Go.Q9
end
section
namespace Go.Ct
theorem Cy:∀a b:List UInt8,Op.bytesLess a b=true↔Lib.compareBytes a b<0
 |[],[]=>by simp[Op.bytesLess,Lib.compareBytes]
 |[],_::_=>by simp[Op.bytesLess,Lib.compareBytes]
 |_::_,[]=>by simp[Op.bytesLess,Lib.compareBytes]
 |x::a,y::b=>by
  have ih:=Cy a b
  unfold Op.bytesLess Lib.compareBytes
  by_cases h1:x<y
  ·simp[h1]
  ·by_cases h2:y<x
   ·have:x≠y:=λe=>by subst e;exact h1 h2
    simp[h1,h2,this]
   ·have e:x=y:=UInt8.le_antisymm (UInt8.not_lt.1 h2) (UInt8.not_lt.1 h1)
    subst e
    simp[h1,ih]
theorem Fc:∀a b:List UInt8,Lib.compareBytes a b=0↔a=b
 |[],[]=>by simp[Lib.compareBytes]
 |[],_::_=>by simp[Lib.compareBytes]
 |_::_,[]=>by simp[Lib.compareBytes]
 |x::a,y::b=>by
  have ih:=Fc a b
  unfold Lib.compareBytes
  by_cases h1:x<y
  ·have:x≠y:=λe=>by subst e;exact UInt8.lt_irrefl x h1
   simp[h1,this]
  ·by_cases h2:y<x
   ·have:x≠y:=λe=>by subst e;exact UInt8.lt_irrefl x h2
    simp[h1,h2,this]
   ·have e:x=y:=UInt8.le_antisymm (UInt8.not_lt.1 h2) (UInt8.not_lt.1 h1)
    subst e
    simp[h1,ih]
theorem nC:∀a:List UInt8,Op.bytesLess a a=false
 |[]=>rfl
 |x::a=>by unfold Op.bytesLess;simp[nC a]
theorem rV:∀a b c:List UInt8,Op.bytesLess a b=true->Op.bytesLess b c=true->Op.bytesLess a c=true
 |[],[],c,h,_=>by simp[Op.bytesLess]at h
 |[],_::_,[],_,k=>by simp[Op.bytesLess]at k
 |[],_::_,_::_,_,_=>by simp[Op.bytesLess]
 |_::_,[],_,h,_=>by simp[Op.bytesLess]at h
 |_::_,_::_,[],_,k=>by simp[Op.bytesLess]at k
 |x::a,y::b,z::c,h,k=>by
  unfold Op.bytesLess at h k ⊢
  simp only[Bool.or_eq_true,pM,Gx,Ae]at h k ⊢
  rcases h with h|⟨rfl,h⟩
  ·rcases k with k|⟨rfl,k⟩
   ·exact .inl (UInt8.lt_trans h k)
   ·exact .inl h
  ·rcases k with k|⟨rfl,k⟩
   ·exact .inl k
   ·exact .inr ⟨rfl,rV a b c h k⟩
theorem toList_data(a:ByteArray):a.toList=a.data.toList:=ByteArray.toList_eq a
theorem Ay(a b:ByteArray):dW a b=true↔Lib.compareBytes a.data.toList b.data.toList<0:=by
 unfold dW;rw[Cy,toList_data,toList_data]
theorem XN(a b:ByteArray):bO a b=true↔Lib.compareBytes a.data.toList b.data.toList=0:=by
 unfold bO;rw[Fc,toList_data,toList_data,Ae]
theorem mO{a b c:ByteArray}(h:dW a b=true)(k:dW b c=true):dW a c=true:=rV _ _ _ h k
theorem oZ(a:ByteArray):dW a a=false:=nC _
theorem Gb{a:bA}{l:List bA}(h:aU (a::l)=true):aU l=true:=by
 cases l with
 |nil=>rfl
 |cons b l=>rw[aU,pM]at h;exact h.2
theorem Nl:∀{a:bA} {l:List bA},aU (a::l)=true->∀q∈l,dW a.key q.key=true
 |a,[],_,q,hq=>by cases hq
 |a,b::l,h,q,hq=>by
  have h1:dW a.key b.key=true:=by rw[aU,pM]at h;exact h.1
  rcases List.mem_cons.1 hq with rfl|hq
  ·exact h1
  ·exact mO h1 (Nl (Gb h) q hq)
theorem Ka:∀(l:List bA),aU l=true->∀m n,m<n->n<l.length->dW (kA l m).key (kA l n).key=true
 |[],_,m,n,_,hn=>by simp at hn
 |a::l,h,m,n,hm,hn=>by
  obtain⟨n,rfl⟩:∃k,n=k+1:=⟨n-1,by omega⟩
  have hn':n<l.length:=by simpa using hn
  have e2:kA (a::l) (n+1)=kA l n:=by simp[kA]
  rw[e2]
  cases m with
  |zero=>
   refine Nl h _ ?_
   unfold kA;rw[cK,fV hn'];exact uY hn'
  |succ m=>
   rw[show kA (a::l) (m+1)=kA l m by simp[kA]]
   exact Ka l (Gb h) m n (by omega) hn'
theorem vW:∀(l:List bA) (key:ByteArray),bB l key<=l.length
 |[],_=>aW _
 |q::l,key=>by
  unfold bB;split
  ·have:=vW l key;simp;omega
  ·simp
theorem Ax:∀(l:List bA) (key:ByteArray) (m:Nat),m<bB l key->dW (kA l m).key key=true
 |[],_,m,h=>by simp[bB]at h
 |q::l,key,m,h=>by
  unfold bB at h
  split at h
  ·rename_i hq
   cases m with
   |zero=>simpa[kA]using hq
   |succ m=>rw[show kA (q::l) (m+1)=kA l m by simp[kA]];exact Ax l key m (by omega)
  ·omega
theorem Ia:∀(l:List bA) (key:ByteArray),bB l key<l.length->dW (kA l (bB l key)).key key=false
 |[],_,h=>by simp at h
 |q::l,key,h=>by
  unfold bB at h ⊢
  split
  ·rename_i hq
   rw[if_pos hq]at h
   rw[show kA (q::l) (bB l key+1)=kA l (bB l key) by simp[kA]]
   exact Ia l key (by simpa using h)
  ·rename_i hq
   simpa[kA]using hq
theorem Xs(l:List bA)(key:ByteArray)(i:Nat)(hi:i<=l.length)(h1:∀m,m<i->dW (kA l m).key key=true)(h2:∀m,i<=m->m<l.length->dW (kA l m).key key=false):bB l key=i:=by
 rcases Nat.lt_trichotomy (bB l key) i with h|h|h
 ·have:=Ia l key (by omega)
  rw[h1 _ h]at this;cases this
 ·exact h
 ·have h3:=Ax l key i h
  rw[h2 i (aW _) (by have:=vW l key;omega)]at h3;cases h3
theorem EY{l:List bA}{key:ByteArray}(hv:aU l=true){m n:Nat}(hmn:m<=n)(hn:n<l.length)(h:dW (kA l n).key key=true):dW (kA l m).key key=true:=by
 rcases Nat.eq_or_lt_of_le hmn with rfl|hlt
 ·exact h
 ·exact mO (Ka l hv m n hlt hn) h
theorem NN{l:List bA}{key:ByteArray}(hv:aU l=true){m n:Nat}(hmn:m<=n)(hn:n<l.length)(h:dW (kA l m).key key=false):dW (kA l n).key key=false:=by
 cases hk:dW (kA l n).key key with
 |false=>rfl
 |true=>rw[EY hv hmn hn hk]at h;cases h
end Go.Ct
end
