/- Parts of a proof: C6, Azh. -/
import Derived.Test.YtlijgnlhkcbgpaaGreatDoorW20
set_option linter.unusedVariables false
set_option linter.unusedSimpArgs false
set_option maxRecDepth 100000
set_option maxHeartbeats 4000000
section
namespace Go.Ct
variable{α β γ:Type}
structure Place where
 node:Node:={}
 next:Int:=0
structure hB where
 started:Bool:=false
 stack:List Place:=[]
 wait:List bN:=[]
def hB.meet(w:hB)(m:Node):hB:=
 bif m.kind==3 then⟨w.started,⟨m,0⟩::w.stack,w.wait⟩else bif m.kind==5 then⟨w.started,w.stack,w.wait++[⟨m.key,m.value⟩]⟩else bif m.kind==6 then⟨w.started,w.stack,w.wait++m.aF⟩else w
def Place.pos(p:Place):Nat:=Bm.aO p.node.aD p.next
def Place.idx(p:Place):Int:=Bm.at_ p.node.aD (p.pos:Int)
def Place.out(p:Place):Bool:=decide (p.idx<0)||decide ((p.node.aA.length:Int)<=(p.pos:Int))
def Place.branch(p:Place):Int:=p.node.aA.getD p.pos 0
def Place.step(p:Place):Place:=⟨p.node,p.idx+1⟩
def Jo(p:bN):Result:={found:=true,key:=p.key,value:=p.value}
def Gl(t:bC)(st:Bool)(K:hB->I (Result×hB)):List Place->I (Result×hB)
 |[]=>.ret ({},⟨st,[],[]⟩)
 |p::l=>bif p.out then Gl t st K l else .node p.branch λs=>
  bif s.kind==4 then .ret (Jo ⟨s.key,s.value⟩,⟨st,p.step::l,[]⟩)else mM t p.branch λm=>.node m λq=>K (hB.meet ⟨st,p.step::l,[]⟩ q)
def Lk(t:bC)(K:hB->I (Result×hB))(w:hB):I (Result×hB):=match w.wait with
 |p::ps=>.ret (Jo p,⟨w.started,w.stack,ps⟩)
 |[]=>Gl t w.started K w.stack
def jG(t:bC):Nat->hB->I (Result×hB)
 |0,w=>Lk t (λw=>.ret ({},w)) w
 |n+1,w=>Lk t (jG t n) w
def xI(t:bC)(n:Nat)(w:hB)(i:Int):I (Result×hB):=mM t i λm=>.node m λq=>jG t n (w.meet q)
def Ax(t:bC)(n:Nat)(w:hB):I (Result×hB):=
 bif !t.readOnly then .ret ({err:=7},w)else bif w.started then jG t n w else .load t.root λr=>xI t n ⟨true,w.stack,w.wait⟩ r
def wU(t:bC)(n:Nat):Nat->Int->hB->I Result
 |0,_,_=>.ret {}
 |c+1,k,w=>(Ax t n w).bind λz=>bif !z.1.found then .ret {count:=k}else wU t n c (wr (k+1)) z.2
theorem Ww{c:Bool}{a b:I α}{f:α->I β}:(bif c then a else b).bind f=bif c then a.bind f else b.bind f:=by cases c<;>rfl
theorem J7(t:bC)(v s:Int)(k:Int->I α)(f:α->I β):(iD t v s k).bind f=iD t v s λm=>(k m).bind f:=by
 unfold iD;simp only[I.bind,Ww]
theorem RC(t:bC)(k:Int->I α)(f:α->I β):(Zi t k).bind f=Zi t λm=>(k m).bind f:=by
 unfold Zi;simp only[I.bind,Ww,J7]
theorem AJ(t:bC)(i:Int)(k:Int->I α)(f:α->I β):(mM t i k).bind f=mM t i λm=>(k m).bind f:=by
 unfold mM qB kY mK Dq;simp only[I.bind,Ww,RC]
theorem TY(t:bC)(i:Int)(k:Int->I α)(s:St):(mM t i k).head s=(s,.load (s.node i).main (qB t i · k)):=rfl
end Go.Ct
namespace Go.Ct
variable{α β γ:Type}
theorem Zv{r:Int}{k:Node->I α}{j:Nat}(h:∀n,RZ j (k n)):RZ j (.node r k):=h
theorem Pn{a:α}{j:Nat}:RZ j (.ret a):=trivial
theorem W2{c:Int}{k:Int->I α}{j:Nat}(h:∀v,RZ 20 (k v)):RZ j (.load c k):=h
theorem KB{t:bC}{st:Bool}{K:hB->I (Result×hB)}(hK:∀w,RZ 18 (K w)):∀l,RZ 18 (Gl t st K l)
 |[]=>Pn
 |p::l=>RZ.bif (KB hK l) (Zv λs=>RZ.bif Pn (Wc λm=>Zv λq=>hK _))
theorem ME{t:bC}{K:hB->I (Result×hB)}(hK:∀w,RZ 18 (K w))(w:hB):RZ 18 (Lk t K w):=by
 unfold Lk
 split
 ·trivial
 ·exact KB hK _
theorem Ka{t:bC}:∀(n:Nat) (w:hB),RZ 18 (jG t n w)
 |0,w=>ME (λ_=>Pn) w
 |n+1,w=>ME (Ka n) w
theorem O7{t:bC}{n:Nat}{w:hB}{i:Int}{j:Nat}:RZ j (xI t n w i):=Wc λm=>Zv λq=>Ka n _
theorem MM{t:bC}{n:Nat}{w:hB}:RZ 18 (Ax t n w):=RZ.bif Pn (RZ.bif (Ka n w) (W2 λ_=>O7))
structure xO(n:Nat)(it:hB):Prop where
 fit:∀p∈it.stack,p.node.Fit 100000000001
 deep:it.stack.length+n<=1000000000
 wait:it.wait.length<=200000000003
theorem xO.less{m n:Nat}{it:hB}(h:xO n it)(hm:m<=n):xO m it:=⟨h.fit,by have:=h.deep;omega,h.wait⟩
theorem xO.meet{n:Nat}{sd:Bool}{l:List Place}{q:Node}(h:xO (n+1) ⟨sd,l,[]⟩)(hq:q.Fit 100000000001):xO n (hB.meet ⟨sd,l,[]⟩ q):=by
 have hp:=hq.1.2.1
 have hd:=h.deep
 unfold hB.meet
 cases h3:(q.kind==3)with
 |true=>
  refine⟨λp hp=>?_,?_,by simp⟩
  ·rcases List.mem_cons.1 hp with rfl|hp
   ·exact hq
   ·exact h.fit p hp
  ·show (_::l).length+n<=_;rw[Qb];dsimp only at hd;omega
 |false=>
  cases h5:(q.kind==5)with
  |true=>exact⟨h.fit,by show l.length+n<=_;dsimp only at hd;omega,by simp⟩
  |false=>
   cases h6:(q.kind==6)with
   |true=>exact⟨h.fit,by show l.length+n<=_;dsimp only at hd;omega,by show ([]++q.aF).length<=_;rw[Xb];omega⟩
   |false=>exact⟨h.fit,by show l.length+n<=_;dsimp only at hd;omega,by simp⟩
theorem R9(t:bC)(N:Nat)(w:hB)(x:Int)(s:St):(xI t N w x).head s=((mM t x λm=>(.ret {ref:=m}:I Result)).bind λr=>.node r.ref λq=>jG t N (w.meet q)).head s:=by
 rw[AJ];rfl
structure qV(n:Nat)(it:hB):Prop where
 ok:xO n it
 new:it.started=false->it.wait=[]
theorem qV.less{m n:Nat}{it:hB}(h:qV n it)(hm:m<=n):qV m it:=⟨h.ok.less hm,h.new⟩
def QI(n:Nat)(z:Result×hB):Prop:=qV n z.2
theorem Y8:∀m n z,m<=n->QI n z->QI m z:=λ_ _ _ hm h=>h.less hm
theorem Wt{t:bC}{K:hB->I (Result×hB)}{n:Nat}(hK:∀m,m<n->∀w,w.started=true->xO m w->dJ QI m (K w)):∀l,xO n ⟨true,l,[]⟩->dJ QI n (Gl t true K l)
 |[],h=>tL ⟨⟨λp hp=>(by cases hp),by have:=h.deep;show 0+n<=_;omega,Xe _⟩,λh=>by cases h⟩
 |p::l,h=>nA (λ_=>Wt hK l ⟨λq hq=>h.fit q (Dj _ hq),by have:=h.deep;simp only[Qb]at this;show l.length+n<=_;omega,h.wait⟩) λ_=>
  have hp:xO n ⟨true,p.step::l,[]⟩:=⟨λq hq=>by
   rcases List.mem_cons.1 hq with rfl|hq
   ·exact h.fit p (List.mem_cons_self ..)
   ·exact h.fit q (Dj _ hq),h.deep,h.wait⟩
  iN λs _=>nA (λ_=>tL ⟨hp,λh=>by cases h⟩) λ_=>Yc λm hm v=>iN λq hq=>hK m hm _ (by unfold hB.meet;cases (q.kind==3)<;>cases (q.kind==5)<;>cases (q.kind==6)<;>rfl) ((hp.less hm).meet hq)
theorem Xf{t:bC}{K:hB->I (Result×hB)}{n:Nat}(hK:∀m,m<n->∀w,w.started=true->xO m w->dJ QI m (K w)):∀(w:hB),w.started=true->xO n w->dJ QI n (Lk t K w)
 |⟨st,l,[]⟩,hs,h=>by
  obtain rfl:st=true:=hs
  exact Wt hK l h
 |⟨st,l,p::ps⟩,hs,h=>tL ⟨⟨h.fit,h.deep,by have:=h.wait;simp only[Qb]at this;show ps.length<=_;omega⟩,λh'=>by rw[show st=true from hs]at h';cases h'⟩
theorem Eb{t:bC}:∀(N n:Nat) (w:hB),w.started=true->xO n w->dJ QI n (jG t N w)
 |0,n,w,hs,h=>Xf (λm _ w hs h=>tL ⟨h,λh'=>by dsimp only at h';rw[hs]at h';cases h'⟩) w hs h
 |N+1,n,w,hs,h=>Xf (λm _ w hs h=>Eb N m w hs h) w hs h
theorem RY{t:bC}{N n:Nat}{w:hB}(h:qV n w):dJ QI n (Ax t N w):=
 nA (λ_=>tL h) λ_=>nA (λhs=>Eb N n w hs h.ok) λhs=>nK λm hm r=>Yc λj hj v=>iN λq hq=>by
  have hw:=h.new hs
  obtain⟨st,l,wt⟩:=w
  obtain rfl:wt=[]:=hw
  refine Eb N j _ (by unfold hB.meet;cases (q.kind==3)<;>cases (q.kind==5)<;>cases (q.kind==6)<;>rfl) (xO.meet ⟨h.ok.fit,?_,h.ok.wait⟩ hq)
  have:=h.ok.deep
  dsimp only at this ⊢
  omega
end Go.Ct
end
section
namespace Go.Q9
open Go.Proofs.Tryz
open Go.E
theorem aAz:KY prog 199=some ([.int .i64 0,.int .i64 0,.int .i64 0,.int .u64 0,.slice none 0 0,.int .u64 0,.string .empty,.int .u64 0,.slice none 0 0,.int .i64 0,.int .i64 0,.int .i64 0,.int .i64 0,.int .i64 0,.int .i64 0],[(0,14),(14,1)]):=by kernel_rfl
theorem aCp:KY prog 72=some ([.int .i64 0,↑false,↑false,.slice none 0 0,.slice none 0 0],[(0,2),(2,1),(3,1),(4,1)]):=by kernel_rfl
theorem qD:fo prog 199 0=some 0:=by kernel_rfl
theorem Oq:fo prog 199 1=some 14:=by kernel_rfl
theorem aA5:fo prog 48 5=some 5:=by kernel_rfl
theorem Vb:fo prog 72 0=some 0:=by kernel_rfl
theorem HO:fo prog 72 1=some 2:=by kernel_rfl
theorem pK:fo prog 72 2=some 3:=by kernel_rfl
theorem vL:fo prog 72 3=some 4:=by kernel_rfl
theorem U0:fv prog 112 8=some (8,1,false):=by kernel_rfl
theorem sM:tA prog 37=true:=by kernel_rfl
theorem Ac:tA prog 70=true:=by kernel_rfl
theorem Gc:prog.underlying 70=some (.slice 199):=by kernel_rfl
theorem T1:mR prog 199=some (.agg [.int .i64 0,.int .i64 0,.int .i64 0,.int .u64 0,.slice none 0 0,.int .u64 0,.string .empty,.int .u64 0,.slice none 0 0,.int .i64 0,.int .i64 0,.int .i64 0,.int .i64 0,.int .i64 0,.int .i64 0].toArray,15,160):=by kernel_rfl
theorem JJ:(prog.info? 199).map (·.size)=some 15:=by kernel_rfl
theorem aAg:(prog.info? 70).map (·.size)=some 1:=by kernel_rfl
end Go.Q9
end
