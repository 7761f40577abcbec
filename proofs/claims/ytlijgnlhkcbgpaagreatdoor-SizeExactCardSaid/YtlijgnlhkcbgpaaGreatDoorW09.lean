/- Parts of a proof: C3, Tz, Ft, E14, E15. -/
import Derived.Test.YtlijgnlhkcbgpaaGreatDoorW08
import Derived.Deep.Upon
set_option linter.unusedVariables false
set_option linter.unusedSimpArgs false
set_option maxRecDepth 100000
set_option maxHeartbeats 4000000
section
namespace Go.Ct
structure Rm(j:Nat)(s:St):Prop where
 fit:eK s
 room:s.size+10*j<=cN
theorem Rm.less{j k:Nat}{s:St}(h:Rm j s)(hk:k<=j):Rm k s:=⟨h.fit,by have:=h.room;omega⟩
theorem Rm.zP{j:Nat}{s:St}(h:Rm j s):s.size<=100000000000:=by have:=h.room;unfold cN at this;omega
theorem Rm.node{j:Nat}{s:St}(h:Rm j s)(r:Int):(s.node r).Fit s.aG.length:=h.fit.node r
theorem Rm.alloc{j:Nat}{s:St}(h:Rm (j+1) s){n:Node}(hn:n.Fit (s.aG.length+1))(i:Int):Rm j (s.alloc n i).1:=⟨h.fit.alloc hn i,by have:=(St.lP s n i).1;have:=h.room;omega⟩
theorem Rm.cell{j:Nat}{s:St}(h:Rm (j+1) s)(i:Int):Rm j (s.aV i).1:=⟨h.fit,by have:=h.room;unfold St.size at this;unfold St.aV St.size;simp;omega⟩
theorem Rm.gen{j:Nat}{s:St}(h:Rm (j+1) s):Rm j s.bS.1:=⟨h.fit,by have:=h.room;unfold St.size at this;unfold St.bS St.size;simp;omega⟩
end Go.Ct
namespace Go.Q9
open Go.Proofs.Tryz
open Go.RowKit Go.E
variable{B w:World}{L:List As}
def VA(b:Nat)(s:Ct.St)(q:Mq):List As:=
 [bl b [.slice q.pn q.zs.length q.cn,.slice q.pc s.cells.length q.cc,↑(s.gen:Int),↑(s.acc:Int)] 110,
  aU 112 14 (.slice q.pn q.zs.length q.cn) q.zs.length (q.zs.flatMap cB),aU 45 1 (.slice q.pc s.cells.length q.cc) s.cells.length (s.cells.map (Value.int .i64)),bE q.zs]
def wW(b:Nat)(s:Ct.St):As:=ex λq:Mq=>se (pu (q.zs.map Prod.fst=s.aG)::VA b s q)
def MI(t:TypeId)(x:Value)(name:String)(f:FuncId)(r:Value)(w:World):Prop:=(method 346 t x name).run prog w=.ok (f,r) w
theorem Sa{t:TypeId}{x r:Value}{name:String}{f:FuncId}(en:lA prog f)(h:MI t x name f r w):Inv prog (.iface t x) name w f r:=λargs=>by
 unfold MI at h
 simp only[callMethod,Sem.run_bind,run_program,Result.andThen_ok]
 rw[show prog.types.size+Made.depth=346 from by kernel_rfl,h]
 exact en _ _
def QQ(ab:Nat):Value:=.pointer (some ⟨ab,0,none⟩)
structure PK(t:TypeId)(x:Value)(ab:Nat)(w:World):Prop where
 node:MI t x "Node" 59 (QQ ab) w
 alloc:MI t x "Alloc" 216 (QQ ab) w
 cell:MI t x "NewCell" 220 (QQ ab) w
 gen:MI t x "NewGen" 219 (QQ ab) w
 load:MI t x "Load" 218 (QQ ab) w
 eA:MI t x "CAS" 217 (QQ ab) w
structure V3(d:Nat)(t:TypeId)(x:Value)(ab:Nat)(w:World):Prop where
 node:∀f,d≤f→(method f t x "Node").run prog w=.ok (59,QQ ab) w
 alloc:∀f,d≤f→(method f t x "Alloc").run prog w=.ok (216,QQ ab) w
 cell:∀f,d≤f→(method f t x "NewCell").run prog w=.ok (220,QQ ab) w
 gen:∀f,d≤f→(method f t x "NewGen").run prog w=.ok (219,QQ ab) w
structure dN where
 t:TypeId
 x:Value
 ab:Nat
 X:List As
 d:Nat
 hd:d<=346
 A9:∀{w:World} {O R:Nat->Prop},(se X).p w O R->V3 d t x ab w
class Full(S:dN):Prop where
 na:∀w:World,(nilAhead 346 S.t S.x "Alloc").run prog w=.ok (some false) w
def dN.v(S:dN):Value:=.iface S.t S.x
def dN.a(S:dN)(s:Ct.St):As:=se [wW S.ab s,se S.X]
theorem dN.EC(S:dN){s:Ct.St}(h:SH B w L)(m:At L (S.a s)):V3 S.d S.t S.x S.ab w:=by
 obtain⟨O,R,Os,Rs,h1,_⟩:=h.at_ m
 exact S.A9 (h1 1 _ rfl)
theorem dN.sN(S:dN){s:Ct.St}(h:SH B w L)(m:At L (S.a s)):Inv prog S.v "Node" w 59 ↑S.ab:=Sa eF ((S.EC h m).node _ S.hd)
theorem dN.sA(S:dN){s:Ct.St}(h:SH B w L)(m:At L (S.a s)):Inv prog S.v "Alloc" w 216 ↑S.ab:=Sa eF ((S.EC h m).alloc _ S.hd)
theorem dN.sC(S:dN){s:Ct.St}(h:SH B w L)(m:At L (S.a s)):Inv prog S.v "NewCell" w 220 ↑S.ab:=Sa eF ((S.EC h m).cell _ S.hd)
end Go.Q9
namespace Go.E
open Go.Q9
variable{B w:World}{L:List As}
theorem SH.ao{b:Nat}{s:Ct.St}(h:SH B w (wW b s::L)):∃q:Mq,q.zs.map Prod.fst=s.aG/\SH B w (VA b s q++L):=by
 obtain⟨q,h⟩:=SH.ex (f:=λq:Mq=>Go.E.se (Go.E.pu (q.zs.map Prod.fst=s.aG)::VA b s q)) h
 exact⟨q,(SH.se h).pu⟩
theorem SH.ai{b:Nat}{s:Ct.St}(q:Mq)(hq:q.zs.map Prod.fst=s.aG)(h:SH B w (VA b s q++L)):SH B w (wW b s::L):=
 SH.dU (f:=λq:Mq=>Go.E.se (Go.E.pu (q.zs.map Prod.fst=s.aG)::VA b s q)) q (SH.is (l:=_::_) (SH.ip hq h))
theorem SH.so{S:dN}{s:Ct.St}(h:SH B w (S.a s::L)):SH B w (wW S.ab s::Go.E.se S.X::L):=SH.se (l:=[_,_]) h
theorem SH.si{S:dN}{s:Ct.St}(h:SH B w (wW S.ab s::Go.E.se S.X::L)):SH B w (S.a s::L):=SH.is (l:=[_,_]) h
end Go.E
namespace Go.Q9
open Go.Proofs.Tryz
open Go.E
variable{β:Type}
def nE(S:dN)(F:β->Cc->As)(n:Nat):Ct.I β->Cc->As:=dH prog S.a (Ct.Rm 100) F n
def gP{α:Type}(S:dN)(F:β->Cc->As)(n j:Nat)(args:α->List Value)(k:α->Ct.I β)(v:Fv):As:=fO prog S.a (Ct.Rm j) (nE S F n) args k v
def CP(S:dN)(F:β->Cc->As)(n:Nat)(B:World)(t:Ct.I β)(s:Ct.St)(L:List As):Ending->World->Prop:=ZN (nE S F n) S.a B t s L
end Go.Q9
end
section
namespace Go.Q9
open Go.Proofs.Tryz
open Go.RowKit Go.E
variable{B w:World}{L:List As}
theorem aC5{w w':World}(h:pX w)(hk:w'.heap[0]?=w.heap[0]?):pX w':=λj hj=>(World.cell?_of_block (a:=⟨0,j,none⟩) hk).trans (h j hj)
theorem U1{w:World}(h:pX w):0<w.heap.size:=by
 have:=h 0 (by decide)
 rcases PQ 0 w.heap.size with h1|h1
 ·exact h1
 ·exfalso
  unfold World.cell? at this
  simp[zT h1]at this
def Ba:As where
 p w O R:=pX w/\(∀k,¬O k)/\∀k,R k↔k=0
 loc h _ hk:=⟨aC5 h.1 (hk _ (.inr ((h.2.2 _).2 rfl))),h.2⟩
 Ua h hk:=by
  rcases hk with hk|hk
  ·exact absurd hk (h.2.1 _)
  ·rw[(h.2.2 _).1 hk];exact U1 h.1
 Wu h hk:=absurd hk (h.2.1 _)
class Um(S:dN):Prop where
 tab:∀{w:World} {O R:Nat->Prop},(se S.X).p w O R->pX w
theorem V6(S:dN)[hT:Um S]{s:Ct.St}(h:SH B w L)(m:At L (S.a s)):pX w:=by
 obtain⟨O,R,Os,Rs,h1,_⟩:=h.at_ m
 exact hT.tab (h1 1 _ rfl)
end Go.Q9
end
section
namespace Go.Q9
open Go.Proofs.Tryz
open Go.RowKit Go.E
theorem X7{B w W0:World}{L:List As}(h:SH B w L)(m':At L (ZT W0))(hT:pX W0):SH B w (Ba::L):=h.dup m' λO R hA=>
 ⟨λk=>k=0,⟨aC5 hT (hA.1.block _ (U1 hT)),λ_ h=>h,λ_=>Iff.rfl⟩,λk hk=>(hA.2.2 k).2 (hk▸U1 hT)⟩
end Go.Q9
end
section
namespace Go.E
open Go.RowKit
variable{B w:World}{L:List As}{P:Program}{n:Nat}{K:iG}{e:Tm}{ops:Array Oper}{l:List Oper}
variable{L':List As}{d:Option Tmp}{ty:TypeId}{ps:String}{af:Array Edge}{g:Option (Nat×Bool)}
theorem Kk{α:Type}{enc:α->List Value}{sz:Nat}(he:∀x,(enc x).length=sz):∀(xs:List α) (k:Nat),(xs.flatMap enc).take (k*sz)=(xs.take k).flatMap enc
 |[],k=>by simp
 |x::xs,0=>by simp
 |x::xs,k+1=>by
  rw[dI,List.take_succ_cons,dI,<- Kk he xs k,List.take_append,he x,Nat.succ_mul,uZ (by rw[he x];omega),Nat.add_sub_cancel]
theorem N4{t el:TypeId}{x y:Operand}{b c m i o sz:Nat}{q:IntKind}{a:Int}{xs:List Value}(h:SH B w L)(hT:(P.info? t).map (·.size)=some 1)(hx:ev n e x=some (.pointer (some ⟨b,0+i*sz+o,none⟩)))(hy:ev n e y=some (.int q a))(hj:i*sz+o<m*sz)
  (up:sJ L L' (aU el sz (.slice (some ⟨b,0,none⟩) m c) m xs) (aU el sz (.slice (some ⟨b,0,none⟩) m c) m (xs.set (i*sz+o) (.int q a)))):F P n e ⟨d,.store t x y,ty,ps,af,g⟩ w λ_ w'=>SH B w' L':=by
 rw[xE]at hx
 generalize i*sz+o=j at hx hj up
 obtain⟨mm,m0,m1,_⟩:=up.ix
 have hown:w.ownsRow 0 el sz (.slice (some ⟨b,0,none⟩) m c) m xs:=by obtain⟨_,O,R,hp,_⟩:=h;exact(hp mm _ m1).1
 obtain⟨o1,o2⟩:=hown.stored j (.int q a)
 refine⟨undef,w.setCell ⟨b,j,none⟩ (.int q a),.inr ⟨λf hf=>?_,rfl⟩,Hq h up o2 o1 λk hk=>.inl hk⟩
 have hc:=World.ownsRow.cellAt hown j hj
 have hfz:=World.ownsRow.frozenAt hown j
 rw[fM (by rw[hown.1];exact hj)]at hc
 cases hq:P.info? t with
 |none=>rw[hq]at hT;cases hT
 |some i=>
  rw[hq]at hT
  have h4:i.size=1:=by simpa using hT
  have h5:(⟨b,j,none⟩:Addr).add 0=⟨b,j,none⟩:=rfl
  simp[execOp,hf.eval hx,hf.eval hy,Instr.storeAt,Instr.sureAddr,storeVar,sizeOf,typeInfo,hq,h4,Value.cells,storeCells,store,Sem.run,h5,hc,hfz]
end Go.E
end
section
namespace Go.E
open Go.RowKit
variable{B w:World}{L:List As}{P:Program}{n:Nat}{K:iG}{e:Tm}{ops:Array Oper}{l:List Oper}
variable{L':List As}{d:Option Tmp}{ty:TypeId}{ps:String}{af:Array Edge}{g:Option (Nat×Bool)}
theorem tas{t t':TypeId}{dt:TypeDesc}{x:Operand}{v:Value}(hx:ev n e x=some (.iface t v))(ht:P.underlying t=some dt)(hi:(match dt with|.interface _=>true|_=>false)=false):Y P n e ⟨d,.typeAssert x t' t true,ty,ps,af,g⟩ w (.tuple [v,.bool true].toArray) w:=λc hc=>by
 cases dt<;>first|(cases hi;done)|simp[execOp,hc.eval hx,Instr.typeAssert,run_underlying ht]
def D3(w:World)(e:TypeId)(sz:Nat)(v:Value)(n:Nat)(xs:List Value):Prop:=
 xs.length=n*sz/\((v=.slice none 0 0/\n=0)\/∃g off cap cur,v=.slice (some ⟨g,off,none⟩) n cap/\w.heap[g]?=some (.cells cur e (0,0))/\n<=cap/\cap<=maxLen/\off+cap*sz<=cur.size/\(cur.toList.drop off).take (n*sz)=xs)
def Vh(e:TypeId)(sz:Nat)(v:Value)(n:Nat)(xs:List Value):As where
 p w O R:=D3 w e sz v n xs/\(∀k,O k↔v.ownBlock=some k)/\∀k,¬R k
 loc {w w' O R} h _ hk:=by
  refine⟨⟨h.1.1,?_⟩,h.2⟩
  rcases h.1.2 with hn|⟨g,off,cap,cur,rfl,hg,rest⟩
  ·exact .inl hn
  ·exact .inr ⟨g,off,cap,cur,rfl,by rw[hk g (.inl ((h.2.1 g).2 rfl))];exact hg,rest⟩
 Ua {w O R k} h hk:=by
  rcases hk with hk|hk
  ·have hk:=(h.2.1 _).1 hk
   rcases h.1.2 with⟨rfl,_⟩|⟨g,off,cap,cur,rfl,hg,rest⟩
   ·cases hk
   ·injection hk with hk;subst hk;exact(Array.getElem?_eq_some_iff.1 hg).1
  ·exact absurd hk (h.2.2 _)
 Wu h _:=h.2.2 _
theorem aC6{e:TypeId}{sz m:Nat}{v:Value}{xs:List Value}(h:w.ownsRow 0 e sz v m xs):D3 w e sz v m xs:=by
 refine⟨h.1,?_⟩
 rcases h.2 with hn|⟨g,cap,cur,rfl,hb,hg,h1,h2,h3,h4⟩
 ·exact .inl hn
 ·exact .inr ⟨g,0,cap,cur,rfl,hg,h1,h2,by omega,by simpa using h4⟩
theorem SH.aCu{e:TypeId}{sz m:Nat}{v:Value}{xs:List Value}(h:SH B w (aU e sz v m xs::L)):SH B w (Vh e sz v m xs::L):=h.imp λO R hA=>⟨aC6 hA.1,hA.2⟩
theorem aBe{e:TypeId}{sz m b o c:Nat}{xs:List Value}(h:D3 w e sz (.slice (some ⟨b,o,none⟩) m c) m xs):Rd w b o sz m xs:=by
 refine⟨h.1,λj u hu=>?_⟩
 rcases h.2 with⟨h1,_⟩|⟨g,off,cap,cur,h1,hg,h2,h3,h4,h5⟩
 ·cases h1
 ·injection h1 with h1 _ _;injection h1 with h1;injection h1 with h6 h7;subst h6 h7
  have hj:j<m*sz:=by have:=(List.getElem?_eq_some_iff.1 hu).1;rw[h.1]at this;exact this
  subst h5
  rw[List.getElem?_take_of_lt hj,WI]at hu
  unfold World.cell?
  simp[hg,<- Array.getElem?_toList,hu]
theorem SH.wr{e:TypeId}{sz m b o c:Nat}{xs:List Value}(h:SH B w L)(m':At L (Vh e sz (.slice (some ⟨b,o,none⟩) m c) m xs)):Rd w b o sz m xs:=by
 obtain⟨_,_,h1⟩:=h.at_ m';exact aBe h1.1
theorem SH.aD0{e:TypeId}{sz m c:Nat}{p:Option Addr}{xs:List Value}(h:SH B w L)(m':At L (Vh e sz (.slice p m c) m xs)):m<=c:=by
 obtain⟨_,_,h1⟩:=h.at_ m'
 rcases h1.1.2 with⟨h1,h2⟩|⟨g,off,cap,cur,h1,hg,h2,h3,h4,h5⟩
 ·omega
 ·injection h1 with _ _ h1;omega
theorem SH.wfp{e:TypeId}{sz m c:Nat}{p:Option Addr}{xs:List Value}(h:SH B w L)(m':At L (Vh e sz (.slice p m c) m xs))(hm:0<m):∃b o,p=some ⟨b,o,none⟩:=by
 obtain⟨_,_,h1⟩:=h.at_ m'
 rcases h1.1.2 with⟨h1,h2⟩|⟨g,off,cap,cur,h1,_⟩
 ·omega
 ·injection h1 with h1;exact⟨g,off,h1⟩
theorem SH.wtl{e:TypeId}{sz m c k:Nat}{p:Option Addr}{xs:List Value}(h:SH B w (Vh e sz (.slice p m c) m xs::L))(hk:k<=m):SH B w (Vh e sz (.slice (Go.E.tl p c k sz) (m-k) (c-k)) (m-k) (xs.drop (k*sz))::L):=h.imp λO R hA=>by
 have hl:=hA.1.1
 rcases hA.1.2 with⟨h1,h2⟩|⟨g,off,cap,cur,h1,hg,h2,h3,h4,h5⟩
 ·injection h1 with h1 h6 h7;subst h1 h7
  obtain rfl:k=0:=by omega
  subst h2
  refine⟨⟨by simpa using hl,.inl ⟨by unfold Go.E.tl;simp,rfl⟩⟩,λj=>?_,hA.2.2⟩
  rw[hA.2.1 j];unfold Go.E.tl;simp
 ·injection h1 with h1 h6 h7;subst h1 h7
  have hms:(m-k)*sz=m*sz-k*sz:=Nat.sub_mul ..
  have hle:k*sz<=m*sz:=Bq _ hk
  have hmc:m*sz<=c*sz:=Bq _ h2
  by_cases hc:c=k
  ·have hm:m=k:=by omega
   refine⟨⟨by rw[yM,hl];omega,.inr ⟨g,off,c-k,cur,by unfold Go.E.tl;rw[if_pos hc],hg,by omega,by omega,by rw[hc,Nat.sub_self];omega,?_⟩⟩,λj=>?_,hA.2.2⟩
   ·rw[hm,Nat.sub_self,Nat.zero_mul,List.take_zero];exact(IS (by rw[yM,hl,hm];omega)).symm
   ·rw[hA.2.1 j];unfold Go.E.tl;rw[if_pos hc];simp[Value.ownBlock]
  ·have hcs:(c-k)*sz=c*sz-k*sz:=Nat.sub_mul ..
   refine⟨⟨by rw[yM,hl];omega,.inr ⟨g,off+k*sz,c-k,cur,by unfold Go.E.tl;rw[if_neg hc];simp[mP],hg,by omega,by omega,by omega,?_⟩⟩,λj=>?_,hA.2.2⟩
   ·subst h5
    rw[List.drop_take,QR,<- hms]
   ·rw[hA.2.1 j];unfold Go.E.tl;rw[if_neg hc];simp[mP,Value.ownBlock]
theorem Jh(w:World)(t tx ty e:TypeId)(i:TypeInfo)(ht:P.underlying t=some (.slice e))(hi:P.info? e=some i)(g off sLen sCap:Nat)(cur:Array Value)(hg:w.heap[g]?=some (.cells cur e (0,0)))(x:Value)(n:Nat)(news:List Value)(hs:Src P i.size tx x n news w)
  (hroom:sLen+n<=sCap) (hfit:off+sLen*i.size+news.length<=cur.size):
  (Builtin.append_ #[t,tx] ty #[.slice (some ⟨g,off,none⟩) sLen sCap,x]).run P w=.ok (.slice (some ⟨g,off,none⟩) (sLen+n) sCap) (w.setRow g (cur.toList.take (off+sLen*i.size)++news++cur.toList.drop (off+sLen*i.size+news.length)).toArray):=by
 have hst:=run_storeCells_at P g (off+sLen*i.size) e news 0 cur w hg (by simpa using hfit) hs.one
 simp only[KQ]at hst
 rcases hs.kind with⟨e',hk⟩|hk<;>simp[Builtin.append_,run_underlying ht,run_underlying hk,sizeOf,typeInfo,hi,hs.len,hroom,hs.cells,Addr.add_lit,hst]
theorem V7{el:TypeId}{sz m m':Nat}{v v':Value}{xs xs':List Value}{w':World}(h:SH B w L)(u:sJ L L' (Vh el sz v m xs) (Vh el sz v' m' xs'))(hg:w.grownBy w' v.ownBlock)(ho:D3 w' el sz v' m' xs')(hn:∀k,v'.ownBlock=some k->v.ownBlock=some k\/w.heap.size<=k):SH B w' L':=
 h.step u λO R hA=>⟨λk=>v'.ownBlock=some k,λ_=>False,⟨ho,λ_=>Iff.rfl,λ_ h=>h⟩,⟨⟨hg.os,hg.tape,hg.output⟩,hg.size,λk hk hn=>hg.block k hk λe=>hn ((hA.2.1 k).2 e.symm)⟩,λk hk=>(hn k hk).imp (λh=>(hA.2.1 k).2 h) id,λ_ h=>h.elim⟩
theorem aC0{t el:TypeId}{sz k b c:Nat}{news:List Value}(h:SH B w L)(m':At L (aU el sz (.slice (some ⟨b,0,none⟩) k c) k news))(ht:P.underlying t=some (.slice el))(h1:∀u∈news,Value.oneCell' u=true):Src P sz t (.slice (some ⟨b,0,none⟩) k c) k news w:=
 Src.ofSlice w ht _ k c news (h.ro m').1 (λj u hu=>by rw[mP];exact(h.ro m').2 j u hu) h1
theorem aCg{t el:TypeId}{sz k c:Nat}{p:Option Addr}{news:List Value}(h:SH B w L)(m':At L (bV sz (.slice p k c) k news))(ht:P.underlying t=some (.slice el))(h1:∀u∈news,Value.oneCell' u=true):Src P sz t (.slice p k c) k news w:=by
 obtain⟨_,_,hA⟩:=h.at_ m'
 rcases hA.1.2 with⟨h2,h3⟩|⟨b,o,cap,h2,hb,h3,h4,h5⟩
 ·injection h2 with e1 e2 e3
  subst e1 e2 e3
  have hn:news=[]:=IS (by have:=hA.1.1;omega)
  subst hn
  exact Src.ofNil w ht 0
 ·injection h2 with e1 e2 e3
  subst e1
  exact Src.ofSlice w ht _ k c news hA.1.1 (λj u hu=>by rw[mP];exact h5 j u hu) h1
theorem apw{t el:TypeId}{ats:Array TypeId}{x y:Operand}{z v yv:Value}{sz bt k:Nat}{news:List Value}{L':Value->List As}(h:SH B w L)(mo:At L (Vh el sz v 0 []))(hs:Src P sz t yv k news w)(ht:P.underlying t=some (.slice el))(h0:ats=#[t,t])(hz:mR P el=some (z,sz,bt))(hzs:z.cells.size=sz)(hsz:0<sz)
  (hx:ev n e x=some v) (hy:ev n e y=some yv) (up:∀v',sJ L (L' v') (Vh el sz v 0 []) (Vh el sz v' k news)) (h63:k<=maxLen) (hb:k*bt<=140737488355328):
  F P n e ⟨d,.call ⟨.builtin .append,#[x,y],ats⟩,ty,ps,af,g⟩ w λv w'=>∃p c,v=.slice p k c/\SH B w' (L' v):=by
 subst h0
 obtain⟨i,g1,g2,g3,g4⟩:=pQ hz
 obtain⟨_,_,hA⟩:=h.at_ mo
 have hl:=hs.newsLen
 have hk9:((0+k:Nat):Int)<=9223372036854775807:=by unfold maxLen at h63;omega
 have key:∃v' w',(Builtin.append_ #[t,t] ty #[v,yv]).run P w=.ok v' w'/\D3 w' el sz v' k news/\w.grownBy w' v.ownBlock/\(∀q,v'.ownBlock=some q->v.ownBlock=some q\/w.heap.size<=q)/\∃p c,v'=.slice p k c:=by
  subst g3
  have grow:∀(base:Option Addr) (cap:Nat) (hv:v=.slice base 0 cap) (hf:(Builtin.firstCells i.size 0 (.slice base 0 cap)).run P w.drew=.ok #[] w.drew),cap<0+k->∃v' w',(Builtin.append_ #[t,t] ty #[v,yv]).run P w=.ok v' w'/\D3 w' el i.size v' k news/\w.grownBy w' v.ownBlock/\(∀q,v'.ownBlock=some q->v.ownBlock=some q\/w.heap.size<=q)/\∃p c,v'=.slice p k c:=by
   intro base cap hv hf hlt
   have hr:=run_append_grow_src (P:=P) w t t ty el i z ht g1 g2 base 0 cap [] hf yv k news hs hlt hk9 (growslice_fits hlt (by rw[g4,xE];exact hb))
   rw[hv]
   refine⟨_,_,hr,⟨hl,.inr ⟨w.heap.size,0,_,_,by rw[xE],heap_alloc_new w.drew _,?_,grownCap_le_maxLen w (0+k) cap el (by omega),?_,?_⟩⟩,⟨rfl,rfl,rfl,by simp,λq hq _=>heap_alloc_old (h:=hq) ..⟩,λq hq=>?_,_,_,by rw[xE]⟩
   ·have:=grownCap_ge w (0+k) cap el;omega
   ·have h5:=grownCap_ge w (0+k) cap el
    have h6:(grownCap w (0+k) cap el)*i.size=k*i.size+(grownCap w (0+k) cap el-(0+k))*i.size:=by rw[<- Nat.add_mul];congr 1;omega
    simp only[Xb,Array.size_append,List.size_toArray,size_zeroCells,hzs,hl];omega
   ·simp only[Xb,Array.toList_append,List.drop_zero];rw[<- hl];exact List.take_left
   ·simp[Value.ownBlock]at hq;exact .inr (by omega)
  rcases hA.1.2 with⟨hv,_⟩|⟨gg,off,cap,cur,hv,hg,h2,h3,h4,h5⟩
  ·by_cases hk0:k=0
   ·subst hk0
    have hn:news=[]:=IS (by rw[hl];omega)
    subst hn
    rw[hv]
    refine⟨.slice none 0 0,w,run_append_nothing (P:=P) w t t ty el i ht g1 none 0 0 (bD _) yv hs,⟨by simp,.inl ⟨rfl,rfl⟩⟩,⟨rfl,rfl,rfl,bD _,λ_ _ _=>rfl⟩,λq hq=>.inl hq,none,0,rfl⟩
   ·exact grow none 0 hv (run_firstCells_none w.drew i.size 0 0 0) (by omega)
  ·by_cases hroom:0+k<=cap
   ·have hkc:k*i.size<=cap*i.size:=Bq _ (by omega)
    have hfit:off+0*i.size+news.length<=cur.size:=by rw[hl];omega
    have hr:=Jh (P:=P) w t t ty el i ht g1 gg off 0 cap cur hg yv k news hs hroom hfit
    rw[hv]
    rw[Nat.zero_mul,KQ]at hr hfit
    rw[xE]at hr
    refine⟨_,_,hr,⟨hl,.inr ⟨gg,off,cap,_,rfl,setRow_heap w gg cur _ el _ hg,by omega,h3,?_,?_⟩⟩,⟨rfl,rfl,rfl,by simp,λq _ hq=>setRow_other w gg q _ (λe=>hq (by simp[Value.ownBlock,e]))⟩,λq hq=>.inl hq,_,_,rfl⟩
    ·simp only[List.size_toArray,cO,Hg,yM,Array.length_toList];omega
    ·have h6:(cur.toList.take off).length=off:=by rw[Hg,Array.length_toList];omega
     simp only[eC]
     rw[List.drop_append_of_le_length (by omega),MA (by omega),Xb,<- hl];exact List.take_left
   ·exact grow _ cap hv (run_firstCells_some (P:=P) w.drew i.size 0 ⟨gg,off,none⟩ 0 cap [] (by simp) (by simp)) (by omega)
 obtain⟨v',w',r1,r2,r3,r4,p,c,r5⟩:=key
 exact⟨v',w',.inl λa ha=>by simp[execOp,resolve,invoke,builtin,ha.eval hx,ha.eval hy,r1],p,c,r5,V7 h (up v') r3 r2 r4⟩
end Go.E
end
