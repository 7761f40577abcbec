/- Parts of a proof: C3, Tz, Ft. -/
import Derived.Test.YtlpbjpanggcbbaaGreatDoorW08
set_option linter.unusedVariables false
set_option linter.unusedSimpArgs false
set_option maxRecDepth 100000
set_option maxHeartbeats 4000000
section
namespace Go.Ct
structure Rm(j:Nat)(s:St):Prop where
 fit:eK s
 room:s.size+10*j<=cN
theorem Rm.less{j k:Nat}{s:St}(h:Rm j s)(hk:k<=j):Rm k s:=⟨h.fit,by have:=h.room;omega⟩
theorem Rm.zP{j:Nat}{s:St}(h:Rm j s):s.size<=100000000000:=by have:=h.room;unfold cN at this;omega
theorem Rm.node{j:Nat}{s:St}(h:Rm j s)(r:Int):(s.node r).Fit s.aG.length:=h.fit.node r
theorem Rm.alloc{j:Nat}{s:St}(h:Rm (j+1) s){n:Node}(hn:n.Fit (s.aG.length+1))(i:Int):Rm j (s.alloc n i).1:=⟨h.fit.alloc hn i,by have:=(St.lP s n i).1;have:=h.room;omega⟩
theorem Rm.cell{j:Nat}{s:St}(h:Rm (j+1) s)(i:Int):Rm j (s.aV i).1:=⟨h.fit,by have:=h.room;unfold St.size at this;unfold St.aV St.size;simp;omega⟩
theorem Rm.gen{j:Nat}{s:St}(h:Rm (j+1) s):Rm j s.bS.1:=⟨h.fit,by have:=h.room;unfold St.size at this;unfold St.bS St.size;simp;omega⟩
end Go.Ct
namespace Go.Q9
open Go.Proofs.Tryz
open Go.RowKit Go.E
variable{B w:World}{L:List As}
def VA(b:Nat)(s:Ct.St)(q:Mq):List As:=
 [bl b [.slice q.pn q.zs.length q.cn,.slice q.pc s.cells.length q.cc,↑(s.gen:Int),↑(s.acc:Int)] 100,
  aU 118 14 (.slice q.pn q.zs.length q.cn) q.zs.length (q.zs.flatMap cB),aU 43 1 (.slice q.pc s.cells.length q.cc) s.cells.length (s.cells.map (Value.int .i64)),bE q.zs]
def wW(b:Nat)(s:Ct.St):As:=ex λq:Mq=>se (pu (q.zs.map Prod.fst=s.aG)::VA b s q)
def MI(t:TypeId)(x:Value)(name:String)(f:FuncId)(r:Value)(w:World):Prop:=(method 349 t x name).run prog w=.ok (f,r) w
theorem Sa{t:TypeId}{x r:Value}{name:String}{f:FuncId}(en:lA prog f)(h:MI t x name f r w):Inv prog (.iface t x) name w f r:=λargs=>by
 unfold MI at h
 simp only[callMethod,Sem.run_bind,run_program,Result.andThen_ok]
 rw[show prog.types.size+Made.depth=349 from by kernel_rfl,h]
 exact en _ _
def QQ(ab:Nat):Value:=.pointer (some ⟨ab,0,none⟩)
structure PC(t:TypeId)(x:Value)(ab:Nat)(w:World):Prop where
 node:MI t x "Node" 76 (QQ ab) w
 alloc:MI t x "Alloc" 219 (QQ ab) w
 cell:MI t x "NewCell" 223 (QQ ab) w
 gen:MI t x "NewGen" 222 (QQ ab) w
 load:MI t x "Load" 221 (QQ ab) w
 eA:MI t x "CAS" 220 (QQ ab) w
structure BS(d:Nat)(t:TypeId)(x:Value)(ab:Nat)(w:World):Prop where
 node:∀f,d≤f→(method f t x "Node").run prog w=.ok (76,QQ ab) w
 alloc:∀f,d≤f→(method f t x "Alloc").run prog w=.ok (219,QQ ab) w
 cell:∀f,d≤f→(method f t x "NewCell").run prog w=.ok (223,QQ ab) w
 gen:∀f,d≤f→(method f t x "NewGen").run prog w=.ok (222,QQ ab) w
structure dN where
 t:TypeId
 x:Value
 ab:Nat
 X:List As
 d:Nat
 hd:d<=349
 A9:∀{w:World} {O R:Nat->Prop},(se X).p w O R->BS d t x ab w
class Full(S:dN):Prop where
 na:∀w:World,(nilAhead 349 S.t S.x "Alloc").run prog w=.ok (some false) w
def dN.v(S:dN):Value:=.iface S.t S.x
def dN.a(S:dN)(s:Ct.St):As:=se [wW S.ab s,se S.X]
theorem dN.EC(S:dN){s:Ct.St}(h:SH B w L)(m:At L (S.a s)):BS S.d S.t S.x S.ab w:=by
 obtain⟨O,R,Os,Rs,h1,_⟩:=h.at_ m
 exact S.A9 (h1 1 _ rfl)
theorem dN.sN(S:dN){s:Ct.St}(h:SH B w L)(m:At L (S.a s)):Inv prog S.v "Node" w 76 ↑S.ab:=Sa eF ((S.EC h m).node _ S.hd)
theorem dN.sA(S:dN){s:Ct.St}(h:SH B w L)(m:At L (S.a s)):Inv prog S.v "Alloc" w 219 ↑S.ab:=Sa eF ((S.EC h m).alloc _ S.hd)
theorem dN.sC(S:dN){s:Ct.St}(h:SH B w L)(m:At L (S.a s)):Inv prog S.v "NewCell" w 223 ↑S.ab:=Sa eF ((S.EC h m).cell _ S.hd)
end Go.Q9
namespace Go.E
open Go.Q9
variable{B w:World}{L:List As}
theorem SH.ao{b:Nat}{s:Ct.St}(h:SH B w (wW b s::L)):∃q:Mq,q.zs.map Prod.fst=s.aG/\SH B w (VA b s q++L):=by
 obtain⟨q,h⟩:=SH.ex (f:=λq:Mq=>Go.E.se (Go.E.pu (q.zs.map Prod.fst=s.aG)::VA b s q)) h
 exact⟨q,(SH.se h).pu⟩
theorem SH.ai{b:Nat}{s:Ct.St}(q:Mq)(hq:q.zs.map Prod.fst=s.aG)(h:SH B w (VA b s q++L)):SH B w (wW b s::L):=
 SH.dU (f:=λq:Mq=>Go.E.se (Go.E.pu (q.zs.map Prod.fst=s.aG)::VA b s q)) q (SH.is (l:=_::_) (SH.ip hq h))
theorem SH.so{S:dN}{s:Ct.St}(h:SH B w (S.a s::L)):SH B w (wW S.ab s::Go.E.se S.X::L):=SH.se (l:=[_,_]) h
theorem SH.si{S:dN}{s:Ct.St}(h:SH B w (wW S.ab s::Go.E.se S.X::L)):SH B w (S.a s::L):=SH.is (l:=[_,_]) h
end Go.E
namespace Go.Q9
open Go.Proofs.Tryz
open Go.E
variable{β:Type}
def nE(S:dN)(F:β->Cc->As)(n:Nat):Ct.I β->Cc->As:=dH prog S.a (Ct.Rm 100) F n
def gP{α:Type}(S:dN)(F:β->Cc->As)(n j:Nat)(args:α->List Value)(k:α->Ct.I β)(v:Fv):As:=fO prog S.a (Ct.Rm j) (nE S F n) args k v
def CP(S:dN)(F:β->Cc->As)(n:Nat)(B:World)(t:Ct.I β)(s:Ct.St)(L:List As):Ending->World->Prop:=ZN (nE S F n) S.a B t s L
end Go.Q9
end
section
namespace Go.Q9
open Go.Proofs.Tryz
open Go.RowKit Go.E
variable{B w:World}{L:List As}
theorem SU{w w':World}(h:nA w)(hk:w'.heap[0]?=w.heap[0]?):nA w':=λj hj=>(World.cell?_of_block (a:=⟨0,j,none⟩) hk).trans (h j hj)
theorem CZ{w:World}(h:nA w):0<w.heap.size:=by
 have:=h 0 (by decide)
 rcases mI 0 w.heap.size with h1|h1
 ·exact h1
 ·exfalso
  unfold World.cell? at this
  simp[Ab h1]at this
def xP:As where
 p w O R:=nA w/\(∀k,¬O k)/\∀k,R k↔k=0
 loc h _ hk:=⟨SU h.1 (hk _ (.inr ((h.2.2 _).2 rfl))),h.2⟩
 Ua h hk:=by
  rcases hk with hk|hk
  ·exact absurd hk (h.2.1 _)
  ·rw[(h.2.2 _).1 hk];exact CZ h.1
 Wu h hk:=absurd hk (h.2.1 _)
class Pn(S:dN):Prop where
 WU:∀{w:World} {O R:Nat->Prop},(se S.X).p w O R->nA w
theorem GA(S:dN)[hT:Pn S]{s:Ct.St}(h:SH B w L)(m:At L (S.a s)):nA w:=by
 obtain⟨O,R,Os,Rs,h1,_⟩:=h.at_ m
 exact hT.WU (h1 1 _ rfl)
end Go.Q9
end
section
namespace Go.Q9
open Go.Proofs.Tryz
open Go.RowKit Go.E
theorem LQ{B w W0:World}{L:List As}(h:SH B w L)(m':At L (ZT W0))(hT:nA W0):SH B w (xP::L):=h.dup m' λO R hA=>
 ⟨λk=>k=0,⟨SU hT (hA.1.block _ (CZ hT)),λ_ h=>h,λ_=>Iff.rfl⟩,λk hk=>(hA.2.2 k).2 (hk▸CZ hT)⟩
end Go.Q9
end
