/- Parts of a proof: Rv, Ru. -/
import Derived.Test.YtnhdmcipglnkfaaGreatW17
set_option linter.unusedVariables false
set_option linter.unusedSimpArgs false
set_option maxRecDepth 100000
set_option maxHeartbeats 4000000
section
namespace Go.Ct
theorem Vt{a b:ByteArray}(h:bR a b=true):a=b:=by
 unfold bR at h
 rw[toList_data,toList_data,mQ]at h
 exact ByteArray.ext (Array.toList_inj.1 h)
theorem Hj:∀{a b:List bN},mJ a b=true->a=b
 |[],[],_=>rfl
 |[],_::_,h=>by cases h
 |_::_,[],h=>by cases h
 |x::a,y::b,h=>by
  rw[mJ,Qb]at h
  have h1:=h.1
  unfold AP at h1
  rw[Qb,mQ]at h1
  rw[Hj h.2]
  congr 1
  cases x;cases y
  simp only at h1
  rw[Vt h1.1,h1.2]
theorem KM{a b:Node}(h:fT a b=true):a=b:=by
 unfold fT at h
 simp only[Qb,mQ]at h
 obtain⟨⟨⟨⟨⟨⟨⟨h1,h2⟩,h3⟩,h4⟩,h5⟩,h6⟩,h7⟩,h8,h9,h10,h11,h12,h13,h14⟩:=h
 have h6:=Vt h6
 have h9:=Hj h9
 cases a;cases b
 simp only at *
 subst h1 h2 h3 h4 h5 h6 h7 h8 h9 h10 h11 h12 h13 h14
 rfl
theorem tG{n:Node}(h:n.valid=true):n=n.only:=by
 unfold Node.valid at h
 split at h
 ·cases h
 ·rename_i hc
  simp only[not_or,sX]at hc
  exact KM hc.2.2.1
theorem nF{n:Node}(h:n.valid=true):1<=n.kind/\n.kind<=8:=by
 unfold Node.valid at h
 split at h
 ·cases h
 ·rename_i hc;omega
def Node.stored(n:Node)(c:Int):Node:=
 if n.kind=2 then{n.bare with main:=c}else if n.bM=true then{n.bare with prev:=c}else if n.kind=8 then{n.bare with status:=c}else n.bare
theorem dX(n:Node)(c:Int):(n.stored c).kind=n.kind:=by
  unfold Node.stored;repeat' split
  all_goals rfl
theorem Ah{n:Node}(h:n.valid=true){c:Int}(hc:0<=c):(n.stored c).valid=true:=by
 have hk:=nF h
 rcases(show n.kind=1\/n.kind=2\/n.kind=3\/n.kind=4\/n.kind=5\/n.kind=6\/n.kind=7\/n.kind=8 by omega)with hk|hk|hk|hk|hk|hk|hk|hk
 ·rw[show n.stored c=n.bare by unfold Node.stored Node.bM;simp[hk]];exact zI h
 ·rw[show n.stored c={n.bare with main:=c} by unfold Node.stored;simp[hk]]
  unfold Node.valid at h ⊢
  simp only[Node.bare,Node.only,fT,hk]at h ⊢
  simp at h ⊢
  simp_all
 ·rw[show n.stored c={n.bare with prev:=c} by unfold Node.stored Node.bM;simp[hk]];exact yJ n c hc (.inl hk) h
 ·rw[show n.stored c=n.bare by unfold Node.stored Node.bM;simp[hk]];exact zI h
 ·rw[show n.stored c={n.bare with prev:=c} by unfold Node.stored Node.bM;simp[hk]]
  unfold Node.valid at h ⊢
  simp only[Node.bare,Node.only,fT,hk]at h ⊢
  simp at h ⊢
  simp_all
 ·rw[show n.stored c={n.bare with prev:=c} by unfold Node.stored Node.bM;simp[hk]];exact yJ n c hc (.inr hk) h
 ·rw[show n.stored c=n.bare by unfold Node.stored Node.bM;simp[hk]];exact zI h
 ·rw[show n.stored c={n.bare with status:=c} by unfold Node.stored Node.bM;simp[hk]]
  unfold Node.valid at h ⊢
  simp only[Node.bare,Node.only,fT,hk]at h ⊢
  simp at h ⊢
  simp_all
theorem BY{L:Nat}{n:Node}(h:n.Fit L){c:Int}(hc:0<=c):(n.stored c).Fit L:=by
 have:=Ie h c hc
 unfold Node.stored;simpa using this
theorem iQ(g:Ga)(n:Node)(i:Int)(b:fV):(g.alloc n i b).nodes=g.nodes++[n.stored (g.ty.length+1)]:=by
 unfold Ga.alloc Node.stored
 repeat' split
 all_goals rfl
theorem wE(g:Ga)(n:Node)(i:Int)(b:fV):(g.alloc n i b).xT=g.xT++[b]:=by
 unfold Ga.alloc
 repeat' split
 all_goals rfl
theorem mH(g:Ga)(n:Node)(i:Int)(b:fV):(g.alloc n i b).ty=g.ty++(n.iA b).toList/\(g.alloc n i b).KZ=g.KZ++(n.iA b).toList.map λ_=>i:=by
 unfold Ga.alloc Node.iA
 repeat' split
 all_goals simp[Ga.cell,Ga.put]
theorem mV(g:Ga)(n:Node)(i:Int)(b:fV):(g.alloc n i b).gen=g.gen/\(g.alloc n i b).dec=g.dec:=by
 unfold Ga.alloc
 repeat' split
 all_goals exact⟨rfl,rfl⟩
theorem Ga.rM{g:Ga}(h:GW g)(n:Node)(i:Int)(b:fV):Ge g (g.alloc n i b):=
 ⟨by rw[iQ];exact zG _ _,by rw[wE];exact zG _ _,by rw[(mH g n i b).1];exact zG _ _,by rw[(mH g n i b).2];exact zG _ _,by rw[(mV g n i b).1];exact JV _,λc h=>by rw[(mV g n i b).2];exact h,h.xT⟩
theorem Ga.wD{g:Ga}(h:GW g)(τ:eY)(i:Int):Ge g (g.cell τ i):=⟨Qa _,Qa _,zG _ _,zG _ _,JV _,λ_ h=>h,h.xT⟩
theorem Ga.yD{g:Ga}(h:GW g):Ge g g.bS:=⟨Qa _,Qa _,Qa _,Qa _,Nat.le_succ _,λ_ h=>h,h.xT⟩
theorem cJ.ge{g g':Ga}{n:Node}{b:fV}(h:cJ g n b)(k:Ge g g'):cJ g' n b:=
 ⟨h.valid,h.fit,h.lo,h.hi,λhk=>⟨Int.le_trans (h.i hk).1 (by have:=k.gen;omega),(h.i hk).2⟩,λhk=>⟨(h.c hk).1,(h.c hk).2.1,λj hj=>((h.c hk).2.2 j hj).imp (λh=>h.ge k) λh=>h.ge k⟩,h.t,h.l,λhk=>(h.f hk).ge k,λhk=>⟨(h.d hk).1.ge k,(h.d hk).2.1.ge k,(h.d hk).2.2.ge k⟩⟩
theorem pW(n:Node)(c:Int):(n.stored c).bM=n.bM:=by unfold Node.bM;rw[dX]
theorem Lh(n:Node)(c:Int)(b:fV):(n.stored c).iA b=n.iA b:=by
 unfold Node.iA;rw[pW,dX]
theorem BZ(n:Node)(c:Int):(n.stored c).cA=n.cA:=by
 unfold Node.cA;rw[pW,dX]
theorem Jj{n:Node}(hv:n.valid=true){c:Int}(hc:0<=c)(k:Int):aB (n.stored c) k=aB n k:=by
 have e:(n.stored c).aA=n.aA/\(n.stored c).aD=n.aD:=by
  unfold Node.stored;repeat' split
  all_goals exact⟨rfl,rfl⟩
 have hi:(n.stored c).lO=n.lO:=by unfold Node.lO;rw[dX,hv,Ah hv hc]
 unfold aB;rw[hi,e.1,e.2]
theorem cJ.stored{g:Ga}{n:Node}{b:fV}(h:cJ g n b){c:Int}(hc:0<=c):cJ g (n.stored c) b:=by
 have e:(n.stored c).gen=n.gen/\(n.stored c).dC=n.dC/\(n.stored c).aK=n.aK/\(n.stored c).new=n.new/\(n.stored c).hash=n.hash:=by
  unfold Node.stored;repeat' split
  all_goals exact⟨rfl,rfl,rfl,rfl,rfl⟩
 obtain⟨L,hL⟩:=h.fit
 refine⟨Ah h.valid hc,⟨L,BY hL hc⟩,?_,?_,?_,?_,?_,?_,?_,?_⟩
 ·rw[dX];exact h.lo
 ·rw[dX];exact h.hi
 ·rw[dX,e.1];exact h.i
 ·rw[dX];intro hk;refine⟨(h.c hk).1,(h.c hk).2.1,λk=>?_⟩;rw[Jj h.valid hc];exact(h.c hk).2.2 k
 ·rw[dX,e.2.2.2.2];exact h.t
 ·rw[dX,e.2.2.2.2];exact h.l
 ·rw[dX,e.2.1];exact h.f
 ·rw[dX,e.2.1,e.2.2.1,e.2.2.2.1];exact h.d
theorem Ee{n:Node}{c:Int}(h:n.cA=true):(n.stored c).cellOf=c:=by
 unfold Node.cA at h
 unfold Node.stored Node.cellOf
 repeat' split
 all_goals simp_all [Node.bare]
theorem DR{n:Node}{b:fV}{τ:eY}(h:n.iA b=some τ):n.cA=true:=by
 unfold Node.iA at h
 unfold Node.cA
 repeat' split at h
 all_goals first
  |(cases h;done)
  |simp_all
theorem Jr{n:Node}(b:fV)(h:n.cA=true):∃τ,n.iA b=some τ:=by
 unfold Node.cA at h
 unfold Node.iA
 repeat' split
 all_goals first
  |exact⟨_,rfl⟩
  |simp_all
theorem sR{g:Ga}{c:Int}{τ:eY}(h:g.oA c=some τ):1<=c/\c<=g.ty.length:=by
 unfold Ga.oA at h
 split at h
 ·cases h
 ·have:=(List.getElem?_eq_some_iff.1 h).1;omega
theorem JX{g:Ga}{n:Node}{i:Int}{b:fV}{τ:eY}(h:n.iA b=some τ):(g.alloc n i b).oA (g.ty.length+1)=some τ:=by
 unfold Ga.oA
 rw[if_neg (by omega),(mH g n i b).1,h]
 simp
theorem KJ{g:Ga}(h:GW g)(n:Node)(i:Int)(b:fV):(g.alloc n i b).zip=g.zip++[(n.stored (g.ty.length+1),b)]:=by
 unfold Ga.zip;rw[iQ,wE,List.zip_append h.xT.symm];rfl
theorem RV{g:Ga}(h:GW g){n:Node}(hn:n∈g.nodes):∃b,(n,b)∈g.zip:=by
 obtain⟨i,hi,rfl⟩:=List.getElem_of_mem hn
 have hl:=h.xT
 have hz:i<(g.nodes.zip g.xT).length:=by rw[List.length_zip];omega
 refine⟨g.xT[i]'(by omega),?_⟩
 have:=wU hz
 rw[List.getElem_zip]at this
 exact this
theorem Xy(g:Ga)(τ:eY)(i:Int):(g.cell τ i).oA (g.ty.length+1)=some τ:=by
 unfold Ga.oA Ga.cell
 rw[if_neg (by omega)]
 simp
theorem yE(g:Ga)(n:Node)(i:Int)(b:fV):(g.alloc n i b).node (g.nodes.length+3)=n.stored (g.ty.length+1):=by
 rw[pZ,iQ,cO,CG,if_neg (by omega),if_neg (by omega),dI]
 have:((g.nodes.length:Int)+3).toNat -3=g.nodes.length:=by omega
 rw[this,tW (JV _)]
 simp
theorem uU{g:Ga}(h:GW g)(n:Node)(i:Int)(b:fV):(g.alloc n i b).label (g.nodes.length+3)=b:=by
 unfold Ga.label
 have:((g.nodes.length:Int)+3).toNat -3=g.nodes.length:=by omega
 rw[this,wE,dI,tW (by rw[h.xT];exact JV _),h.xT]
 simp
theorem tN(g:Ga)(n:Node)(i:Int)(b:fV):((g.alloc n i b).node (g.nodes.length+3)).kind=n.kind:=by rw[yE,dX]
theorem oU{g:Ga}(hw:GW g){n:Node}{i:Int}{b:fV}(h:n.kind=2):jV (g.alloc n i b) (g.nodes.length+3) b:=⟨by rw[tN,h],uU hw n i b⟩
theorem Cs{g:Ga}{n:Node}{i:Int}{b b':fV}(h:n.kind=4)(hh:n.hash%64^b.1=b.2):Dg (g.alloc n i b') (g.nodes.length+3) b:=by
 refine⟨by rw[tN,h],?_⟩
 rw[yE]
 have e:(n.stored (g.ty.length+1)).hash=n.hash:=by
  unfold Node.stored;repeat' split
  all_goals rfl
 rw[e];exact hh
theorem HY{g:Ga}(hw:GW g){n:Node}{i:Int}{b:fV}(h:n.kind=7):ED (g.alloc n i b) (g.nodes.length+3) b:=⟨by rw[tN,h],uU hw n i b⟩
theorem IM{g:Ga}{n:Node}{i:Int}{b:fV}(h:n.kind=8):tC (g.alloc n i b) (g.nodes.length+3):=by unfold tC;rw[tN,h]
theorem kQ{g:Ga}(hw:GW g){n:Node}{i:Int}{b:fV}(h:n.bM=true):oH (g.alloc n i b) (g.nodes.length+3) b:=⟨by rw[yE,pW,h],uU hw n i b⟩
theorem eX{g:Ga}(h:GW g){n:Node}{i:Int}{b:fV}(hn:cJ g n b)(hi:Tb g n i b):GW (g.alloc n i b):=by
 have hge:=Ga.rM h n i b
 have hs:cJ (g.alloc n i b) (n.stored (g.ty.length+1)) b:=(hn.ge hge).stored (by omega)
 have hz:=KJ h n i b
 refine⟨?_,?_,?_,?_,?_,?_,?_,?_,?_⟩
 ·intro m hm
  rw[hz,tX,cE]at hm
  rcases hm with hm|rfl
  ·exact(h.node m hm).ge hge
  ·exact hs
 ·intro m hm τ hτ
  rw[hz,tX,cE]at hm
  rcases hm with hm|rfl
  ·exact hge.oA (h.cell m hm τ hτ)
  ·dsimp only at hτ ⊢
   rw[Lh]at hτ
   rw[Ee (DR hτ)];exact JX hτ
 ·intro m hm hk
  rw[hz,tX,cE]at hm
  rcases hm with hm|rfl
  ·exact h.main m hm hk
  ·dsimp only at hk ⊢
   rw[dX]at hk
   unfold Node.stored Node.cellOf;rw[if_pos hk];simp[Node.bare]
 ·intro m hm hk
  rw[hz,tX,cE]at hm
  rcases hm with hm|rfl
  ·exact h.prev m hm hk
  ·dsimp only at hk ⊢
   rw[pW]at hk
   have h2:n.kind≠2:=λh2=>by unfold Node.bM at hk;rw[h2]at hk;simp at hk
   unfold Node.stored Node.cellOf;rw[if_neg h2,if_pos hk];simp[Node.bare]
 ·intro m hm hk
  rw[hz,tX,cE]at hm
  rcases hm with hm|rfl
  ·exact h.status m hm hk
  ·dsimp only at hk ⊢
   rw[dX]at hk
   unfold Node.stored Node.cellOf;rw[if_neg (by omega),if_neg (by unfold Node.bM;rw[hk];decide),if_pos hk];simp[Node.bare]
 ·rw[iQ,zE,List.pairwise_append]
  refine⟨h.sort,?_,?_⟩
  ·rw[mD];split<;>simp
  ·intro a ha c hc
   rw[List.mem_filter]at ha hc
   rw[cE]at hc
   obtain⟨rfl,hc⟩:=hc
   obtain⟨la,hla⟩:=RV h ha.1
   obtain⟨τ,hτ⟩:=Jr la ha.2
   have:=sR (h.cell _ hla τ hτ)
   rw[BZ]at hc
   rw[Ee hc];dsimp only at this;omega
 ·rw[(mH g n i b).1,(mH g n i b).2,cO,cO,PQ,h.len]
 ·rw[wE,iQ,cO,cO,h.xT];rfl
 ·intro r b' hr h0
  by_cases hc:r<=g.count
  ·have hr':oH g r b':=by
    have h3:=sV hr.two
    unfold oH at hr ⊢
    rw[hge.node hc,hge.label hc h3]at hr;exact hr
   rw[hge.node hc,hge.first h (h.Nl hr')]at h0 ⊢
   exact(h.LJ r b' hr' h0).ge hge
  ·have h1:=hr.dU
   unfold Ga.count at hc h1
   rw[iQ,cO,CG]at h1
   obtain rfl:r=(g.nodes.length:Int)+3:=by omega
   have hm:n.bM=true:=by have:=hr.1;rwa [yE,pW]at this
   obtain rfl:b=b':=by have:=hr.2;rwa [uU h]at this
   have h2:n.kind≠2:=λh2=>by unfold Node.bM at hm;rw[h2]at hm;simp at hm
   have ef:(g.alloc n i b).first ((g.alloc n i b).node (g.nodes.length+3)).prev=i:=by
    rw[yE]
    unfold Node.stored Ga.first
    rw[if_neg h2,if_pos hm,(mH g n i b).2]
    unfold Node.iA
    rw[if_neg h2,if_pos hm,dI,tW (by rw[h.len];dsimp only;omega),h.len]
    dsimp only
    rw[show ((g.ty.length:Int)+1).toNat -1-g.ty.length=0 by omega];rfl
   rw[ef]at h0 ⊢
   exact((hi.2.1 hm).resolve_left h0).ge hge
theorem EI{g:Ga}(h:GW g)(τ:eY)(i:Int):GW (g.cell τ i):=by
 have hge:=Ga.wD h τ i
 exact⟨λm hm=>(h.node m hm).ge hge,λm hm τ hτ=>hge.oA (h.cell m hm τ hτ),h.main,h.prev,h.status,h.sort,by simp[Ga.cell,h.len],h.xT,λr b hr h0=>by
  have hr':oH g r b:=hr
  rw[show (g.cell τ i).node r=g.node r from rfl,hge.first h (h.Nl hr')]at h0 ⊢
  exact(h.LJ r b hr' h0).ge hge⟩
theorem NN{g:Ga}(h:GW g):GW g.bS:=by
 have hge:=Ga.yD h
 exact⟨λm hm=>(h.node m hm).ge hge,λm hm τ hτ=>hge.oA (h.cell m hm τ hτ),h.main,h.prev,h.status,h.sort,h.len,h.xT,λr b hr h0=>(h.LJ r b hr h0).ge hge⟩
end Go.Ct
end
section
namespace Go.Ct
def wX(n:Node)(i r:Int)(k:Nat):Int×Bool:=if(k:Int)=i then(r,decide (r>0))else aB n k
def bW(n:Node)(i r:Int):Nat->Nat×List Int
 |0=>(0,[])
 |k+1=>bif (wX n i r k).2 then(Bm.cI (bW n i r k).1 k,(bW n i r k).2++[(wX n i r k).1])else bW n i r k
theorem Ni(n:Node)(i r:Int):∀k,(bW n i r k).1<18446744073709551616/\(bW n i r k).2.length<=k
 |0=>⟨by show (0:Nat)<_;decide,JV _⟩
 |k+1=>by
  obtain⟨h1,h2⟩:=Ni n i r k
  rw[bW]
  cases (wX n i r k).2 with
  |true=>exact⟨Bm.iM _ _ h1,by simp;omega⟩
  |false=>exact⟨h1,by show (bW n i r k).2.length<=k+1;omega⟩
theorem On(n:Node)(i r:Int)(nb:Nat)(bl:List Int)(hl:bl.length=Bm.pop 64 nb)(hat:∀k,k<64->(wX n i r k).2=nb.testBit k/\(nb.testBit k=true->(wX n i r k).1=bl.getD (Bm.pop k nb) 0)):
  ∀k,k<=64->(∀j,(bW n i r k).1.testBit j=(decide (j<k)&&nb.testBit j))/\(bW n i r k).2=bl.take (Bm.pop k nb)
 |0,_=>⟨λj=>by simp[bW],by simp[bW,Bm.pop]⟩
 |k+1,hk=>by
  obtain⟨h1,h2⟩:=On n i r nb bl hl hat k (by omega)
  obtain⟨g1,g2⟩:=hat k (by omega)
  rw[bW,g1,Bm.cZ]
  cases hb:nb.testBit k with
  |true=>
   have hlt:Bm.pop k nb<bl.length:=by
    rw[hl]
    have:=nP (63-k) (k+1) nb
    rw[show k+1+(63-k)=64 by omega,Bm.cZ,hb]at this
    simp at this;omega
   refine⟨λj=>?_,?_⟩
   ·show (Bm.cI (bW n i r k).1 k).testBit j=_
    rw[Bm.gL _ k (by omega),h1]
    by_cases hj:k=j
    ·subst hj;simp[hb]
    ·by_cases hjk:j<k
     ·simp[hj,hjk,show j<k+1 by omega]
     ·simp[hj,hjk,show ¬j<k+1 by omega]
   ·show (bW n i r k).2++[(wX n i r k).1]=_
    rw[h2,g2 hb,show (Bm.pop k nb+true.toNat)=Bm.pop k nb+1 from rfl,List.take_succ_eq_append_getElem hlt,dI,fM hlt];rfl
  |false=>
   refine⟨λj=>?_,?_⟩
   ·show (bW n i r k).1.testBit j=_
    rw[h1]
    by_cases hj:k=j
    ·subst hj;simp[hb]
    ·by_cases hjk:j<k
     ·simp[hjk,show j<k+1 by omega]
     ·simp[hjk,show ¬j<k+1 by omega]
   ·show (bW n i r k).2=_
    rw[h2];rfl
theorem yK{n:Node}{i r:Int}{nb:Nat}{bl:List Int}(hn:nb<18446744073709551616)(hl:bl.length=Bm.pop 64 nb)(hat:∀k,k<64->(wX n i r k).2=nb.testBit k/\(nb.testBit k=true->(wX n i r k).1=bl.getD (Bm.pop k nb) 0)):
  bW n i r 64=(nb,bl):=by
 obtain⟨h1,h2⟩:=On n i r nb bl hl hat 64 (JV _)
 refine Prod.ext ?_ ?_
 ·refine Nat.eq_of_testBit_eq λj=>?_
  rw[h1]
  by_cases hj:j<64
  ·simp[hj]
  ·have:nb.testBit j=false:=Nat.testBit_lt_two_pow (DM hn (by rw[show 18446744073709551616=2^64 from rfl];exact Nat.pow_le_pow_right (by decide) (by omega)))
   simp[hj,this]
 ·rw[h2,<- hl,MA (JV _)]
theorem lQ{n:Node}(hc:n.lO=true){k:Nat}(hk:k<64):aB n k=if n.aD.testBit k then(n.aA.getD (Bm.pop k n.aD) 0,true)else(0,false):=by
 unfold aB
 rw[Bm.nI _ _ hk,hc]
 have e:Bm.aO n.aD (k:Int)=Bm.pop k n.aD:=by
  unfold Bm.aO Bm.cut
  by_cases h0:k=0
  ·subst h0;simp
  ·rw[if_neg (by omega),if_neg (by omega)];simp
 rw[e]
 cases n.aD.testBit k<;>simp
theorem Gr{b:Nat}{i:Nat}(hi:i<64):Bm.aO b (i:Int)=Bm.pop i b:=by
 unfold Bm.aO Bm.cut
 by_cases h0:i=0
 ·subst h0;simp
 ·rw[if_neg (by omega),if_neg (by omega)];simp
theorem Hr{b:Nat}:∀{i k:Nat},i<=k->Bm.pop i b<=Bm.pop k b:=λ{i k} h=>by
 have:=nP (k-i) i b
 rwa [show i+(k-i)=k by omega]at this
theorem oM{b i k:Nat}(h:b.testBit i=true)(hk:i<k):Bm.pop i b<Bm.pop k b:=by
 have h1:Bm.pop (i+1) b=Bm.pop i b+1:=by rw[Bm.cZ,h];rfl
 have:=Hr (b:=b) (show i+1<=k by omega)
 omega
theorem Ag{n:Node}(hc:n.lO=true):n.aA.length=Bm.pop 64 n.aD:=(kF hc).2
theorem qQ{n:Node}{i r:Int}(hf:n.aD<18446744073709551616)(h:(aB n i).2=true)(hr:1<=r):(aP n i r)=({kind:=3,aD:=(bW n i r 64).1,aA:=(bW n i r 64).2},true):=by
 have hc:n.lO=true:=by
  unfold aB at h;split at h
  ·cases h
  ·rename_i q;simp at q;exact q.1
 have hh:Bm.has n.aD i=true:=by
  unfold aB at h;split at h
  ·cases h
  ·rename_i q;simp at q;exact q.2
 have hi:0<=i/\i<64:=by unfold Bm.has at hh;simp at hh;omega
 obtain⟨j,rfl⟩:=BO hi.1
 have hj:j<64:=by omega
 have hb:n.aD.testBit j=true:=by rw[<- Bm.nI _ _ hj];exact hh
 have hl:=Ag hc
 have hp:Bm.pop j n.aD<n.aA.length:=by rw[hl];exact oM hb hj
 unfold aP
 rw[if_neg (by simp[hc,hh];omega),Gr hj]
 rw[yK (nb:=n.aD) (bl:=n.aA.take (Bm.pop j n.aD)++r::n.aA.drop (Bm.pop j n.aD+1)) hf (by simp;omega)]
 intro k hk
 unfold wX
 by_cases e:(k:Int)=(j:Int)
 ·have e:k=j:=by omega
  subst e
  rw[if_pos rfl,hb]
  refine⟨by simp;omega,λ_=>?_⟩
  rw[dI,tW (by rw[jI];omega),jI,Bq (by omega),Nat.sub_self];rfl
 ·rw[if_neg e,lQ hc hk]
  cases hbk:n.aD.testBit k with
  |false=>exact⟨rfl,λh=>by cases h⟩
  |true=>
   refine⟨rfl,λ_=>?_⟩
   show n.aA.getD (Bm.pop k n.aD) 0=_
   rw[dI,dI]
   by_cases hkj:k<j
   ·have:=oM hbk hkj
    rw[xD (by rw[jI];omega),Yv,if_pos this]
   ·have:=oM hb (show j<k by omega)
    rw[tW (by rw[jI];omega),jI,Bq (by omega)]
    obtain⟨d,hd⟩:∃d,Bm.pop k n.aD=Bm.pop j n.aD+1+d:=⟨Bm.pop k n.aD-Bm.pop j n.aD-1,by omega⟩
    rw[hd,show Bm.pop j n.aD+1+d-Bm.pop j n.aD=d+1 by omega,bD,KQ]
theorem vB{n:Node}{i r:Int}(hf:n.aD<18446744073709551616)(hc:n.lO=true)(h:(aB n i).2=false)(h0:0<=i)(h1:i<=63)(hr:1<=r):(aS n i r)=({kind:=3,aD:=(bW n i r 64).1,aA:=(bW n i r 64).2},true):=by
 obtain⟨j,rfl⟩:=BO h0
 have hj:j<64:=by omega
 have hb:n.aD.testBit j=false:=by
  rw[lQ hc hj]at h
  cases hb:n.aD.testBit j with
  |false=>rfl
  |true=>rw[hb]at h;cases h
 have hh:Bm.has n.aD (j:Int)=false:=by rw[Bm.nI _ _ hj];exact hb
 have hl:=Ag hc
 have hpw:=Bm.rQ n.aD j hj
 have hpl:Bm.pop j n.aD<=n.aA.length:=by rw[hl];exact Hr (by omega)
 unfold aS
 rw[if_neg (by simp[hc,hh];omega),Gr hj]
 rw[yK (nb:=Bm.cI n.aD j) (bl:=n.aA.take (Bm.pop j n.aD)++r::n.aA.drop (Bm.pop j n.aD)) (Bm.iM _ _ hf) (by rw[hpw,if_pos ⟨hj,hb⟩];simp;omega)]
 intro k hk
 unfold wX
 rw[Bm.gL _ j hj]
 by_cases e:(k:Int)=(j:Int)
 ·have e:k=j:=by omega
  subst e
  rw[if_pos rfl]
  refine⟨by simp;omega,λ_=>?_⟩
  rw[hpw,if_neg (by omega),dI,tW (by rw[jI];omega),jI,Bq (by omega),Nat.add_zero,Nat.sub_self];rfl
 ·rw[if_neg e,lQ hc hk]
  cases hbk:n.aD.testBit k with
  |false=>exact⟨by simp;omega,λh=>by simp at h;omega⟩
  |true=>
   refine⟨by simp,λ_=>?_⟩
   show n.aA.getD (Bm.pop k n.aD) 0=_
   rw[dI,dI,hpw]
   by_cases hkj:k<j
   ·have:=oM hbk hkj
    rw[if_neg (by omega),xD (by rw[jI];omega),Nat.add_zero,Yv,if_pos this]
   ·have:=Hr (b:=n.aD) (show j<=k by omega)
    rw[if_pos ⟨by omega,hb⟩,tW (by rw[jI];omega),jI,Bq (by omega)]
    obtain⟨d,hd⟩:∃d,Bm.pop k n.aD=Bm.pop j n.aD+d:=⟨Bm.pop k n.aD-Bm.pop j n.aD,by omega⟩
    rw[hd,show Bm.pop j n.aD+d+1-Bm.pop j n.aD=d+1 by omega,bD,KQ]
theorem Aw(b x:Nat)(hx:x<64)(hb:b.testBit x=true):∀y,Bm.pop y b=Bm.pop y (Bm.jD b x)+if x<y then 1 else 0
 |0=>by simp[Bm.pop]
 |y+1=>by
  rw[Bm.cZ,Bm.cZ,Aw b x hx hb y,Bm.kW b x hx]
  by_cases h1:x<y
  ·simp[h1,show x<y+1 by omega,show x≠y by omega];omega
  ·by_cases h2:x=y
   ·subst h2;simp[hb]
   ·simp[h1,show ¬x<y+1 by omega,h2]
theorem xV{n:Node}{i:Int}(hf:n.aD<18446744073709551616)(h:(aB n i).2=true):(bL n i)=({kind:=3,aD:=(bW n i 0 64).1,aA:=(bW n i 0 64).2},true):=by
 have hc:n.lO=true:=by
  unfold aB at h;split at h
  ·cases h
  ·rename_i q;simp at q;exact q.1
 have hh:Bm.has n.aD i=true:=by
  unfold aB at h;split at h
  ·cases h
  ·rename_i q;simp at q;exact q.2
 have hi:0<=i/\i<64:=by unfold Bm.has at hh;simp at hh;omega
 obtain⟨j,rfl⟩:=BO hi.1
 have hj:j<64:=by omega
 have hb:n.aD.testBit j=true:=by rw[<- Bm.nI _ _ hj];exact hh
 have hl:=Ag hc
 have hp:Bm.pop j n.aD<n.aA.length:=by rw[hl];exact oM hb hj
 have hpw:=Aw n.aD j hj hb
 unfold bL
 rw[if_neg (by simp[hc,hh];omega),Gr hj]
 rw[yK (nb:=Bm.jD n.aD j) (bl:=n.aA.take (Bm.pop j n.aD)++n.aA.drop (Bm.pop j n.aD+1)) (Bm.Dz _ _ hf) (by have:=hpw 64;rw[if_pos hj]at this;simp;omega)]
 intro k hk
 unfold wX
 rw[Bm.kW _ j hj]
 by_cases e:(k:Int)=(j:Int)
 ·have e:k=j:=by omega
  subst e
  rw[if_pos rfl]
  exact⟨by simp,λh=>by simp at h⟩
 ·rw[if_neg e,lQ hc hk]
  cases hbk:n.aD.testBit k with
  |false=>exact⟨by simp,λh=>by simp at h⟩
  |true=>
   refine⟨by simp;omega,λ_=>?_⟩
   show n.aA.getD (Bm.pop k n.aD) 0=_
   rw[dI,dI]
   have hk':=hpw k
   by_cases hkj:k<j
   ·have:=oM hbk hkj
    rw[if_neg (by omega)]at hk'
    rw[xD (by rw[jI];omega),Yv,if_pos (by omega)]
    congr 2
   ·have:=oM hb (show j<k by omega)
    rw[if_pos (by omega)]at hk'
    rw[tW (by rw[jI];omega),jI,Bq (by omega),KQ]
    congr 2;omega
end Go.Ct
namespace Go.Ct
structure VF(n:Node):Prop where
 kind:1<=n.kind/\n.kind<=8
 main:0<=n.main
 prev:0<=n.prev
 status:0<=n.status
 gen:n.kind=2->1<=n.gen
 count:n.kind=3->n.aA.length=Bm.pop 64 n.aD
 branch:n.kind=3->∀k,k<n.aA.length->1<=n.aA.getD k 0
 key:n.kind=4\/n.kind=5->n.key.size<=64
 aF:n.kind=6->2<=n.aF.length
 kG:n.kind=6->aQ n.aF=true
 short:n.kind=6->kS n.aF=true
 dC:n.kind=7\/n.kind=8->1<=n.dC
 desc:n.kind=8->1<=n.aK/\1<=n.new
theorem fJ{n:Node}(h:n.valid=true):VF n:=by
 unfold Node.valid at h
 split at h
 ·cases h
 ·rename_i h0
  simp only[not_or,sX]at h0
  refine⟨by omega,by omega,by omega,by omega,?_,?_,?_,?_,?_,?_,?_,?_,?_⟩
  ·intro hk;rw[if_pos hk]at h;exact eC h
  ·intro hk;rw[if_neg (by omega),if_pos hk]at h;simp at h;exact h.2
  ·intro hk;rw[if_neg (by omega),if_pos hk]at h;simp at h
   intro k hlt
   rw[dI,fM hlt];exact h.1 _ (wU hlt)
  ·intro hk;rw[if_neg (by omega),if_neg (by omega),if_pos hk]at h;exact eC h
  ·intro hk;rw[if_neg (by omega),if_neg (by omega),if_neg (by omega),if_pos hk]at h;simp at h;exact h.1
  ·intro hk;rw[if_neg (by omega),if_neg (by omega),if_neg (by omega),if_pos hk]at h;simp at h;exact h.2.1
  ·intro hk;rw[if_neg (by omega),if_neg (by omega),if_neg (by omega),if_pos hk]at h;simp at h;exact h.2.2
  ·rintro(hk|hk)
   ·rw[if_neg (by omega),if_neg (by omega),if_neg (by omega),if_neg (by omega),if_pos hk]at h;exact eC h
   ·rw[if_neg (by omega),if_neg (by omega),if_neg (by omega),if_neg (by omega),if_neg (by omega),if_pos hk]at h;simp at h;exact h.1
  ·intro hk;rw[if_neg (by omega),if_neg (by omega),if_neg (by omega),if_neg (by omega),if_neg (by omega),if_pos hk]at h;simp at h;exact h.2
theorem NC{n:Node}(h:(n.kind==3)=false):n.lO=false:=by unfold Node.lO;rw[h];rfl
theorem Pb{n:Node}(h:(n.kind==3)=true)(hv:n.valid=true):n.lO=true:=by unfold Node.lO;rw[h,hv];rfl
theorem LW{n:Node}(h:(n.kind==6)=false):n.Kx=false:=by unfold Node.Kx;rw[h];rfl
theorem vZ{n:Node}(h:(n.kind==6)=true)(hv:n.valid=true):n.Kx=true:=by unfold Node.Kx;rw[h,hv];rfl
theorem Tr{n:Node}{i:Int}(h:n.lO=false):aB n i=(0,false):=by unfold aB;rw[if_pos (.inl h)]
theorem Dd{n:Node}{i:Int}(h:Bm.has n.aD i=false):aB n i=(0,false):=by unfold aB;rw[if_pos (.inr h)]
theorem MF{n:Node}{i:Int}(hc:n.lO=true)(h:Bm.has n.aD i=true):aB n i=(n.aA.getD (Bm.aO n.aD i) 0,true):=by unfold aB;rw[if_neg (by simp[hc,h])]
theorem US{n:Node}{i:Int}(hc:n.lO=true)(h:Bm.has n.aD i=true):Bm.aO n.aD i<n.aA.length:=by rw[Ag hc];exact Ij h
structure NF(n:Node):Prop where
 br:n.aA.length<=1000000
 pr:n.aF.length<=1000000000000
 bm:n.aD<18446744073709551616
 hs:n.hash<18446744073709551616
 ks:n.key.size<=64
 v3:n.kind=3->n.valid=true
 v6:n.kind=6->n.valid=true
theorem Node.Fit.nf{L:Nat}{n:Node}(h:n.Fit L)(hL:L<=900000000000):NF n:=⟨h.1.1,by have:=h.1.2.1;omega,h.1.2.2.1,h.1.2.2.2.1,h.2,λhk=>h.1.2.2.2.2.2.2 (.inl hk),λhk=>h.1.2.2.2.2.2.2 (.inr hk)⟩
end Go.Ct
namespace Go.Ct
theorem NM{n:Node}(h:n.lO=false):fF n=(0,false):=by unfold fF;rw[if_pos (.inl h)]
theorem OQ{n:Node}(h:n.aA.length≠1):fF n=(0,false):=by unfold fF;rw[if_pos (.inr h)]
theorem NY{n:Node}(hc:n.lO=true)(h:n.aA.length=1):fF n=(n.aA.getD 0 0,true):=by unfold fF;rw[if_neg (by simp[hc,h])]
theorem VD{n:Node}(h:n.kind≠5):aT n=({},false):=by unfold aT;rw[if_neg h]
theorem NW{n:Node}(h:n.kind=5):aT n=(Xf n,true):=by unfold aT;rw[if_pos h]
theorem LL{n s:Node}{l:Int}(h:(fF n).2=true)(hl:0<l)(hk:s.kind=4):bQ n l s=AV s:=by unfold bQ;rw[if_pos ⟨hl,h,hk⟩]
theorem NO{n s:Node}{l:Int}(h:(fF n).2=false):bQ n l s=n:=by unfold bQ;rw[if_neg (by rw[h];simp)]
theorem OP{n s:Node}{l:Int}(h:¬0<l):bQ n l s=n:=by unfold bQ;rw[if_neg (λx=>h x.1)]
theorem MD{n s:Node}{l:Int}(h:s.kind≠4):bQ n l s=n:=by unfold bQ;rw[if_neg (λx=>h x.2.2)]
end Go.Ct
namespace Go.Ct
def Dr(n:Node)(i r:Int):Node:={kind:=3,aD:=(bW n i r 64).1,aA:=(bW n i r 64).2}
theorem VN{n:Node}{i r:Int}{k bm:Nat}{out:List Int}(he:((k:Int)==i)=true)(hr:decide ((r:Int)>0)=true)(hW:(bm,out)=bW n i r k):(Bm.cI bm (k:Int),out++[r])=bW n i r (k+1):=by
 rw[bW];unfold wX;rw[if_pos (eq_of_beq he),hr,<- hW];rfl
theorem g8{n:Node}{i r:Int}{k bm:Nat}{out:List Int}(he:((k:Int)==i)=true)(hr:decide ((r:Int)>0)=false)(hW:(bm,out)=bW n i r k):(bm,out)=bW n i r (k+1):=by
 rw[bW];unfold wX;rw[if_pos (eq_of_beq he),hr,<- hW];rfl
theorem UQ{n:Node}{i r:Int}{k bm:Nat}{out:List Int}(he:((k:Int)==i)=false)(hr:(aB n (k:Int)).2=true)(hW:(bm,out)=bW n i r k):(Bm.cI bm (k:Int),out++[(aB n (k:Int)).1])=bW n i r (k+1):=by
 rw[bW];unfold wX;rw[if_neg (by simpa using he),hr,<- hW];rfl
theorem ZX{n:Node}{i r:Int}{k bm:Nat}{out:List Int}(he:((k:Int)==i)=false)(hr:(aB n (k:Int)).2=false)(hW:(bm,out)=bW n i r k):(bm,out)=bW n i r (k+1):=by
 rw[bW];unfold wX;rw[if_neg (by simpa using he),hr,<- hW];rfl
theorem DF{n:Node}{i:Int}(h:(aB n i).2=true):n.lO=true/\Bm.has n.aD i=true:=by
 unfold aB at h;split at h
 ·cases h
 ·rename_i q;simpa using q
theorem Kg{n:Node}{i r:Int}(h:n.lO=false\/(aB n i).2=true\/(i<0\/63<i\/r<1)):aS n i r=({},false):=by
 unfold aS;rw[if_pos]
 rcases h with h|h|h
 ·exact .inl h
 ·exact .inr (.inr (.inr (.inr (DF h).2)))
 ·rcases h with h|h|h
  ·exact .inr (.inl h)
  ·exact .inr (.inr (.inl h))
  ·exact .inr (.inr (.inr (.inl h)))
theorem Vv{n:Node}{i:Int}(h:(aB n i).2=false):n.lO=false\/Bm.has n.aD i=false:=by
 unfold aB at h;split at h
 ·assumption
 ·cases h
theorem MJ{n:Node}{i r:Int}(h:(aB n i).2=false\/r<1):aP n i r=({},false):=by
 unfold aP;rw[if_pos]
 rcases h with h|h
 ·rcases Vv h with h|h
  ·exact .inl h
  ·exact .inr (.inr (.inr (.inr h)))
 ·exact .inr (.inr (.inr (.inl h)))
theorem XG{n:Node}{i:Int}(h:(aB n i).2=false):bL n i=({},false):=by
 unfold bL;rw[if_pos]
 rcases Vv h with h|h
 ·exact .inl h
 ·exact .inr (.inr (.inr h))
def FP(n:Node)(key:ByteArray)(v:Nat):Node:={kind:=6,hash:=n.hash,aF:=mC n.aF key v}
theorem GD{n:Node}{key:ByteArray}{v:Nat}(h:n.Kx=false\/64<key.size):grown n key v=({},false):=by unfold grown;rw[if_pos h]
theorem AO{n:Node}{key:ByteArray}{v:Nat}(h:n.Kx=true)(hk:¬64<key.size):grown n key v=(FP n key v,true):=by unfold grown;rw[if_neg (by simp[h];omega)];rfl
end Go.Ct
namespace Go.Ct
def EX(n:Node)(key:ByteArray):Node:={kind:=5,hash:=n.hash,key:=((gX n.aF key).getD 0 ⟨.empty,0⟩).key,value:=((gX n.aF key).getD 0 ⟨.empty,0⟩).value}
def Pm(n:Node)(key:ByteArray):Node:={kind:=6,hash:=n.hash,aF:=gX n.aF key}
theorem j9{n:Node}{key:ByteArray}(h:(bB n.aF key).2=false):gC n key=({},false):=by unfold gC;rw[if_pos (.inr h)]
theorem NK{n:Node}{key:ByteArray}(hi:n.Kx=true)(h:(bB n.aF key).2=true)(hl:(gX n.aF key).length=1):gC n key=(EX n key,true):=by
 unfold gC EX;rw[if_neg (by simp[hi,h])]
 match hp:gX n.aF key,hl with
 |[p],_=>rfl
theorem EE{n:Node}{key:ByteArray}(hi:n.Kx=true)(h:(bB n.aF key).2=true)(hl:(gX n.aF key).length≠1):gC n key=(Pm n key,true):=by
 unfold gC Pm;rw[if_neg (by simp[hi,h])]
 match hp:gX n.aF key,hl with
 |[],_=>rfl
 |[p],hl=>exact absurd rfl hl
 |p::q::l,_=>rfl
end Go.Ct
end
