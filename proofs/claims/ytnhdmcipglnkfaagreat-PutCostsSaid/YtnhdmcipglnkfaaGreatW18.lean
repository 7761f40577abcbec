/- Parts of a proof: Rv, Ru. -/
import Derived.Test.YtnhdmcipglnkfaaGreatW17
set_option linter.unusedVariables false
set_option linter.unusedSimpArgs false
set_option maxRecDepth 100000
set_option maxHeartbeats 4000000
section
namespace Go.Ct
theorem FF{a b:ByteArray}(h:bO a b=true):a=b:=by
 unfold bO at h
 rw[toList_data,toList_data,Ae]at h
 exact ByteArray.ext (Array.toList_inj.1 h)
theorem Ou:∀{a b:List bA},pH a b=true->a=b
 |[],[],_=>rfl
 |[],_::_,h=>by cases h
 |_::_,[],h=>by cases h
 |x::a,y::b,h=>by
  rw[pH,pM]at h
  have h1:=h.1
  unfold PP at h1
  rw[pM,Ae]at h1
  rw[Ou h.2]
  congr 1
  cases x;cases y
  simp only at h1
  rw[FF h1.1,h1.2]
theorem UR{a b:Node}(h:gW a b=true):a=b:=by
 unfold gW at h
 simp only[pM,Ae]at h
 obtain⟨⟨⟨⟨⟨⟨⟨h1,h2⟩,h3⟩,h4⟩,h5⟩,h6⟩,h7⟩,h8,h9,N7,TT,h12,h13,h14⟩:=h
 have h6:=FF h6
 have h9:=Ou h9
 cases a;cases b
 simp only at *
 subst h1 h2 h3 h4 h5 h6 h7 h8 h9 N7 TT h12 h13 h14
 rfl
theorem wQ{n:Node}(h:n.valid=true):n=n.only:=by
 unfold Node.valid at h
 split at h
 ·cases h
 ·rename_i hc
  simp only[not_or,Uy]at hc
  exact UR hc.2.2.1
theorem qI{n:Node}(h:n.valid=true):1<=n.kind/\n.kind<=8:=by
 unfold Node.valid at h
 split at h
 ·cases h
 ·rename_i hc;omega
def Node.stored(n:Node)(c:Int):Node:=
 if n.kind=2 then{n.bare with main:=c}else if n.bG=true then{n.bare with prev:=c}else if n.kind=8 then{n.bare with status:=c}else n.bare
theorem dB(n:Node)(c:Int):(n.stored c).kind=n.kind:=by
  unfold Node.stored;repeat' split
  all_goals rfl
theorem Gt{n:Node}(h:n.valid=true){c:Int}(hc:0<=c):(n.stored c).valid=true:=by
 have hk:=qI h
 rcases(show n.kind=1\/n.kind=2\/n.kind=3\/n.kind=4\/n.kind=5\/n.kind=6\/n.kind=7\/n.kind=8 by omega)with hk|hk|hk|hk|hk|hk|hk|hk
 ·rw[show n.stored c=n.bare by unfold Node.stored Node.bG;simp[hk]];exact Ef h
 ·rw[show n.stored c={n.bare with main:=c} by unfold Node.stored;simp[hk]]
  unfold Node.valid at h ⊢
  simp only[Node.bare,Node.only,gW,hk]at h ⊢
  simp at h ⊢
  simp_all
 ·rw[show n.stored c={n.bare with prev:=c} by unfold Node.stored Node.bG;simp[hk]];exact Dp n c hc (.inl hk) h
 ·rw[show n.stored c=n.bare by unfold Node.stored Node.bG;simp[hk]];exact Ef h
 ·rw[show n.stored c={n.bare with prev:=c} by unfold Node.stored Node.bG;simp[hk]]
  unfold Node.valid at h ⊢
  simp only[Node.bare,Node.only,gW,hk]at h ⊢
  simp at h ⊢
  simp_all
 ·rw[show n.stored c={n.bare with prev:=c} by unfold Node.stored Node.bG;simp[hk]];exact Dp n c hc (.inr hk) h
 ·rw[show n.stored c=n.bare by unfold Node.stored Node.bG;simp[hk]];exact Ef h
 ·rw[show n.stored c={n.bare with status:=c} by unfold Node.stored Node.bG;simp[hk]]
  unfold Node.valid at h ⊢
  simp only[Node.bare,Node.only,gW,hk]at h ⊢
  simp at h ⊢
  simp_all
theorem MN{L:Nat}{n:Node}(h:n.Fit L){c:Int}(hc:0<=c):(n.stored c).Fit L:=by
 have:=Qh h c hc
 unfold Node.stored;simpa using this
theorem jP(g:Ga)(n:Node)(i:Int)(b:eC):(g.alloc n i b).nodes=g.nodes++[n.stored (g.ty.length+1)]:=by
 unfold Ga.alloc Node.stored
 repeat' split
 all_goals rfl
theorem Az(g:Ga)(n:Node)(i:Int)(b:eC):(g.alloc n i b).Ak=g.Ak++[b]:=by
 unfold Ga.alloc
 repeat' split
 all_goals rfl
theorem mG(g:Ga)(n:Node)(i:Int)(b:eC):(g.alloc n i b).ty=g.ty++(n.gQ b).toList/\(g.alloc n i b).ZB=g.ZB++(n.gQ b).toList.map λ_=>i:=by
 unfold Ga.alloc Node.gQ
 repeat' split
 all_goals simp[Ga.cell,Ga.put]
theorem oC(g:Ga)(n:Node)(i:Int)(b:eC):(g.alloc n i b).gen=g.gen/\(g.alloc n i b).dec=g.dec:=by
 unfold Ga.alloc
 repeat' split
 all_goals exact⟨rfl,rfl⟩
theorem Ga.gV{g:Ga}(h:GW g)(n:Node)(i:Int)(b:eC):Ge g (g.alloc n i b):=
 ⟨by rw[jP];exact LQ _ _,by rw[Az];exact LQ _ _,by rw[(mG g n i b).1];exact LQ _ _,by rw[(mG g n i b).2];exact LQ _ _,by rw[(oC g n i b).1];exact aW _,λc h=>by rw[(oC g n i b).2];exact h,h.Ak⟩
theorem Ga.uP{g:Ga}(h:GW g)(τ:dD)(i:Int):Ge g (g.cell τ i):=⟨xI _,xI _,LQ _ _,LQ _ _,aW _,λ_ h=>h,h.Ak⟩
theorem Ga.uX{g:Ga}(h:GW g):Ge g g.bL:=⟨xI _,xI _,xI _,xI _,Nat.le_succ _,λ_ h=>h,h.Ak⟩
theorem bT.ge{g g':Ga}{n:Node}{b:eC}(h:bT g n b)(k:Ge g g'):bT g' n b:=
 ⟨h.valid,h.fit,h.lo,h.hi,λhk=>⟨Int.le_trans (h.i hk).1 (by have:=k.gen;omega),(h.i hk).2⟩,λhk=>⟨(h.c hk).1,(h.c hk).2.1,λj hj=>((h.c hk).2.2 j hj).imp (λh=>h.ge k) λh=>h.ge k⟩,h.t,h.l,λhk=>(h.f hk).ge k,λhk=>⟨(h.d hk).1.ge k,(h.d hk).2.1.ge k,(h.d hk).2.2.ge k⟩⟩
theorem oK(n:Node)(c:Int):(n.stored c).bG=n.bG:=by unfold Node.bG;rw[dB]
theorem Vc(n:Node)(c:Int)(b:eC):(n.stored c).gQ b=n.gQ b:=by
 unfold Node.gQ;rw[oK,dB]
theorem MO(n:Node)(c:Int):(n.stored c).bD=n.bD:=by
 unfold Node.bD;rw[oK,dB]
theorem kI{n:Node}(hv:n.valid=true){c:Int}(hc:0<=c)(k:Int):aB (n.stored c) k=aB n k:=by
 have e:(n.stored c).aA=n.aA/\(n.stored c).aC=n.aC:=by
  unfold Node.stored;repeat' split
  all_goals exact⟨rfl,rfl⟩
 have hi:(n.stored c).oT=n.oT:=by unfold Node.oT;rw[dB,hv,Gt hv hc]
 unfold aB;rw[hi,e.1,e.2]
theorem bT.stored{g:Ga}{n:Node}{b:eC}(h:bT g n b){c:Int}(hc:0<=c):bT g (n.stored c) b:=by
 have e:(n.stored c).gen=n.gen/\(n.stored c).dO=n.dO/\(n.stored c).aS=n.aS/\(n.stored c).new=n.new/\(n.stored c).hash=n.hash:=by
  unfold Node.stored;repeat' split
  all_goals exact⟨rfl,rfl,rfl,rfl,rfl⟩
 obtain⟨L,hL⟩:=h.fit
 refine⟨Gt h.valid hc,⟨L,MN hL hc⟩,?_,?_,?_,?_,?_,?_,?_,?_⟩
 ·rw[dB];exact h.lo
 ·rw[dB];exact h.hi
 ·rw[dB,e.1];exact h.i
 ·rw[dB];intro hk;refine⟨(h.c hk).1,(h.c hk).2.1,λk=>?_⟩;rw[kI h.valid hc];exact(h.c hk).2.2 k
 ·rw[dB,e.2.2.2.2];exact h.t
 ·rw[dB,e.2.2.2.2];exact h.l
 ·rw[dB,e.2.1];exact h.f
 ·rw[dB,e.2.1,e.2.2.1,e.2.2.2.1];exact h.d
theorem Lg{n:Node}{c:Int}(h:n.bD=true):(n.stored c).cellOf=c:=by
 unfold Node.bD at h
 unfold Node.stored Node.cellOf
 repeat' split
 all_goals simp_all [Node.bare]
theorem OL{n:Node}{b:eC}{τ:dD}(h:n.gQ b=some τ):n.bD=true:=by
 unfold Node.gQ at h
 unfold Node.bD
 repeat' split at h
 all_goals first
  |(cases h;done)
  |simp_all
theorem Od{n:Node}(b:eC)(h:n.bD=true):∃τ,n.gQ b=some τ:=by
 unfold Node.bD at h
 unfold Node.gQ
 repeat' split
 all_goals first
  |exact⟨_,rfl⟩
  |simp_all
theorem lT{g:Ga}{c:Int}{τ:dD}(h:g.dZ c=some τ):1<=c/\c<=g.ty.length:=by
 unfold Ga.dZ at h
 split at h
 ·cases h
 ·have:=(List.getElem?_eq_some_iff.1 h).1;omega
theorem VK{g:Ga}{n:Node}{i:Int}{b:eC}{τ:dD}(h:n.gQ b=some τ):(g.alloc n i b).dZ (g.ty.length+1)=some τ:=by
 unfold Ga.dZ
 rw[if_neg (by omega),(mG g n i b).1,h]
 simp
theorem XR{g:Ga}(h:GW g)(n:Node)(i:Int)(b:eC):(g.alloc n i b).zip=g.zip++[(n.stored (g.ty.length+1),b)]:=by
 unfold Ga.zip;rw[jP,Az,List.zip_append h.Ak.symm];rfl
theorem QS{g:Ga}(h:GW g){n:Node}(hn:n∈g.nodes):∃b,(n,b)∈g.zip:=by
 obtain⟨i,hi,rfl⟩:=List.getElem_of_mem hn
 have hl:=h.Ak
 have hz:i<(g.nodes.zip g.Ak).length:=by rw[List.length_zip];omega
 refine⟨g.Ak[i]'(by omega),?_⟩
 have:=uY hz
 rw[List.getElem_zip]at this
 exact this
theorem IB(g:Ga)(τ:dD)(i:Int):(g.cell τ i).dZ (g.ty.length+1)=some τ:=by
 unfold Ga.dZ Ga.cell
 rw[if_neg (by omega)]
 simp
theorem eG(g:Ga)(n:Node)(i:Int)(b:eC):(g.alloc n i b).node (g.nodes.length+3)=n.stored (g.ty.length+1):=by
 rw[uF,jP,cV,fR,if_neg (by omega),if_neg (by omega),cK]
 have:((g.nodes.length:Int)+3).toNat -3=g.nodes.length:=by omega
 rw[this,tN (aW _)]
 simp
theorem uB{g:Ga}(h:GW g)(n:Node)(i:Int)(b:eC):(g.alloc n i b).label (g.nodes.length+3)=b:=by
 unfold Ga.label
 have:((g.nodes.length:Int)+3).toNat -3=g.nodes.length:=by omega
 rw[this,Az,cK,tN (by rw[h.Ak];exact aW _),h.Ak]
 simp
theorem xD(g:Ga)(n:Node)(i:Int)(b:eC):((g.alloc n i b).node (g.nodes.length+3)).kind=n.kind:=by rw[eG,dB]
theorem mX{g:Ga}(hw:GW g){n:Node}{i:Int}{b:eC}(h:n.kind=2):fH (g.alloc n i b) (g.nodes.length+3) b:=⟨by rw[xD,h],uB hw n i b⟩
theorem Af{g:Ga}{n:Node}{i:Int}{b b':eC}(h:n.kind=4)(hh:n.hash%64^b.1=b.2):Ij (g.alloc n i b') (g.nodes.length+3) b:=by
 refine⟨by rw[xD,h],?_⟩
 rw[eG]
 have e:(n.stored (g.ty.length+1)).hash=n.hash:=by
  unfold Node.stored;repeat' split
  all_goals rfl
 rw[e];exact hh
theorem Yw{g:Ga}(hw:GW g){n:Node}{i:Int}{b:eC}(h:n.kind=7):KM (g.alloc n i b) (g.nodes.length+3) b:=⟨by rw[xD,h],uB hw n i b⟩
theorem Xm{g:Ga}{n:Node}{i:Int}{b:eC}(h:n.kind=8):wH (g.alloc n i b) (g.nodes.length+3):=by unfold wH;rw[xD,h]
theorem fW{g:Ga}(hw:GW g){n:Node}{i:Int}{b:eC}(h:n.bG=true):mZ (g.alloc n i b) (g.nodes.length+3) b:=⟨by rw[eG,oK,h],uB hw n i b⟩
theorem pB{g:Ga}(h:GW g){n:Node}{i:Int}{b:eC}(hn:bT g n b)(hi:oD g n i b):GW (g.alloc n i b):=by
 have xY:=Ga.gV h n i b
 have hs:bT (g.alloc n i b) (n.stored (g.ty.length+1)) b:=(hn.ge xY).stored (by omega)
 have hz:=XR h n i b
 refine⟨?_,?_,?_,?_,?_,?_,?_,?_,?_⟩
 ·intro m hm
  rw[hz,He,Ur]at hm
  rcases hm with hm|rfl
  ·exact(h.node m hm).ge xY
  ·exact hs
 ·intro m hm τ hτ
  rw[hz,He,Ur]at hm
  rcases hm with hm|rfl
  ·exact xY.dZ (h.cell m hm τ hτ)
  ·dsimp only at hτ ⊢
   rw[Vc]at hτ
   rw[Lg (OL hτ)];exact VK hτ
 ·intro m hm hk
  rw[hz,He,Ur]at hm
  rcases hm with hm|rfl
  ·exact h.main m hm hk
  ·dsimp only at hk ⊢
   rw[dB]at hk
   unfold Node.stored Node.cellOf;rw[if_pos hk];simp[Node.bare]
 ·intro m hm hk
  rw[hz,He,Ur]at hm
  rcases hm with hm|rfl
  ·exact h.prev m hm hk
  ·dsimp only at hk ⊢
   rw[oK]at hk
   have h2:n.kind≠2:=λh2=>by unfold Node.bG at hk;rw[h2]at hk;simp at hk
   unfold Node.stored Node.cellOf;rw[if_neg h2,if_pos hk];simp[Node.bare]
 ·intro m hm hk
  rw[hz,He,Ur]at hm
  rcases hm with hm|rfl
  ·exact h.status m hm hk
  ·dsimp only at hk ⊢
   rw[dB]at hk
   unfold Node.stored Node.cellOf;rw[if_neg (by omega),if_neg (by unfold Node.bG;rw[hk];decide),if_pos hk];simp[Node.bare]
 ·rw[jP,List.filter_append,List.pairwise_append]
  refine⟨h.sort,?_,?_⟩
  ·rw[Zj];split<;>simp
  ·intro a ha c hc
   rw[List.mem_filter]at ha hc
   rw[Ur]at hc
   obtain⟨rfl,hc⟩:=hc
   obtain⟨la,hla⟩:=QS h ha.1
   obtain⟨τ,hτ⟩:=Od la ha.2
   have:=lT (h.cell _ hla τ hτ)
   rw[MO]at hc
   rw[Lg hc];dsimp only at this;omega
 ·rw[(mG g n i b).1,(mG g n i b).2,cV,cV,vX,h.len]
 ·rw[Az,jP,cV,cV,h.Ak];rfl
 ·intro r b' hr h0
  by_cases hc:r<=g.count
  ·have N1:mZ g r b':=by
    have h3:=qH hr.two
    unfold mZ at hr ⊢
    rw[xY.node hc,xY.label hc h3]at hr;exact hr
   rw[xY.node hc,xY.first h (h.oH N1)]at h0 ⊢
   exact(h.DL r b' N1 h0).ge xY
  ·have h1:=hr.bX
   unfold Ga.count at hc h1
   rw[jP,cV,fR]at h1
   obtain rfl:r=(g.nodes.length:Int)+3:=by omega
   have hm:n.bG=true:=by have:=hr.1;rwa [eG,oK]at this
   obtain rfl:b=b':=by have:=hr.2;rwa [uB h]at this
   have h2:n.kind≠2:=λh2=>by unfold Node.bG at hm;rw[h2]at hm;simp at hm
   have ef:(g.alloc n i b).first ((g.alloc n i b).node (g.nodes.length+3)).prev=i:=by
    rw[eG]
    unfold Node.stored Ga.first
    rw[if_neg h2,if_pos hm,(mG g n i b).2]
    unfold Node.gQ
    rw[if_neg h2,if_pos hm,cK,tN (by rw[h.len];dsimp only;omega),h.len]
    dsimp only
    rw[show ((g.ty.length:Int)+1).toNat -1-g.ty.length=0 by omega];rfl
   rw[ef]at h0 ⊢
   exact((hi.2.1 hm).resolve_left h0).ge xY
theorem Mw{g:Ga}(h:GW g)(τ:dD)(i:Int):GW (g.cell τ i):=by
 have xY:=Ga.uP h τ i
 exact⟨λm hm=>(h.node m hm).ge xY,λm hm τ hτ=>xY.dZ (h.cell m hm τ hτ),h.main,h.prev,h.status,h.sort,by simp[Ga.cell,h.len],h.Ak,λr b hr h0=>by
  have N1:mZ g r b:=hr
  rw[show (g.cell τ i).node r=g.node r from rfl,xY.first h (h.oH N1)]at h0 ⊢
  exact(h.DL r b N1 h0).ge xY⟩
theorem BE{g:Ga}(h:GW g):GW g.bL:=by
 have xY:=Ga.uX h
 exact⟨λm hm=>(h.node m hm).ge xY,λm hm τ hτ=>xY.dZ (h.cell m hm τ hτ),h.main,h.prev,h.status,h.sort,h.len,h.Ak,λr b hr h0=>(h.DL r b hr h0).ge xY⟩
end Go.Ct
end
section
namespace Go.Ct
def yW(n:Node)(i r:Int)(k:Nat):Int×Bool:=if(k:Int)=i then(r,decide (r>0))else aB n k
def bW(n:Node)(i r:Int):Nat->Nat×List Int
 |0=>(0,[])
 |k+1=>bif (yW n i r k).2 then(Bm.cR (bW n i r k).1 k,(bW n i r k).2++[(yW n i r k).1])else bW n i r k
theorem Yk(n:Node)(i r:Int):∀k,(bW n i r k).1<18446744073709551616/\(bW n i r k).2.length<=k
 |0=>⟨by show (0:Nat)<_;decide,aW _⟩
 |k+1=>by
  obtain⟨h1,h2⟩:=Yk n i r k
  rw[bW]
  cases (yW n i r k).2 with
  |true=>exact⟨Bm.kH _ _ h1,by simp;omega⟩
  |false=>exact⟨h1,by show (bW n i r k).2.length<=k+1;omega⟩
theorem Vv(n:Node)(i r:Int)(nb:Nat)(bl:List Int)(hl:bl.length=Bm.pop 64 nb)(KU:∀k,k<64->(yW n i r k).2=nb.testBit k/\(nb.testBit k=true->(yW n i r k).1=bl.getD (Bm.pop k nb) 0)):
  ∀k,k<=64->(∀j,(bW n i r k).1.testBit j=(decide (j<k)&&nb.testBit j))/\(bW n i r k).2=bl.take (Bm.pop k nb)
 |0,_=>⟨λj=>by simp[bW],by simp[bW,Bm.pop]⟩
 |k+1,hk=>by
  obtain⟨h1,h2⟩:=Vv n i r nb bl hl KU k (by omega)
  obtain⟨g1,g2⟩:=KU k (by omega)
  rw[bW,g1,Bm.cQ]
  cases hb:nb.testBit k with
  |true=>
   have hlt:Bm.pop k nb<bl.length:=by
    rw[hl]
    have:=rH (63-k) (k+1) nb
    rw[show k+1+(63-k)=64 by omega,Bm.cQ,hb]at this
    simp at this;omega
   refine⟨λj=>?_,?_⟩
   ·show (Bm.cR (bW n i r k).1 k).testBit j=_
    rw[Bm.iN _ k (by omega),h1]
    by_cases hj:k=j
    ·subst hj;simp[hb]
    ·by_cases Em:j<k
     ·simp[hj,Em,show j<k+1 by omega]
     ·simp[hj,Em,show ¬j<k+1 by omega]
   ·show (bW n i r k).2++[(yW n i r k).1]=_
    rw[h2,g2 hb,show (Bm.pop k nb+true.toNat)=Bm.pop k nb+1 from rfl,V9 hlt,cK,fV hlt];rfl
  |false=>
   refine⟨λj=>?_,?_⟩
   ·show (bW n i r k).1.testBit j=_
    rw[h1]
    by_cases hj:k=j
    ·subst hj;simp[hb]
    ·by_cases Em:j<k
     ·simp[Em,show j<k+1 by omega]
     ·simp[Em,show ¬j<k+1 by omega]
   ·show (bW n i r k).2=_
    rw[h2];rfl
theorem Dj{n:Node}{i r:Int}{nb:Nat}{bl:List Int}(hn:nb<18446744073709551616)(hl:bl.length=Bm.pop 64 nb)(KU:∀k,k<64->(yW n i r k).2=nb.testBit k/\(nb.testBit k=true->(yW n i r k).1=bl.getD (Bm.pop k nb) 0)):
  bW n i r 64=(nb,bl):=by
 obtain⟨h1,h2⟩:=Vv n i r nb bl hl KU 64 (aW _)
 refine Prod.ext ?_ ?_
 ·refine Nat.eq_of_testBit_eq λj=>?_
  rw[h1]
  by_cases hj:j<64
  ·simp[hj]
  ·have:nb.testBit j=false:=Nat.testBit_lt_two_pow (Lz hn (by rw[show 18446744073709551616=2^64 from rfl];exact Nat.pow_le_pow_right (by decide) (by omega)))
   simp[hj,this]
 ·rw[h2,<- hl,xW (aW _)]
theorem mS{n:Node}(hc:n.oT=true){k:Nat}(hk:k<64):aB n k=if n.aC.testBit k then(n.aA.getD (Bm.pop k n.aC) 0,true)else(0,false):=by
 unfold aB
 rw[Bm.nY _ _ hk,hc]
 have e:Bm.aN n.aC (k:Int)=Bm.pop k n.aC:=by
  unfold Bm.aN Bm.cut
  by_cases h0:k=0
  ·subst h0;simp
  ·rw[if_neg (by omega),if_neg (by omega)];simp
 rw[e]
 cases n.aC.testBit k<;>simp
theorem Ns{b:Nat}{i:Nat}(hi:i<64):Bm.aN b (i:Int)=Bm.pop i b:=by
 unfold Bm.aN Bm.cut
 by_cases h0:i=0
 ·subst h0;simp
 ·rw[if_neg (by omega),if_neg (by omega)];simp
theorem Oa{b:Nat}:∀{i k:Nat},i<=k->Bm.pop i b<=Bm.pop k b:=λ{i k} h=>by
 have:=rH (k-i) i b
 rwa [show i+(k-i)=k by omega]at this
theorem sJ{b i k:Nat}(h:b.testBit i=true)(hk:i<k):Bm.pop i b<Bm.pop k b:=by
 have h1:Bm.pop (i+1) b=Bm.pop i b+1:=by rw[Bm.cQ,h];rfl
 have:=Oa (b:=b) (show i+1<=k by omega)
 omega
theorem Aq{n:Node}(hc:n.oT=true):n.aA.length=Bm.pop 64 n.aC:=(iJ hc).2
theorem nS{n:Node}{i r:Int}(hf:n.aC<18446744073709551616)(h:(aB n i).2=true)(hr:1<=r):(aM n i r)=({kind:=3,aC:=(bW n i r 64).1,aA:=(bW n i r 64).2},true):=by
 have hc:n.oT=true:=by
  unfold aB at h;split at h
  ·cases h
  ·rename_i q;simp at q;exact q.1
 have hh:Bm.has n.aC i=true:=by
  unfold aB at h;split at h
  ·cases h
  ·rename_i q;simp at q;exact q.2
 have hi:0<=i/\i<64:=by unfold Bm.has at hh;simp at hh;omega
 obtain⟨j,rfl⟩:=vL hi.1
 have hj:j<64:=by omega
 have hb:n.aC.testBit j=true:=by rw[<- Bm.nY _ _ hj];exact hh
 have hl:=Aq hc
 have hp:Bm.pop j n.aC<n.aA.length:=by rw[hl];exact sJ hb hj
 unfold aM
 rw[if_neg (by simp[hc,hh];omega),Ns hj]
 rw[Dj (nb:=n.aC) (bl:=n.aA.take (Bm.pop j n.aC)++r::n.aA.drop (Bm.pop j n.aC+1)) hf (by simp;omega)]
 intro k hk
 unfold yW
 by_cases e:(k:Int)=(j:Int)
 ·have e:k=j:=by omega
  subst e
  rw[if_pos rfl,hb]
  refine⟨by simp;omega,λ_=>?_⟩
  rw[cK,tN (by rw[lI];omega),lI,Hc (by omega),Nat.sub_self];rfl
 ·rw[if_neg e,mS hc hk]
  cases hbk:n.aC.testBit k with
  |false=>exact⟨rfl,λh=>by cases h⟩
  |true=>
   refine⟨rfl,λ_=>?_⟩
   show n.aA.getD (Bm.pop k n.aC) 0=_
   rw[cK,cK]
   by_cases hkj:k<j
   ·have:=sJ hbk hkj
    rw[vS (by rw[lI];omega),DN,if_pos this]
   ·have:=sJ hb (show j<k by omega)
    rw[tN (by rw[lI];omega),lI,Hc (by omega)]
    obtain⟨d,hd⟩:∃d,Bm.pop k n.aC=Bm.pop j n.aC+1+d:=⟨Bm.pop k n.aC-Bm.pop j n.aC-1,by omega⟩
    rw[hd,show Bm.pop j n.aC+1+d-Bm.pop j n.aC=d+1 by omega,Mb,WA]
theorem zB{n:Node}{i r:Int}(hf:n.aC<18446744073709551616)(hc:n.oT=true)(h:(aB n i).2=false)(h0:0<=i)(h1:i<=63)(hr:1<=r):(aO n i r)=({kind:=3,aC:=(bW n i r 64).1,aA:=(bW n i r 64).2},true):=by
 obtain⟨j,rfl⟩:=vL h0
 have hj:j<64:=by omega
 have hb:n.aC.testBit j=false:=by
  rw[mS hc hj]at h
  cases hb:n.aC.testBit j with
  |false=>rfl
  |true=>rw[hb]at h;cases h
 have hh:Bm.has n.aC (j:Int)=false:=by rw[Bm.nY _ _ hj];exact hb
 have hl:=Aq hc
 have hpw:=Bm.vV n.aC j hj
 have hpl:Bm.pop j n.aC<=n.aA.length:=by rw[hl];exact Oa (by omega)
 unfold aO
 rw[if_neg (by simp[hc,hh];omega),Ns hj]
 rw[Dj (nb:=Bm.cR n.aC j) (bl:=n.aA.take (Bm.pop j n.aC)++r::n.aA.drop (Bm.pop j n.aC)) (Bm.kH _ _ hf) (by rw[hpw,if_pos ⟨hj,hb⟩];simp;omega)]
 intro k hk
 unfold yW
 rw[Bm.iN _ j hj]
 by_cases e:(k:Int)=(j:Int)
 ·have e:k=j:=by omega
  subst e
  rw[if_pos rfl]
  refine⟨by simp;omega,λ_=>?_⟩
  rw[hpw,if_neg (by omega),cK,tN (by rw[lI];omega),lI,Hc (by omega),P1,Nat.sub_self];rfl
 ·rw[if_neg e,mS hc hk]
  cases hbk:n.aC.testBit k with
  |false=>exact⟨by simp;omega,λh=>by simp at h;omega⟩
  |true=>
   refine⟨by simp,λ_=>?_⟩
   show n.aA.getD (Bm.pop k n.aC) 0=_
   rw[cK,cK,hpw]
   by_cases hkj:k<j
   ·have:=sJ hbk hkj
    rw[if_neg (by omega),vS (by rw[lI];omega),P1,DN,if_pos this]
   ·have:=Oa (b:=n.aC) (show j<=k by omega)
    rw[if_pos ⟨by omega,hb⟩,tN (by rw[lI];omega),lI,Hc (by omega)]
    obtain⟨d,hd⟩:∃d,Bm.pop k n.aC=Bm.pop j n.aC+d:=⟨Bm.pop k n.aC-Bm.pop j n.aC,by omega⟩
    rw[hd,show Bm.pop j n.aC+d+1-Bm.pop j n.aC=d+1 by omega,Mb,WA]
theorem Eo(b x:Nat)(hx:x<64)(hb:b.testBit x=true):∀y,Bm.pop y b=Bm.pop y (Bm.lJ b x)+if x<y then 1 else 0
 |0=>by simp[Bm.pop]
 |y+1=>by
  rw[Bm.cQ,Bm.cQ,Eo b x hx hb y,Bm.nB b x hx]
  by_cases h1:x<y
  ·simp[h1,show x<y+1 by omega,show x≠y by omega];omega
  ·by_cases h2:x=y
   ·subst h2;simp[hb]
   ·simp[h1,show ¬x<y+1 by omega,h2]
theorem Cd{n:Node}{i:Int}(hf:n.aC<18446744073709551616)(h:(aB n i).2=true):(cG n i)=({kind:=3,aC:=(bW n i 0 64).1,aA:=(bW n i 0 64).2},true):=by
 have hc:n.oT=true:=by
  unfold aB at h;split at h
  ·cases h
  ·rename_i q;simp at q;exact q.1
 have hh:Bm.has n.aC i=true:=by
  unfold aB at h;split at h
  ·cases h
  ·rename_i q;simp at q;exact q.2
 have hi:0<=i/\i<64:=by unfold Bm.has at hh;simp at hh;omega
 obtain⟨j,rfl⟩:=vL hi.1
 have hj:j<64:=by omega
 have hb:n.aC.testBit j=true:=by rw[<- Bm.nY _ _ hj];exact hh
 have hl:=Aq hc
 have hp:Bm.pop j n.aC<n.aA.length:=by rw[hl];exact sJ hb hj
 have hpw:=Eo n.aC j hj hb
 unfold cG
 rw[if_neg (by simp[hc,hh];omega),Ns hj]
 rw[Dj (nb:=Bm.lJ n.aC j) (bl:=n.aA.take (Bm.pop j n.aC)++n.aA.drop (Bm.pop j n.aC+1)) (Bm.Lj _ _ hf) (by have:=hpw 64;rw[if_pos hj]at this;simp;omega)]
 intro k hk
 unfold yW
 rw[Bm.nB _ j hj]
 by_cases e:(k:Int)=(j:Int)
 ·have e:k=j:=by omega
  subst e
  rw[if_pos rfl]
  exact⟨by simp,λh=>by simp at h⟩
 ·rw[if_neg e,mS hc hk]
  cases hbk:n.aC.testBit k with
  |false=>exact⟨by simp,λh=>by simp at h⟩
  |true=>
   refine⟨by simp;omega,λ_=>?_⟩
   show n.aA.getD (Bm.pop k n.aC) 0=_
   rw[cK,cK]
   have S4:=hpw k
   by_cases hkj:k<j
   ·have:=sJ hbk hkj
    rw[if_neg (by omega)]at S4
    rw[vS (by rw[lI];omega),DN,if_pos (by omega)]
    congr 2
   ·have:=sJ hb (show j<k by omega)
    rw[if_pos (by omega)]at S4
    rw[tN (by rw[lI];omega),lI,Hc (by omega),WA]
    congr 2;omega
end Go.Ct
namespace Go.Ct
structure VF(n:Node):Prop where
 kind:1<=n.kind/\n.kind<=8
 main:0<=n.main
 prev:0<=n.prev
 status:0<=n.status
 gen:n.kind=2->1<=n.gen
 count:n.kind=3->n.aA.length=Bm.pop 64 n.aC
 branch:n.kind=3->∀k,k<n.aA.length->1<=n.aA.getD k 0
 key:n.kind=4\/n.kind=5->n.key.size<=64
 aH:n.kind=6->2<=n.aH.length
 pJ:n.kind=6->aU n.aH=true
 short:n.kind=6->nA n.aH=true
 dO:n.kind=7\/n.kind=8->1<=n.dO
 desc:n.kind=8->1<=n.aS/\1<=n.new
theorem iW{n:Node}(h:n.valid=true):VF n:=by
 unfold Node.valid at h
 split at h
 ·cases h
 ·rename_i h0
  simp only[not_or,Uy]at h0
  refine⟨by omega,by omega,by omega,by omega,?_,?_,?_,?_,?_,?_,?_,?_,?_⟩
  ·intro hk;rw[if_pos hk]at h;exact dH h
  ·intro hk;rw[if_neg (by omega),if_pos hk]at h;simp at h;exact h.2
  ·intro hk;rw[if_neg (by omega),if_pos hk]at h;simp at h
   intro k hlt
   rw[cK,fV hlt];exact h.1 _ (uY hlt)
  ·intro hk;rw[if_neg (by omega),if_neg (by omega),if_pos hk]at h;exact dH h
  ·intro hk;rw[if_neg (by omega),if_neg (by omega),if_neg (by omega),if_pos hk]at h;simp at h;exact h.1
  ·intro hk;rw[if_neg (by omega),if_neg (by omega),if_neg (by omega),if_pos hk]at h;simp at h;exact h.2.1
  ·intro hk;rw[if_neg (by omega),if_neg (by omega),if_neg (by omega),if_pos hk]at h;simp at h;exact h.2.2
  ·rintro(hk|hk)
   ·rw[if_neg (by omega),if_neg (by omega),if_neg (by omega),if_neg (by omega),if_pos hk]at h;exact dH h
   ·rw[if_neg (by omega),if_neg (by omega),if_neg (by omega),if_neg (by omega),if_neg (by omega),if_pos hk]at h;simp at h;exact h.1
  ·intro hk;rw[if_neg (by omega),if_neg (by omega),if_neg (by omega),if_neg (by omega),if_neg (by omega),if_pos hk]at h;simp at h;exact h.2
theorem d5{n:Node}(h:(n.kind==3)=false):n.oT=false:=by unfold Node.oT;rw[h];rfl
theorem CF{n:Node}(h:(n.kind==3)=true)(hv:n.valid=true):n.oT=true:=by unfold Node.oT;rw[h,hv];rfl
theorem A4{n:Node}(h:(n.kind==6)=false):n.Tq=false:=by unfold Node.Tq;rw[h];rfl
theorem Np{n:Node}(h:(n.kind==6)=true)(hv:n.valid=true):n.Tq=true:=by unfold Node.Tq;rw[h,hv];rfl
theorem AN{n:Node}{i:Int}(h:n.oT=false):aB n i=(0,false):=by unfold aB;rw[if_pos (.inl h)]
theorem Jj{n:Node}{i:Int}(h:Bm.has n.aC i=false):aB n i=(0,false):=by unfold aB;rw[if_pos (.inr h)]
theorem z5{n:Node}{i:Int}(hc:n.oT=true)(h:Bm.has n.aC i=true):aB n i=(n.aA.getD (Bm.aN n.aC i) 0,true):=by unfold aB;rw[if_neg (by simp[hc,h])]
theorem aBx{n:Node}{i:Int}(hc:n.oT=true)(h:Bm.has n.aC i=true):Bm.aN n.aC i<n.aA.length:=by rw[Aq hc];exact Ig h
structure NF(n:Node):Prop where
 br:n.aA.length<=1000000
 pr:n.aH.length<=1000000000000
 bm:n.aC<18446744073709551616
 hs:n.hash<18446744073709551616
 ks:n.key.size<=64
 v3:n.kind=3->n.valid=true
 v6:n.kind=6->n.valid=true
theorem Node.Fit.nf{L:Nat}{n:Node}(h:n.Fit L)(hL:L<=900000000000):NF n:=⟨h.1.1,by have:=h.1.2.1;omega,h.1.2.2.1,h.1.2.2.2.1,h.2,λhk=>h.1.2.2.2.2.2.2 (.inl hk),λhk=>h.1.2.2.2.2.2.2 (.inr hk)⟩
end Go.Ct
namespace Go.Ct
theorem I9{n:Node}(h:n.oT=false):iP n=(0,false):=by unfold iP;rw[if_pos (.inl h)]
theorem C9{n:Node}(h:n.aA.length≠1):iP n=(0,false):=by unfold iP;rw[if_pos (.inr h)]
theorem I4{n:Node}(hc:n.oT=true)(h:n.aA.length=1):iP n=(n.aA.getD 0 0,true):=by unfold iP;rw[if_neg (by simp[hc,h])]
theorem aC6{n:Node}(h:n.kind≠5):aP n=({},false):=by unfold aP;rw[if_neg h]
theorem n8{n:Node}(h:n.kind=5):aP n=(Oj n,true):=by unfold aP;rw[if_pos h]
theorem C0{n s:Node}{l:Int}(h:(iP n).2=true)(hl:0<l)(hk:s.kind=4):bI n l s=LH s:=by unfold bI;rw[if_pos ⟨hl,h,hk⟩]
theorem K0{n s:Node}{l:Int}(h:(iP n).2=false):bI n l s=n:=by unfold bI;rw[if_neg (by rw[h];simp)]
theorem I6{n s:Node}{l:Int}(h:¬0<l):bI n l s=n:=by unfold bI;rw[if_neg (λx=>h x.1)]
theorem A7{n s:Node}{l:Int}(h:s.kind≠4):bI n l s=n:=by unfold bI;rw[if_neg (λx=>h x.2.2)]
end Go.Ct
namespace Go.Ct
def Ew(n:Node)(i r:Int):Node:={kind:=3,aC:=(bW n i r 64).1,aA:=(bW n i r 64).2}
theorem aBz{n:Node}{i r:Int}{k bm:Nat}{out:List Int}(he:((k:Int)==i)=true)(hr:decide ((r:Int)>0)=true)(hW:(bm,out)=bW n i r k):(Bm.cR bm (k:Int),out++[r])=bW n i r (k+1):=by
 rw[bW];unfold yW;rw[if_pos (eq_of_beq he),hr,<- hW];rfl
theorem aIt{n:Node}{i r:Int}{k bm:Nat}{out:List Int}(he:((k:Int)==i)=true)(hr:decide ((r:Int)>0)=false)(hW:(bm,out)=bW n i r k):(bm,out)=bW n i r (k+1):=by
 rw[bW];unfold yW;rw[if_pos (eq_of_beq he),hr,<- hW];rfl
theorem aB2{n:Node}{i r:Int}{k bm:Nat}{out:List Int}(he:((k:Int)==i)=false)(hr:(aB n (k:Int)).2=true)(hW:(bm,out)=bW n i r k):(Bm.cR bm (k:Int),out++[(aB n (k:Int)).1])=bW n i r (k+1):=by
 rw[bW];unfold yW;rw[if_neg (by simpa using he),hr,<- hW];rfl
theorem aIf{n:Node}{i r:Int}{k bm:Nat}{out:List Int}(he:((k:Int)==i)=false)(hr:(aB n (k:Int)).2=false)(hW:(bm,out)=bW n i r k):(bm,out)=bW n i r (k+1):=by
 rw[bW];unfold yW;rw[if_neg (by simpa using he),hr,<- hW];rfl
theorem AB{n:Node}{i:Int}(h:(aB n i).2=true):n.oT=true/\Bm.has n.aC i=true:=by
 unfold aB at h;split at h
 ·cases h
 ·rename_i q;simpa using q
theorem Sa{n:Node}{i r:Int}(h:n.oT=false\/(aB n i).2=true\/(i<0\/63<i\/r<1)):aO n i r=({},false):=by
 unfold aO;rw[if_pos]
 rcases h with h|h|h
 ·exact .inl h
 ·exact .inr (.inr (.inr (.inr (AB h).2)))
 ·rcases h with h|h|h
  ·exact .inr (.inl h)
  ·exact .inr (.inr (.inl h))
  ·exact .inr (.inr (.inr (.inl h)))
theorem FO{n:Node}{i:Int}(h:(aB n i).2=false):n.oT=false\/Bm.has n.aC i=false:=by
 unfold aB at h;split at h
 ·assumption
 ·cases h
theorem J0{n:Node}{i r:Int}(h:(aB n i).2=false\/r<1):aM n i r=({},false):=by
 unfold aM;rw[if_pos]
 rcases h with h|h
 ·rcases FO h with h|h
  ·exact .inl h
  ·exact .inr (.inr (.inr (.inr h)))
 ·exact .inr (.inr (.inr (.inl h)))
theorem aD2{n:Node}{i:Int}(h:(aB n i).2=false):cG n i=({},false):=by
 unfold cG;rw[if_pos]
 rcases FO h with h|h
 ·exact .inl h
 ·exact .inr (.inr (.inr h))
def QV(n:Node)(key:ByteArray)(v:Nat):Node:={kind:=6,hash:=n.hash,aH:=oQ n.aH key v}
theorem QY{n:Node}{key:ByteArray}{v:Nat}(h:n.Tq=false\/64<key.size):grown n key v=({},false):=by unfold grown;rw[if_pos h]
theorem ON{n:Node}{key:ByteArray}{v:Nat}(h:n.Tq=true)(hk:¬64<key.size):grown n key v=(QV n key v,true):=by unfold grown;rw[if_neg (by simp[h];omega)];rfl
end Go.Ct
namespace Go.Ct
def TC(n:Node)(key:ByteArray):Node:={kind:=5,hash:=n.hash,key:=((jR n.aH key).getD 0 ⟨.empty,0⟩).key,value:=((jR n.aH key).getD 0 ⟨.empty,0⟩).value}
def CI(n:Node)(key:ByteArray):Node:={kind:=6,hash:=n.hash,aH:=jR n.aH key}
theorem aIp{n:Node}{key:ByteArray}(h:(bN n.aH key).2=false):jH n key=({},false):=by unfold jH;rw[if_pos (.inr h)]
theorem ZZ{n:Node}{key:ByteArray}(hi:n.Tq=true)(h:(bN n.aH key).2=true)(hl:(jR n.aH key).length=1):jH n key=(TC n key,true):=by
 unfold jH TC;rw[if_neg (by simp[hi,h])]
 match hp:jR n.aH key,hl with
 |[p],_=>rfl
theorem TP{n:Node}{key:ByteArray}(hi:n.Tq=true)(h:(bN n.aH key).2=true)(hl:(jR n.aH key).length≠1):jH n key=(CI n key,true):=by
 unfold jH CI;rw[if_neg (by simp[hi,h])]
 match hp:jR n.aH key,hl with
 |[],_=>rfl
 |[p],hl=>exact absurd rfl hl
 |p::q::l,_=>rfl
end Go.Ct
end
