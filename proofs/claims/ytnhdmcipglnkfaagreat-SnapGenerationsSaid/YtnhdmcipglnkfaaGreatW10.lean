/- Parts of a proof: Rq. -/
import Derived.Test.YtnhdmcipglnkfaaGreatW09
set_option linter.unusedVariables false
set_option linter.unusedSimpArgs false
set_option maxRecDepth 100000
set_option maxHeartbeats 4000000
section
namespace Go.Ct
theorem Cm:∀l:List bN,aQ l=true↔l.Pairwise λa b=>dM a.key b.key=true
 |[]=>by simp[aQ]
 |a::l=>by
  rw[List.pairwise_cons,<- Cm l]
  refine⟨λh=>⟨Qm h,zZ h⟩,λh=>?_⟩
  cases l with
  |nil=>rfl
  |cons b l=>rw[aQ,Qb];exact⟨h.1 b (by simp),h.2⟩
theorem tP:∀a b:List UInt8,Op.bytesLess a b=false->a≠b->Op.bytesLess b a=true
 |[],[],_,h=>absurd rfl h
 |[],_::_,h,_=>by simp[Op.bytesLess]at h
 |_::_,[],_,_=>by simp[Op.bytesLess]
 |x::a,y::b,h,k=>by
  unfold Op.bytesLess at h ⊢
  simp only[Bool.or_eq_false_iff,Bool.and_eq_false_iff,Bool.or_eq_true,Qb,Ft,decide_eq_false_iff_not,mQ]at h ⊢
  by_cases h2:y<x
  ·exact .inl h2
  ·have e:x=y:=UInt8.le_antisymm (UInt8.not_lt.1 h2) (UInt8.not_lt.1 h.1)
   subst e
   refine .inr ⟨rfl,tP a b ?_ λe=>k (by rw[e])⟩
   rcases h.2 with h3|h3
   ·simp at h3
   ·exact h3
theorem vN{a b:ByteArray}(h:dM a b=false)(k:bR a b=false):dM b a=true:=
 tP _ _ h (by unfold bR at k;simpa using k)
theorem Si{l:List bN}{j:Nat}{q:bN}(h:q∈l.take j):∃m,m<j/\m<l.length/\q=iE l m:=by
 obtain⟨m,hm,rfl⟩:=List.mem_iff_getElem.1 h
 rw[jI]at hm
 refine⟨m,by omega,by omega,?_⟩
 simp[iE,fM (show m<l.length by omega)]
theorem Ql{l:List bN}{j:Nat}{q:bN}(h:q∈l.drop j):∃m,j<=m/\m<l.length/\q=iE l m:=by
 obtain⟨m,hm,rfl⟩:=List.mem_iff_getElem.1 h
 rw[Xs]at hm
 refine⟨j+m,by omega,by omega,?_⟩
 simp[iE,fM (show j+m<l.length by omega)]
theorem UE(l:List bN)(j:Nat)(h:j<l.length)(v:Nat):(l.take j++(⟨(iE l j).key,v⟩:bN)::l.drop (j+1)).map (·.key)=l.map (·.key):=by
 have e:((iE l j).key:ByteArray)=(l.map (·.key))[j]'(by simpa using h):=by simp[iE,fM h]
 rw[An,GL,List.map_take,List.map_drop]
 show (l.map (·.key)).take j++(iE l j).key::(l.map (·.key)).drop (j+1)=_
 rw[e,<- qR,RF]
theorem Em(l:List bN)(key:ByteArray)(v:Nat)(h:aQ l=true):aQ (mC l key v)=true:=by
 unfold mC
 rw[if_neg (by rw[h];decide)]
 have hl:=(Cm l).1 h
 split
 ·rename_i hp
  unfold iZ at hp
  rw[Qb,Ft]at hp
  rw[Cm,<- List.pairwise_map (f:=λq:bN=>q.key) (R:=λa b=>dM a b=true),UE l _ hp.1,List.pairwise_map]
  exact hl
 ·rename_i hp
  rw[Cm,List.pairwise_append,List.pairwise_cons]
  have up:∀q∈l.drop (aZ l key),dM key q.key=true:=λq hq=>by
   obtain⟨m,h1,h2,rfl⟩:=Ql hq
   have hj:aZ l key<l.length:=by omega
   have a1:=Dl l key hj
   have a2:bR (iE l (aZ l key)).key key=false:=by
    unfold iZ at hp
    simp only[Qb,Ft,not_and,Bool.not_eq_true]at hp
    exact hp hj
   have a3:=vN a1 a2
   rcases Nat.eq_or_lt_of_le h1 with e|hlt
   ·rw[<- e];exact a3
   ·exact kA a3 (Eh l h _ _ hlt h2)
  refine⟨hl.sublist (List.take_sublist _ _),⟨up,hl.sublist (List.drop_sublist _ _)⟩,λa ha b hb=>?_⟩
  obtain⟨m,h1,h2,rfl⟩:=Si ha
  have a1:=wG l key m h1
  rcases List.mem_cons.1 hb with rfl|hb
  ·exact a1
  ·exact kA a1 (up b hb)
theorem Ve(l:List bN)(key:ByteArray)(v:Nat)(h:aQ l=true):l.length<=(mC l key v).length/\(mC l key v).length<=l.length+1:=by
 unfold mC
 rw[if_neg (by rw[h];decide)]
 have:=sE l key
 split
 ·rename_i hp
  unfold iZ at hp
  rw[Qb,Ft]at hp
  simp[jI,Xs];omega
 ·simp[jI,Xs];omega
theorem Ob(l:List bN)(key:ByteArray)(v:Nat)(P:ByteArray->Prop)(h:∀q∈l,P q.key)(hk:P key):∀q∈mC l key v,P q.key:=by
 unfold mC
 split
 ·intro q hq;cases hq
 ·split
  ·rename_i hp
   unfold iZ at hp
   rw[Qb,Ft]at hp
   intro q hq
   rw[tX,List.mem_cons]at hq
   rcases hq with hq|rfl|hq
   ·exact h q (RD hq)
   ·show P (iE l (aZ l key)).key
    refine h _ ?_
    unfold iE;rw[dI,fM hp.1];exact wU hp.1
   ·exact h q (Br hq)
  ·intro q hq
   rw[tX,List.mem_cons]at hq
   rcases hq with hq|rfl|hq
   ·exact h q (RD hq)
   ·exact hk
   ·exact h q (Br hq)
theorem zV(l:List bN)(key:ByteArray)(h:aQ l=true):aQ (gX l key)=true:=by
 unfold gX
 rw[if_neg (by rw[h];decide)]
 split
 ·rw[Cm]
  have hl:=(Cm l).1 h
  refine hl.sublist ?_
  conv=>rhs;rw[<- RF (aZ l key) l]
  refine List.Sublist.append (List.Sublist.refl _) ?_
  rw[<- List.drop_drop]
  exact List.drop_sublist _ _
 ·exact h
theorem Dp(l:List bN)(key:ByteArray)(h:aQ l=true):(gX l key).length<=l.length/\l.length<=(gX l key).length+1:=by
 unfold gX
 rw[if_neg (by rw[h];decide)]
 split
 ·simp[jI,Xs];omega
 ·omega
theorem Df(l:List bN)(key:ByteArray):∀q∈gX l key,q∈l:=by
 unfold gX
 split
 ·intro q hq;cases hq
 ·split
  ·intro q hq
   rw[tX]at hq
   exact hq.elim RD Br
  ·exact λq hq=>hq
theorem uX(a b:bN)(h:bR a.key b.key=false):aQ (gG a b)=true:=by
 unfold gG
 cases hk:dM b.key a.key with
 |true=>simp[aQ,hk]
 |false=>
  have:bR b.key a.key=false:=by
   unfold bR at h ⊢;simp only[beq_eq_false_iff_ne]at h ⊢;exact λe=>h e.symm
  simp[aQ,vN hk this]
theorem jF(l:List bN):kS l=true↔∀q∈l,q.key.size<=64:=by
 unfold kS;simp
theorem nP:∀m n x,Bm.pop n x<=Bm.pop (n+m) x
 |0,n,x=>JV _
 |m+1,n,x=>lK (nP m n x) (by rw[<- Nat.add_assoc,Bm.cZ];omega)
theorem Ij{b:Nat}{i:Int}(h:Bm.has b i=true):Bm.aO b i<Bm.pop 64 b:=by
 unfold Bm.has at h
 simp only[Qb,Ft]at h
 obtain⟨h0,h1,h2⟩:=h
 obtain⟨x,rfl⟩:=BO h0
 have hx:x<64:=by omega
 have e:Bm.aO b (x:Int)=Bm.pop x b:=by
  unfold Bm.aO Bm.cut
  by_cases z:(x:Int)<=0
  ·have:x=0:=by omega
   subst this;rfl
  ·rw[if_neg z,if_neg (by omega)];rfl
 have s:=Bm.cZ x b
 have m:=nP (64-(x+1)) (x+1) b
 rw[show x+1+(64-(x+1))=64 by omega]at m
 have hb:b.testBit x=true:=h2
 rw[hb]at s
 simp at s
 omega
theorem LR(b:Nat)(i:Int):Bm.aO b i<=Bm.pop 64 b:=by
 unfold Bm.aO
 have hc:Bm.cut i<=64:=by unfold Bm.cut;split;omega;split<;>omega
 have:=nP (64-Bm.cut i) (Bm.cut i) b
 rwa [show Bm.cut i+(64-Bm.cut i)=64 by omega]at this
theorem Hk{b:Nat}{i:Int}(h0:0<=i)(h1:i<64)(h:Bm.has b i=false):Bm.pop 64 (Bm.cI b i)=Bm.pop 64 b+1:=by
 obtain⟨x,rfl⟩:=BO h0
 have hx:x<64:=by omega
 rw[Bm.rQ b x hx 64,if_pos ⟨hx,by rwa [Bm.nI b x hx]at h⟩]
theorem Uw{b:Nat}{i:Int}(h0:0<=i)(h1:i<64)(h:Bm.has b i=true):Bm.pop 64 b=Bm.pop 64 (Bm.jD b i)+1:=by
 obtain⟨x,rfl⟩:=BO h0
 have hx:x<64:=by omega
 have hb:b.testBit x=true:=by rwa [Bm.nI b x hx]at h
 have e:=Bm.rQ (Bm.jD b x) x hx 64
 rw[Bm.Su b x hx,Bm.rQ b x hx 64]at e
 have h2:(Bm.jD b (x:Int)).testBit x=false:=by rw[Bm.kW b x hx x];simp
 rw[if_neg (by rw[hb];simp),if_pos ⟨hx,h2⟩]at e
 exact e
theorem GK{i:Int}(h0:0<=i)(h1:i<64):Bm.pop 64 (Bm.cI 0 i)=1:=by
 rw[Hk h0 h1 (by unfold Bm.has;simp)]
 decide+kernel
theorem dD(h:Nat)(l:Int):0<=slice h l/\slice h l<64:=by
 unfold slice;split<;>omega
theorem Uu{i k:Int}(h0:0<=i)(h1:i<64)(k0:0<=k)(k1:k<64)(hne:i≠k):Bm.has (Bm.cI 0 i) k=false:=by
 obtain⟨x,rfl⟩:=BO h0
 obtain⟨y,rfl⟩:=BO k0
 rw[Bm.IW 0 x y (by omega) (by omega)]
 have:x≠y:=λe=>hne (by rw[e])
 unfold Bm.has;simp[this]
def Node.Fit(L:Nat)(n:Node):Prop:=n.fits L/\n.key.size<=64
theorem Node.Fit.mono{L M:Nat}{n:Node}(h:n.Fit L)(hLM:L<=M):n.Fit M:=⟨h.1.mono hLM,h.2⟩
theorem bG(L:Nat)(k g o e w:Int)(h:k≠3/\k≠6:=by decide):Node.Fit L {kind:=k,gen:=g,dC:=o,aK:=e,new:=w}:=⟨BV L k g o e w h,by show (0:Nat)<=64;decide⟩
theorem nT(L:Nat):Node.Fit L {}:=bG L 0 0 0 0 0
theorem fY(L:Nat):Node.Fit L {kind:=3}:=⟨BN L,by show (0:Nat)<=64;decide⟩
theorem iF(L:Nat)(k:Int)(h:Nat)(key:ByteArray)(v:Nat)(hk:k≠3/\k≠6)(hh:h<18446744073709551616)(hs:key.size<=64):Node.Fit L {kind:=k,hash:=h,key:=key,value:=v}:=
 ⟨⟨dF _,dF _,by show (0:Nat)<_;decide,hh,by show key.size<=_;omega,(λp hp=>by cases hp),λh=>absurd h (by rintro(h1|h1);exact hk.1 h1;exact hk.2 h1)⟩,hs⟩
theorem ND{n:Node}(h:n.lO=true):n.kind=3/\n.valid=true:=by unfold Node.lO at h;simpa using h
theorem Nc(L b:Nat)(l:List Int)(hb:b<18446744073709551616)(h1:∀x∈l,1<=x)(h2:l.length=Bm.pop 64 b):Node.Fit L {kind:=3,aD:=b,aA:=l}:=by
 have hp:=Bm.lR 64 b
 refine⟨⟨by show l.length<=_;omega,dF _,hb,by show (0:Nat)<_;decide,by show (0:Nat)<=_;decide,(λp hp=>by cases hp),λ_=>?_⟩,by show (0:Nat)<=64;decide⟩
 show Node.valid {kind:=3,aD:=b,aA:=l,prev:=0}=true
 rw[EZ b l 0 (JA _)]
 simp only[Qb,wB,Ft,mQ]
 exact⟨h1,h2⟩
theorem Yz(L h:Nat)(l:List bN)(hh:h<18446744073709551616)(h0:2<=l.length)(h1:l.length<=L+2)(h2:aQ l=true)(h3:∀q∈l,q.key.size<=64):Node.Fit L {kind:=6,hash:=h,aF:=l}:=by
 refine⟨⟨dF _,h1,by show (0:Nat)<_;decide,hh,by show (0:Nat)<=_;decide,(λp hp=>by have:=h3 p hp;omega),λ_=>?_⟩,by show (0:Nat)<=64;decide⟩
 show Node.valid {kind:=6,hash:=h,aF:=l,prev:=0}=true
 rw[SC h l 0 (JA _)]
 simp only[Qb,Ft]
 exact⟨h0,h2,(jF l).2 h3⟩
theorem kF{n:Node}(h:n.lO=true):(∀x∈n.aA,1<=x)/\n.aA.length=Bm.pop 64 n.aD:=by
 obtain⟨hk,hv⟩:=ND h
 obtain⟨_,_,_,_,h1,h2⟩:=WX hk hv
 exact⟨by simpa using h1,h2⟩
theorem fH{L:Nat}{n:Node}(h:n.Fit L)(i r:Int):(aP n i r).1.Fit L:=by
 unfold aP
 split
 ·exact nT L
 ·rename_i hc
  simp only[not_or,sX,Int.not_lt]at hc
  obtain⟨b1,b2⟩:=kF hc.1
  have hp:=Ij hc.2.2.2.2
  refine Nc L _ _ h.1.2.2.1 (λx hx=>?_) ?_
  ·rw[tX,List.mem_cons]at hx
   rcases hx with hx|rfl|hx
   ·exact b1 x (RD hx)
   ·omega
   ·exact b1 x (Br hx)
  ·simp[jI,Xs];omega
theorem eB{L:Nat}{n:Node}(h:n.Fit L)(i r:Int):(aS n i r).1.Fit L:=by
 unfold aS
 split
 ·exact nT L
 ·rename_i hc
  simp only[not_or,sX,Int.not_lt,Bool.not_eq_true]at hc
  obtain⟨b1,b2⟩:=kF hc.1
  have hp:=LR n.aD i
  refine Nc L _ _ (Bm.iM _ _ h.1.2.2.1) (λx hx=>?_) ?_
  ·rw[tX,List.mem_cons]at hx
   rcases hx with hx|rfl|hx
   ·exact b1 x (RD hx)
   ·omega
   ·exact b1 x (Br hx)
  ·rw[Hk (by omega) (by omega) hc.2.2.2.2]
   simp[jI,Xs];omega
theorem eW{L:Nat}{n:Node}(h:n.Fit L)(i:Int):(bL n i).1.Fit L:=by
 unfold bL
 split
 ·exact nT L
 ·rename_i hc
  simp only[not_or,sX,Int.not_lt]at hc
  obtain⟨b1,b2⟩:=kF hc.1
  have hp:=Ij hc.2.2.2
  have hq:=Uw (b:=n.aD) (i:=i) (by omega) (by omega) hc.2.2.2
  refine Nc L _ _ (Bm.Dz _ _ h.1.2.2.1) (λx hx=>?_) ?_
  ·rw[tX]at hx
   exact hx.elim (λhx=>b1 x (RD hx)) λhx=>b1 x (Br hx)
  ·simp[jI,Xs];omega
theorem DN{L:Nat}{n:Node}(h:n.Fit L):(AV n).Fit L:=iF L 5 _ _ _ (by decide) h.1.2.2.2.1 h.2
theorem Qy{L:Nat}{n:Node}(h:n.Fit L):(Xf n).Fit L:=iF L 4 _ _ _ (by decide) h.1.2.2.2.1 h.2
theorem fA{L:Nat}{c s:Node}(h:c.Fit L)(k:s.Fit L)(l:Int):(bQ c l s).Fit L:=by
 unfold bQ;split
 ·exact DN k
 ·exact h
theorem tL{L:Nat}{n:Node}(h:n.Fit L):(aT n).1.Fit L:=by
 unfold aT;split
 ·exact Qy h
 ·exact nT L
theorem vF{n:Node}(h:n.Kx=true):n.kind=6/\n.valid=true:=by unfold Node.Kx at h;simpa using h
theorem Ch{L:Nat}{n:Node}(h:n.Fit L)(key:ByteArray)(v:Nat):(grown n key v).1.Fit (L+1):=by
 unfold grown;split
 ·exact nT _
 ·rename_i hc
  simp only[not_or,sX,Nat.not_lt]at hc
  obtain⟨hk,hv⟩:=vF hc.1
  obtain⟨_,_,_,_,h1,h2,h3⟩:=NB hk hv
  have hl:=Ve n.aF key v h2
  have:=h.1.2.1
  exact Yz (L+1) _ _ h.1.2.2.2.1 (by omega) (by omega) (Em _ _ _ h2) (Ob _ _ _ (λk=>k.size<=64) ((jF _).1 h3) hc.2)
theorem pH{L:Nat}{n:Node}(h:n.Fit L)(key:ByteArray):(gC n key).1.Fit L:=by
 unfold gC;split
 ·exact nT _
 ·rename_i hc
  simp only[not_or,sX]at hc
  obtain⟨hk,hv⟩:=vF hc.1
  obtain⟨_,_,_,_,h1,h2,h3⟩:=NB hk hv
  have hl:=Dp n.aF key h2
  have hs:=zV n.aF key h2
  have hm:=Df n.aF key
  have h3:=(jF _).1 h3
  have:=h.1.2.1
  split
  ·rename_i p hp
   exact iF L 5 _ _ _ (by decide) h.1.2.2.2.1 (h3 p (hm p (by rw[hp];simp)))
  ·rename_i l hp
   refine Yz L _ _ h.1.2.2.2.1 ?_ (by omega) hs λq hq=>h3 q (hm q hq)
   match hq:gX n.aF key with
   |[]=>rw[hq]at hl;simp at hl;omega
   |[p]=>exact absurd hq (hp p)
   |a::b::l=>simp
theorem pV{n:Node}{i:Int}(h:(aB n i).2=true):1<=(aB n i).1:=by
 unfold aB at h ⊢
 split at h
 ·cases h
 ·rename_i hc
  rw[if_neg hc]
  simp only[not_or,sX]at hc
  obtain⟨b1,b2⟩:=kF hc.1
  have hp:=Ij hc.2
  refine b1 _ ?_
  show n.aA.getD (Bm.aO n.aD i) 0∈n.aA
  rw[dI,fM (by omega)]
  exact wU _
theorem lV(h k:Nat):∀n l,jJ h k n l<=l+n/\(jJ h k n l<l+n->slice h (jJ h k n l:Nat)≠slice k (jJ h k n l:Nat))
 |0,l=>⟨JV _,λh=>absurd h (Nat.lt_irrefl _)⟩
 |n+1,l=>by
  unfold jJ
  split
  ·have:=lV h k n (l+1)
   exact⟨by omega,λh=>this.2 (by omega)⟩
  ·rename_i hne;exact⟨by omega,λ_=>hne⟩
theorem KS(L:Nat)(i a k b:Int)(h0:0<=i)(h1:i<64)(k0:0<=k)(k1:k<64)(hne:i≠k)(ha:1<=a)(hb:1<=b):(fX i a k b).Fit L:=by
 refine Nc L _ _ (Bm.iM _ _ (Bm.iM _ _ (by decide))) ?_ ?_
 ·intro x hx
  split at hx<;>simp at hx<;>rcases hx with rfl|rfl<;>assumption
 ·rw[Hk k0 k1 (Uu h0 h1 k0 k1 hne),GK h0 h1]
  split<;>rfl
theorem FL(L:Nat)(i r:Int)(h0:0<=i)(h1:i<64)(hr:1<=r):Node.Fit L {kind:=3,aD:=Bm.cI 0 i,aA:=[r]}:=
 Nc L _ _ (Bm.iM _ _ (by decide)) (λx hx=>by simp at hx;omega) (by rw[GK h0 h1];rfl)
theorem zA(L h:Nat)(gen first:Int)(hf:1<=first):∀(n:Nat) (k:Int) (l:List (Node×Int)),1<=l.length->(∀z∈l,z.1.Fit L)->(∀z∈eZ h gen first k n l,z.1.Fit L)/\(eZ h gen first k n l).length=l.length+2*n/\l<+:eZ h gen first k n l
 |0,k,l,_,hl=>⟨hl,rfl,Qa _⟩
 |n+1,k,l,h1,hl=>by
  unfold eZ
  obtain⟨g1,g2,g3⟩:=zA L h gen first hf n (k-1) (l++[({kind:=2,gen:=gen},first+l.length-1),({kind:=3,aD:=Bm.cI 0 (slice h (k-1)),aA:=[first+l.length-1+1]},0)]) (by simp) (λz hz=>by
   rw[tX]at hz
   rcases hz with hz|hz
   ·exact hl z hz
   ·simp only[List.mem_cons,List.not_mem_nil,or_false]at hz
    rcases hz with rfl|rfl
    ·exact bG L 2 gen 0 0 0
    ·exact FL L _ _ (dD _ _).1 (dD _ _).2 (by show (1:Int)<=first+l.length-1+1;omega))
  exact⟨g1,by rw[g2];simp;omega,(zG _ _).trans g3⟩
theorem nJ(L:Nat)(x:Node)(at_:Int)(h:Nat)(key:ByteArray)(v:Nat)(level gen first:Int)(hf:1<=first)(ha:1<=at_)(hx:x.key.size<=64)(hk:key.size<=64)(hh:h<18446744073709551616)(hne:bR x.key key=false)(hl:0<=level):
  (∀z∈bT x at_ h key v level gen first,z.1.Fit L)/\(bT x at_ h key v level gen first).length<=24:=by
 unfold bT
 dsimp only
 have hc:=lV x.hash h 11 0
 have he:aJ x.hash h=jJ x.hash h 11 0:=rfl
 split
 ·obtain⟨g1,g2,_⟩:=zA L h gen first hf (11-level).toNat 11 [({kind:=6,hash:=h,aF:=gG ⟨x.key,x.value⟩ ⟨key,v⟩},0)] (by simp) (λz hz=>by
   rw[cE]at hz;subst hz
   have hlen:(gG ⟨x.key,x.value⟩ ⟨key,v⟩).length=2:=by unfold gG;split<;>rfl
   refine Yz L _ _ hh (by omega) (by omega) (uX _ _ hne) λq hq=>?_
   unfold gG at hq
   split at hq<;>simp at hq<;>rcases hq with rfl|rfl<;>assumption)
  exact⟨g1,by rw[g2];simp;omega⟩
 ·rename_i hlt
  obtain⟨g1,g2,_⟩:=zA L h gen first hf ((aJ x.hash h:Int)-level).toNat (aJ x.hash h) [({kind:=4,hash:=h,key:=key,value:=v},0),(fX (slice x.hash (aJ x.hash h)) at_ (slice h (aJ x.hash h)) first,0)] (by simp) (λz hz=>by
   simp only[List.mem_cons,List.not_mem_nil,or_false]at hz
   rcases hz with rfl|rfl
   ·exact iF L 4 _ _ _ (by decide) hh hk
   ·exact KS L _ _ _ _ (dD _ _).1 (dD _ _).2 (dD _ _).1 (dD _ _).2 (by rw[he];exact hc.2 (by rw[he]at hlt;omega)) ha hf)
  exact⟨g1,by rw[g2];simp;omega⟩
end Go.Ct
end
