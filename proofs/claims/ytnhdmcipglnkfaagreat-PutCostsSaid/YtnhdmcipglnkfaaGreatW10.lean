/- Parts of a proof: Rq. -/
import Derived.Test.YtnhdmcipglnkfaaGreatW09
set_option linter.unusedVariables false
set_option linter.unusedSimpArgs false
set_option maxRecDepth 100000
set_option maxHeartbeats 4000000
section
namespace Go.Ct
theorem Ii:∀l:List bA,aU l=true↔l.Pairwise λa b=>dW a.key b.key=true
 |[]=>by simp[aU]
 |a::l=>by
  rw[List.pairwise_cons,<- Ii l]
  refine⟨λh=>⟨Nl h,Gb h⟩,λh=>?_⟩
  cases l with
  |nil=>rfl
  |cons b l=>rw[aU,pM];exact⟨h.1 b (by simp),h.2⟩
theorem xQ:∀a b:List UInt8,Op.bytesLess a b=false->a≠b->Op.bytesLess b a=true
 |[],[],_,h=>absurd rfl h
 |[],_::_,h,_=>by simp[Op.bytesLess]at h
 |_::_,[],_,_=>by simp[Op.bytesLess]
 |x::a,y::b,h,k=>by
  unfold Op.bytesLess at h ⊢
  simp only[Bool.or_eq_false_iff,Bool.and_eq_false_iff,Bool.or_eq_true,pM,Gx,decide_eq_false_iff_not,Ae]at h ⊢
  by_cases h2:y<x
  ·exact .inl h2
  ·have e:x=y:=UInt8.le_antisymm (UInt8.not_lt.1 h2) (UInt8.not_lt.1 h.1)
   subst e
   refine .inr ⟨rfl,xQ a b ?_ λe=>k (by rw[e])⟩
   rcases h.2 with h3|h3
   ·simp at h3
   ·exact h3
theorem yQ{a b:ByteArray}(h:dW a b=false)(k:bO a b=false):dW b a=true:=
 xQ _ _ h (by unfold bO at k;simpa using k)
theorem BB{l:List bA}{j:Nat}{q:bA}(h:q∈l.take j):∃m,m<j/\m<l.length/\q=kA l m:=by
 obtain⟨m,hm,rfl⟩:=List.mem_iff_getElem.1 h
 rw[lI]at hm
 refine⟨m,by omega,by omega,?_⟩
 simp[kA,fV (show m<l.length by omega)]
theorem Zt{l:List bA}{j:Nat}{q:bA}(h:q∈l.drop j):∃m,j<=m/\m<l.length/\q=kA l m:=by
 obtain⟨m,hm,rfl⟩:=List.mem_iff_getElem.1 h
 rw[Bp]at hm
 refine⟨j+m,by omega,by omega,?_⟩
 simp[kA,fV (show j+m<l.length by omega)]
theorem U1(l:List bA)(j:Nat)(h:j<l.length)(v:Nat):(l.take j++(⟨(kA l j).key,v⟩:bA)::l.drop (j+1)).map (·.key)=l.map (·.key):=by
 have e:((kA l j).key:ByteArray)=(l.map (·.key))[j]'(by simpa using h):=by simp[kA,fV h]
 rw[Md,KP,List.map_take,List.map_drop]
 show (l.map (·.key)).take j++(kA l j).key::(l.map (·.key)).drop (j+1)=_
 rw[e,<- UM,i7]
theorem Lh(l:List bA)(key:ByteArray)(v:Nat)(h:aU l=true):aU (oQ l key v)=true:=by
 unfold oQ
 rw[if_neg (by rw[h];decide)]
 have hl:=(Ii l).1 h
 split
 ·rename_i hp
  unfold lG at hp
  rw[pM,Gx]at hp
  rw[Ii,<- List.pairwise_map (f:=λq:bA=>q.key) (R:=λa b=>dW a b=true),U1 l _ hp.1,List.pairwise_map]
  exact hl
 ·rename_i hp
  rw[Ii,List.pairwise_append,List.pairwise_cons]
  have up:∀q∈l.drop (bB l key),dW key q.key=true:=λq hq=>by
   obtain⟨m,h1,h2,rfl⟩:=Zt hq
   have hj:bB l key<l.length:=by omega
   have a1:=Ia l key hj
   have a2:bO (kA l (bB l key)).key key=false:=by
    unfold lG at hp
    simp only[pM,Gx,not_and,Bool.not_eq_true]at hp
    exact hp hj
   have a3:=yQ a1 a2
   rcases Nat.eq_or_lt_of_le h1 with e|hlt
   ·rw[<- e];exact a3
   ·exact mO a3 (Ka l h _ _ hlt h2)
  refine⟨hl.sublist (List.take_sublist _ _),⟨up,hl.sublist (List.drop_sublist _ _)⟩,λa ha b hb=>?_⟩
  obtain⟨m,h1,h2,rfl⟩:=BB ha
  have a1:=Ax l key m h1
  rcases List.mem_cons.1 hb with rfl|hb
  ·exact a1
  ·exact mO a1 (up b hb)
theorem HF(l:List bA)(key:ByteArray)(v:Nat)(h:aU l=true):l.length<=(oQ l key v).length/\(oQ l key v).length<=l.length+1:=by
 unfold oQ
 rw[if_neg (by rw[h];decide)]
 have:=vW l key
 split
 ·rename_i hp
  unfold lG at hp
  rw[pM,Gx]at hp
  simp[lI,Bp];omega
 ·simp[lI,Bp];omega
theorem Xy(l:List bA)(key:ByteArray)(v:Nat)(P:ByteArray->Prop)(h:∀q∈l,P q.key)(hk:P key):∀q∈oQ l key v,P q.key:=by
 unfold oQ
 split
 ·intro q hq;cases hq
 ·split
  ·rename_i hp
   unfold lG at hp
   rw[pM,Gx]at hp
   intro q hq
   rw[He,List.mem_cons]at hq
   rcases hq with hq|rfl|hq
   ·exact h q (NQ hq)
   ·show P (kA l (bB l key)).key
    refine h _ ?_
    unfold kA;rw[cK,fV hp.1];exact uY hp.1
   ·exact h q (UC hq)
  ·intro q hq
   rw[He,List.mem_cons]at hq
   rcases hq with hq|rfl|hq
   ·exact h q (NQ hq)
   ·exact hk
   ·exact h q (UC hq)
theorem Gj(l:List bA)(key:ByteArray)(h:aU l=true):aU (jR l key)=true:=by
 unfold jR
 rw[if_neg (by rw[h];decide)]
 split
 ·rw[Ii]
  have hl:=(Ii l).1 h
  refine hl.sublist ?_
  conv=>rhs;rw[<- i7 (bB l key) l]
  refine List.Sublist.append (List.Sublist.refl _) ?_
  rw[<- List.drop_drop]
  exact List.drop_sublist _ _
 ·exact h
theorem Iy(l:List bA)(key:ByteArray)(h:aU l=true):(jR l key).length<=l.length/\l.length<=(jR l key).length+1:=by
 unfold jR
 rw[if_neg (by rw[h];decide)]
 split
 ·simp[lI,Bp];omega
 ·omega
theorem Ie(l:List bA)(key:ByteArray):∀q∈jR l key,q∈l:=by
 unfold jR
 split
 ·intro q hq;cases hq
 ·split
  ·intro q hq
   rw[He]at hq
   exact hq.elim NQ UC
  ·exact λq hq=>hq
theorem yM(a b:bA)(h:bO a.key b.key=false):aU (gE a b)=true:=by
 unfold gE
 cases hk:dW b.key a.key with
 |true=>simp[aU,hk]
 |false=>
  have:bO b.key a.key=false:=by
   unfold bO at h ⊢;simp only[beq_eq_false_iff_ne]at h ⊢;exact λe=>h e.symm
  simp[aU,yQ hk this]
theorem lO(l:List bA):nA l=true↔∀q∈l,q.key.size<=64:=by
 unfold nA;simp
theorem rH:∀m n x,Bm.pop n x<=Bm.pop (n+m) x
 |0,n,x=>aW _
 |m+1,n,x=>kR (rH m n x) (by rw[<- Nat.add_assoc,Bm.cQ];omega)
theorem Ig{b:Nat}{i:Int}(h:Bm.has b i=true):Bm.aN b i<Bm.pop 64 b:=by
 unfold Bm.has at h
 simp only[pM,Gx]at h
 obtain⟨h0,h1,h2⟩:=h
 obtain⟨x,rfl⟩:=vL h0
 have hx:x<64:=by omega
 have e:Bm.aN b (x:Int)=Bm.pop x b:=by
  unfold Bm.aN Bm.cut
  by_cases z:(x:Int)<=0
  ·have:x=0:=by omega
   subst this;rfl
  ·rw[if_neg z,if_neg (by omega)];rfl
 have s:=Bm.cQ x b
 have m:=rH (64-(x+1)) (x+1) b
 rw[show x+1+(64-(x+1))=64 by omega]at m
 have hb:b.testBit x=true:=h2
 rw[hb]at s
 simp at s
 omega
theorem o8(b:Nat)(i:Int):Bm.aN b i<=Bm.pop 64 b:=by
 unfold Bm.aN
 have hc:Bm.cut i<=64:=by unfold Bm.cut;split;omega;split<;>omega
 have:=rH (64-Bm.cut i) (Bm.cut i) b
 rwa [show Bm.cut i+(64-Bm.cut i)=64 by omega]at this
theorem Pq{b:Nat}{i:Int}(h0:0<=i)(h1:i<64)(h:Bm.has b i=false):Bm.pop 64 (Bm.cR b i)=Bm.pop 64 b+1:=by
 obtain⟨x,rfl⟩:=vL h0
 have hx:x<64:=by omega
 rw[Bm.vV b x hx 64,if_pos ⟨hx,by rwa [Bm.nY b x hx]at h⟩]
theorem FD{b:Nat}{i:Int}(h0:0<=i)(h1:i<64)(h:Bm.has b i=true):Bm.pop 64 b=Bm.pop 64 (Bm.lJ b i)+1:=by
 obtain⟨x,rfl⟩:=vL h0
 have hx:x<64:=by omega
 have hb:b.testBit x=true:=by rwa [Bm.nY b x hx]at h
 have e:=Bm.vV (Bm.lJ b x) x hx 64
 rw[Bm.BM b x hx,Bm.vV b x hx 64]at e
 have h2:(Bm.lJ b (x:Int)).testBit x=false:=by rw[Bm.nB b x hx x];simp
 rw[if_neg (by rw[hb];simp),if_pos ⟨hx,h2⟩]at e
 exact e
theorem RD{i:Int}(h0:0<=i)(h1:i<64):Bm.pop 64 (Bm.cR 0 i)=1:=by
 rw[Pq h0 h1 (by unfold Bm.has;simp)]
 decide+kernel
theorem dI(h:Nat)(l:Int):0<=slice h l/\slice h l<64:=by
 unfold slice;split<;>omega
theorem EX{i k:Int}(h0:0<=i)(h1:i<64)(k0:0<=k)(k1:k<64)(xL:i≠k):Bm.has (Bm.cR 0 i) k=false:=by
 obtain⟨x,rfl⟩:=vL h0
 obtain⟨y,rfl⟩:=vL k0
 rw[Bm.WX 0 x y (by omega) (by omega)]
 have:x≠y:=λe=>xL (by rw[e])
 unfold Bm.has;simp[this]
def Node.Fit(L:Nat)(n:Node):Prop:=n.fits L/\n.key.size<=64
theorem Node.Fit.mono{L M:Nat}{n:Node}(h:n.Fit L)(hLM:L<=M):n.Fit M:=⟨h.1.mono hLM,h.2⟩
theorem bP(L:Nat)(k g o e w:Int)(h:k≠3/\k≠6:=by decide):Node.Fit L {kind:=k,gen:=g,dO:=o,aS:=e,new:=w}:=⟨NO L k g o e w h,by show (0:Nat)<=64;decide⟩
theorem rD(L:Nat):Node.Fit L {}:=bP L 0 0 0 0 0
theorem iS(L:Nat):Node.Fit L {kind:=3}:=⟨PH L,by show (0:Nat)<=64;decide⟩
theorem kE(L:Nat)(k:Int)(h:Nat)(key:ByteArray)(v:Nat)(hk:k≠3/\k≠6)(hh:h<18446744073709551616)(hs:key.size<=64):Node.Fit L {kind:=k,hash:=h,key:=key,value:=v}:=
 ⟨⟨bZ _,bZ _,by show (0:Nat)<_;decide,hh,by show key.size<=_;omega,(λp hp=>by cases hp),λh=>absurd h (by rintro(h1|h1);exact hk.1 h1;exact hk.2 h1)⟩,hs⟩
theorem H3{n:Node}(h:n.oT=true):n.kind=3/\n.valid=true:=by unfold Node.oT at h;simpa using h
theorem Xv(L b:Nat)(l:List Int)(hb:b<18446744073709551616)(h1:∀x∈l,1<=x)(h2:l.length=Bm.pop 64 b):Node.Fit L {kind:=3,aC:=b,aA:=l}:=by
 have hp:=Bm.lW 64 b
 refine⟨⟨by show l.length<=_;omega,bZ _,hb,by show (0:Nat)<_;decide,by show (0:Nat)<=_;decide,(λp hp=>by cases hp),λ_=>?_⟩,by show (0:Nat)<=64;decide⟩
 show Node.valid {kind:=3,aC:=b,aA:=l,prev:=0}=true
 rw[SP b l 0 (Int.le_refl _)]
 simp only[pM,MY,Gx,Ae]
 exact⟨h1,h2⟩
theorem DK(L h:Nat)(l:List bA)(hh:h<18446744073709551616)(h0:2<=l.length)(h1:l.length<=L+2)(h2:aU l=true)(h3:∀q∈l,q.key.size<=64):Node.Fit L {kind:=6,hash:=h,aH:=l}:=by
 refine⟨⟨bZ _,h1,by show (0:Nat)<_;decide,hh,by show (0:Nat)<=_;decide,(λp hp=>by have:=h3 p hp;omega),λ_=>?_⟩,by show (0:Nat)<=64;decide⟩
 show Node.valid {kind:=6,hash:=h,aH:=l,prev:=0}=true
 rw[U9 h l 0 (Int.le_refl _)]
 simp only[pM,Gx]
 exact⟨h0,h2,(lO l).2 h3⟩
theorem iJ{n:Node}(h:n.oT=true):(∀x∈n.aA,1<=x)/\n.aA.length=Bm.pop 64 n.aC:=by
 obtain⟨hk,hv⟩:=H3 h
 obtain⟨_,_,_,_,h1,h2⟩:=aDj hk hv
 exact⟨by simpa using h1,h2⟩
theorem fY{L:Nat}{n:Node}(h:n.Fit L)(i r:Int):(aM n i r).1.Fit L:=by
 unfold aM
 split
 ·exact rD L
 ·rename_i hc
  simp only[not_or,Uy,Int.not_lt]at hc
  obtain⟨b1,b2⟩:=iJ hc.1
  have hp:=Ig hc.2.2.2.2
  refine Xv L _ _ h.1.2.2.1 (λx hx=>?_) ?_
  ·rw[He,List.mem_cons]at hx
   rcases hx with hx|rfl|hx
   ·exact b1 x (NQ hx)
   ·omega
   ·exact b1 x (UC hx)
  ·simp[lI,Bp];omega
theorem eO{L:Nat}{n:Node}(h:n.Fit L)(i r:Int):(aO n i r).1.Fit L:=by
 unfold aO
 split
 ·exact rD L
 ·rename_i hc
  simp only[not_or,Uy,Int.not_lt,Bool.not_eq_true]at hc
  obtain⟨b1,b2⟩:=iJ hc.1
  have hp:=o8 n.aC i
  refine Xv L _ _ (Bm.kH _ _ h.1.2.2.1) (λx hx=>?_) ?_
  ·rw[He,List.mem_cons]at hx
   rcases hx with hx|rfl|hx
   ·exact b1 x (NQ hx)
   ·omega
   ·exact b1 x (UC hx)
  ·rw[Pq (by omega) (by omega) hc.2.2.2.2]
   simp[lI,Bp];omega
theorem mQ{L:Nat}{n:Node}(h:n.Fit L)(i:Int):(cG n i).1.Fit L:=by
 unfold cG
 split
 ·exact rD L
 ·rename_i hc
  simp only[not_or,Uy,Int.not_lt]at hc
  obtain⟨b1,b2⟩:=iJ hc.1
  have hp:=Ig hc.2.2.2
  have hq:=FD (b:=n.aC) (i:=i) (by omega) (by omega) hc.2.2.2
  refine Xv L _ _ (Bm.Lj _ _ h.1.2.2.1) (λx hx=>?_) ?_
  ·rw[He]at hx
   exact hx.elim (λhx=>b1 x (NQ hx)) λhx=>b1 x (UC hx)
  ·simp[lI,Bp];omega
theorem OF{L:Nat}{n:Node}(h:n.Fit L):(LH n).Fit L:=kE L 5 _ _ _ (by decide) h.1.2.2.2.1 h.2
theorem Zq{L:Nat}{n:Node}(h:n.Fit L):(Oj n).Fit L:=kE L 4 _ _ _ (by decide) h.1.2.2.2.1 h.2
theorem iU{L:Nat}{c s:Node}(h:c.Fit L)(k:s.Fit L)(l:Int):(bI c l s).Fit L:=by
 unfold bI;split
 ·exact OF k
 ·exact h
theorem eQ{L:Nat}{n:Node}(h:n.Fit L):(aP n).1.Fit L:=by
 unfold aP;split
 ·exact Zq h
 ·exact rD L
theorem yF{n:Node}(h:n.Tq=true):n.kind=6/\n.valid=true:=by unfold Node.Tq at h;simpa using h
theorem vH{L:Nat}{n:Node}(h:n.Fit L)(key:ByteArray)(v:Nat):(grown n key v).1.Fit (L+1):=by
 unfold grown;split
 ·exact rD _
 ·rename_i hc
  simp only[not_or,Uy,Nat.not_lt]at hc
  obtain⟨hk,hv⟩:=yF hc.1
  obtain⟨_,_,_,_,h1,h2,h3⟩:=i3 hk hv
  have hl:=HF n.aH key v h2
  have:=h.1.2.1
  exact DK (L+1) _ _ h.1.2.2.2.1 (by omega) (by omega) (Lh _ _ _ h2) (Xy _ _ _ (λk=>k.size<=64) ((lO _).1 h3) hc.2)
theorem xJ{L:Nat}{n:Node}(h:n.Fit L)(key:ByteArray):(jH n key).1.Fit L:=by
 unfold jH;split
 ·exact rD _
 ·rename_i hc
  simp only[not_or,Uy]at hc
  obtain⟨hk,hv⟩:=yF hc.1
  obtain⟨_,_,_,_,h1,h2,h3⟩:=i3 hk hv
  have hl:=Iy n.aH key h2
  have hs:=Gj n.aH key h2
  have hm:=Ie n.aH key
  have h3:=(lO _).1 h3
  have:=h.1.2.1
  split
  ·rename_i p hp
   exact kE L 5 _ _ _ (by decide) h.1.2.2.2.1 (h3 p (hm p (by rw[hp];simp)))
  ·rename_i l hp
   refine DK L _ _ h.1.2.2.2.1 ?_ (by omega) hs λq hq=>h3 q (hm q hq)
   match hq:jR n.aH key with
   |[]=>rw[hq]at hl;simp at hl;omega
   |[p]=>exact absurd hq (hp p)
   |a::b::l=>simp
theorem uR{n:Node}{i:Int}(h:(aB n i).2=true):1<=(aB n i).1:=by
 unfold aB at h ⊢
 split at h
 ·cases h
 ·rename_i hc
  rw[if_neg hc]
  simp only[not_or,Uy]at hc
  obtain⟨b1,b2⟩:=iJ hc.1
  have hp:=Ig hc.2
  refine b1 _ ?_
  show n.aA.getD (Bm.aN n.aC i) 0∈n.aA
  rw[cK,fV (by omega)]
  exact uY _
theorem nD(h k:Nat):∀n l,lV h k n l<=l+n/\(lV h k n l<l+n->slice h (lV h k n l:Nat)≠slice k (lV h k n l:Nat))
 |0,l=>⟨aW _,λh=>absurd h (Nat.lt_irrefl _)⟩
 |n+1,l=>by
  unfold lV
  split
  ·have:=nD h k n (l+1)
   exact⟨by omega,λh=>this.2 (by omega)⟩
  ·rename_i xL;exact⟨by omega,λ_=>xL⟩
theorem XL(L:Nat)(i a k b:Int)(h0:0<=i)(h1:i<64)(k0:0<=k)(k1:k<64)(xL:i≠k)(ha:1<=a)(hb:1<=b):(iA i a k b).Fit L:=by
 refine Xv L _ _ (Bm.kH _ _ (Bm.kH _ _ (by decide))) ?_ ?_
 ·intro x hx
  split at hx<;>simp at hx<;>rcases hx with rfl|rfl<;>assumption
 ·rw[Pq k0 k1 (EX h0 h1 k0 k1 xL),RD h0 h1]
  split<;>rfl
theorem QQ(L:Nat)(i r:Int)(h0:0<=i)(h1:i<64)(hr:1<=r):Node.Fit L {kind:=3,aC:=Bm.cR 0 i,aA:=[r]}:=
 Xv L _ _ (Bm.kH _ _ (by decide)) (λx hx=>by simp at hx;omega) (by rw[RD h0 h1];rfl)
theorem De(L h:Nat)(gen first:Int)(hf:1<=first):∀(n:Nat) (k:Int) (l:List (Node×Int)),1<=l.length->(∀z∈l,z.1.Fit L)->(∀z∈gI h gen first k n l,z.1.Fit L)/\(gI h gen first k n l).length=l.length+2*n/\l<+:gI h gen first k n l
 |0,k,l,_,hl=>⟨hl,rfl,xI _⟩
 |n+1,k,l,h1,hl=>by
  unfold gI
  obtain⟨g1,g2,g3⟩:=De L h gen first hf n (k-1) (l++[({kind:=2,gen:=gen},first+l.length-1),({kind:=3,aC:=Bm.cR 0 (slice h (k-1)),aA:=[first+l.length-1+1]},0)]) (by simp) (λz hz=>by
   rw[He]at hz
   rcases hz with hz|hz
   ·exact hl z hz
   ·simp only[List.mem_cons,List.not_mem_nil,or_false]at hz
    rcases hz with rfl|rfl
    ·exact bP L 2 gen 0 0 0
    ·exact QQ L _ _ (dI _ _).1 (dI _ _).2 (by show (1:Int)<=first+l.length-1+1;omega))
  exact⟨g1,by rw[g2];simp;omega,(LQ _ _).trans g3⟩
theorem qV(L:Nat)(x:Node)(at_:Int)(h:Nat)(key:ByteArray)(v:Nat)(level gen first:Int)(hf:1<=first)(ha:1<=at_)(hx:x.key.size<=64)(hk:key.size<=64)(hh:h<18446744073709551616)(xL:bO x.key key=false)(hl:0<=level):
  (∀z∈bU x at_ h key v level gen first,z.1.Fit L)/\(bU x at_ h key v level gen first).length<=24:=by
 unfold bU
 dsimp only
 have hc:=nD x.hash h 11 0
 have he:aJ x.hash h=lV x.hash h 11 0:=rfl
 split
 ·obtain⟨g1,g2,_⟩:=De L h gen first hf (11-level).toNat 11 [({kind:=6,hash:=h,aH:=gE ⟨x.key,x.value⟩ ⟨key,v⟩},0)] (by simp) (λz hz=>by
   rw[Ur]at hz;subst hz
   have hlen:(gE ⟨x.key,x.value⟩ ⟨key,v⟩).length=2:=by unfold gE;split<;>rfl
   refine DK L _ _ hh (by omega) (by omega) (yM _ _ xL) λq hq=>?_
   unfold gE at hq
   split at hq<;>simp at hq<;>rcases hq with rfl|rfl<;>assumption)
  exact⟨g1,by rw[g2];simp;omega⟩
 ·rename_i hlt
  obtain⟨g1,g2,_⟩:=De L h gen first hf ((aJ x.hash h:Int)-level).toNat (aJ x.hash h) [({kind:=4,hash:=h,key:=key,value:=v},0),(iA (slice x.hash (aJ x.hash h)) at_ (slice h (aJ x.hash h)) first,0)] (by simp) (λz hz=>by
   simp only[List.mem_cons,List.not_mem_nil,or_false]at hz
   rcases hz with rfl|rfl
   ·exact kE L 4 _ _ _ (by decide) hh hk
   ·exact XL L _ _ _ _ (dI _ _).1 (dI _ _).2 (dI _ _).1 (dI _ _).2 (by rw[he];exact hc.2 (by rw[he]at hlt;omega)) ha hf)
  exact⟨g1,by rw[g2];simp;omega⟩
end Go.Ct
end
