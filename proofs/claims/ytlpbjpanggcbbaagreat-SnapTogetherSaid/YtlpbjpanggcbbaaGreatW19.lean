/- Parts of a proof: Ru. -/
import Derived.Test.YtlpbjpanggcbbaaGreatW10
set_option linter.unusedVariables false
set_option linter.unusedSimpArgs false
set_option maxRecDepth 100000
set_option maxHeartbeats 4000000
section
namespace Go.Ct
def wX(n:Node)(i r:Int)(k:Nat):Int×Bool:=if(k:Int)=i then(r,decide (r>0))else aB n k
def bW(n:Node)(i r:Int):Nat->Nat×List Int
 |0=>(0,[])
 |k+1=>bif (wX n i r k).2 then(Bm.cI (bW n i r k).1 k,(bW n i r k).2++[(wX n i r k).1])else bW n i r k
theorem Ni(n:Node)(i r:Int):∀k,(bW n i r k).1<18446744073709551616/\(bW n i r k).2.length<=k
 |0=>⟨by show (0:Nat)<_;decide,JV _⟩
 |k+1=>by
  obtain⟨h1,h2⟩:=Ni n i r k
  rw[bW]
  cases (wX n i r k).2 with
  |true=>exact⟨Bm.iM _ _ h1,by simp;omega⟩
  |false=>exact⟨h1,by show (bW n i r k).2.length<=k+1;omega⟩
theorem On(n:Node)(i r:Int)(nb:Nat)(bl:List Int)(hl:bl.length=Bm.pop 64 nb)(hat:∀k,k<64->(wX n i r k).2=nb.testBit k/\(nb.testBit k=true->(wX n i r k).1=bl.getD (Bm.pop k nb) 0)):
  ∀k,k<=64->(∀j,(bW n i r k).1.testBit j=(decide (j<k)&&nb.testBit j))/\(bW n i r k).2=bl.take (Bm.pop k nb)
 |0,_=>⟨λj=>by simp[bW],by simp[bW,Bm.pop]⟩
 |k+1,hk=>by
  obtain⟨h1,h2⟩:=On n i r nb bl hl hat k (by omega)
  obtain⟨g1,g2⟩:=hat k (by omega)
  rw[bW,g1,Bm.cZ]
  cases hb:nb.testBit k with
  |true=>
   have hlt:Bm.pop k nb<bl.length:=by
    rw[hl]
    have:=nP (63-k) (k+1) nb
    rw[show k+1+(63-k)=64 by omega,Bm.cZ,hb]at this
    simp at this;omega
   refine⟨λj=>?_,?_⟩
   ·show (Bm.cI (bW n i r k).1 k).testBit j=_
    rw[Bm.gL _ k (by omega),h1]
    by_cases hj:k=j
    ·subst hj;simp[hb]
    ·by_cases hjk:j<k
     ·simp[hj,hjk,show j<k+1 by omega]
     ·simp[hj,hjk,show ¬j<k+1 by omega]
   ·show (bW n i r k).2++[(wX n i r k).1]=_
    rw[h2,g2 hb,show (Bm.pop k nb+true.toNat)=Bm.pop k nb+1 from rfl,List.take_succ_eq_append_getElem hlt,Tx,DM hlt];rfl
  |false=>
   refine⟨λj=>?_,?_⟩
   ·show (bW n i r k).1.testBit j=_
    rw[h1]
    by_cases hj:k=j
    ·subst hj;simp[hb]
    ·by_cases hjk:j<k
     ·simp[hjk,show j<k+1 by omega]
     ·simp[hjk,show ¬j<k+1 by omega]
   ·show (bW n i r k).2=_
    rw[h2];rfl
theorem yK{n:Node}{i r:Int}{nb:Nat}{bl:List Int}(hn:nb<18446744073709551616)(hl:bl.length=Bm.pop 64 nb)(hat:∀k,k<64->(wX n i r k).2=nb.testBit k/\(nb.testBit k=true->(wX n i r k).1=bl.getD (Bm.pop k nb) 0)):
  bW n i r 64=(nb,bl):=by
 obtain⟨h1,h2⟩:=On n i r nb bl hl hat 64 (JV _)
 refine Prod.ext ?_ ?_
 ·refine Nat.eq_of_testBit_eq λj=>?_
  rw[h1]
  by_cases hj:j<64
  ·simp[hj]
  ·have:nb.testBit j=false:=Nat.testBit_lt_two_pow (lK hn (by rw[show 18446744073709551616=2^64 from rfl];exact Nat.pow_le_pow_right (by decide) (by omega)))
   simp[hj,this]
 ·rw[h2,<- hl,RF (JV _)]
theorem lQ{n:Node}(hc:n.lO=true){k:Nat}(hk:k<64):aB n k=if n.aD.testBit k then(n.aA.getD (Bm.pop k n.aD) 0,true)else(0,false):=by
 unfold aB
 rw[Bm.nI _ _ hk,hc]
 have e:Bm.aO n.aD (k:Int)=Bm.pop k n.aD:=by
  unfold Bm.aO Bm.cut
  by_cases h0:k=0
  ·subst h0;simp
  ·rw[if_neg (by omega),if_neg (by omega)];simp
 rw[e]
 cases n.aD.testBit k<;>simp
theorem Gr{b:Nat}{i:Nat}(hi:i<64):Bm.aO b (i:Int)=Bm.pop i b:=by
 unfold Bm.aO Bm.cut
 by_cases h0:i=0
 ·subst h0;simp
 ·rw[if_neg (by omega),if_neg (by omega)];simp
theorem Hr{b:Nat}:∀{i k:Nat},i<=k->Bm.pop i b<=Bm.pop k b:=λ{i k} h=>by
 have:=nP (k-i) i b
 rwa [show i+(k-i)=k by omega]at this
theorem oM{b i k:Nat}(h:b.testBit i=true)(hk:i<k):Bm.pop i b<Bm.pop k b:=by
 have h1:Bm.pop (i+1) b=Bm.pop i b+1:=by rw[Bm.cZ,h];rfl
 have:=Hr (b:=b) (show i+1<=k by omega)
 omega
theorem Ag{n:Node}(hc:n.lO=true):n.aA.length=Bm.pop 64 n.aD:=(hG hc).2
theorem qQ{n:Node}{i r:Int}(hf:n.aD<18446744073709551616)(h:(aB n i).2=true)(hr:1<=r):(aP n i r)=({kind:=3,aD:=(bW n i r 64).1,aA:=(bW n i r 64).2},true):=by
 have hc:n.lO=true:=by
  unfold aB at h;split at h
  ·cases h
  ·rename_i q;simp at q;exact q.1
 have hh:Bm.has n.aD i=true:=by
  unfold aB at h;split at h
  ·cases h
  ·rename_i q;simp at q;exact q.2
 have hi:0<=i/\i<64:=by unfold Bm.has at hh;simp at hh;omega
 obtain⟨j,rfl⟩:=RD hi.1
 have hj:j<64:=by omega
 have hb:n.aD.testBit j=true:=by rw[<- Bm.nI _ _ hj];exact hh
 have hl:=Ag hc
 have hp:Bm.pop j n.aD<n.aA.length:=by rw[hl];exact oM hb hj
 unfold aP
 rw[if_neg (by simp[hc,hh];omega),Gr hj]
 rw[yK (nb:=n.aD) (bl:=n.aA.take (Bm.pop j n.aD)++r::n.aA.drop (Bm.pop j n.aD+1)) hf (by simp;omega)]
 intro k hk
 unfold wX
 by_cases e:(k:Int)=(j:Int)
 ·have e:k=j:=by omega
  subst e
  rw[if_pos rfl,hb]
  refine⟨by simp;omega,λ_=>?_⟩
  rw[Tx,xD (by rw[dF];omega),dF,Hg (by omega),Nat.sub_self];rfl
 ·rw[if_neg e,lQ hc hk]
  cases hbk:n.aD.testBit k with
  |false=>exact⟨rfl,λh=>by cases h⟩
  |true=>
   refine⟨rfl,λ_=>?_⟩
   show n.aA.getD (Bm.pop k n.aD) 0=_
   rw[Tx,Tx]
   by_cases hkj:k<j
   ·have:=oM hbk hkj
    rw[DI (by rw[dF];omega),lC,if_pos this]
   ·have:=oM hb (show j<k by omega)
    rw[xD (by rw[dF];omega),dF,Hg (by omega)]
    obtain⟨d,hd⟩:∃d,Bm.pop k n.aD=Bm.pop j n.aD+1+d:=⟨Bm.pop k n.aD-Bm.pop j n.aD-1,by omega⟩
    rw[hd,show Bm.pop j n.aD+1+d-Bm.pop j n.aD=d+1 by omega,bD,WI]
theorem vB{n:Node}{i r:Int}(hf:n.aD<18446744073709551616)(hc:n.lO=true)(h:(aB n i).2=false)(h0:0<=i)(h1:i<=63)(hr:1<=r):(aS n i r)=({kind:=3,aD:=(bW n i r 64).1,aA:=(bW n i r 64).2},true):=by
 obtain⟨j,rfl⟩:=RD h0
 have hj:j<64:=by omega
 have hb:n.aD.testBit j=false:=by
  rw[lQ hc hj]at h
  cases hb:n.aD.testBit j with
  |false=>rfl
  |true=>rw[hb]at h;cases h
 have hh:Bm.has n.aD (j:Int)=false:=by rw[Bm.nI _ _ hj];exact hb
 have hl:=Ag hc
 have hpw:=Bm.rQ n.aD j hj
 have hpl:Bm.pop j n.aD<=n.aA.length:=by rw[hl];exact Hr (by omega)
 unfold aS
 rw[if_neg (by simp[hc,hh];omega),Gr hj]
 rw[yK (nb:=Bm.cI n.aD j) (bl:=n.aA.take (Bm.pop j n.aD)++r::n.aA.drop (Bm.pop j n.aD)) (Bm.iM _ _ hf) (by rw[hpw,if_pos ⟨hj,hb⟩];simp;omega)]
 intro k hk
 unfold wX
 rw[Bm.gL _ j hj]
 by_cases e:(k:Int)=(j:Int)
 ·have e:k=j:=by omega
  subst e
  rw[if_pos rfl]
  refine⟨by simp;omega,λ_=>?_⟩
  rw[hpw,if_neg (by omega),Tx,xD (by rw[dF];omega),dF,Hg (by omega),KQ,Nat.sub_self];rfl
 ·rw[if_neg e,lQ hc hk]
  cases hbk:n.aD.testBit k with
  |false=>exact⟨by simp;omega,λh=>by simp at h;omega⟩
  |true=>
   refine⟨by simp,λ_=>?_⟩
   show n.aA.getD (Bm.pop k n.aD) 0=_
   rw[Tx,Tx,hpw]
   by_cases hkj:k<j
   ·have:=oM hbk hkj
    rw[if_neg (by omega),DI (by rw[dF];omega),KQ,lC,if_pos this]
   ·have:=Hr (b:=n.aD) (show j<=k by omega)
    rw[if_pos ⟨by omega,hb⟩,xD (by rw[dF];omega),dF,Hg (by omega)]
    obtain⟨d,hd⟩:∃d,Bm.pop k n.aD=Bm.pop j n.aD+d:=⟨Bm.pop k n.aD-Bm.pop j n.aD,by omega⟩
    rw[hd,show Bm.pop j n.aD+d+1-Bm.pop j n.aD=d+1 by omega,bD,WI]
theorem Aw(b x:Nat)(hx:x<64)(hb:b.testBit x=true):∀y,Bm.pop y b=Bm.pop y (Bm.jD b x)+if x<y then 1 else 0
 |0=>by simp[Bm.pop]
 |y+1=>by
  rw[Bm.cZ,Bm.cZ,Aw b x hx hb y,Bm.kW b x hx]
  by_cases h1:x<y
  ·simp[h1,show x<y+1 by omega,show x≠y by omega];omega
  ·by_cases h2:x=y
   ·subst h2;simp[hb]
   ·simp[h1,show ¬x<y+1 by omega,h2]
theorem xV{n:Node}{i:Int}(hf:n.aD<18446744073709551616)(h:(aB n i).2=true):(bL n i)=({kind:=3,aD:=(bW n i 0 64).1,aA:=(bW n i 0 64).2},true):=by
 have hc:n.lO=true:=by
  unfold aB at h;split at h
  ·cases h
  ·rename_i q;simp at q;exact q.1
 have hh:Bm.has n.aD i=true:=by
  unfold aB at h;split at h
  ·cases h
  ·rename_i q;simp at q;exact q.2
 have hi:0<=i/\i<64:=by unfold Bm.has at hh;simp at hh;omega
 obtain⟨j,rfl⟩:=RD hi.1
 have hj:j<64:=by omega
 have hb:n.aD.testBit j=true:=by rw[<- Bm.nI _ _ hj];exact hh
 have hl:=Ag hc
 have hp:Bm.pop j n.aD<n.aA.length:=by rw[hl];exact oM hb hj
 have hpw:=Aw n.aD j hj hb
 unfold bL
 rw[if_neg (by simp[hc,hh];omega),Gr hj]
 rw[yK (nb:=Bm.jD n.aD j) (bl:=n.aA.take (Bm.pop j n.aD)++n.aA.drop (Bm.pop j n.aD+1)) (Bm.Dz _ _ hf) (by have:=hpw 64;rw[if_pos hj]at this;simp;omega)]
 intro k hk
 unfold wX
 rw[Bm.kW _ j hj]
 by_cases e:(k:Int)=(j:Int)
 ·have e:k=j:=by omega
  subst e
  rw[if_pos rfl]
  exact⟨by simp,λh=>by simp at h⟩
 ·rw[if_neg e,lQ hc hk]
  cases hbk:n.aD.testBit k with
  |false=>exact⟨by simp,λh=>by simp at h⟩
  |true=>
   refine⟨by simp;omega,λ_=>?_⟩
   show n.aA.getD (Bm.pop k n.aD) 0=_
   rw[Tx,Tx]
   have hk':=hpw k
   by_cases hkj:k<j
   ·have:=oM hbk hkj
    rw[if_neg (by omega)]at hk'
    rw[DI (by rw[dF];omega),lC,if_pos (by omega)]
    congr 2
   ·have:=oM hb (show j<k by omega)
    rw[if_pos (by omega)]at hk'
    rw[xD (by rw[dF];omega),dF,Hg (by omega),WI]
    congr 2;omega
end Go.Ct
namespace Go.Ct
structure VF(n:Node):Prop where
 kind:1<=n.kind/\n.kind<=8
 main:0<=n.main
 prev:0<=n.prev
 status:0<=n.status
 gen:n.kind=2->1<=n.gen
 count:n.kind=3->n.aA.length=Bm.pop 64 n.aD
 branch:n.kind=3->∀k,k<n.aA.length->1<=n.aA.getD k 0
 key:n.kind=4\/n.kind=5->n.key.size<=64
 aF:n.kind=6->2<=n.aF.length
 kG:n.kind=6->aQ n.aF=true
 short:n.kind=6->kS n.aF=true
 dC:n.kind=7\/n.kind=8->1<=n.dC
 desc:n.kind=8->1<=n.aK/\1<=n.new
theorem fJ{n:Node}(h:n.valid=true):VF n:=by
 unfold Node.valid at h
 split at h
 ·cases h
 ·rename_i h0
  simp only[not_or,Br]at h0
  refine⟨by omega,by omega,by omega,by omega,?_,?_,?_,?_,?_,?_,?_,?_,?_⟩
  ·intro hk;rw[if_pos hk]at h;exact Qa h
  ·intro hk;rw[if_neg (by omega),if_pos hk]at h;simp at h;exact h.2
  ·intro hk;rw[if_neg (by omega),if_pos hk]at h;simp at h
   intro k hlt
   rw[Tx,DM hlt];exact h.1 _ (cE hlt)
  ·intro hk;rw[if_neg (by omega),if_neg (by omega),if_pos hk]at h;exact Qa h
  ·intro hk;rw[if_neg (by omega),if_neg (by omega),if_neg (by omega),if_pos hk]at h;simp at h;exact h.1
  ·intro hk;rw[if_neg (by omega),if_neg (by omega),if_neg (by omega),if_pos hk]at h;simp at h;exact h.2.1
  ·intro hk;rw[if_neg (by omega),if_neg (by omega),if_neg (by omega),if_pos hk]at h;simp at h;exact h.2.2
  ·rintro(hk|hk)
   ·rw[if_neg (by omega),if_neg (by omega),if_neg (by omega),if_neg (by omega),if_pos hk]at h;exact Qa h
   ·rw[if_neg (by omega),if_neg (by omega),if_neg (by omega),if_neg (by omega),if_neg (by omega),if_pos hk]at h;simp at h;exact h.1
  ·intro hk;rw[if_neg (by omega),if_neg (by omega),if_neg (by omega),if_neg (by omega),if_neg (by omega),if_pos hk]at h;simp at h;exact h.2
theorem NC{n:Node}(h:(n.kind==3)=false):n.lO=false:=by unfold Node.lO;rw[h];rfl
theorem Pb{n:Node}(h:(n.kind==3)=true)(hv:n.valid=true):n.lO=true:=by unfold Node.lO;rw[h,hv];rfl
theorem LW{n:Node}(h:(n.kind==6)=false):n.Kx=false:=by unfold Node.Kx;rw[h];rfl
theorem vZ{n:Node}(h:(n.kind==6)=true)(hv:n.valid=true):n.Kx=true:=by unfold Node.Kx;rw[h,hv];rfl
theorem Tr{n:Node}{i:Int}(h:n.lO=false):aB n i=(0,false):=by unfold aB;rw[if_pos (.inl h)]
theorem Dd{n:Node}{i:Int}(h:Bm.has n.aD i=false):aB n i=(0,false):=by unfold aB;rw[if_pos (.inr h)]
theorem MF{n:Node}{i:Int}(hc:n.lO=true)(h:Bm.has n.aD i=true):aB n i=(n.aA.getD (Bm.aO n.aD i) 0,true):=by unfold aB;rw[if_neg (by simp[hc,h])]
theorem US{n:Node}{i:Int}(hc:n.lO=true)(h:Bm.has n.aD i=true):Bm.aO n.aD i<n.aA.length:=by rw[Ag hc];exact Ij h
structure NF(n:Node):Prop where
 br:n.aA.length<=1000000
 pr:n.aF.length<=1000000000000
 bm:n.aD<18446744073709551616
 hs:n.hash<18446744073709551616
 ks:n.key.size<=64
 v3:n.kind=3->n.valid=true
 v6:n.kind=6->n.valid=true
theorem Node.Fit.nf{L:Nat}{n:Node}(h:n.Fit L)(hL:L<=900000000000):NF n:=⟨h.1.1,by have:=h.1.2.1;omega,h.1.2.2.1,h.1.2.2.2.1,h.2,λhk=>h.1.2.2.2.2.2.2 (.inl hk),λhk=>h.1.2.2.2.2.2.2 (.inr hk)⟩
end Go.Ct
namespace Go.Ct
theorem NM{n:Node}(h:n.lO=false):fF n=(0,false):=by unfold fF;rw[if_pos (.inl h)]
theorem OQ{n:Node}(h:n.aA.length≠1):fF n=(0,false):=by unfold fF;rw[if_pos (.inr h)]
theorem NY{n:Node}(hc:n.lO=true)(h:n.aA.length=1):fF n=(n.aA.getD 0 0,true):=by unfold fF;rw[if_neg (by simp[hc,h])]
theorem VD{n:Node}(h:n.kind≠5):aT n=({},false):=by unfold aT;rw[if_neg h]
theorem NW{n:Node}(h:n.kind=5):aT n=(Kw n,true):=by unfold aT;rw[if_pos h]
theorem LL{n s:Node}{l:Int}(h:(fF n).2=true)(hl:0<l)(hk:s.kind=4):bQ n l s=AV s:=by unfold bQ;rw[if_pos ⟨hl,h,hk⟩]
theorem NO{n s:Node}{l:Int}(h:(fF n).2=false):bQ n l s=n:=by unfold bQ;rw[if_neg (by rw[h];simp)]
theorem OP{n s:Node}{l:Int}(h:¬0<l):bQ n l s=n:=by unfold bQ;rw[if_neg (λx=>h x.1)]
theorem MD{n s:Node}{l:Int}(h:s.kind≠4):bQ n l s=n:=by unfold bQ;rw[if_neg (λx=>h x.2.2)]
end Go.Ct
namespace Go.Ct
def Jq(n:Node)(i r:Int):Node:={kind:=3,aD:=(bW n i r 64).1,aA:=(bW n i r 64).2}
theorem VN{n:Node}{i r:Int}{k bm:Nat}{out:List Int}(he:((k:Int)==i)=true)(hr:decide ((r:Int)>0)=true)(hW:(bm,out)=bW n i r k):(Bm.cI bm (k:Int),out++[r])=bW n i r (k+1):=by
 rw[bW];unfold wX;rw[if_pos (eq_of_beq he),hr,<- hW];rfl
theorem g8{n:Node}{i r:Int}{k bm:Nat}{out:List Int}(he:((k:Int)==i)=true)(hr:decide ((r:Int)>0)=false)(hW:(bm,out)=bW n i r k):(bm,out)=bW n i r (k+1):=by
 rw[bW];unfold wX;rw[if_pos (eq_of_beq he),hr,<- hW];rfl
theorem UQ{n:Node}{i r:Int}{k bm:Nat}{out:List Int}(he:((k:Int)==i)=false)(hr:(aB n (k:Int)).2=true)(hW:(bm,out)=bW n i r k):(Bm.cI bm (k:Int),out++[(aB n (k:Int)).1])=bW n i r (k+1):=by
 rw[bW];unfold wX;rw[if_neg (by simpa using he),hr,<- hW];rfl
theorem ZX{n:Node}{i r:Int}{k bm:Nat}{out:List Int}(he:((k:Int)==i)=false)(hr:(aB n (k:Int)).2=false)(hW:(bm,out)=bW n i r k):(bm,out)=bW n i r (k+1):=by
 rw[bW];unfold wX;rw[if_neg (by simpa using he),hr,<- hW];rfl
theorem DF{n:Node}{i:Int}(h:(aB n i).2=true):n.lO=true/\Bm.has n.aD i=true:=by
 unfold aB at h;split at h
 ·cases h
 ·rename_i q;simpa using q
theorem Kg{n:Node}{i r:Int}(h:n.lO=false\/(aB n i).2=true\/(i<0\/63<i\/r<1)):aS n i r=({},false):=by
 unfold aS;rw[if_pos]
 rcases h with h|h|h
 ·exact .inl h
 ·exact .inr (.inr (.inr (.inr (DF h).2)))
 ·rcases h with h|h|h
  ·exact .inr (.inl h)
  ·exact .inr (.inr (.inl h))
  ·exact .inr (.inr (.inr (.inl h)))
theorem Vv{n:Node}{i:Int}(h:(aB n i).2=false):n.lO=false\/Bm.has n.aD i=false:=by
 unfold aB at h;split at h
 ·assumption
 ·cases h
theorem MJ{n:Node}{i r:Int}(h:(aB n i).2=false\/r<1):aP n i r=({},false):=by
 unfold aP;rw[if_pos]
 rcases h with h|h
 ·rcases Vv h with h|h
  ·exact .inl h
  ·exact .inr (.inr (.inr (.inr h)))
 ·exact .inr (.inr (.inr (.inl h)))
theorem XG{n:Node}{i:Int}(h:(aB n i).2=false):bL n i=({},false):=by
 unfold bL;rw[if_pos]
 rcases Vv h with h|h
 ·exact .inl h
 ·exact .inr (.inr (.inr h))
def FP(n:Node)(key:ByteArray)(v:Nat):Node:={kind:=6,hash:=n.hash,aF:=mC n.aF key v}
theorem GD{n:Node}{key:ByteArray}{v:Nat}(h:n.Kx=false\/64<key.size):grown n key v=({},false):=by unfold grown;rw[if_pos h]
theorem AO{n:Node}{key:ByteArray}{v:Nat}(h:n.Kx=true)(hk:¬64<key.size):grown n key v=(FP n key v,true):=by unfold grown;rw[if_neg (by simp[h];omega)];rfl
end Go.Ct
namespace Go.Ct
def EX(n:Node)(key:ByteArray):Node:={kind:=5,hash:=n.hash,key:=((gX n.aF key).getD 0 ⟨.empty,0⟩).key,value:=((gX n.aF key).getD 0 ⟨.empty,0⟩).value}
def Pm(n:Node)(key:ByteArray):Node:={kind:=6,hash:=n.hash,aF:=gX n.aF key}
theorem j9{n:Node}{key:ByteArray}(h:(bB n.aF key).2=false):gC n key=({},false):=by unfold gC;rw[if_pos (.inr h)]
theorem NK{n:Node}{key:ByteArray}(hi:n.Kx=true)(h:(bB n.aF key).2=true)(hl:(gX n.aF key).length=1):gC n key=(EX n key,true):=by
 unfold gC EX;rw[if_neg (by simp[hi,h])]
 match hp:gX n.aF key,hl with
 |[p],_=>rfl
theorem EE{n:Node}{key:ByteArray}(hi:n.Kx=true)(h:(bB n.aF key).2=true)(hl:(gX n.aF key).length≠1):gC n key=(Pm n key,true):=by
 unfold gC Pm;rw[if_neg (by simp[hi,h])]
 match hp:gX n.aF key,hl with
 |[],_=>rfl
 |[p],hl=>exact absurd rfl hl
 |p::q::l,_=>rfl
end Go.Ct
end
