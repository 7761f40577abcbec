/- Parts of a proof: Sb, BmPlace, C7, C4, Sa2. -/
import Derived.Test.YtlijgnlhkcbgpaaGreatDoorW23
import Derived.Test.YtlijgnlhkcbgpaaGreatDoorW21
set_option linter.unusedVariables false
set_option linter.unusedSimpArgs false
set_option maxRecDepth 100000
set_option maxHeartbeats 4000000
section
namespace Go.Ct
variable{g:Ga}
theorem Nh{a b:Nat}:∀j,(∀i,i<j->a.testBit i=b.testBit i)->Bm.pop j a=Bm.pop j b
 |0,_=>by simp[Bm.pop]
 |j+1,h=>by rw[Bm.cZ,Bm.cZ,Nh j λi hi=>h i (by omega),h j (by omega)]
theorem UG{n:Node}{i r:Int}{k:Nat}(h:(wX n i r k).2=true):1<=(wX n i r k).1:=by
 unfold wX at h ⊢
 split at h
 ·rename_i e;rw[if_pos e];have:=dP h;show 1<=r;omega
 ·rename_i e;rw[if_neg e];exact pV h
theorem tI(n:Node)(i r:Int):∀k,k<=64->(∀j,(bW n i r k).1.testBit j=(decide (j<k)&&(wX n i r j).2))/\(bW n i r k).2.length=Bm.pop k (bW n i r k).1/\
  (∀j,j<k->(wX n i r j).2=true->(bW n i r k).2.getD (Bm.pop j (bW n i r k).1) 0=(wX n i r j).1)/\∀x∈(bW n i r k).2,1<=x
 |0,_=>⟨λj=>by simp[bW],by simp[bW,Bm.pop],λj hj=>absurd hj (Nat.not_lt_zero _),λx hx=>by simp[bW]at hx⟩
 |k+1,hk=>by
  obtain⟨h1,h2,h3,h4⟩:=tI n i r k (by omega)
  rw[bW]
  cases hb:(wX n i r k).2 with
  |true=>
   simp only[cond_true]
   have hbit:∀j,(Bm.cI (bW n i r k).1 k).testBit j=(decide (k=j)||(bW n i r k).1.testBit j):=λj=>by
    rw[Bm.gL _ k (by omega)]
    by_cases hj:k=j<;>simp[hj]
   have hpop:∀j,j<=k->Bm.pop j (Bm.cI (bW n i r k).1 k)=Bm.pop j (bW n i r k).1:=λj hj=>Nh j λi hi=>by rw[hbit];simp[show k≠i by omega]
   refine⟨λj=>?_,?_,λj hj hj2=>?_,λx hx=>?_⟩
   ·rw[hbit,h1]
    by_cases hj:k=j
    ·subst hj;simp[hb]
    ·by_cases hjk:j<k
     ·simp[hj,hjk,show j<k+1 by omega]
     ·simp[hj,hjk,show ¬j<k+1 by omega]
   ·rw[cO,CG,h2,Bm.cZ,hpop k (bD _),hbit];simp
   ·rw[hpop j (by omega)]
    by_cases hjk:j=k
    ·subst hjk
     rw[<- h2,eX,tW (bD _)];simp
    ·have hlt:Bm.pop j (bW n i r k).1<(bW n i r k).2.length:=by
      rw[h2];exact oM (by rw[h1];simp[hj2];omega) (by omega)
     rw[eX,xD hlt,<- eX]
     exact h3 j (by omega) hj2
   ·rcases List.mem_append.1 hx with hx|hx
    ·exact h4 x hx
    ·rw[List.mem_singleton.1 hx];exact UG hb
  |false=>
   simp only[cond_false]
   refine⟨λj=>?_,?_,λj hj hj2=>?_,h4⟩
   ·rw[h1]
    by_cases hj:k=j
    ·subst hj;simp[hb]
    ·by_cases hjk:j<k
     ·simp[hjk,show j<k+1 by omega]
     ·simp[hjk,show ¬j<k+1 by omega]
   ·rw[h2,Bm.cZ,h1];simp
   ·by_cases hjk:j=k
    ·subst hjk;rw[hb]at hj2;cases hj2
    ·exact h3 j (by omega) hj2
theorem Dv(n:Node)(i r:Int):(Dr n i r).valid=true:=by
 obtain⟨h1,h2,h3,h4⟩:=tI n i r 64 (bD _)
 show Node.valid {kind:=3,aD:=(bW n i r 64).1,aA:=(bW n i r 64).2,prev:=0}=true
 rw[EZ _ _ 0 (JA _)]
 simp only[mQ,CL,An,wB]
 exact⟨h4,h2⟩
theorem KE(n:Node)(i r:Int):(Dr n i r).lO=true:=by
 unfold Node.lO;rw[Dv];rfl
theorem Tc(n:Node)(i r:Int){k:Int}(h:(aB (Dr n i r) k).2=true):∃j:Nat,k=j/\j<64/\(wX n i r j).2=true/\(aB (Dr n i r) k).1=(wX n i r j).1:=by
 obtain⟨h1,h2,h3,h4⟩:=tI n i r 64 (bD _)
 have hh:=(DF h).2
 have hi:0<=k/\k<64:=by unfold Bm.has at hh;simp at hh;omega
 obtain⟨j,rfl⟩:=Hp hi.1
 have hj:j<64:=by omega
 have hb:(bW n i r 64).1.testBit j=true:=by rw[<- Bm.nI _ _ hj];exact hh
 rw[h1]at hb
 simp[hj]at hb
 refine⟨j,rfl,hj,hb,?_⟩
 rw[lQ (KE n i r) hj]
 show (if(bW n i r 64).1.testBit j=true then _ else _:Int×Bool).1=_
 rw[if_pos (by rw[h1];simp[hj,hb])]
 exact h3 j hj hb
theorem Ku{n:Node}{i r:Int}{b:fV}(hb:b.1<=10)(hb2:b.2<64^b.1)(hc:∀k:Nat,k<64->(wX n i r k).2=true->jV g (wX n i r k).1 (dO b k)\/Dg g (wX n i r k).1 (dO b k)):cJ g (Dr n i r) b:=by
 obtain⟨h1,h2,h3,h4⟩:=tI n i r 64 (bD _)
 refine⟨Dv n i r,⟨0,Nc 0 _ _ (Ni n i r 64).1 h4 h2⟩,by show (2:Int)<=3;decide,by show (3:Int)<=8;decide,(λh=>by cases h),λ_=>⟨hb,hb2,λk hk=>?_⟩,(λh=>by cases h),(λh=>by cases h),(λh=>by cases h),λh=>by cases h⟩
 obtain⟨j,rfl,hj,e1,e2⟩:=Tc n i r hk
 rw[e2];exact hc j hj e1
theorem Node.Fit.bm{L:Nat}{n:Node}(h:n.Fit L):n.aD<18446744073709551616:=h.1.2.2.1
theorem YN{n:Node}{i r:Int}{k:Nat}(h:(k:Int)≠i):wX n i r k=aB n k:=by unfold wX;rw[if_neg h]
theorem BG{n:Node}{b:fV}{i r:Int}(hn:cJ g n b)(hk:n.kind=3)(hr:r=0\/jV g r (dO b i)\/Dg g r (dO b i)):∀k:Nat,k<64->(wX n i r k).2=true->jV g (wX n i r k).1 (dO b k)\/Dg g (wX n i r k).1 (dO b k):=λk hk2 h=>by
 by_cases e:(k:Int)=i
 ·unfold wX at h ⊢
  rw[if_pos e]at h ⊢
  have:=dP h
  rcases hr with hr|hr
  ·omega
  ·rw[e];exact hr
 ·rw[YN e]at h ⊢
  exact(hn.c hk).2.2 k h
theorem yY{n:Node}{b:fV}{i r:Int}(hn:cJ g n b)(hk:n.kind=3)(h:(aB n i).2=true)(hr:jV g r (dO b i)\/Dg g r (dO b i)):cJ g (aP n i r).1 b/\(aP n i r).2=true/\(aP n i r).1.bM=true:=by
 obtain⟨L,hL⟩:=hn.fit
 rw[qQ hL.bm h (hr.elim jV.one Dg.one)]
 exact⟨Ku (hn.c hk).1 (hn.c hk).2.1 (BG hn hk (.inr hr)),rfl,rfl⟩
theorem YE{n:Node}{b:fV}(hn:cJ g n b)(hk:n.kind=3):n.lO=true:=by unfold Node.lO;rw[hk,hn.valid];rfl
theorem uC{n:Node}{b:fV}{i r:Int}(hn:cJ g n b)(hk:n.kind=3)(h:(aB n i).2=false)(h0:0<=i)(h1:i<64)(hr:jV g r (dO b i)\/Dg g r (dO b i)):cJ g (aS n i r).1 b/\(aS n i r).2=true/\(aS n i r).1.bM=true:=by
 obtain⟨L,hL⟩:=hn.fit
 rw[vB hL.bm (YE hn hk) h h0 (by omega) (hr.elim jV.one Dg.one)]
 exact⟨Ku (hn.c hk).1 (hn.c hk).2.1 (BG hn hk (.inr hr)),rfl,rfl⟩
theorem BH{n:Node}{b:fV}{i:Int}(hn:cJ g n b)(hk:n.kind=3)(h:(aB n i).2=true):cJ g (bL n i).1 b/\(bL n i).1.kind=3:=by
 obtain⟨L,hL⟩:=hn.fit
 rw[xV hL.bm h]
 exact⟨Ku (hn.c hk).1 (hn.c hk).2.1 (BG hn hk (.inl rfl)),rfl⟩
theorem Bz{k:Int}{h v:Nat}{key:ByteArray}{b:fV}(hk:k=4\/k=5)(hh:h<18446744073709551616)(hs:key.size<=64)(ht:k=5->1<=b.1/\h%64^b.1=b.2):cJ g {kind:=k,hash:=h,key:=key,value:=v} b:=by
 refine⟨?_,⟨0,iF 0 k h key v (by omega) hh hs⟩,by show 2<=k;omega,by show k<=8;omega,λe=>absurd (show k=2 from e) (by omega),λe=>absurd (show k=3 from e) (by omega),ht,λe=>absurd (show k=6 from e) (by omega),λe=>absurd (show k=7 from e) (by omega),λe=>absurd (show k=8 from e) (by omega)⟩
 unfold Node.valid
 rcases hk with rfl|rfl<;>simp[fT,Node.only,bR,mJ,hs]
theorem cJ.hash{n:Node}{b:fV}(h:cJ g n b):n.hash<18446744073709551616:=by obtain⟨L,hL⟩:=h.fit;exact hL.1.2.2.2.1
theorem cJ.key{n:Node}{b:fV}(h:cJ g n b):n.key.size<=64:=by obtain⟨L,hL⟩:=h.fit;exact hL.2
theorem DV{b:fV}{i:Int}{h:Nat}(hb:b.2<64^b.1)(e:h%64^(dO b i).1=(dO b i).2):h%64^b.1=b.2:=by
 have e1:h%64^(b.1+1)=b.2+i.toNat*64^b.1:=e
 rw[<- Nat.mod_mod_of_dvd h (Nat.pow_dvd_pow 64 (Nat.le_succ b.1)),e1,Nat.add_mul_mod_self_right,Nat.mod_eq_of_lt hb]
theorem qO{c s:Node}{b:fV}{i l:Int}(hc:cJ g c b)(hk:c.kind=3)(hs:s.kind=4->s.hash<18446744073709551616/\s.key.size<=64/\s.hash%64^(dO b i).1=(dO b i).2)(hl:l=(b.1:Int)):cJ g (bQ c l s) b/\(bQ c l s).bM=true:=by
 unfold bQ
 split
 ·rename_i h
  obtain⟨s1,s2,s3⟩:=hs h.2.2
  exact⟨Bz (.inr rfl) s1 s2 λ_=>⟨by omega,DV (hc.c hk).2.1 s3⟩,rfl⟩
 ·exact⟨hc,by unfold Node.bM;rw[hk];rfl⟩
theorem Zb{n:Node}{b:fV}(hn:cJ g n b)(h:(aT n).2=true):cJ g (aT n).1 b/\(aT n).1.kind=4/\(aT n).1.hash%64^b.1=b.2:=by
 unfold aT at h ⊢
 split at h
 ·rename_i hk;rw[if_pos hk];exact⟨Bz (.inl rfl) hn.hash hn.key (λh=>by cases h),rfl,(hn.t hk).2⟩
 ·cases h
theorem Oc{n:Node}(hm:n.bM=true):n.kind=3\/n.kind=5\/n.kind=6:=by unfold Node.bM at hm;simpa[or_assoc]using hm
theorem mZ{n:Node}{i:Int}{b:fV}(hm:n.bM=true)(h:i=0\/Ul g i b):Tb g n i b:=by
 have hk:=Oc hm
 exact⟨λe=>absurd e (by omega),λ_=>h,λe=>absurd e (by omega)⟩
theorem wH{n:Node}{i:Int}{b:fV}(hk:n.kind=4\/n.kind=7):Tb g n i b:=
 ⟨λe=>absurd e (by omega),λe=>absurd (Oc e) (by omega),λe=>absurd e (by omega)⟩
theorem zR(h:Nat)(l:Int):0<=slice h l/\slice h l<64:=dD h l
theorem fP{h l:Nat}(hl:l<=10):dO (l,h%64^l) (slice h l)=(l+1,h%64^(l+1)):=by
 unfold dO slice
 rw[if_neg (by omega)]
 simp only[Prod.mk.injEq,true_and]
 rw[dF,dF,Nat.pow_succ,Nat.mod_mul,Nat.mul_comm (64^l)]
end Go.Ct
end
section
namespace Go.Bm
theorem zY(n b j:Nat):j∈Nu n b↔j<n/\b.testBit j=true:=by
 unfold Nu
 rw[List.mem_filter,List.mem_range]
theorem Rx(n b:Nat):(Nu n b).Pairwise (·<·):=by
 unfold Nu
 exact List.Pairwise.filter _ List.pairwise_lt_range
theorem Cz(b i:Nat):∀d,∃t,Nu (i+d) b=Nu i b++t
 |0=>⟨[],by simp⟩
 |d+1=>by
  obtain⟨t,ht⟩:=Cz b i d
  exact⟨_,by rw[<- Nat.add_assoc,lG,ht,eC]⟩
theorem Uh(b p:Nat)(hp:p<(indices b).length):pop ((indices b)[p]) b=p:=by
 have hm:(indices b)[p]∈indices b:=qR hp
 have hs:=Rx 64 b
 have hmi:=(zY 64 b _).1 hm
 generalize hi:(indices b)[p]=i at *
 rw[<- tM]
 obtain⟨d,hd⟩:∃d,64=i+1+d:=⟨64-i-1,by omega⟩
 obtain⟨t,ht⟩:=Cz b (i+1) d
 have hx:indices b=Nu i b++(i::t):=by
  unfold indices
  rw[hd,ht,lG,hmi.2]
  simp
 have hl:(Nu i b).length<(indices b).length:=by rw[hx];simp
 have he:(indices b)[(Nu i b).length]'hl=i:=by
  simp only[hx]
  rw[List.getElem_append_right (bD _)]
  simp
 have hpw:(indices b).Pairwise (·<·):=hs
 rw[List.pairwise_iff_getElem]at hpw
 apply Classical.byContradiction
 intro hne
 rcases Nat.lt_or_gt_of_ne hne with h|h
 ·have:=hpw _ _ hl hp h
  omega
 ·have:=hpw _ _ hp hl h
  omega
def aCh(xs:List Nat):Nat->Nat
 |0=>0
 |k+1=>aCh xs k|||2^xs.getD k 0
attribute [irreducible] aCh
end Go.Bm
end
section
namespace Go.Ct
def Fi(t:bC)(N c:Nat):I Result:=bif !t.readOnly then .ret {err:=7}else wU t N c 0 {}
def Place.mu(p:Place):Nat:=64-p.pos
def X5(l:List Place):Nat:=(l.map Place.mu).sum
def hB.mu(w:hB):Nat:=w.wait.length+X5 w.stack
theorem Y5(p:Place)(h:p.out=false):p.step.mu<p.mu:=by
 unfold Place.out at h
 have h0:=bI (Bool.or_eq_false_iff.1 h).1
 have hp:p.pos<(Bm.indices p.node.aD).length/\p.idx=(((Bm.indices p.node.aD).getD p.pos 0:Nat):Int):=by
  unfold Place.idx Bm.at_ at h0 ⊢
  split at h0
  ·rename_i h1
   exact⟨by omega,by rw[if_pos h1];rfl⟩
  ·exact absurd (by decide) h0
 obtain⟨hp,hi⟩:=hp
 have hx:(Bm.indices p.node.aD).getD p.pos 0=(Bm.indices p.node.aD)[p.pos]'hp:=by
  rw[eX,fM hp];rfl
 have hm:(Bm.indices p.node.aD)[p.pos]'hp∈Bm.indices p.node.aD:=qR hp
 have hmi:=(Bm.zY 64 _ _).1 hm
 have hq:=Bm.Uh p.node.aD p.pos hp
 have hl:(Bm.indices p.node.aD).length<=64:=by
  unfold Bm.indices Bm.Nu
  exact lK (List.length_filter_le ..) (by simp)
 have hs:p.step.pos=p.pos+1:=by
  show Bm.aO p.node.aD (p.idx+1)=_
  rw[hi,hx]
  generalize (Bm.indices p.node.aD)[p.pos]'hp=x at *
  have hc:Bm.cut ((x:Int)+1)=x+1:=by
   unfold Bm.cut
   split
   ·omega
   ·split<;>omega
  unfold Bm.aO
  rw[hc,Bm.cZ,hmi.2,hq]
  rfl
 unfold Place.mu
 rw[hs]
 omega
theorem MC{t:bC}{st:Bool}{K:hB->I (Result×hB)}{s s':St}{z:Result×hB}:∀l,(Gl t st K l).head s=(s',.ret z)->z.1.found=true->s'=s/\z.2.mu<X5 l
 |[],h,hf=>by
  injection h with _ h2
  injection h2 with h2
  rw[<- h2]at hf
  cases hf
 |p::l,h,hf=>by
  unfold Gl at h
  cases ho:p.out with
  |true=>
   rw[ho]at h
   have:=MC l h hf
   exact⟨this.1,by unfold X5 at *;rw[GL,List.sum_cons];omega⟩
  |false=>
   rw[ho]at h
   have h:(bif (s.node p.branch).kind==4 then(.ret (Jo ⟨(s.node p.branch).key,(s.node p.branch).value⟩,⟨st,p.step::l,[]⟩):I (Result×hB))else mM t p.branch λm=>.node m λq=>K (hB.meet ⟨st,p.step::l,[]⟩ q)).head s=(s',.ret z):=h
   cases h4:(s.node p.branch).kind==4 with
   |true=>
    rw[h4]at h
    injection h with h1 h2
    injection h2 with h2
    subst h1 h2
    have:=Y5 p ho
    exact⟨rfl,by show 0+X5 (p.step::l)<_;unfold X5 at *;rw[GL,List.sum_cons,GL,List.sum_cons];omega⟩
   |false=>
    rw[h4]at h
    have h:=(TY t p.branch _ s).symm.trans h
    injection h with _ h
    cases h
theorem X4{t:bC}{N:Nat}{w:hB}{s s':St}{z:Result×hB}(h:(Ax t N w).head s=(s',.ret z))(hf:z.1.found=true):s'=s/\z.2.mu<w.mu:=by
 unfold Ax at h
 cases hr:t.readOnly with
 |false=>
  rw[hr]at h
  injection h with _ h2
  injection h2 with h2
  rw[<- h2]at hf
  cases hf
 |true=>
  rw[hr]at h
  cases hw:w.started with
  |false=>
   rw[hw]at h
   injection h with _ h
   cases h
  |true=>
   rw[hw]at h
   obtain⟨sd,l,wt⟩:=w
   have key:∀K:hB->I (Result×hB),(Lk t K ⟨sd,l,wt⟩).head s=(s',.ret z)->s'=s/\z.2.mu<hB.mu ⟨sd,l,wt⟩:=λK h=>by
    cases wt with
    |nil=>
     have:=MC l h hf
     exact⟨this.1,by show _<0+X5 l;omega⟩
    |cons p ps=>
     injection h with h1 h2
     injection h2 with h2
     subst h1 h2
     exact⟨rfl,by show ps.length+X5 l<(p::ps).length+X5 l;rw[Qb];omega⟩
   cases N with
   |zero=>exact key _ h
   |succ N=>exact key _ h
theorem U4:∀l:List Place,X5 l<=64*l.length
 |[]=>bD _
 |p::l=>by
  have:=U4 l
  unfold X5 at *
  rw[GL,List.sum_cons,Qb]
  have:p.mu<=64:=Nat.sub_le ..
  omega
theorem aBo{n:Nat}{w:hB}(h:qV n w):w.mu<=1000000000000:=by
 have h1:=h.ok.deep
 have h2:=h.ok.wait
 have h3:=U4 w.stack
 unfold hB.mu
 omega
theorem aAx:hB.mu {}=0:=rfl
theorem XB(N:Nat)(h:N<=1000000000):qV N {}:=⟨⟨λp hp=>(by cases hp),by show 0+N<=1000000000;omega,Xe _⟩,λ_=>rfl⟩
def Bj(n:Nat):Nat:=n*1000000000001
theorem fuel_lt{m n:Nat}(h:m<n):Bj m+1000000000001<=Bj n:=by
 obtain⟨d,rfl⟩:∃d,n=m+1+d:=⟨n-m-1,by omega⟩
 unfold Bj
 rw[Nat.add_mul,Nat.add_mul];omega
def J'(t:bC)(N c:Nat)(k:Int)(z:Result×hB):I Result:=bif !z.1.found then .ret {count:=k}else wU t N c (wr (k+1)) z.2
end Go.Ct
end
section
namespace Go.Ct
variable{β:Type}
def vO(key:ByteArray)(x:Node):I Result:=bif bR x.key key then .ret (cC true x.value)else .ret {}
def pG(t:bC)(key:ByteArray)(h:Nat):Nat->Int->Int->I Result
 |0,_,_=>.ret {}
 |n+1,i,level=>mM t i λr=>.node r λm=>
  bif m.kind==3 then bif !(aB m (slice h level)).2 then .ret {}else .node (aB m (slice h level)).1 λx=>bif x.kind==4 then vO key x else pG t key h n (aB m (slice h level)).1 (level+1)
  else bif m.kind==5 then vO key m else bif m.kind==6 then bif (bB m.aF key).2 then .ret (cC true (bB m.aF key).1)else .ret {}else .ret {}
def FN(c:Call)(n:Nat):I Result:=bif !bU c.key then .ret {err:=1}else uO c.aE λr=>pG c.aE c.key (aH c.key c.aI) n r 0
def Ol(c:Call)(again:I Result)(i m:Int)(n:Node×Bool)(found:Bool)(v:Nat):I Result:=
 bif !n.2 then .ret {}else .alloc n.1 m λr=>swapT c.aE i m r λok=>bif !ok then again else .ret (dL found v)
def mO(c:Call)(again:I Result)(i m:Int)(n:Node):I Result:=
 bif !cS c (bB n.aF c.key).2 (bB n.aF c.key).1 then .ret (cC (bB n.aF c.key).2 (bB n.aF c.key).1)
 else Ol c again i m (grown n c.key c.value) (bB n.aF c.key).2 (bB n.aF c.key).1
def qY(c:Call)(again:I Result)(h:Nat)(i m:Int)(n:Node)(ix:Int):I Result:=
 bif !cS c false 0 then .ret (cC false 0)else .alloc {kind:=4,hash:=h,key:=c.key,value:=c.value} 0 λx=>Ol c again i m (aS n ix x) false 0
def uY(x:Node)(at_:Int)(h:Nat)(key:ByteArray)(v:Nat)(gen:Int):Nat->(Int->I β)->I β
 |0,k=>.alloc {kind:=6,hash:=h,aF:=gG ⟨x.key,x.value⟩ ⟨key,v⟩} 0 k
 |n+1,k=>bif slice h (11-((n+1:Nat):Int)) != slice x.hash (11-((n+1:Nat):Int))then
   .alloc {kind:=4,hash:=h,key:=key,value:=v} 0 λs=>.alloc (aS (aS {kind:=3} (slice x.hash (11-((n+1:Nat):Int))) at_).1 (slice h (11-((n+1:Nat):Int))) s).1 0 k
  else uY x at_ h key v gen n λm=>.alloc {kind:=2,gen:=gen} m λi=>.alloc (aS {kind:=3} (slice h (11-((n+1:Nat):Int))) i).1 0 k
def vJ(at_:Int)(h:Nat)(key:ByteArray)(v:Nat)(level gen:Int)(k:Int->Int->I β):I β:=
 bif decide (level<0)||(decide (level>11)||decide (gen<1))then k 0 2 else .node at_ λx=>
  bif x.kind != 4||(decide (64<key.size)||bR key x.key)then k 0 1 else bif decide ((aJ x.hash h:Int)<level)then k 0 1 else uY x at_ h key v gen (11-level).toNat λr=>k r 0
def hX(c:Call)(again:I Result)(h:Nat)(i m:Int)(n:Node)(ix b:Int)(x:Node)(level gen:Int):I Result:=
 bif bR x.key c.key then
  bif !cS c true x.value then .ret (cC true x.value)else .alloc {kind:=4,hash:=h,key:=c.key,value:=c.value} 0 λy=>Ol c again i m (aP n ix y) true x.value
 else bif !cS c false 0 then .ret (cC false 0)else vJ b h c.key c.value (level+1) gen λs e=>bif e != 0 then .ret {err:=e}else
  .alloc {kind:=2,gen:=gen} s λj=>Ol c again i m (aP n ix j) false 0
def gA(c:Call)(h:Nat)(gen:Int)(again:I Result):Nat->Int->Int->Int->I Result
 |0,_,_,_=>again
 |k+1,parent,i,level=>mM c.aE i λm=>.node m λn=>
  bif n.kind==5 then qW c.aE parent i h (level-1) λ_=>again
  else bif n.kind==6 then mO c again i m n
  else bif n.kind==3 then
   bif !(aB n (slice h level)).2 then qY c again h i m n (slice h level)else .node (aB n (slice h level)).1 λx=>
    bif x.kind==4 then hX c again h i m n (slice h level) (aB n (slice h level)).1 x level gen
    else bif x.gen != gen then pD c.aE i m (slice h level) λb=>bif b==0 then again else gA c h gen again k i b (level+1)
    else gA c h gen again k i (aB n (slice h level)).1 (level+1)
  else .ret {}
def bO(c:Call)(k:Nat):Nat->I Result
 |0=>.ret {}
 |n+1=>uO c.aE λr=>.node r λa=>gA c (aH c.key c.aI) a.gen (bO c k n) k 0 r 0
def RN(c:Call)(n:Nat):I Result:=bif !bU c.key||(decide (c.bF<0)||decide (c.bF>3))then .ret {err:=1}else bO c n n
def n9(c:Call)(path:List Int)(h v:Nat):Nat->I Result
 |0=>.ret (dL true v)
 |l+1=>mM c.aE (path.getD (l+1) 0) λm=>.node m λn=>bif n.kind != 5 then .ret (dL true v)else
  qW c.aE (path.getD l 0) (path.getD (l+1) 0) h l λ_=>n9 c path h v l
def wM(c:Call)(again:I Result)(path:List Int)(h:Nat)(i m:Int)(n:Node)(v:Nat):I Result:=
 .alloc n m λr=>swapT c.aE i m r λok=>bif !ok then again else n9 c path h v (path.length-1)
def Qj(c:Call)(v:Nat):Bool:=!c.only||v==c.expect
def Cq(c:Call)(again:I Result)(path:List Int)(h:Nat)(i m:Int)(n:Node):I Result:=
 bif !(bB n.aF c.key).2 then .ret {}else bif !Qj c (bB n.aF c.key).1 then .ret (cC true (bB n.aF c.key).1)
 else bif !(gC n c.key).2 then .ret {}else wM c again path h i m (gC n c.key).1 (bB n.aF c.key).1
def Pp(c:Call)(again:I Result)(path:List Int)(h:Nat)(i m:Int)(n:Node)(level:Int)(x:Node):I Result:=
 bif !bR x.key c.key then .ret {}else bif !Qj c x.value then .ret (cC true x.value)
 else bif (fF (bL n (slice h level)).1).2 then .node (fF (bL n (slice h level)).1).1 λq=>wM c again path h i m (bQ (bL n (slice h level)).1 level q) x.value
 else wM c again path h i m (bQ (bL n (slice h level)).1 level {}) x.value
def pM(c:Call)(h:Nat)(gen:Int)(again:I Result):Nat->List Int->Int->Nat->I Result
 |0,_,_,_=>again
 |k+1,path,i,level=>mM c.aE i λm=>.node m λn=>
  bif n.kind==5 then qW c.aE (bif decide (0<level)then path.getD (level-1) 0 else 0) i h ((level:Int)-1) λ_=>again
  else bif n.kind==6 then Cq c again path h i m n
  else bif n.kind==3 then
   bif !(aB n (slice h level)).2 then .ret {}else .node (aB n (slice h level)).1 λx=>
    bif x.kind==4 then Pp c again path h i m n level x
    else bif x.gen != gen then pD c.aE i m (slice h level) λb=>bif b==0 then again else pM c h gen again k (path++[b]) b (level+1)
    else pM c h gen again k (path++[(aB n (slice h level)).1]) (aB n (slice h level)).1 (level+1)
  else .ret {}
def yQ(c:Call)(k:Nat):Nat->I Result
 |0=>.ret {}
 |n+1=>uO c.aE λr=>.node r λa=>pM c (aH c.key c.aI) a.gen (yQ c k n) k [r] r 0
def SP(c:Call)(n:Nat):I Result:=bif !bU c.key then .ret {err:=1}else yQ c n n
def mS(c:Call)(n:Nat):I Result:=
 if c.kind=7 then FN c n else if c.kind=8 then RN c n else if c.kind=9 then SP c n
 else if c.kind=10 then Cg c.aE n else if c.kind=11 then Qg c.aE n else if c.kind=14 then Fi c.aE n (Il n)else iT c.aE n
end Go.Ct
end
section
namespace Go.Ct
variable{β:Type}{g:Ga}[Qc β]
theorem q0{r:Result}(h:r.aE={}):Qc.q g r:=.inl (by rw[h];exact JA 0)
theorem yD{g g':Ga}(h:Ge g g'):g.gen<=g'.gen:=h.gen
theorem Za{t:bC}(hro:t.readOnly=false):∀(n:Nat) (g:Ga),GW g->Tk g t->Sm (iT t n) (vK t n) g
 |0,g,hw,ht=>.ret _ g (q0 rfl)
 |n+1,g,hw,ht=>Bk hw ht λg1 h1 hw1 r hr=>mN hw1 (ht.ge h1) hr λg2 h2 hw2 m hm=>.alloc (0,0) (Js (by decide) (by decide)) ⟨(λh=>by cases h),(λ_=>.inl rfl),λh=>by cases h⟩ λh3 hw3=>
  .gen λh4 hw4=>.alloc (0,0) (rH (by omega) (by show _<=((_+1:Nat):Int);omega) (by decide)) ⟨λ_=>(kQ hw2 rfl).ge h4,(λh=>by cases h),λh=>by cases h⟩ λh5 hw5=>by
   have hg:=h3.trans (h4.trans h5)
   refine Iw hw5 (ht.ge (h1.trans (h2.trans hg))) hro (hr.ge (h2.trans hg)) (hm.m.ge hg) (oU hw4 rfl) λg6 h6 hw6 ok=>?_
   cases ok with
   |true=>exact .ret _ _ (q0 rfl)
   |false=>exact Za hro n g6 hw6 (ht.ge (h1.trans (h2.trans (hg.trans h6))))
theorem Ce{m:Int}(hw:GW g)(hm:oH g m (0,0)):Sm (Bt m) (wK m) g:=
 .gen λh1 hw1=>.alloc (0,0) (rH (by omega) (by show _<=((_+1:Nat):Int);omega) (by decide)) ⟨λ_=>hm.ge h1,(λh=>by cases h),λh=>by cases h⟩ λh2 hw2=>.cell .root (.inl rfl) (oU hw1 rfl) λh3 hw3=>.ret _ _ (.inr (Xy _ _ _))
theorem Ou{r:Int}(hw:GW g)(hr:jV g r (0,0)):Sm (Gd r) (Vn r) g:=.cell .fixed (.inr rfl) hr λh3 hw3=>.ret _ _ (.inr (Xy _ _ _))
theorem Cb{t:bC}(hro:t.readOnly=false)(fz:Bool):∀(n:Nat) (g:Ga),GW g->Tk g t->Sm (Gb t (λr m=>bif fz then Gd r else Bt m) n) (Xl t fz n) g
 |0,g,hw,ht=>.ret _ g (q0 rfl)
 |n+1,g,hw,ht=>Bk hw ht λg1 h1 hw1 r hr=>mN hw1 (ht.ge h1) hr λg2 h2 hw2 m hm=>
  .gen λh4 hw4=>.alloc (0,0) (rH (by omega) (by show _<=((_+1:Nat):Int);omega) (by decide)) ⟨λ_=>hm.m.ge h4,(λh=>by cases h),λh=>by cases h⟩ λh5 hw5=>by
   have hg:=h4.trans h5
   refine Iw hw5 (ht.ge (h1.trans (h2.trans hg))) hro (hr.ge (h2.trans hg)) (hm.m.ge hg) (oU hw4 rfl) λg6 h6 hw6 ok=>?_
   cases ok with
   |true=>
    cases fz with
    |true=>exact Ou hw6 (hr.ge (h2.trans (hg.trans h6)))
    |false=>exact Ce hw6 (hm.ge (hg.trans h6))
   |false=>exact Cb hro fz n g6 hw6 (ht.ge (h1.trans (h2.trans (hg.trans h6))))
theorem Xh{c:Call}(n:Nat)(hw:GW g)(ht:Tk g c.aE):Sm (Cg c.aE n) (iL c.aE false n) g:=by
 unfold Cg iL
 cases hro:c.aE.readOnly with
 |true=>exact .load .fixed (ht.fixed hro) λg1 h1 hw1 r hr=>mN hw1 (ht.ge h1) hr λg2 h2 hw2 m hm=>Ce hw2 hm
 |false=>exact Cb hro false n g hw ht
theorem II{c:Call}(n:Nat)(hw:GW g)(ht:Tk g c.aE):Sm (Qg c.aE n) (iL c.aE true n) g:=by
 unfold Qg iL
 cases hro:c.aE.readOnly with
 |true=>exact .load .fixed (ht.fixed hro) λg1 h1 hw1 r hr=>Ou hw1 hr
 |false=>exact Cb hro true n g hw ht
abbrev Kj(g:Ga)(b:fV)(k k':Int->I β):Prop:=∀g',Ge g g'->GW g'->∀r,(r=0\/jV g' r b)->Sm (k r) (k' r) g'
theorem Ai{n:Node}{i:Int}(h:(aB n i).2=true):n.kind=3:=(ND (DF h).1).1
theorem OX{t:bC}{k k':Int->I β}{i c ix:Int}{b:fV}(hw:GW g)(ht:Tk g t)(hi:jV g i b)(hc:Ul g c b)(hl:(aB (g.node c) ix).2=true)(hb:jV g (aB (g.node c) ix).1 (dO b ix))(hk:Kj g (dO b ix) k k'):Sm (pD t i c ix k) ((Hx t i c ix).bind k') g:=by
 have hkc:=Ai hl
 have hn:=hw.ofM hc.m
 refine .nl hc.dU (.nr hc.dU (Sm.ff (by rw[hl];rfl) (Sm.as9 (mN hw ht hb λg1 h1 hw1 m hm=>?_))))
 have hi1:=hi.ge h1
 have hc1:=hc.ge h1
 have hgen:=(hw1.YW hi1).i hi1.1
 have hv:=(hw1.YW hi1).valid
 have h1g:1<=(g1.node i).gen:=(fJ hv).gen hi1.1
 refine .nl hi1.dU (.nr hi1.dU (.alloc (dO b ix) (rH h1g hgen.1 (by have:=(hn.c hkc).1;show b.1+1<=11;omega)) ⟨λ_=>hm,(λh=>by cases h),λh=>by cases h⟩ λh2 hw2=>?_))
 have hI:=oU hw1 (n:={kind:=2,gen:=(g1.node i).gen}) (i:=m) (b:=dO b ix) rfl
 have hc2:=hc1.ge h2
 have e2:(g1.alloc {kind:=2,gen:=(g1.node i).gen} m (dO b ix)).node c=g.node c:=(h1.trans h2).node hc.dU
 obtain⟨u1,u2,u3⟩:=yY (hw2.ofM hc2.m) (by rw[e2];exact hkc) (by rw[e2];exact hl) (.inl hI)
 refine .nl hc2.dU (Sm.ff (by rw[u2];rfl) ?_)
 unfold nU
 refine .nr hc2.dU (.alloc b u1 (mZ u3 (.inr hc2)) λh3 hw3=>?_)
 have hg:=h1.trans (h2.trans h3)
 refine Sm.as9 (u:=mE t i c _) (Gh hw3 (ht.ge hg) (hi.ge hg) (kQ hw2 u3) λg4 h4 hw4 ok=>?_)
 cases ok with
 |true=>exact hk g4 (hg.trans h4) hw4 _ (.inr (hI.ge (h3.trans h4)))
 |false=>exact hk g4 (hg.trans h4) hw4 0 (.inl rfl)
theorem Jz{t:bC}{k k':Bool->I β}{i c:Int}{h:Nat}{l:Int}{b:fV}(hw:GW g)(ht:Tk g t)(hi:jV g i b)(hl:l=(b.1:Int))(hc:jV g c (dO b (slice h l))\/∀g',Ge g g'->GW g'->∀m,oH g' m b->(aB (g'.node m) (slice h l)).1≠c\/(aB (g'.node m) (slice h l)).2=false)(hk:Kb g k k'):Sm (qW t i c h l k) ((yF t i c h l).bind k') g:=by
 refine Sm.as9 (mN hw ht hi λg1 h1 hw1 m hm=>?_)
 refine .nl hm.dU (.nr hm.dU ?_)
 dsimp only
 cases hl1:(aB (g1.node m) (slice h l)).2 with
 |false=>exact hk g1 h1 hw1 false
 |true=>
  cases hl2:(aB (g1.node m) (slice h l)).1 != c with
  |true=>exact hk g1 h1 hw1 false
  |false=>
   have e1:(aB (g1.node m) (slice h l)).1=c:=by simpa using hl2
   rcases hc with hc|hc
   ·refine Sm.as9 (mN hw1 (ht.ge h1) (hc.ge h1) λg2 h2 hw2 q hq=>?_)
    refine .nl hq.dU (.nr hq.dU ?_)
    dsimp only
    cases hu:(aT (g2.node q)).2 with
    |false=>exact hk g2 (h1.trans h2) hw2 false
    |true=>
     obtain⟨u1,u2,u3⟩:=Zb (hw2.ofM hq.m) hu
     have hm2:=hm.ge h2
     have ek:(g2.node m).kind=3:=by rw[h2.node hm.dU];exact Ai hl1
     refine .nl hm2.dU (.alloc (dO b (slice h l)) u1 (wH (.inl u2)) λh3 hw3=>?_)
     have hS:=Cs (g:=g2) (b:=dO b (slice h l)) (b':=dO b (slice h l)) (i:=0) u2 u3
     have hm3:=hm2.ge h3
     refine .nr hm3.dU ?_
     rw[h3.node hm2.dU]
     obtain⟨p1,p2,p3⟩:=yY ((hw2.ofM hm2.m).ge h3) ek (by rw[h2.node hm.dU];exact hl1) (.inr hS)
     obtain⟨q1,q2⟩:=qO (i:=slice h l) p1 (by
      have:=qQ (n:=g2.node m) (i:=slice h l) (r:=g2.nodes.length+3) (by obtain⟨L,hL⟩:=(hw2.ofM hm2.m).fit;exact hL.bm) (by rw[h2.node hm.dU];exact hl1) (by omega)
      rw[this]) (s:=(aT (g2.node q)).1) (λ_=>⟨u1.hash,u1.key,u3⟩) hl
     refine Sm.ff (by rw[p2];rfl) (.alloc b q1 (mZ q2 (.inr hm3)) λh4 hw4=>?_)
     have hg:=h1.trans (h2.trans (h3.trans h4))
     exact Gh hw4 (ht.ge hg) (hi.ge hg) (kQ hw3 q2) (hk.ge hg)
   ·rcases hc g1 h1 hw1 m hm with hc|hc
    ·exact absurd e1 hc
    ·rw[hl1]at hc;cases hc
theorem Zl{l:List bN}{key:ByteArray}(h:(bB l key).2=false):(bB l key).1=0:=by
 unfold bB at h ⊢
 split
 ·rename_i q;rw[if_pos q]at h;cases h
 ·rfl
theorem ES{key:ByteArray}{x:Node}{u v:I Result}(hu:u=bif bR x.key key then .ret (cC true x.value)else .ret (cC false 0)):Sm (vO key x) u g:=by
 subst hu
 unfold vO
 cases bR x.key key with
 |true=>exact .ret _ g (q0 rfl)
 |false=>exact .ret _ g (q0 rfl)
theorem GG{t:bC}{key:ByteArray}{h:Nat}:∀(n:Nat) (i level:Int) (b:fV) (g:Ga),GW g->Tk g t->jV g i b->Sm (pG t key h n i level) (Mp t key h n i level) g
 |0,i,level,b,g,hw,ht,hi=>.ret _ g (q0 rfl)
 |n+1,i,level,b,g,hw,ht,hi=>mN hw ht hi λg1 h1 hw1 r hr=>by
  refine .nl hr.dU (.nr hr.dU ?_)
  have hn:=hw1.ofM hr.m
  rcases sH hr.m with hk|hk|hk
  ·refine Sm.tt (by rw[hk];rfl) ?_
   rw[show ((g1.node r).kind==5)=false by rw[hk];rfl,show ((g1.node r).kind==6)=false by rw[hk];rfl]
   cases hl:(aB (g1.node r) (slice h level)).2 with
   |false=>exact .ret _ g1 (q0 rfl)
   |true=>
    have hb:=(hn.c hk).2.2 _ hl
    rcases hb with hb|hb
    ·refine .nl hb.dU (.nr hb.dU ?_)
     rw[show ((g1.node (aB (g1.node r) (slice h level)).1).kind==4)=false by rw[hb.1];rfl]
     exact GG n _ _ _ g1 hw1 (ht.ge h1) hb
    ·refine .nl hb.dU (.nr hb.dU ?_)
     rw[show ((g1.node (aB (g1.node r) (slice h level)).1).kind==4)=true by rw[hb.1];rfl]
     exact ES (v:=.ret {}) rfl
  ·refine Sm.ff (by rw[hk];rfl) (Sm.tt (by rw[hk];rfl) ?_)
   rw[show ((g1.node r).kind==5)=true by rw[hk];rfl]
   exact ES (v:=.ret {}) rfl
  ·refine Sm.ff (by rw[hk];rfl) (Sm.ff (by rw[hk];rfl) (Sm.tt (by rw[hk];rfl) ?_))
   rw[show ((g1.node r).kind==5)=false by rw[hk];rfl,show ((g1.node r).kind==6)=true by rw[hk];rfl]
   cases hp:(bB (g1.node r).aF key).2 with
   |true=>exact .ret _ g1 (q0 rfl)
   |false=>rw[Zl hp];exact .ret _ g1 (q0 rfl)
theorem UD{c:Call}(n:Nat)(hw:GW g)(ht:Tk g c.aE):Sm (uO c.aE λr=>pG c.aE c.key (aH c.key c.aI) n r 0) (tH c n) g:=
 Bk hw ht λg1 h1 hw1 r hr=>GG n r 0 _ g1 hw1 (ht.ge h1) hr
end Go.Ct
end
