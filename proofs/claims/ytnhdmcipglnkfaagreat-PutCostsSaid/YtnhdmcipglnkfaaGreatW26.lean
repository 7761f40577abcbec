/- Parts of a proof: Fa. -/
import Derived.Test.YtnhdmcipglnkfaaGreatW25
set_option linter.unusedVariables false
set_option linter.unusedSimpArgs false
set_option maxRecDepth 100000
set_option maxHeartbeats 4000000
section
namespace Go.Ct
variable{α:Type}{g:Ga}
def I.Al{α:Type}(Q:α->St->Prop):I α->Nat->Nat->St->Prop
 |.ret a,_,_,s=>Q a s
 |.load c k,n,j,s=>0<n/\(k (s.load c).2).Al Q (n-1) j (s.load c).1
 |.cH c o v k,n,j,s=>0<n/\(k (s.cH c o v).2).Al Q (n-1) j (s.cH c o v).1
 |.alloc a i k,n,j,s=>0<j/\(cL s->a.Fit (s.aG.length+1))/\(k (s.alloc a i).2).Al Q n (j-1) (s.alloc a i).1
 |.cell i k,n,j,s=>0<j/\(k (s.aT i).2).Al Q n (j-1) (s.aT i).1
 |.gen k,n,j,s=>0<j/\(k s.bL.2).Al Q n (j-1) s.bL.1
 |.node r k,n,j,s=>(k (s.node r)).Al Q n j s
variable{Q:α->St->Prop}
theorem Al.mono:∀{t:I α} {n m i j:Nat} {s:St},t.Al Q n i s->n<=m->i<=j->t.Al Q m j s
 |.ret _,_,_,_,_,_,h,_,_=>h
 |.load c k,n,m,i,j,s,h,hm,hj=>⟨Lz h.1 hm,Al.mono h.2 (by omega) hj⟩
 |.cH c o v k,n,m,i,j,s,h,hm,hj=>⟨Lz h.1 hm,Al.mono h.2 (by omega) hj⟩
 |.alloc a q k,n,m,i,j,s,h,hm,hj=>⟨Lz h.1 hj,h.2.1,Al.mono h.2.2 hm (by omega)⟩
 |.cell q k,n,m,i,j,s,h,hm,hj=>⟨Lz h.1 hj,Al.mono h.2 hm (by omega)⟩
 |.gen k,n,m,i,j,s,h,hm,hj=>⟨Lz h.1 hj,Al.mono h.2 hm (by omega)⟩
 |.node r k,n,m,i,j,s,h,hm,hj=>Al.mono (t:=k _) h hm hj
def I.rest{α:Type}:I α->Bool
 |.ret _=>true
 |.load _ _=>true
 |.cH _ _ _ _=>true
 |_=>false
structure Tc(i:Nat)(s s':St):Prop where
 nodes:s'.aG.length<=s.aG.length+i
 more:s.aG.length<=s'.aG.length
 size:s'.size<=s.size+2*i
 acc:s'.acc=s.acc
 fit:cL s->cL s'
theorem Tc.refl(s:St):Tc 0 s s:=⟨aW _,aW _,aW _,rfl,id⟩
theorem Tc.trans{i j:Nat}{s s1 s2:St}(h:Tc i s s1)(k:Tc j s1 s2):Tc (i+j) s s2:=
 ⟨by have:=h.nodes;have:=k.nodes;omega,kR h.more k.more,by have:=h.size;have:=k.size;omega,k.acc.trans h.acc,k.fit∘h.fit⟩
theorem Al.head:∀{t:I α} {n j:Nat} {s:St},t.Al Q n j s->∃i,i<=j/\Tc i s (t.head s).1/\(t.head s).2.rest=true/\(t.head s).2.Al Q n (j-i) (t.head s).1
 |.ret _,_,j,s,h=>⟨0,bZ j,.refl s,rfl,h⟩
 |.load c k,n,j,s,h=>⟨0,bZ j,.refl s,rfl,h⟩
 |.cH c o v k,n,j,s,h=>⟨0,bZ j,.refl s,rfl,h⟩
 |.alloc a q k,n,j,s,h=>by
  obtain⟨i,h1,h2,h3,h4⟩:=Al.head (t:=k _) h.2.2
  have h0:=h.1
  have hz:=(St.mM s a q).1
  have e:(s.alloc a q).1.aG.length=s.aG.length+1:=by rw[iE,cV];rfl
  exact⟨1+i,by omega,Tc.trans ⟨by omega,by omega,by omega,by unfold St.alloc St.aT;dsimp only;split<;>rfl,λhf=>hf.alloc (h.2.1 hf) q⟩ h2,h3,by rw[show j-(1+i)=j-1-i by omega];exact h4⟩
 |.cell q k,n,j,s,h=>by
  obtain⟨i,h1,h2,h3,h4⟩:=Al.head (t:=k _) h.2
  have h0:=h.1
  exact⟨1+i,by omega,Tc.trans (s1:=(s.aT q).1) ⟨by show s.aG.length<=_;omega,aW _,by(show s.aG.length+(s.cells++[q]).length+s.gen+s.acc<=s.aG.length+s.cells.length+s.gen+s.acc+2;rw[cV,fR];omega),rfl,id⟩ h2,h3,by rw[show j-(1+i)=j-1-i by omega];exact h4⟩
 |.gen k,n,j,s,h=>by
  obtain⟨i,h1,h2,h3,h4⟩:=Al.head (t:=k _) h.2
  have h0:=h.1
  exact⟨1+i,by omega,Tc.trans (s1:=s.bL.1) ⟨by show s.aG.length<=_;omega,aW _,by(show s.aG.length+s.cells.length+(s.gen+1)+s.acc<=s.aG.length+s.cells.length+s.gen+s.acc+2;omega),rfl,id⟩ h2,h3,by rw[show j-(1+i)=j-1-i by omega];exact h4⟩
 |.node r k,n,j,s,h=>Al.head (t:=k _) h
def rd(s:St)(c:Int):Int:=(s.load c).2
theorem Nm{c:Int}{k:Int->I α}{n j:Nat}{s:St}(h:(k (rd s c)).Al Q n j (s.load c).1):(I.load c k).Al Q (n+1) j s:=⟨Nat.succ_pos n,h⟩
theorem WE{c o v:Int}{k:Bool->I α}{n j:Nat}{s:St}(h:(k (s.cH c o v).2).Al Q n j (s.cH c o v).1):(I.cH c o v k).Al Q (n+1) j s:=⟨Nat.succ_pos n,h⟩
theorem Hx{a:Node}{i:Int}{k:Int->I α}{n j:Nat}{s:St}(hf:cL s->a.Fit (s.aG.length+1))(h:(k (s.alloc a i).2).Al Q n j (s.alloc a i).1):(I.alloc a i k).Al Q n (j+1) s:=⟨Nat.succ_pos j,hf,h⟩
theorem alG{k:Int->I α}{n j:Nat}{s:St}(h:(k s.bL.2).Al Q n j s.bL.1):(I.gen k).Al Q n (j+1) s:=⟨Nat.succ_pos j,h⟩
theorem alC{i:Int}{k:Int->I α}{n j:Nat}{s:St}(h:(k (s.aT i).2).Al Q n j (s.aT i).1):(I.cell i k).Al Q n (j+1) s:=⟨Nat.succ_pos j,h⟩
theorem nT{r:Int}{x:Node}{k:Node->I α}{n j:Nat}{s:St}(hx:s.node r=x)(h:(k x).Al Q n j s):(I.node r k).Al Q n j s:=by subst hx;exact h
theorem iD(s:St)(c d:Int):rd (s.load c).1 d=rd s d:=rfl
theorem oX{s:St}{c o v:Int}(hc:s.bD c=true)(ho:rd s c=o):rd (s.cH c o v).1 c=v/\(s.cH c o v).2=true:=by
 have h0:s.cells.getD (c.toNat-1) 0=o:=by rw[<- ho];unfold rd St.load;dsimp only;rw[if_pos hc]
 have hs:s.pV c o=true:=by unfold St.pV;rw[hc,h0];simp
 refine⟨?_,hs⟩
 have h1:=hc
 unfold St.bD at h1
 simp at h1
 have e:(s.cH c o v).1.cells=s.cells.set (c.toNat-1) v:=by unfold St.cH;dsimp only;rw[if_pos hs]
 unfold rd St.load
 dsimp only
 have h2:(s.cH c o v).1.bD c=true:=by unfold St.bD;rw[e,tS];simp;exact h1
 rw[if_pos h2,e,cK,List.getElem?_set_self (by omega)];rfl
theorem nL{s:St}{c o v d:Int}(h:d≠c\/rd s c≠o):rd (s.cH c o v).1 d=rd s d:=by
 by_cases hs:s.pV c o=true
 ·have hc:s.bD c=true/\s.cells.getD (c.toNat-1) 0=o:=by unfold St.pV at hs;simpa using hs
  have h1:=hc.1
  unfold St.bD at h1
  simp at h1
  rcases h with h|h
  ·have e:(s.cH c o v).1.cells=s.cells.set (c.toNat-1) v:=by unfold St.cH;dsimp only;rw[if_pos hs]
   have e2:(s.cH c o v).1.bD d=s.bD d:=by unfold St.bD;rw[e,tS]
   unfold rd St.load
   dsimp only
   rw[e2,e]
   by_cases hd:s.bD d=true
   ·rw[if_pos hd,if_pos hd]
    unfold St.bD at hd
    simp at hd
    rw[cK,F2 (by omega),<- cK]
   ·rw[if_neg hd,if_neg hd]
  ·refine absurd ?_ h
   unfold rd St.load;dsimp only;rw[if_pos hc.1];exact hc.2
 ·have e:(s.cH c o v).1.cells=s.cells:=by unfold St.cH;dsimp only;rw[if_neg hs]
  unfold rd St.load St.bD
  dsimp only
  rw[e]
structure Tw(g:Ga)(s:St):Prop where
 gw:GW g
 gC:oS g s
theorem Tw.has{s:St}(h:Tw g s){c:Int}{τ:dD}(hc:g.dZ c=some τ):s.bD c=true:=h.gC.has hc
theorem Tw.val{s:St}(h:Tw g s){c:Int}{τ:dD}(hc:g.dZ c=some τ):∃g',Ge g g'/\Tw g' (s.load c).1/\I2 g' c (rd s c) τ:=by
 obtain⟨g',a,b,d,e⟩:=h.gC.val h.gw hc
 exact⟨g',a,⟨b,d⟩,e⟩
theorem Tw.cH{s:St}(h:Tw g s){c o n:Int}{τ:dD}(hc:g.dZ c=some τ)(hm:ZE g c o n τ):∃g',Ge g g'/\Tw g' (s.cH c o n).1:=by
 obtain⟨g',a,b,_,d⟩:=h.gC.cH h.gw (o:=o) hc hm
 exact⟨g',a,b,d⟩
theorem lK{s:St}(h:Tw g s){n:Node}{i c:Int}{τ:dD}(hc:g.dZ c=some τ):rd (s.alloc n i).1 c=rd s c:=by
 have h1:=h.has hc
 have e:=mV s n i (0,0)
 have h2:(s.alloc n i).1.bD c=true:=by
  unfold St.bD at h1 ⊢
  rw[e,cV];simp at h1 ⊢;omega
 unfold rd St.load
 dsimp only
 rw[if_pos h1,if_pos h2,e]
 unfold St.bD at h1
 simp at h1
 rw[cK,vS (by omega),<- cK]
theorem Tw.ne{c d:Int}{τ σ:dD}(hc:g.dZ c=some τ)(hd:g.dZ d=some σ)(h:τ≠σ):c≠d:=by
 rintro rfl
 exact h (Lx (hc.symm.trans hd))
def Gq(d:Node)(st:Int):Int:=bif st==1 then d.new else d.dO
theorem TJ{v st:Int}(hw:GW g)(hv:wH g v):fH g (Gq (g.node v) st) (0,0):=by
 have h:=(hw.ofD hv).d hv
 unfold Gq
 cases (st==1)with
 |true=>exact h.2.2
 |false=>exact h.1
theorem fH.aIl{v:Int}{b:eC}(h:fH g v b)(hd:wH g v):False:=by
 have h1:=h.1
 rw[show (g.node v).kind=8 from hd]at h1
 exact absurd h1 (by decide)
def Iv(g:Ga)(t:aX)(s:St)(v:Int):Prop:=rd s t.root=v\/(rd s (g.node v).status≠0/\rd s t.root=Gq (g.node v) (rd s (g.node v).status))
structure Rt(g:Ga)(t:aX)(s s':St):Prop where
 i:fH g (rd s t.root) (0,0)->rd s' t.root=rd s t.root
 d:wH g (rd s t.root)->Iv g t s' (rd s t.root)
 k:∀c,g.dZ c=some .status->rd s c≠0->rd s' c=rd s c
theorem Rt.of{t:aX}{s s':St}(h:rd s' t.root=rd s t.root)(h2:∀c,g.dZ c=some .status->rd s c≠0->rd s' c=rd s c):Rt g t s s':=⟨λ_=>h,λ_=>.inl h,h2⟩
theorem Rt.trans{t:aX}{g':Ga}{s s1 s2:St}(hw:GW g)(hg:Ge g g')(h:Rt g t s s1)(k:Rt g' t s1 s2):Rt g t s s2:=by
 refine⟨λhi=>?_,λhd=>?_,λc hc h0=>?_⟩
 ·have h1:=h.i hi
  rw[k.i (by rw[h1];exact hi.ge hg),h1]
 ·have e:∀s,Iv g' t s (rd s t.root)=Iv g t s (rd s t.root)\/True:=λ_=>.inr trivial
  have en:g'.node (rd s t.root)=g.node (rd s t.root):=hg.node (wH.bX hd)
  rcases h.d hd with h1|⟨h1,h2⟩
  ·have h3:=k.d (by rw[h1];exact wH.ge hd hg)
   rw[h1]at h3
   unfold Iv at h3 ⊢
   rw[en]at h3;exact h3
  ·have h3:rd s2 t.root=rd s1 t.root:=k.i (by rw[h2];exact(TJ hw hd).ge hg)
   have h4:rd s2 (g.node (rd s t.root)).status=rd s1 (g.node (rd s t.root)).status:=k.k _ (hg.dZ (hw.uN hd)) h1
   exact .inr ⟨by rw[h4];exact h1,by rw[h3,h4];exact h2⟩
 ·have h1:=h.k c hc h0
  rw[k.k c (hg.dZ hc) (by rw[h1];exact h0),h1]
def P2(g:Ga)(s s':St):Prop:=∀c b,g.dZ c=some (.main b)\/g.dZ c=some (.prev b)->rd s' c=rd s c
theorem P2.trans{g':Ga}{s s1 s2:St}(hg:Ge g g')(h:P2 g s s1)(k:P2 g' s1 s2):P2 g s s2:=λc b hc=>(k c b (hc.imp hg.dZ hg.dZ)).trans (h c b hc)
abbrev Kw(Q:α->St->Prop)(g:Ga)(t:aX)(s:St)(n j:Nat)(k:Int->I α):Prop:=∀g' s' r,Ge g g'->Tw g' s'->fH g' r (0,0)->rd s' t.root=r->Rt g t s s'->P2 g s s'->(k r).Al Q n j s'
theorem Kw.ge{t:aX}{s s1:St}{n j:Nat}{k:Int->I α}{g1:Ga}(h:Kw Q g t s n j k)(hw:GW g)(hg:Ge g g1)(hr:Rt g t s s1)(hk:P2 g s s1):Kw Q g1 t s1 n j k:=
 λg' s' r a b d e f m=>h g' s' r (hg.trans a) b d e (hr.trans hw hg f) (hk.trans hg m)
theorem aEc{t:aX}{s:St}{v st:Int}{n j:Nat}{k:Int->I α}(hT:Tw g s)(ht:g.dZ t.root=some .root)(hv:wH g v)(hs:rd s (g.node v).status=st)(h0:st≠0)(hI:Iv g t s v)(H:Kw Q g t s n j k):(mN t v st k).Al Q (n+1) j s:=by
 have hW:=TJ (st:=st) hT.gw hv
 obtain⟨g',a,b⟩:=hT.cH (o:=v) (n:=Gq (g.node v) st) ht (.inl hW)
 have oP:∀c,g.dZ c=some .status->rd (s.cH t.root v (Gq (g.node v) st)).1 c=rd s c:=λc hc=>nL (.inl (Tw.ne hc ht (by decide)))
 have hr:rd (s.cH t.root v (Gq (g.node v) st)).1 t.root=Gq (g.node v) st:=by
  by_cases hv':rd s t.root=v
  ·exact(oX (hT.has ht) hv').1
  ·rw[nL (.inr hv')]
   rcases hI with hI|hI
   ·exact absurd hI hv'
   ·rw[hI.2,hs]
 have hR:Rt g t s (s.cH t.root v (Gq (g.node v) st)).1:=by
  refine⟨λhi=>?_,λhd=>?_,λc hc _=>oP c hc⟩
  ·rw[hr]
   rcases hI with hI|hI
   ·rw[hI]at hi;exact(hi.aIl hv).elim
   ·rw[hI.2,hs]
  ·have e:rd s t.root=v:=by
    rcases hI with hI|hI
    ·exact hI
    ·rw[hI.2,hs]at hd;exact(hW.aIl hd).elim
   rw[e]
   refine .inr ?_
   rw[oP _ (hT.gw.uN hv),hs,hr];exact⟨h0,rfl⟩
 have hK:=H g' _ _ a b (hW.ge a) hr hR λc b' hc=>nL (.inl (hc.elim (λhc=>Tw.ne hc ht (by intro h;cases h)) λhc=>Tw.ne hc ht (by intro h;cases h)))
 refine nT (hT.gC.node v) ?_
 unfold Gq at *
 cases hq:(st==1)with
 |true=>rw[hq]at hK;exact WE hK
 |false=>rw[hq]at hK;exact WE hK
theorem xE{t:aX}(s:St)(c:Int):Rt g t s (s.load c).1:=Rt.of rfl λ_ _ _=>rfl
theorem Mu(s:St)(c:Int):P2 g s (s.load c).1:=λ_ _ _=>rfl
theorem aBi{v c:Int}(h:I2 g c v .root):fH g v (0,0)/\((g.node v).kind==2)=true\/wH g v/\((g.node v).kind==2)=false:=by
 rcases h with h|h
 ·exact .inl ⟨h,by rw[h.1];rfl⟩
 ·exact .inr ⟨h,by rw[show (g.node v).kind=8 from h];rfl⟩
theorem aBy{t:aX}{s:St}{v x:Int}{n j:Nat}{k:Int->I α}(hT:Tw g s)(ht:g.dZ t.root=some .root)(hv:wH g v)(hx:x=1\/x=2)(hI:Iv g t s v)(H:Kw Q g t s n j k):(I.cH (g.node v).status 0 x λ_=>.load (g.node v).status λst=>mN t v st k).Al Q (n+3) j s:=by
 have hc:=hT.gw.uN hv
 obtain⟨g1,h1,cY⟩:=hT.cH (o:=0) (n:=x) hc hx
 obtain⟨g2,h2,gO,QH⟩:=cY.val (h1.dZ hc)
 have hg:=h1.trans h2
 have hr:rd (s.cH (g.node v).status 0 x).1 t.root=rd s t.root:=nL (.inl (Tw.ne ht hc (by decide)))
 have hk:∀c,g.dZ c=some .status->rd s c≠0->rd (s.cH (g.node v).status 0 x).1 c=rd s c:=λc Yz h0=>by
  by_cases e:c=(g.node v).status
  ·exact nL (.inr (by rw[<- e];exact h0))
  ·exact nL (.inl e)
 have hR:Rt g t s (s.cH (g.node v).status 0 x).1:=Rt.of hr hk
 have hM:P2 g s (s.cH (g.node v).status 0 x).1:=λc b Yz=>nL (.inl (Yz.elim (λh=>Tw.ne h hc (by intro h;cases h)) λh=>Tw.ne h hc (by intro h;cases h)))
 have hs0:rd (s.cH (g.node v).status 0 x).1 (g.node v).status≠0:=by
  by_cases h0:rd s (g.node v).status=0
  ·rw[(oX (hT.has hc) h0).1];omega
  ·rw[hk _ hc h0];exact h0
 have ZK:Iv g2 t (s.cH (g.node v).status 0 x).1 v:=by
  unfold Iv
  rw[hg.node (wH.bX hv),hr]
  rcases hI with hI|hI
  ·exact .inl hI
  ·rw[hk _ hc hI.1];exact .inr hI
 refine WE (Nm (aEc gO (hg.dZ ht) (wH.ge hv hg) (by rw[hg.node (wH.bX hv)];rfl) hs0 ?_ (H.ge hT.gw hg (hR.trans hT.gw h1 (xE _ _)) (hM.trans h1 (Mu _ _)))))
 exact ZK
theorem aJ8{t:aX}{s:St}{n j:Nat}{k:Int->I α}(hT:Tw g s)(ht:g.dZ t.root=some .root)(H:Kw Q g t s n j k):(Vz t k).Al Q (n+5) j s:=by
 obtain⟨g1,h1,cY,hv⟩:=hT.val ht
 refine Nm (n:=n+4) (nT (cY.gC.node _) ?_)
 rcases aBi hv with⟨hv,hq⟩|⟨hv,hq⟩
 ·rw[hq]
  exact Al.mono (H g1 _ _ h1 cY hv rfl (xE _ _) (Mu _ _)) (by omega) (by omega)
 ·rw[hq]
  have hc:=cY.gw.uN hv
  obtain⟨g2,h2,gO,hs⟩:=cY.val hc
  refine Nm (n:=n+3) ?_
  have hH2:=H.ge hT.gw (h1.trans h2) ((xE s t.root).trans hT.gw h1 (xE (g:=g1) _ (g1.node (rd s t.root)).status)) ((Mu s t.root).trans h1 (Mu _ _))
  have QH:=wH.ge hv h2
  have e2:=h2.node (wH.bX hv)
  cases h0:(rd (s.load t.root).1 (g1.node (rd s t.root)).status != 0)with
  |true=>exact Al.mono (aEc gO ((h1.trans h2).dZ ht) QH (by rw[e2];rfl) (by simpa using h0) (.inl rfl) hH2) (by omega) (by omega)
  |false=>
   have h3:=aBy (x:=2) gO ((h1.trans h2).dZ ht) QH (.inr rfl) (.inl rfl) hH2
   rw[e2]at h3;exact h3
def Ml(l:Nat)(g:Ga)(s s':St):Prop:=∀c b,g.dZ c=some (.main b)->b.1<l->rd s' c=rd s c
theorem Ml.trans{l:Nat}{g':Ga}{s s1 s2:St}(hg:Ge g g')(h:Ml l g s s1)(k:Ml l g' s1 s2):Ml l g s s2:=λc b hc hl=>(k c b (hg.dZ hc) hl).trans (h c b hc hl)
theorem P2.ml{l:Nat}{s s':St}(h:P2 g s s'):Ml l g s s':=λc b hc _=>h c b (.inl hc)
theorem Bc{l:Nat}(s:St)(c:Int):Ml l g s (s.load c).1:=λ_ _ _ _=>rfl
theorem ZR{l:Nat}{s:St}{c o v:Int}{τ:dD}(hc:g.dZ c=some τ)(h:∀b,τ=.main b->l<=b.1):Ml l g s (s.cH c o v).1:=λd b hd hl=>nL (.inl (Tw.ne hd hc λe=>absurd (h b e.symm) (by omega)))
abbrev Kr(Q:α->St->Prop)(b:eC)(g:Ga)(t:aX)(s:St)(i:Int)(n j:Nat)(k:Int->I α):Prop:=∀g' s' m,Ge g g'->Tw g' s'->rU g' m b->rd s' (g'.node i).main=m->Rt g t s s'->Ml b.1 g s s'->(k m).Al Q n j s'
theorem Kr.ge{b:eC}{t:aX}{s s1:St}{i:Int}{n j:Nat}{k:Int->I α}{g1:Ga}(h:Kr Q b g t s i n j k)(hw:GW g)(hg:Ge g g1)(hr:Rt g t s s1)(hl:Ml b.1 g s s1):Kr Q b g1 t s1 i n j k:=
 λg' s' r a b d e f m=>h g' s' r (hg.trans a) b d e (hr.trans hw hg f) (hl.trans hg m)
theorem Tk.ne{t:aX}{c:Int}{τ:dD}(ht:Tk g t)(hc:g.dZ c=some τ)(h1:τ≠.root)(h2:τ≠.fixed):t.root≠c:=Tw.ne ht hc (by cases t.readOnly with|true=>exact h2.symm|false=>exact h1.symm)
theorem RN{t:aX}{s:St}{c o v:Int}{τ:dD}(hc:g.dZ c=some τ)(ht:Tk g t)(h1:τ≠.root)(h3:τ≠.fixed)(h2:τ≠.status):Rt g t s (s.cH c o v).1:=
 Rt.of (nL (.inl (ht.ne hc h1 h3))) λd hd _=>nL (.inl (Tw.ne hd hc h2.symm))
theorem LU{b:eC}{s:St}(hT:Tw g s){m:Int}(h:rU g m b):rd s (g.node m).prev=0:=by
 have hc:=hT.gw.oH h.m
 unfold rd St.load;dsimp only;rw[if_pos (hT.has hc)]
 exact hT.gC.DL _ _ hc h.2
theorem aAz{b:eC}{t:aX}{s:St}{i m p:Int}{n j:Nat}{k:Int->I α}(hT:Tw g s)(ht:Tk g t)(hi:fH g i b)(hm:mZ g m b)(hp:KM g p b)(hf:(g.node p).dO=g.first (g.node m).prev)(hr:rd s (g.node i).main=m)(H:Kr Q b g t s i n j k):(Gc i m p k).Al Q (n+1) j s:=by
 have ho:=(hT.gw.ofF hp).f hp.1
 have hz:rU g (g.node p).dO b:=by
  rw[hf];exact hT.gw.DL m _ hm (by rw[<- hf];have:=ho.one;omega)
 have hc:=hT.gw.fQ hi
 obtain⟨g1,h1,cY⟩:=hT.cH (o:=m) (n:=(g.node p).dO) hc ho
 refine nT (hT.gC.node p) (nT (hT.gC.node i) (WE (H g1 _ _ h1 cY (hz.ge h1) ?_ (RN hc ht (by intro h;cases h) (by intro h;cases h) (by intro h;cases h)) (ZR hc λb' e=>by injection e with e;rw[e];exact aW _))))
 rw[h1.node hi.bX];exact(oX (hT.has hc) hr).1
theorem aC9{b:eC}{t:aX}{s:St}{i m p:Int}{n j:Nat}{k:Int->I α}(hT:Tw g s)(ht:Tk g t)(hi:fH g i b)(hm:mZ g m b)(hp:mZ g p b)(hf:p=g.first (g.node m).prev)(hr:rd s (g.node i).main=m)(hv:rd s (g.node m).prev=p)(H:Kr Q b g t s i n j k):(oB (g.node m).prev p false (mI (g.node m).prev i m k)).Al Q (n+3) (j+1) s:=by
 have hN:=Wh hp
 have hJ:oD g {kind:=7,dO:=p} 0 b:=⟨(λh=>by cases h),(λh=>by cases h),λh=>by cases h⟩
 obtain⟨t1,e1⟩:=hT.gC.alloc hT.gw hN hJ
 have h1:=Ga.gV hT.gw {kind:=7,dO:=p} 0 b
 have cY:Tw (g.alloc {kind:=7,dO:=p} 0 b) (s.alloc {kind:=7,dO:=p} 0).1:=⟨pB hT.gw hN hJ,t1⟩
 have hc:=hT.gw.oH hm
 have hF:=Yw hT.gw (n:={kind:=7,dO:=p}) (i:=0) (b:=b) rfl
 have hFo:((g.alloc {kind:=7,dO:=p} 0 b).node (g.nodes.length+3)).dO=p:=by rw[eG];rfl
 have hp1:=hp.one
 obtain⟨g2,h2,gO⟩:=cY.cH (c:=(g.node m).prev) (o:=p) (n:=g.nodes.length+3) (h1.dZ hc) ⟨by omega,.inr ⟨hF,by rw[h1.first hT.gw hc,<- hf];exact hFo⟩⟩
 obtain⟨g3,h3,tB,hv3⟩:=gO.val (h2.dZ (h1.dZ hc))
 have hv1:rd (s.alloc {kind:=7,dO:=p} 0).1 (g.node m).prev=p:=by rw[lK hT hc];exact hv
 have QH:=(oX (v:=(g.nodes.length:Int)+3) (cY.has (h1.dZ hc)) hv1).1
 have hg:=(h1.trans h2).trans h3
 refine Hx (j:=j) (λ_=>bP _ 7 0 p 0 0) ?_
 show (I.cH (g.node m).prev p (s.alloc {kind:=7,dO:=p} 0).2 _).Al Q (n+3) j (s.alloc {kind:=7,dO:=p} 0).1
 rw[e1]
 refine WE (n:=n+2) (Nm (n:=n+1) ?_)
 rw[QH]
 have h0:((g.nodes.length:Int)+3==0)=false:=by simp;omega
 rw[h0]
 have hF3:=hF.ge (h2.trans h3)
 refine aAz tB (ht.ge hg) (hi.ge hg) (hm.ge hg) hF3 ?_ ?_ (H.ge hT.gw hg ?_ ?_)
 ·rw[(h2.trans h3).node hF.bX,hFo,hf,hg.node hm.bX,hg.first hT.gw hc]
 ·rw[hg.node hi.bX,iD,nL (.inl (Tw.ne (h1.dZ (hT.gw.fQ hi)) (h1.dZ hc) (by intro h;cases h))),lK hT (hT.gw.fQ hi)];exact hr
 ·refine Rt.of ?_ λc Yz _=>?_
  ·rw[iD,nL (.inl (Tk.ne (ht.ge h1) (h1.dZ hc) (by intro h;cases h) (by intro h;cases h))),lK hT ht]
  ·rw[iD,nL (.inl (Tw.ne (h1.dZ Yz) (h1.dZ hc) (by intro h;cases h))),lK hT Yz]
 ·intro c b' Yz _
  rw[iD,nL (.inl (Tw.ne (h1.dZ Yz) (h1.dZ hc) (by intro h;cases h))),lK hT Yz]
theorem RY{b:eC}{t:aX}{s:St}{i m:Int}{n j:Nat}{k:Int->I α}(hT:Tw g s)(ht:Tk g t)(hi:fH g i b)(hm:mZ g m b)(hr:rd s (g.node i).main=m)(H:Kr Q b g t s i n j k):(nZ t i m k).Al Q (n+9) (j+1) s:=by
 have hc:=hT.gw.oH hm
 obtain⟨g1,h1,cY,hp⟩:=hT.val hc
 refine nT (hT.gC.node m) (Nm (n:=n+8) ?_)
 generalize hpe:rd s (g.node m).prev=p at hp
 have e1:=h1.node hm.bX
 have hR1:=xE (g:=g) (t:=t) s (g.node m).prev
 have Yx:rd (s.load (g.node m).prev).1 (g1.node i).main=m:=by rw[h1.node hi.bX];exact hr
 cases h0:(p==0)with
 |true=>exact Al.mono (H g1 _ m h1 cY ⟨hm.ge h1,by rw[e1];exact val_zero hp (by simpa using h0)⟩ Yx hR1 (Bc _ _)) (by omega) (by omega)
 |false=>
 have hp0:p≠0:=by simpa using h0
 have H1:=H.ge hT.gw h1 hR1 (Bc _ _)
 refine nT (cY.gC.node p) ?_
 rcases hp with hp|hp|⟨hf,hp,hd⟩
 ·exact absurd hp.1 hp0
 ·rw[hp.1.SE]
  exact Al.mono (aAz cY (ht.ge h1) (hi.ge h1) (hm.ge h1) hp.1 (by rw[e1];exact hp.2) Yx H1) (by omega) (by omega)
 ·rw[hp.1]
  cases eR:t.readOnly with
  |true=>
   have:=aC9 cY (ht.ge h1) (hi.ge h1) (hm.ge h1) hp (by rw[e1];exact hf) Yx (by rw[e1];exact hpe) H1
   rw[e1]at this
   exact Al.mono this (by omega) (by omega)
  |false=>
   refine Al.mono (n:=n+3+5) (i:=j+1) (aJ8 cY ((ht.ge h1).root eR) λg2 s2 r h2 gO hr2 _ hR2 hK2=>?_) (by omega) (by omega)
   have hg:=h1.trans h2
   have H2:=H1.ge cY.gw h2 hR2 hK2.ml
   have hi2:=hi.ge hg
   have DF:=hm.ge hg
   have e2:=hg.node hm.bX
   have hmr:rd s2 (g2.node i).main=m:=by rw[hg.node hi.bX,hK2 _ _ (.inl (h1.dZ (hT.gw.fQ hi)))];exact hr
   have DH:rd s2 (g2.node m).prev=p:=by rw[e2,hK2 _ _ (.inr (h1.dZ hc))];exact hpe
   have hf2:p=g2.first (g2.node m).prev:=by rw[e2,h2.first cY.gw (h1.dZ hc)];exact hf
   refine nT (gO.gC.node r) (nT (gO.gC.node i) ?_)
   cases ((g2.node r).gen==(g2.node i).gen)with
   |false=>
    have:=aC9 gO (ht.ge hg) hi2 DF (hp.ge h2) hf2 hmr DH H2
    rw[e2]at this;exact this
   |true=>
    have Nv:=gO.gw.oH DF
    obtain⟨g3,h3,tB⟩:=gO.cH (o:=p) (n:=0) Nv ⟨hp0,.inl rfl⟩
    obtain⟨g4,h4,TW,hv4⟩:=tB.val (h3.dZ Nv)
    have hz:=(oX (v:=0) (gO.has Nv) DH).1
    have h34:=h3.trans h4
    have:=H2 g4 ((s2.cH (g2.node m).prev p 0).1.load (g2.node m).prev).1 m h34 TW ⟨DF.ge h34,by rw[h34.node DF.bX];exact val_zero hv4 hz⟩ (by rw[h34.node hi2.bX,iD,nL (.inl (Tw.ne (gO.gw.fQ hi2) Nv (by intro h;cases h)))];exact hmr)
     ((RN Nv (ht.ge hg) (by intro h;cases h) (by intro h;cases h) (by intro h;cases h)).trans gO.gw h3 (xE _ _)) ((ZR Nv λb' e=>by cases e).trans h3 (Bc _ _))
    show (I.cH (g.node m).prev p 0 _).Al Q (n+3) (j+1) s2
    rw[<- e2]
    refine WE (n:=n+2) (Nm (n:=n+1) ?_)
    rw[hz]
    exact Al.mono this (by omega) (by omega)
theorem yH{b:eC}{t:aX}{s:St}{i:Int}{n j:Nat}{k:Int->I α}(hT:Tw g s)(ht:Tk g t)(hi:fH g i b)(H:Kr Q b g t s i n j k):(kT t i k).Al Q (n+10) (j+1) s:=by
 have hc:=hT.gw.fQ hi
 obtain⟨g1,h1,cY,hm⟩:=hT.val hc
 refine nT (hT.gC.node i) (Nm (n:=n+9) ?_)
 exact RY cY (ht.ge h1) (hi.ge h1) hm (by rw[h1.node hi.bX];rfl) (H.ge hT.gw h1 (xE _ _) (Bc _ _))
abbrev Kh(Q:α->St->Prop)(g:Ga)(t:aX)(n j:Nat)(k:Int->I α):Prop:=∀g' s' r,Ge g g'->Tw g' s'->fH g' r (0,0)->rd s' t.root=r->(k r).Al Q n j s'
theorem Kh.kw{t:aX}{s:St}{n j:Nat}{k:Int->I α}{g1:Ga}(H:Kh Q g t n j k)(h:Ge g g1):Kw Q g1 t s n j k:=λg' s' r a b d e _ _=>H g' s' r (h.trans a) b d e
theorem FX{t:aX}{s:St}{n j:Nat}{k:Int->I α}(hT:Tw g s)(hk:Tk g t)(H:Kh Q g t n j k):(uD t k).Al Q (n+15) (j+1) s:=by
 cases eR:t.readOnly with
 |true=>
  obtain⟨g1,h1,cY,hv⟩:=hT.val (hk.fixed eR)
  have hv:fH g1 (rd s t.root) (0,0):=hv
  refine Nm (n:=n+14) (nT (cY.gC.node _) ?_)
  rw[hv.1]
  exact Al.mono (H g1 _ _ h1 cY hv rfl) (by omega) (by omega)
 |false=>
 have ht:=hk.root eR
 obtain⟨g1,h1,cY,hv⟩:=hT.val ht
 refine Nm (n:=n+14) (nT (cY.gC.node _) ?_)
 rcases aBi hv with⟨hv,hq⟩|⟨hv,hq⟩
 ·rw[hq]
  exact Al.mono (H g1 _ _ h1 cY hv rfl) (by omega) (by omega)
 ·rw[hq]
  have hc:=cY.gw.uN hv
  obtain⟨g2,h2,gO,hs⟩:=cY.val hc
  refine Nm (n:=n+13) ?_
  have QH:=wH.ge hv h2
  have e2:=h2.node (wH.bX hv)
  cases h0:(rd (s.load t.root).1 (g1.node (rd s t.root)).status != 0)with
  |true=>exact Al.mono (aEc gO ((h1.trans h2).dZ ht) QH (by rw[e2];rfl) (by simpa using h0) (.inl rfl) (H.kw (h1.trans h2))) (by omega) (by omega)
  |false=>
   refine yH (n:=n+3) gO (hk.ge (h1.trans h2)) (((cY.gw.ofD hv).d hv).1.ge h2) λg3 s3 m h3 tB hm _ hR _=>?_
   have hg:=(h1.trans h2).trans h3
   have e3:g3.node (rd s t.root)=g1.node (rd s t.root):=(h2.trans h3).node (wH.bX hv)
   have hI:Iv g3 t s3 (rd s t.root):=by
    have:Iv g2 t s3 (rd s t.root):=hR.d (by exact QH)
    unfold Iv at this ⊢
    rw[e3];rw[e2]at this;exact this
   have hA:=λx hx=>aBy (x:=x) tB (hg.dZ ht) (wH.ge QH h3) hx hI (H.kw hg)
   rw[e3]at hA
   cases hb:(m==(g1.node (rd s t.root)).aS)with
   |true=>exact hA 1 (.inl rfl)
   |false=>exact hA 2 (.inr rfl)
theorem aIm{t:aX}{s:St}{r m i:Int}{n j:Nat}{k:Bool->I α}(hT:Tw g s)(ht:g.dZ t.root=some .root)(eR:t.readOnly=false)(hr:fH g r (0,0))(hm:mZ g m (0,0))(hi:fH g i (0,0))(h1:rd s t.root=r)(h2:rd s (g.node r).main=m)(h3:rd s (g.node m).prev=0)(H:∀g' s' d,Ge g g'->Tw g' s'->s'.acc=s.acc+6->s'.aG=s.aG++[d]->d.kind=8->s'.gen=s.gen->rd s' t.root=i->(k true).Al Q n j s'):(tI t r m i k).Al Q (n+6) (j+1) s:=by
 have hN:=TR (b:=(0,0)) hr hm hi
 have hJ:oD g {kind:=8,dO:=r,aS:=m,new:=i} 0 (0,0):=⟨(λh=>by cases h),(λh=>by cases h),λ_=>rfl⟩
 obtain⟨t1,e1⟩:=hT.gC.alloc hT.gw (b:=(0,0)) hN hJ
 have a1:=Ga.gV hT.gw {kind:=8,dO:=r,aS:=m,new:=i} 0 (0,0)
 have cY:Tw (g.alloc {kind:=8,dO:=r,aS:=m,new:=i} 0 (0,0)) (s.alloc {kind:=8,dO:=r,aS:=m,new:=i} 0).1:=⟨pB hT.gw hN hJ,t1⟩
 have hv:wH (g.alloc {kind:=8,dO:=r,aS:=m,new:=i} 0 (0,0)) (g.nodes.length+3):=Xm rfl
 have hf:((g.alloc {kind:=8,dO:=r,aS:=m,new:=i} 0 (0,0)).node (g.nodes.length+3)).dO=r/\((g.alloc {kind:=8,dO:=r,aS:=m,new:=i} 0 (0,0)).node (g.nodes.length+3)).aS=m/\((g.alloc {kind:=8,dO:=r,aS:=m,new:=i} 0 (0,0)).node (g.nodes.length+3)).new=i:=by rw[eG];exact⟨rfl,rfl,rfl⟩
 have r1:=lK hT (n:={kind:=8,dO:=r,aS:=m,new:=i}) (i:=0) ht
 have r2:=lK hT (n:={kind:=8,dO:=r,aS:=m,new:=i}) (i:=0) (hT.gw.fQ hr)
 have r3:=lK hT (n:={kind:=8,dO:=r,aS:=m,new:=i}) (i:=0) (hT.gw.oH hm)
 have n1:=a1.node hr.bX
 have n2:=a1.node hm.bX
 have vD:=a1.dZ ht
 have m1:=a1.dZ (hT.gw.fQ hr)
 have p1:=a1.dZ (hT.gw.oH hm)
 have z1:rd (s.alloc {kind:=8,dO:=r,aS:=m,new:=i} 0).1 ((g.alloc {kind:=8,dO:=r,aS:=m,new:=i} 0 (0,0)).node (g.nodes.length+3)).status=0:=by
  rw[eG]
  have ec:=mV s {kind:=8,dO:=r,aS:=m,new:=i} 0 (0,0)
  have el:=hT.gC.len
  have:(Node.stored {kind:=8,dO:=r,aS:=m,new:=i} (g.ty.length+1)).status=(g.ty.length:Int)+1:=rfl
  rw[this]
  unfold rd St.load
  dsimp only
  split
  ·rw[ec,cK,tN (by omega),show ((g.ty.length:Int)+1).toNat -1-s.cells.length=0 by omega];rfl
  ·rfl
 have ac1:(s.alloc {kind:=8,dO:=r,aS:=m,new:=i} 0).1.acc=s.acc:=by unfold St.alloc St.aT;dsimp only;split<;>rfl
 obtain⟨dd,al1,dk⟩:∃dd:Node,(s.alloc {kind:=8,dO:=r,aS:=m,new:=i} 0).1.aG=s.aG++[dd]/\dd.kind=8:=⟨_,iE ..,dB _ _⟩
 have gn1:(s.alloc {kind:=8,dO:=r,aS:=m,new:=i} 0).1.gen=s.gen:=by unfold St.alloc St.aT;dsimp only;split<;>rfl
 refine Hx (j:=j) (λ_=>bP _ 8 0 r m i) ?_
 show (I.node (s.alloc {kind:=8,dO:=r,aS:=m,new:=i} 0).2 _).Al Q (n+6) j (s.alloc {kind:=8,dO:=r,aS:=m,new:=i} 0).1
 rw[e1]
 generalize (s.alloc {kind:=8,dO:=r,aS:=m,new:=i} 0).1=s1 at *
 generalize g.alloc {kind:=8,dO:=r,aS:=m,new:=i} 0 (0,0)=g1 at *
 generalize (g.nodes.length:Int)+3=v at *
 refine nT (cY.gC.node v) ?_
 have q1:rd s1 t.root=r:=r1.trans h1
 obtain⟨g2,b2,gO⟩:=cY.cH (o:=r) (n:=v) vD (.inr hv)
 have c2:=oX (v:=v) (cY.has vD) q1
 refine WE (n:=n+5) ?_
 rw[c2.2]
 have hc:=cY.gw.uN hv
 have k2:∀c τ,g1.dZ c=some τ->τ≠.root->rd (s1.cH t.root r v).1 c=rd s1 c:=λc τ hc h=>nL (.inl (Tw.ne hc vD h))
 have u1:=k2 _ _ m1 (by intro h;cases h)
 have u2:=k2 _ _ p1 (by intro h;cases h)
 have u3:=k2 _ _ hc (by intro h;cases h)
 have Yx:=hr.ge a1
 have CT:=hm.ge a1
 show (Vk t (g1.node v) _).Al Q (n+5) j (s1.cH t.root r v).1
 unfold Vk kT
 rw[hf.1]
 refine nT (gO.gC.node r) ?_
 rw[b2.node Yx.bX,n1]
 refine Nm (n:=n+4) ?_
 rw[u1,r2,h2]
 obtain⟨g3,b3,tB,_⟩:=gO.val (b2.dZ m1)
 unfold nZ
 refine nT (tB.gC.node m) ?_
 rw[(b2.trans b3).node CT.bX,n2]
 refine Nm (n:=n+3) ?_
 rw[iD,u2,r3,h3]
 show (bif m==(g1.node v).aS then _ else _:I α).Al Q _ j _
 rw[hf.2.1,show (m==m)=true by simp]
 obtain⟨g4,b4,TW,_⟩:=tB.val (b3.dZ (b2.dZ p1))
 have b:=(b2.trans b3).trans b4
 have e:=b.node (wH.bX hv)
 have ev:Iv g4 t ((((s1.cH t.root r v).1.load (g.node r).main).1.load (g.node m).prev).1) v:=.inl c2.1
 have hc4:=b.dZ hc
 obtain⟨g5,b5,hT5⟩:=TW.cH (o:=0) (n:=1) hc4 (.inl rfl)
 have w:=(oX (s:=(((s1.cH t.root r v).1.load (g.node r).main).1.load (g.node m).prev).1) (o:=0) (v:=1) (TW.has hc4) (by rw[iD,iD,u3];exact z1)).1
 refine WE (n:=n+2) (Nm (n:=n+1) ?_)
 rw[w]
 obtain⟨g6,b6,hT6,_⟩:=hT5.val (b5.dZ hc4)
 have bb:=(b.trans b5).trans b6
 have hv6:=wH.ge hv bb
 obtain⟨g7,b7,hT7⟩:=hT6.cH (o:=v) (n:=(g6.node v).new) (bb.dZ vD) (.inl ((hT6.gw.ofD hv6).d hv6).2.2)
 refine nT (hT6.gC.node v) (WE (n:=n) ?_)
 have en:(g6.node v).new=i:=by rw[bb.node (wH.bX hv)];exact hf.2.2
 have w6:=(oX (s:=((((((s1.cH t.root r v).1.load (g.node r).main).1.load (g.node m).prev).1).cH (g1.node v).status 0 1).1.load (g1.node v).status).1) (o:=v) (v:=(g6.node v).new) (hT6.has (bb.dZ vD)) (by rw[iD,nL (.inl (Tw.ne (b.dZ vD) hc4 (by intro h;cases h))),iD,iD];exact c2.1)).1
 exact H g7 _ dd (a1.trans (bb.trans b7)) hT7 (by rw[<- ac1];rfl) al1 dk gn1 (w6.trans en)
theorem aJp{t:aX}{s:St}{r m i:Int}{n j:Nat}{k:Bool->I α}(hT:Tw g s)(ht:g.dZ t.root=some .root)(eR:t.readOnly=false)(hr:fH g r (0,0))(hm:mZ g m (0,0))(hi:fH g i (0,0))(h1:rd s t.root=r)(h2:rd s (g.node r).main=m)(h3:rd s (g.node m).prev=0)(H:∀g' s',Ge g g'->Tw g' s'->s'.acc=s.acc+6->s'.aG.length=s.aG.length+1->(k true).Al Q n j s'):(tI t r m i k).Al Q (n+6) (j+1) s:=
 aIm hT ht eR hr hm hi h1 h2 h3 λg' s' d a b e f _ _ _=>H g' s' a b e (by rw[f,cV];rfl)
theorem aEn{s:St}(hT:Tw g s):Tw g.bL s.bL.1/\s.bL.2=g.gen+1/\Ge g g.bL:=by
 obtain⟨t3,e3⟩:=hT.gC.bL hT.gw
 exact⟨⟨BE hT.gw,t3⟩,e3,Ga.uX hT.gw⟩
theorem gS{s:St}{n:Node}{i:Int}{b:eC}(hT:Tw g s)(hN:bT g n b)(hJ:oD g n i b):Tw (g.alloc n i b) (s.alloc n i).1/\(s.alloc n i).2=g.nodes.length+3/\Ge g (g.alloc n i b)/\(s.alloc n i).1.acc=s.acc/\(s.alloc n i).1.aG.length=s.aG.length+1:=by
 obtain⟨t1,e1⟩:=hT.gC.alloc hT.gw hN hJ
 refine⟨⟨pB hT.gw hN hJ,t1⟩,e1,Ga.gV hT.gw n i b,?_,by rw[iE,cV];rfl⟩
 unfold St.alloc St.aT;dsimp only;split<;>rfl
structure Fx(g:Ga)(t:aX)(s:St)(r m:Int):Prop where
 rt:fH g r (0,0)
 mn:mZ g m (0,0)
 root:rd s t.root=r
 main:rd s (g.node r).main=m
 prev:rd s (g.node m).prev=0
theorem Fx.alloc{t:aX}{s:St}{r m i:Int}{n:Node}{b:eC}(h:Fx g t s r m)(hT:Tw g s)(ht:g.dZ t.root=some .root)(hg:Ge g (g.alloc n i b)):Fx (g.alloc n i b) t (s.alloc n i).1 r m:=
 ⟨h.rt.ge hg,h.mn.ge hg,by rw[lK hT ht];exact h.root,by rw[hg.node h.rt.bX,lK hT (hT.gw.fQ h.rt)];exact h.main,by rw[hg.node h.mn.bX,lK hT (hT.gw.oH h.mn)];exact h.prev⟩
theorem Fx.gen{t:aX}{s:St}{r m:Int}(h:Fx g t s r m):Fx g.bL t s.bL.1 r m:=⟨h.rt,h.mn,h.root,h.main,h.prev⟩
theorem aB5{t:aX}{s:St}{r m c:Int}{n j:Nat}{k:Bool->I α}(hT:Tw g s)(ht:g.dZ t.root=some .root)(eR:t.readOnly=false)(hc:mZ g c (0,0))(hF:Fx g t s r m)(H:∀g' s',Ge g g'->Tw g' s'->s'.acc=s.acc+6->s'.aG.length=s.aG.length+2->(k true).Al Q n j s'):(I.gen λx=>.alloc {kind:=2,gen:=x} c λi=>tI t r m i k).Al Q (n+6) (j+3) s:=by
 obtain⟨tB,e3,h3⟩:=aEn hT
 refine alG (j:=j+2) ?_
 show (I.alloc {kind:=2,gen:=s.bL.2} c λi=>tI t r m i k).Al Q (n+6) (j+2) s.bL.1
 rw[e3]
 have hN:bT g.bL {kind:=2,gen:=(g.gen:Int)+1} (0,0):=nU (by omega) (by show _<=((_+1:Nat):Int);omega) (by decide)
 obtain⟨TW,e4,h4,a4,l4⟩:=gS tB (i:=c) hN ⟨λ_=>hc.ge h3,(λh=>by cases h),λh=>by cases h⟩
 have hI:=mX tB.gw (n:={kind:=2,gen:=(g.gen:Int)+1}) (i:=c) (b:=(0,0)) rfl
 have hF2:=hF.gen.alloc tB (h3.dZ ht) h4
 refine Hx (j:=j+1) (λ_=>bP _ 2 _ 0 0 0) ?_
 rw[e4]
 exact aJp TW ((h3.trans h4).dZ ht) eR hF2.rt hF2.mn hI hF2.root hF2.main hF2.prev λg' s' b hT' a' l'=>H g' s' ((h3.trans h4).trans b) hT' (by rw[a',a4];rfl) (by rw[l',l4];rfl)
theorem aB4{t:aX}{s s':St}{r:Int}(hR:Rt g t s s')(hr:fH g r (0,0))(h:rd s t.root=r):rd s' t.root=r:=(hR.i (by rw[h];exact hr)).trans h
end Go.Ct
end
