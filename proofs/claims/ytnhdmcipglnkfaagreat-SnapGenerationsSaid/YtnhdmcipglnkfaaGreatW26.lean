/- Parts of a proof: Fa. -/
import Derived.Test.YtnhdmcipglnkfaaGreatW25
set_option linter.unusedVariables false
set_option linter.unusedSimpArgs false
set_option maxRecDepth 100000
set_option maxHeartbeats 4000000
section
namespace Go.Ct
variable{α:Type}{g:Ga}
def I.Al{α:Type}(Q:α->St->Prop):I α->Nat->Nat->St->Prop
 |.ret a,_,_,s=>Q a s
 |.load c k,n,j,s=>0<n/\(k (s.load c).2).Al Q (n-1) j (s.load c).1
 |.eA c o v k,n,j,s=>0<n/\(k (s.eA c o v).2).Al Q (n-1) j (s.eA c o v).1
 |.alloc a i k,n,j,s=>0<j/\(eK s->a.Fit (s.aG.length+1))/\(k (s.alloc a i).2).Al Q n (j-1) (s.alloc a i).1
 |.cell i k,n,j,s=>0<j/\(k (s.aV i).2).Al Q n (j-1) (s.aV i).1
 |.gen k,n,j,s=>0<j/\(k s.bS.2).Al Q n (j-1) s.bS.1
 |.node r k,n,j,s=>(k (s.node r)).Al Q n j s
variable{Q:α->St->Prop}
theorem Al.mono:∀{t:I α} {n m i j:Nat} {s:St},t.Al Q n i s->n<=m->i<=j->t.Al Q m j s
 |.ret _,_,_,_,_,_,h,_,_=>h
 |.load c k,n,m,i,j,s,h,hm,hj=>⟨DM h.1 hm,Al.mono h.2 (by omega) hj⟩
 |.eA c o v k,n,m,i,j,s,h,hm,hj=>⟨DM h.1 hm,Al.mono h.2 (by omega) hj⟩
 |.alloc a q k,n,m,i,j,s,h,hm,hj=>⟨DM h.1 hj,h.2.1,Al.mono h.2.2 hm (by omega)⟩
 |.cell q k,n,m,i,j,s,h,hm,hj=>⟨DM h.1 hj,Al.mono h.2 hm (by omega)⟩
 |.gen k,n,m,i,j,s,h,hm,hj=>⟨DM h.1 hj,Al.mono h.2 hm (by omega)⟩
 |.node r k,n,m,i,j,s,h,hm,hj=>Al.mono (t:=k _) h hm hj
def I.rest{α:Type}:I α->Bool
 |.ret _=>true
 |.load _ _=>true
 |.eA _ _ _ _=>true
 |_=>false
structure Vz(i:Nat)(s s':St):Prop where
 nodes:s'.aG.length<=s.aG.length+i
 more:s.aG.length<=s'.aG.length
 size:s'.size<=s.size+2*i
 acc:s'.acc=s.acc
 fit:eK s->eK s'
theorem Vz.refl(s:St):Vz 0 s s:=⟨JV _,JV _,JV _,rfl,id⟩
theorem Vz.trans{i j:Nat}{s s1 s2:St}(h:Vz i s s1)(k:Vz j s1 s2):Vz (i+j) s s2:=
 ⟨by have:=h.nodes;have:=k.nodes;omega,lK h.more k.more,by have:=h.size;have:=k.size;omega,k.acc.trans h.acc,k.fit∘h.fit⟩
theorem Al.head:∀{t:I α} {n j:Nat} {s:St},t.Al Q n j s->∃i,i<=j/\Vz i s (t.head s).1/\(t.head s).2.rest=true/\(t.head s).2.Al Q n (j-i) (t.head s).1
 |.ret _,_,j,s,h=>⟨0,dF j,.refl s,rfl,h⟩
 |.load c k,n,j,s,h=>⟨0,dF j,.refl s,rfl,h⟩
 |.eA c o v k,n,j,s,h=>⟨0,dF j,.refl s,rfl,h⟩
 |.alloc a q k,n,j,s,h=>by
  obtain⟨i,h1,h2,h3,h4⟩:=Al.head (t:=k _) h.2.2
  have h0:=h.1
  have hz:=(St.lP s a q).1
  have e:(s.alloc a q).1.aG.length=s.aG.length+1:=by rw[pN,cO];rfl
  exact⟨1+i,by omega,Vz.trans ⟨by omega,by omega,by omega,by unfold St.alloc St.aV;dsimp only;split<;>rfl,λhf=>hf.alloc (h.2.1 hf) q⟩ h2,h3,by rw[show j-(1+i)=j-1-i by omega];exact h4⟩
 |.cell q k,n,j,s,h=>by
  obtain⟨i,h1,h2,h3,h4⟩:=Al.head (t:=k _) h.2
  have h0:=h.1
  exact⟨1+i,by omega,Vz.trans (s1:=(s.aV q).1) ⟨by show s.aG.length<=_;omega,JV _,by(show s.aG.length+(s.cells++[q]).length+s.gen+s.acc<=s.aG.length+s.cells.length+s.gen+s.acc+2;rw[cO,CG];omega),rfl,id⟩ h2,h3,by rw[show j-(1+i)=j-1-i by omega];exact h4⟩
 |.gen k,n,j,s,h=>by
  obtain⟨i,h1,h2,h3,h4⟩:=Al.head (t:=k _) h.2
  have h0:=h.1
  exact⟨1+i,by omega,Vz.trans (s1:=s.bS.1) ⟨by show s.aG.length<=_;omega,JV _,by(show s.aG.length+s.cells.length+(s.gen+1)+s.acc<=s.aG.length+s.cells.length+s.gen+s.acc+2;omega),rfl,id⟩ h2,h3,by rw[show j-(1+i)=j-1-i by omega];exact h4⟩
 |.node r k,n,j,s,h=>Al.head (t:=k _) h
def rd(s:St)(c:Int):Int:=(s.load c).2
theorem Vn{c:Int}{k:Int->I α}{n j:Nat}{s:St}(h:(k (rd s c)).Al Q n j (s.load c).1):(I.load c k).Al Q (n+1) j s:=⟨Nat.succ_pos n,h⟩
theorem XB{c o v:Int}{k:Bool->I α}{n j:Nat}{s:St}(h:(k (s.eA c o v).2).Al Q n j (s.eA c o v).1):(I.eA c o v k).Al Q (n+1) j s:=⟨Nat.succ_pos n,h⟩
theorem Yw{a:Node}{i:Int}{k:Int->I α}{n j:Nat}{s:St}(hf:eK s->a.Fit (s.aG.length+1))(h:(k (s.alloc a i).2).Al Q n j (s.alloc a i).1):(I.alloc a i k).Al Q n (j+1) s:=⟨Nat.succ_pos j,hf,h⟩
theorem alG{k:Int->I α}{n j:Nat}{s:St}(h:(k s.bS.2).Al Q n j s.bS.1):(I.gen k).Al Q n (j+1) s:=⟨Nat.succ_pos j,h⟩
theorem P'{i:Int}{k:Int->I α}{n j:Nat}{s:St}(h:(k (s.aV i).2).Al Q n j (s.aV i).1):(I.cell i k).Al Q n (j+1) s:=⟨Nat.succ_pos j,h⟩
theorem oW{r:Int}{x:Node}{k:Node->I α}{n j:Nat}{s:St}(hx:s.node r=x)(h:(k x).Al Q n j s):(I.node r k).Al Q n j s:=by subst hx;exact h
theorem hB(s:St)(c d:Int):rd (s.load c).1 d=rd s d:=rfl
theorem oP{s:St}{c o v:Int}(hc:s.cA c=true)(ho:rd s c=o):rd (s.eA c o v).1 c=v/\(s.eA c o v).2=true:=by
 have h0:s.cells.getD (c.toNat-1) 0=o:=by rw[<- ho];unfold rd St.load;dsimp only;rw[if_pos hc]
 have hs:s.xU c o=true:=by unfold St.xU;rw[hc,h0];simp
 refine⟨?_,hs⟩
 have h1:=hc
 unfold St.cA at h1
 simp at h1
 have e:(s.eA c o v).1.cells=s.cells.set (c.toNat-1) v:=by unfold St.eA;dsimp only;rw[if_pos hs]
 unfold rd St.load
 dsimp only
 have h2:(s.eA c o v).1.cA c=true:=by unfold St.cA;rw[e,uZ];simp;exact h1
 rw[if_pos h2,e,dI,List.getElem?_set_self (by omega)];rfl
theorem nR{s:St}{c o v d:Int}(h:d≠c\/rd s c≠o):rd (s.eA c o v).1 d=rd s d:=by
 by_cases hs:s.xU c o=true
 ·have hc:s.cA c=true/\s.cells.getD (c.toNat-1) 0=o:=by unfold St.xU at hs;simpa using hs
  have h1:=hc.1
  unfold St.cA at h1
  simp at h1
  rcases h with h|h
  ·have e:(s.eA c o v).1.cells=s.cells.set (c.toNat-1) v:=by unfold St.eA;dsimp only;rw[if_pos hs]
   have e2:(s.eA c o v).1.cA d=s.cA d:=by unfold St.cA;rw[e,uZ]
   unfold rd St.load
   dsimp only
   rw[e2,e]
   by_cases hd:s.cA d=true
   ·rw[if_pos hd,if_pos hd]
    unfold St.cA at hd
    simp at hd
    rw[dI,AD (by omega),<- dI]
   ·rw[if_neg hd,if_neg hd]
  ·refine absurd ?_ h
   unfold rd St.load;dsimp only;rw[if_pos hc.1];exact hc.2
 ·have e:(s.eA c o v).1.cells=s.cells:=by unfold St.eA;dsimp only;rw[if_neg hs]
  unfold rd St.load St.cA
  dsimp only
  rw[e]
structure Tw(g:Ga)(s:St):Prop where
 gw:GW g
 PI:nZ g s
theorem Tw.has{s:St}(h:Tw g s){c:Int}{τ:eY}(hc:g.oA c=some τ):s.cA c=true:=h.PI.has hc
theorem Tw.val{s:St}(h:Tw g s){c:Int}{τ:eY}(hc:g.oA c=some τ):∃g',Ge g g'/\Tw g' (s.load c).1/\YP g' c (rd s c) τ:=by
 obtain⟨g',a,b,d,e⟩:=h.PI.val h.gw hc
 exact⟨g',a,⟨b,d⟩,e⟩
theorem Tw.eA{s:St}(h:Tw g s){c o n:Int}{τ:eY}(hc:g.oA c=some τ)(hm:YI g c o n τ):∃g',Ge g g'/\Tw g' (s.eA c o n).1:=by
 obtain⟨g',a,b,_,d⟩:=h.PI.eA h.gw (o:=o) hc hm
 exact⟨g',a,b,d⟩
theorem mG{s:St}(h:Tw g s){n:Node}{i c:Int}{τ:eY}(hc:g.oA c=some τ):rd (s.alloc n i).1 c=rd s c:=by
 have h1:=h.has hc
 have e:=Es s n i (0,0)
 have h2:(s.alloc n i).1.cA c=true:=by
  unfold St.cA at h1 ⊢
  rw[e,cO];simp at h1 ⊢;omega
 unfold rd St.load
 dsimp only
 rw[if_pos h1,if_pos h2,e]
 unfold St.cA at h1
 simp at h1
 rw[dI,xD (by omega),<- dI]
theorem Tw.ne{c d:Int}{τ σ:eY}(hc:g.oA c=some τ)(hd:g.oA d=some σ)(h:τ≠σ):c≠d:=by
 rintro rfl
 exact h (Pe (hc.symm.trans hd))
def Iu(d:Node)(st:Int):Int:=bif st==1 then d.new else d.dC
theorem TU{v st:Int}(hw:GW g)(hv:tC g v):jV g (Iu (g.node v) st) (0,0):=by
 have h:=(hw.G4 hv).d hv
 unfold Iu
 cases (st==1)with
 |true=>exact h.2.2
 |false=>exact h.1
theorem jV.Y'{v:Int}{b:fV}(h:jV g v b)(hd:tC g v):False:=by
 have h1:=h.1
 rw[show (g.node v).kind=8 from hd]at h1
 exact absurd h1 (by decide)
def Iv(g:Ga)(t:bC)(s:St)(v:Int):Prop:=rd s t.root=v\/(rd s (g.node v).status≠0/\rd s t.root=Iu (g.node v) (rd s (g.node v).status))
structure Rt(g:Ga)(t:bC)(s s':St):Prop where
 i:jV g (rd s t.root) (0,0)->rd s' t.root=rd s t.root
 d:tC g (rd s t.root)->Iv g t s' (rd s t.root)
 k:∀c,g.oA c=some .status->rd s c≠0->rd s' c=rd s c
theorem Rt.of{t:bC}{s s':St}(h:rd s' t.root=rd s t.root)(h2:∀c,g.oA c=some .status->rd s c≠0->rd s' c=rd s c):Rt g t s s':=⟨λ_=>h,λ_=>.inl h,h2⟩
theorem Rt.trans{t:bC}{g':Ga}{s s1 s2:St}(hw:GW g)(hg:Ge g g')(h:Rt g t s s1)(k:Rt g' t s1 s2):Rt g t s s2:=by
 refine⟨λhi=>?_,λhd=>?_,λc hc h0=>?_⟩
 ·have h1:=h.i hi
  rw[k.i (by rw[h1];exact hi.ge hg),h1]
 ·have e:∀s,Iv g' t s (rd s t.root)=Iv g t s (rd s t.root)\/True:=λ_=>.inr trivial
  have en:g'.node (rd s t.root)=g.node (rd s t.root):=hg.node (tC.dU hd)
  rcases h.d hd with h1|⟨h1,h2⟩
  ·have h3:=k.d (by rw[h1];exact tC.ge hd hg)
   rw[h1]at h3
   unfold Iv at h3 ⊢
   rw[en]at h3;exact h3
  ·have h3:rd s2 t.root=rd s1 t.root:=k.i (by rw[h2];exact(TU hw hd).ge hg)
   have h4:rd s2 (g.node (rd s t.root)).status=rd s1 (g.node (rd s t.root)).status:=k.k _ (hg.oA (hw.Dt hd)) h1
   exact .inr ⟨by rw[h4];exact h1,by rw[h3,h4];exact h2⟩
 ·have h1:=h.k c hc h0
  rw[k.k c (hg.oA hc) (by rw[h1];exact h0),h1]
def O4(g:Ga)(s s':St):Prop:=∀c b,g.oA c=some (.main b)\/g.oA c=some (.prev b)->rd s' c=rd s c
theorem O4.trans{g':Ga}{s s1 s2:St}(hg:Ge g g')(h:O4 g s s1)(k:O4 g' s1 s2):O4 g s s2:=λc b hc=>(k c b (hc.imp hg.oA hg.oA)).trans (h c b hc)
abbrev Kw(Q:α->St->Prop)(g:Ga)(t:bC)(s:St)(n j:Nat)(k:Int->I α):Prop:=∀g' s' r,Ge g g'->Tw g' s'->jV g' r (0,0)->rd s' t.root=r->Rt g t s s'->O4 g s s'->(k r).Al Q n j s'
theorem Kw.ge{t:bC}{s s1:St}{n j:Nat}{k:Int->I α}{g1:Ga}(h:Kw Q g t s n j k)(hw:GW g)(hg:Ge g g1)(hr:Rt g t s s1)(hk:O4 g s s1):Kw Q g1 t s1 n j k:=
 λg' s' r a b d e f m=>h g' s' r (hg.trans a) b d e (hr.trans hw hg f) (hk.trans hg m)
theorem X0{t:bC}{s:St}{v st:Int}{n j:Nat}{k:Int->I α}(hT:Tw g s)(ht:g.oA t.root=some .root)(hv:tC g v)(hs:rd s (g.node v).status=st)(h0:st≠0)(hI:Iv g t s v)(H:Kw Q g t s n j k):(iD t v st k).Al Q (n+1) j s:=by
 have hW:=TU (st:=st) hT.gw hv
 obtain⟨g',a,b⟩:=hT.eA (o:=v) (n:=Iu (g.node v) st) ht (.inl hW)
 have hst:∀c,g.oA c=some .status->rd (s.eA t.root v (Iu (g.node v) st)).1 c=rd s c:=λc hc=>nR (.inl (Tw.ne hc ht (by decide)))
 have hr:rd (s.eA t.root v (Iu (g.node v) st)).1 t.root=Iu (g.node v) st:=by
  by_cases hv':rd s t.root=v
  ·exact(oP (hT.has ht) hv').1
  ·rw[nR (.inr hv')]
   rcases hI with hI|hI
   ·exact absurd hI hv'
   ·rw[hI.2,hs]
 have hR:Rt g t s (s.eA t.root v (Iu (g.node v) st)).1:=by
  refine⟨λhi=>?_,λhd=>?_,λc hc _=>hst c hc⟩
  ·rw[hr]
   rcases hI with hI|hI
   ·rw[hI]at hi;exact(hi.Y' hv).elim
   ·rw[hI.2,hs]
  ·have e:rd s t.root=v:=by
    rcases hI with hI|hI
    ·exact hI
    ·rw[hI.2,hs]at hd;exact(hW.Y' hd).elim
   rw[e]
   refine .inr ?_
   rw[hst _ (hT.gw.Dt hv),hs,hr];exact⟨h0,rfl⟩
 have hK:=H g' _ _ a b (hW.ge a) hr hR λc b' hc=>nR (.inl (hc.elim (λhc=>Tw.ne hc ht (by intro h;cases h)) λhc=>Tw.ne hc ht (by intro h;cases h)))
 refine oW (hT.PI.node v) ?_
 unfold Iu at *
 cases hq:(st==1)with
 |true=>rw[hq]at hK;exact XB hK
 |false=>rw[hq]at hK;exact XB hK
theorem Ac{t:bC}(s:St)(c:Int):Rt g t s (s.load c).1:=Rt.of rfl λ_ _ _=>rfl
theorem Py(s:St)(c:Int):O4 g s (s.load c).1:=λ_ _ _=>rfl
theorem VI{v c:Int}(h:YP g c v .root):jV g v (0,0)/\((g.node v).kind==2)=true\/tC g v/\((g.node v).kind==2)=false:=by
 rcases h with h|h
 ·exact .inl ⟨h,by rw[h.1];rfl⟩
 ·exact .inr ⟨h,by rw[show (g.node v).kind=8 from h];rfl⟩
theorem U7{t:bC}{s:St}{v x:Int}{n j:Nat}{k:Int->I α}(hT:Tw g s)(ht:g.oA t.root=some .root)(hv:tC g v)(hx:x=1\/x=2)(hI:Iv g t s v)(H:Kw Q g t s n j k):(I.eA (g.node v).status 0 x λ_=>.load (g.node v).status λst=>iD t v st k).Al Q (n+3) j s:=by
 have hc:=hT.gw.Dt hv
 obtain⟨g1,h1,hT1⟩:=hT.eA (o:=0) (n:=x) hc hx
 obtain⟨g2,h2,hT2,hv2⟩:=hT1.val (h1.oA hc)
 have hg:=h1.trans h2
 have hr:rd (s.eA (g.node v).status 0 x).1 t.root=rd s t.root:=nR (.inl (Tw.ne ht hc (by decide)))
 have hk:∀c,g.oA c=some .status->rd s c≠0->rd (s.eA (g.node v).status 0 x).1 c=rd s c:=λc hc' h0=>by
  by_cases e:c=(g.node v).status
  ·exact nR (.inr (by rw[<- e];exact h0))
  ·exact nR (.inl e)
 have hR:Rt g t s (s.eA (g.node v).status 0 x).1:=Rt.of hr hk
 have hM:O4 g s (s.eA (g.node v).status 0 x).1:=λc b hc'=>nR (.inl (hc'.elim (λh=>Tw.ne h hc (by intro h;cases h)) λh=>Tw.ne h hc (by intro h;cases h)))
 have hs0:rd (s.eA (g.node v).status 0 x).1 (g.node v).status≠0:=by
  by_cases h0:rd s (g.node v).status=0
  ·rw[(oP (hT.has hc) h0).1];omega
  ·rw[hk _ hc h0];exact h0
 have hI2:Iv g2 t (s.eA (g.node v).status 0 x).1 v:=by
  unfold Iv
  rw[hg.node (tC.dU hv),hr]
  rcases hI with hI|hI
  ·exact .inl hI
  ·rw[hk _ hc hI.1];exact .inr hI
 refine XB (Vn (X0 hT2 (hg.oA ht) (tC.ge hv hg) (by rw[hg.node (tC.dU hv)];rfl) hs0 ?_ (H.ge hT.gw hg (hR.trans hT.gw h1 (Ac _ _)) (hM.trans h1 (Py _ _)))))
 exact hI2
theorem aAa{t:bC}{s:St}{n j:Nat}{k:Int->I α}(hT:Tw g s)(ht:g.oA t.root=some .root)(H:Kw Q g t s n j k):(Zi t k).Al Q (n+5) j s:=by
 obtain⟨g1,h1,hT1,hv⟩:=hT.val ht
 refine Vn (n:=n+4) (oW (hT1.PI.node _) ?_)
 rcases VI hv with⟨hv,hq⟩|⟨hv,hq⟩
 ·rw[hq]
  exact Al.mono (H g1 _ _ h1 hT1 hv rfl (Ac _ _) (Py _ _)) (by omega) (by omega)
 ·rw[hq]
  have hc:=hT1.gw.Dt hv
  obtain⟨g2,h2,hT2,hs⟩:=hT1.val hc
  refine Vn (n:=n+3) ?_
  have hH2:=H.ge hT.gw (h1.trans h2) ((Ac s t.root).trans hT.gw h1 (Ac (g:=g1) _ (g1.node (rd s t.root)).status)) ((Py s t.root).trans h1 (Py _ _))
  have hv2:=tC.ge hv h2
  have e2:=h2.node (tC.dU hv)
  cases h0:(rd (s.load t.root).1 (g1.node (rd s t.root)).status != 0)with
  |true=>exact Al.mono (X0 hT2 ((h1.trans h2).oA ht) hv2 (by rw[e2];rfl) (by simpa using h0) (.inl rfl) hH2) (by omega) (by omega)
  |false=>
   have h3:=U7 (x:=2) hT2 ((h1.trans h2).oA ht) hv2 (.inr rfl) (.inl rfl) hH2
   rw[e2]at h3;exact h3
def Ml(l:Nat)(g:Ga)(s s':St):Prop:=∀c b,g.oA c=some (.main b)->b.1<l->rd s' c=rd s c
theorem Ml.trans{l:Nat}{g':Ga}{s s1 s2:St}(hg:Ge g g')(h:Ml l g s s1)(k:Ml l g' s1 s2):Ml l g s s2:=λc b hc hl=>(k c b (hg.oA hc) hl).trans (h c b hc hl)
theorem O4.ml{l:Nat}{s s':St}(h:O4 g s s'):Ml l g s s':=λc b hc _=>h c b (.inl hc)
theorem Et{l:Nat}(s:St)(c:Int):Ml l g s (s.load c).1:=λ_ _ _ _=>rfl
theorem F9{l:Nat}{s:St}{c o v:Int}{τ:eY}(hc:g.oA c=some τ)(h:∀b,τ=.main b->l<=b.1):Ml l g s (s.eA c o v).1:=λd b hd hl=>nR (.inl (Tw.ne hd hc λe=>absurd (h b e.symm) (by omega)))
abbrev Kr(Q:α->St->Prop)(b:fV)(g:Ga)(t:bC)(s:St)(i:Int)(n j:Nat)(k:Int->I α):Prop:=∀g' s' m,Ge g g'->Tw g' s'->tS g' m b->rd s' (g'.node i).main=m->Rt g t s s'->Ml b.1 g s s'->(k m).Al Q n j s'
theorem Kr.ge{b:fV}{t:bC}{s s1:St}{i:Int}{n j:Nat}{k:Int->I α}{g1:Ga}(h:Kr Q b g t s i n j k)(hw:GW g)(hg:Ge g g1)(hr:Rt g t s s1)(hl:Ml b.1 g s s1):Kr Q b g1 t s1 i n j k:=
 λg' s' r a b d e f m=>h g' s' r (hg.trans a) b d e (hr.trans hw hg f) (hl.trans hg m)
theorem Tk.ne{t:bC}{c:Int}{τ:eY}(ht:Tk g t)(hc:g.oA c=some τ)(h1:τ≠.root)(h2:τ≠.fixed):t.root≠c:=Tw.ne ht hc (by cases t.readOnly with|true=>exact h2.symm|false=>exact h1.symm)
theorem RO{t:bC}{s:St}{c o v:Int}{τ:eY}(hc:g.oA c=some τ)(ht:Tk g t)(h1:τ≠.root)(h3:τ≠.fixed)(h2:τ≠.status):Rt g t s (s.eA c o v).1:=
 Rt.of (nR (.inl (ht.ne hc h1 h3))) λd hd _=>nR (.inl (Tw.ne hd hc h2.symm))
theorem DO{b:fV}{s:St}(hT:Tw g s){m:Int}(h:tS g m b):rd s (g.node m).prev=0:=by
 have hc:=hT.gw.Nl h.m
 unfold rd St.load;dsimp only;rw[if_pos (hT.has hc)]
 exact hT.PI.LJ _ _ hc h.2
theorem V5{b:fV}{t:bC}{s:St}{i m p:Int}{n j:Nat}{k:Int->I α}(hT:Tw g s)(ht:Tk g t)(hi:jV g i b)(hm:oH g m b)(hp:ED g p b)(hf:(g.node p).dC=g.first (g.node m).prev)(hr:rd s (g.node i).main=m)(H:Kr Q b g t s i n j k):(Dq i m p k).Al Q (n+1) j s:=by
 have ho:=(hT.gw.K4 hp).f hp.1
 have hz:tS g (g.node p).dC b:=by
  rw[hf];exact hT.gw.LJ m _ hm (by rw[<- hf];have:=ho.one;omega)
 have hc:=hT.gw.MO hi
 obtain⟨g1,h1,hT1⟩:=hT.eA (o:=m) (n:=(g.node p).dC) hc ho
 refine oW (hT.PI.node p) (oW (hT.PI.node i) (XB (H g1 _ _ h1 hT1 (hz.ge h1) ?_ (RO hc ht (by intro h;cases h) (by intro h;cases h) (by intro h;cases h)) (F9 hc λb' e=>by injection e with e;rw[e];exact JV _))))
 rw[h1.node hi.dU];exact(oP (hT.has hc) hr).1
theorem U5{b:fV}{t:bC}{s:St}{i m p:Int}{n j:Nat}{k:Int->I α}(hT:Tw g s)(ht:Tk g t)(hi:jV g i b)(hm:oH g m b)(hp:oH g p b)(hf:p=g.first (g.node m).prev)(hr:rd s (g.node i).main=m)(hv:rd s (g.node m).prev=p)(H:Kr Q b g t s i n j k):(mK (g.node m).prev p false (kY (g.node m).prev i m k)).Al Q (n+3) (j+1) s:=by
 have hN:=JS hp
 have hJ:Tb g {kind:=7,dC:=p} 0 b:=⟨(λh=>by cases h),(λh=>by cases h),λh=>by cases h⟩
 obtain⟨t1,e1⟩:=hT.PI.alloc hT.gw hN hJ
 have h1:=Ga.rM hT.gw {kind:=7,dC:=p} 0 b
 have hT1:Tw (g.alloc {kind:=7,dC:=p} 0 b) (s.alloc {kind:=7,dC:=p} 0).1:=⟨eX hT.gw hN hJ,t1⟩
 have hc:=hT.gw.Nl hm
 have hF:=HY hT.gw (n:={kind:=7,dC:=p}) (i:=0) (b:=b) rfl
 have hFo:((g.alloc {kind:=7,dC:=p} 0 b).node (g.nodes.length+3)).dC=p:=by rw[yE];rfl
 have hp1:=hp.one
 obtain⟨g2,h2,hT2⟩:=hT1.eA (c:=(g.node m).prev) (o:=p) (n:=g.nodes.length+3) (h1.oA hc) ⟨by omega,.inr ⟨hF,by rw[h1.first hT.gw hc,<- hf];exact hFo⟩⟩
 obtain⟨g3,h3,hT3,hv3⟩:=hT2.val (h2.oA (h1.oA hc))
 have hv1:rd (s.alloc {kind:=7,dC:=p} 0).1 (g.node m).prev=p:=by rw[mG hT hc];exact hv
 have hv2:=(oP (v:=(g.nodes.length:Int)+3) (hT1.has (h1.oA hc)) hv1).1
 have hg:=(h1.trans h2).trans h3
 refine Yw (j:=j) (λ_=>bG _ 7 0 p 0 0) ?_
 show (I.eA (g.node m).prev p (s.alloc {kind:=7,dC:=p} 0).2 _).Al Q (n+3) j (s.alloc {kind:=7,dC:=p} 0).1
 rw[e1]
 refine XB (n:=n+2) (Vn (n:=n+1) ?_)
 rw[hv2]
 have h0:((g.nodes.length:Int)+3==0)=false:=by simp;omega
 rw[h0]
 have hF3:=hF.ge (h2.trans h3)
 refine V5 hT3 (ht.ge hg) (hi.ge hg) (hm.ge hg) hF3 ?_ ?_ (H.ge hT.gw hg ?_ ?_)
 ·rw[(h2.trans h3).node hF.dU,hFo,hf,hg.node hm.dU,hg.first hT.gw hc]
 ·rw[hg.node hi.dU,hB,nR (.inl (Tw.ne (h1.oA (hT.gw.MO hi)) (h1.oA hc) (by intro h;cases h))),mG hT (hT.gw.MO hi)];exact hr
 ·refine Rt.of ?_ λc hc' _=>?_
  ·rw[hB,nR (.inl (Tk.ne (ht.ge h1) (h1.oA hc) (by intro h;cases h) (by intro h;cases h))),mG hT ht]
  ·rw[hB,nR (.inl (Tw.ne (h1.oA hc') (h1.oA hc) (by intro h;cases h))),mG hT hc']
 ·intro c b' hc' _
  rw[hB,nR (.inl (Tw.ne (h1.oA hc') (h1.oA hc) (by intro h;cases h))),mG hT hc']
theorem UU{b:fV}{t:bC}{s:St}{i m:Int}{n j:Nat}{k:Int->I α}(hT:Tw g s)(ht:Tk g t)(hi:jV g i b)(hm:oH g m b)(hr:rd s (g.node i).main=m)(H:Kr Q b g t s i n j k):(qB t i m k).Al Q (n+9) (j+1) s:=by
 have hc:=hT.gw.Nl hm
 obtain⟨g1,h1,hT1,hp⟩:=hT.val hc
 refine oW (hT.PI.node m) (Vn (n:=n+8) ?_)
 generalize hpe:rd s (g.node m).prev=p at hp
 have e1:=h1.node hm.dU
 have hR1:=Ac (g:=g) (t:=t) s (g.node m).prev
 have hr1:rd (s.load (g.node m).prev).1 (g1.node i).main=m:=by rw[h1.node hi.dU];exact hr
 cases h0:(p==0)with
 |true=>exact Al.mono (H g1 _ m h1 hT1 ⟨hm.ge h1,by rw[e1];exact val_zero hp (by simpa using h0)⟩ hr1 hR1 (Et _ _)) (by omega) (by omega)
 |false=>
 have hp0:p≠0:=by simpa using h0
 have H1:=H.ge hT.gw h1 hR1 (Et _ _)
 refine oW (hT1.PI.node p) ?_
 rcases hp with hp|hp|⟨hf,hp,hd⟩
 ·exact absurd hp.1 hp0
 ·rw[hp.1.SO]
  exact Al.mono (V5 hT1 (ht.ge h1) (hi.ge h1) (hm.ge h1) hp.1 (by rw[e1];exact hp.2) hr1 H1) (by omega) (by omega)
 ·rw[hp.1]
  cases hro:t.readOnly with
  |true=>
   have:=U5 hT1 (ht.ge h1) (hi.ge h1) (hm.ge h1) hp (by rw[e1];exact hf) hr1 (by rw[e1];exact hpe) H1
   rw[e1]at this
   exact Al.mono this (by omega) (by omega)
  |false=>
   refine Al.mono (n:=n+3+5) (i:=j+1) (aAa hT1 ((ht.ge h1).root hro) λg2 s2 r h2 hT2 hr2 _ hR2 hK2=>?_) (by omega) (by omega)
   have hg:=h1.trans h2
   have H2:=H1.ge hT1.gw h2 hR2 hK2.ml
   have hi2:=hi.ge hg
   have hm2:=hm.ge hg
   have e2:=hg.node hm.dU
   have hmr:rd s2 (g2.node i).main=m:=by rw[hg.node hi.dU,hK2 _ _ (.inl (h1.oA (hT.gw.MO hi)))];exact hr
   have hpr:rd s2 (g2.node m).prev=p:=by rw[e2,hK2 _ _ (.inr (h1.oA hc))];exact hpe
   have hf2:p=g2.first (g2.node m).prev:=by rw[e2,h2.first hT1.gw (h1.oA hc)];exact hf
   refine oW (hT2.PI.node r) (oW (hT2.PI.node i) ?_)
   cases ((g2.node r).gen==(g2.node i).gen)with
   |false=>
    have:=U5 hT2 (ht.ge hg) hi2 hm2 (hp.ge h2) hf2 hmr hpr H2
    rw[e2]at this;exact this
   |true=>
    have hc2:=hT2.gw.Nl hm2
    obtain⟨g3,h3,hT3⟩:=hT2.eA (o:=p) (n:=0) hc2 ⟨hp0,.inl rfl⟩
    obtain⟨g4,h4,hT4,hv4⟩:=hT3.val (h3.oA hc2)
    have hz:=(oP (v:=0) (hT2.has hc2) hpr).1
    have h34:=h3.trans h4
    have:=H2 g4 ((s2.eA (g2.node m).prev p 0).1.load (g2.node m).prev).1 m h34 hT4 ⟨hm2.ge h34,by rw[h34.node hm2.dU];exact val_zero hv4 hz⟩ (by rw[h34.node hi2.dU,hB,nR (.inl (Tw.ne (hT2.gw.MO hi2) hc2 (by intro h;cases h)))];exact hmr)
     ((RO hc2 (ht.ge hg) (by intro h;cases h) (by intro h;cases h) (by intro h;cases h)).trans hT2.gw h3 (Ac _ _)) ((F9 hc2 λb' e=>by cases e).trans h3 (Et _ _))
    show (I.eA (g.node m).prev p 0 _).Al Q (n+3) (j+1) s2
    rw[<- e2]
    refine XB (n:=n+2) (Vn (n:=n+1) ?_)
    rw[hz]
    exact Al.mono this (by omega) (by omega)
theorem Au{b:fV}{t:bC}{s:St}{i:Int}{n j:Nat}{k:Int->I α}(hT:Tw g s)(ht:Tk g t)(hi:jV g i b)(H:Kr Q b g t s i n j k):(mM t i k).Al Q (n+10) (j+1) s:=by
 have hc:=hT.gw.MO hi
 obtain⟨g1,h1,hT1,hm⟩:=hT.val hc
 refine oW (hT.PI.node i) (Vn (n:=n+9) ?_)
 exact UU hT1 (ht.ge h1) (hi.ge h1) hm (by rw[h1.node hi.dU];rfl) (H.ge hT.gw h1 (Ac _ _) (Et _ _))
abbrev Kh(Q:α->St->Prop)(g:Ga)(t:bC)(n j:Nat)(k:Int->I α):Prop:=∀g' s' r,Ge g g'->Tw g' s'->jV g' r (0,0)->rd s' t.root=r->(k r).Al Q n j s'
theorem Kh.kw{t:bC}{s:St}{n j:Nat}{k:Int->I α}{g1:Ga}(H:Kh Q g t n j k)(h:Ge g g1):Kw Q g1 t s n j k:=λg' s' r a b d e _ _=>H g' s' r (h.trans a) b d e
theorem AZ{t:bC}{s:St}{n j:Nat}{k:Int->I α}(hT:Tw g s)(hk:Tk g t)(H:Kh Q g t n j k):(uO t k).Al Q (n+15) (j+1) s:=by
 cases hro:t.readOnly with
 |true=>
  obtain⟨g1,h1,hT1,hv⟩:=hT.val (hk.fixed hro)
  have hv:jV g1 (rd s t.root) (0,0):=hv
  refine Vn (n:=n+14) (oW (hT1.PI.node _) ?_)
  rw[hv.1]
  exact Al.mono (H g1 _ _ h1 hT1 hv rfl) (by omega) (by omega)
 |false=>
 have ht:=hk.root hro
 obtain⟨g1,h1,hT1,hv⟩:=hT.val ht
 refine Vn (n:=n+14) (oW (hT1.PI.node _) ?_)
 rcases VI hv with⟨hv,hq⟩|⟨hv,hq⟩
 ·rw[hq]
  exact Al.mono (H g1 _ _ h1 hT1 hv rfl) (by omega) (by omega)
 ·rw[hq]
  have hc:=hT1.gw.Dt hv
  obtain⟨g2,h2,hT2,hs⟩:=hT1.val hc
  refine Vn (n:=n+13) ?_
  have hv2:=tC.ge hv h2
  have e2:=h2.node (tC.dU hv)
  cases h0:(rd (s.load t.root).1 (g1.node (rd s t.root)).status != 0)with
  |true=>exact Al.mono (X0 hT2 ((h1.trans h2).oA ht) hv2 (by rw[e2];rfl) (by simpa using h0) (.inl rfl) (H.kw (h1.trans h2))) (by omega) (by omega)
  |false=>
   refine Au (n:=n+3) hT2 (hk.ge (h1.trans h2)) (((hT1.gw.G4 hv).d hv).1.ge h2) λg3 s3 m h3 hT3 hm _ hR _=>?_
   have hg:=(h1.trans h2).trans h3
   have e3:g3.node (rd s t.root)=g1.node (rd s t.root):=(h2.trans h3).node (tC.dU hv)
   have hI:Iv g3 t s3 (rd s t.root):=by
    have:Iv g2 t s3 (rd s t.root):=hR.d (by exact hv2)
    unfold Iv at this ⊢
    rw[e3];rw[e2]at this;exact this
   have hA:=λx hx=>U7 (x:=x) hT3 (hg.oA ht) (tC.ge hv2 h3) hx hI (H.kw hg)
   rw[e3]at hA
   cases hb:(m==(g1.node (rd s t.root)).aK)with
   |true=>exact hA 1 (.inl rfl)
   |false=>exact hA 2 (.inr rfl)
theorem U4{t:bC}{s:St}{r m i:Int}{n j:Nat}{k:Bool->I α}(hT:Tw g s)(ht:g.oA t.root=some .root)(hro:t.readOnly=false)(hr:jV g r (0,0))(hm:oH g m (0,0))(hi:jV g i (0,0))(h1:rd s t.root=r)(h2:rd s (g.node r).main=m)(h3:rd s (g.node m).prev=0)(H:∀g' s' d,Ge g g'->Tw g' s'->s'.acc=s.acc+6->s'.aG=s.aG++[d]->d.kind=8->s'.gen=s.gen->rd s' t.root=i->(k true).Al Q n j s'):(lD t r m i k).Al Q (n+6) (j+1) s:=by
 have hN:=TX (b:=(0,0)) hr hm hi
 have hJ:Tb g {kind:=8,dC:=r,aK:=m,new:=i} 0 (0,0):=⟨(λh=>by cases h),(λh=>by cases h),λ_=>rfl⟩
 obtain⟨t1,e1⟩:=hT.PI.alloc hT.gw (b:=(0,0)) hN hJ
 have a1:=Ga.rM hT.gw {kind:=8,dC:=r,aK:=m,new:=i} 0 (0,0)
 have hT1:Tw (g.alloc {kind:=8,dC:=r,aK:=m,new:=i} 0 (0,0)) (s.alloc {kind:=8,dC:=r,aK:=m,new:=i} 0).1:=⟨eX hT.gw hN hJ,t1⟩
 have hv:tC (g.alloc {kind:=8,dC:=r,aK:=m,new:=i} 0 (0,0)) (g.nodes.length+3):=IM rfl
 have hf:((g.alloc {kind:=8,dC:=r,aK:=m,new:=i} 0 (0,0)).node (g.nodes.length+3)).dC=r/\((g.alloc {kind:=8,dC:=r,aK:=m,new:=i} 0 (0,0)).node (g.nodes.length+3)).aK=m/\((g.alloc {kind:=8,dC:=r,aK:=m,new:=i} 0 (0,0)).node (g.nodes.length+3)).new=i:=by rw[yE];exact⟨rfl,rfl,rfl⟩
 have r1:=mG hT (n:={kind:=8,dC:=r,aK:=m,new:=i}) (i:=0) ht
 have r2:=mG hT (n:={kind:=8,dC:=r,aK:=m,new:=i}) (i:=0) (hT.gw.MO hr)
 have r3:=mG hT (n:={kind:=8,dC:=r,aK:=m,new:=i}) (i:=0) (hT.gw.Nl hm)
 have n1:=a1.node hr.dU
 have n2:=a1.node hm.dU
 have ht1:=a1.oA ht
 have m1:=a1.oA (hT.gw.MO hr)
 have p1:=a1.oA (hT.gw.Nl hm)
 have z1:rd (s.alloc {kind:=8,dC:=r,aK:=m,new:=i} 0).1 ((g.alloc {kind:=8,dC:=r,aK:=m,new:=i} 0 (0,0)).node (g.nodes.length+3)).status=0:=by
  rw[yE]
  have ec:=Es s {kind:=8,dC:=r,aK:=m,new:=i} 0 (0,0)
  have el:=hT.PI.len
  have:(Node.stored {kind:=8,dC:=r,aK:=m,new:=i} (g.ty.length+1)).status=(g.ty.length:Int)+1:=rfl
  rw[this]
  unfold rd St.load
  dsimp only
  split
  ·rw[ec,dI,tW (by omega),show ((g.ty.length:Int)+1).toNat -1-s.cells.length=0 by omega];rfl
  ·rfl
 have ac1:(s.alloc {kind:=8,dC:=r,aK:=m,new:=i} 0).1.acc=s.acc:=by unfold St.alloc St.aV;dsimp only;split<;>rfl
 obtain⟨dd,al1,dk⟩:∃dd:Node,(s.alloc {kind:=8,dC:=r,aK:=m,new:=i} 0).1.aG=s.aG++[dd]/\dd.kind=8:=⟨_,pN ..,dX _ _⟩
 have gn1:(s.alloc {kind:=8,dC:=r,aK:=m,new:=i} 0).1.gen=s.gen:=by unfold St.alloc St.aV;dsimp only;split<;>rfl
 refine Yw (j:=j) (λ_=>bG _ 8 0 r m i) ?_
 show (I.node (s.alloc {kind:=8,dC:=r,aK:=m,new:=i} 0).2 _).Al Q (n+6) j (s.alloc {kind:=8,dC:=r,aK:=m,new:=i} 0).1
 rw[e1]
 generalize (s.alloc {kind:=8,dC:=r,aK:=m,new:=i} 0).1=s1 at *
 generalize g.alloc {kind:=8,dC:=r,aK:=m,new:=i} 0 (0,0)=g1 at *
 generalize (g.nodes.length:Int)+3=v at *
 refine oW (hT1.PI.node v) ?_
 have q1:rd s1 t.root=r:=r1.trans h1
 obtain⟨g2,b2,hT2⟩:=hT1.eA (o:=r) (n:=v) ht1 (.inr hv)
 have c2:=oP (v:=v) (hT1.has ht1) q1
 refine XB (n:=n+5) ?_
 rw[c2.2]
 have hc:=hT1.gw.Dt hv
 have k2:∀c τ,g1.oA c=some τ->τ≠.root->rd (s1.eA t.root r v).1 c=rd s1 c:=λc τ hc h=>nR (.inl (Tw.ne hc ht1 h))
 have u1:=k2 _ _ m1 (by intro h;cases h)
 have u2:=k2 _ _ p1 (by intro h;cases h)
 have u3:=k2 _ _ hc (by intro h;cases h)
 have hr1:=hr.ge a1
 have hm1:=hm.ge a1
 show (Gu t (g1.node v) _).Al Q (n+5) j (s1.eA t.root r v).1
 unfold Gu mM
 rw[hf.1]
 refine oW (hT2.PI.node r) ?_
 rw[b2.node hr1.dU,n1]
 refine Vn (n:=n+4) ?_
 rw[u1,r2,h2]
 obtain⟨g3,b3,hT3,_⟩:=hT2.val (b2.oA m1)
 unfold qB
 refine oW (hT3.PI.node m) ?_
 rw[(b2.trans b3).node hm1.dU,n2]
 refine Vn (n:=n+3) ?_
 rw[hB,u2,r3,h3]
 show (bif m==(g1.node v).aK then _ else _:I α).Al Q _ j _
 rw[hf.2.1,show (m==m)=true by simp]
 obtain⟨g4,b4,hT4,_⟩:=hT3.val (b3.oA (b2.oA p1))
 have b:=(b2.trans b3).trans b4
 have e:=b.node (tC.dU hv)
 have ev:Iv g4 t ((((s1.eA t.root r v).1.load (g.node r).main).1.load (g.node m).prev).1) v:=.inl c2.1
 have hc4:=b.oA hc
 obtain⟨g5,b5,hT5⟩:=hT4.eA (o:=0) (n:=1) hc4 (.inl rfl)
 have w:=(oP (s:=(((s1.eA t.root r v).1.load (g.node r).main).1.load (g.node m).prev).1) (o:=0) (v:=1) (hT4.has hc4) (by rw[hB,hB,u3];exact z1)).1
 refine XB (n:=n+2) (Vn (n:=n+1) ?_)
 rw[w]
 obtain⟨g6,b6,hT6,_⟩:=hT5.val (b5.oA hc4)
 have bb:=(b.trans b5).trans b6
 have hv6:=tC.ge hv bb
 obtain⟨g7,b7,hT7⟩:=hT6.eA (o:=v) (n:=(g6.node v).new) (bb.oA ht1) (.inl ((hT6.gw.G4 hv6).d hv6).2.2)
 refine oW (hT6.PI.node v) (XB (n:=n) ?_)
 have en:(g6.node v).new=i:=by rw[bb.node (tC.dU hv)];exact hf.2.2
 have w6:=(oP (s:=((((((s1.eA t.root r v).1.load (g.node r).main).1.load (g.node m).prev).1).eA (g1.node v).status 0 1).1.load (g1.node v).status).1) (o:=v) (v:=(g6.node v).new) (hT6.has (bb.oA ht1)) (by rw[hB,nR (.inl (Tw.ne (b.oA ht1) hc4 (by intro h;cases h))),hB,hB];exact c2.1)).1
 exact H g7 _ dd (a1.trans (bb.trans b7)) hT7 (by rw[<- ac1];rfl) al1 dk gn1 (w6.trans en)
theorem D'{t:bC}{s:St}{r m i:Int}{n j:Nat}{k:Bool->I α}(hT:Tw g s)(ht:g.oA t.root=some .root)(hro:t.readOnly=false)(hr:jV g r (0,0))(hm:oH g m (0,0))(hi:jV g i (0,0))(h1:rd s t.root=r)(h2:rd s (g.node r).main=m)(h3:rd s (g.node m).prev=0)(H:∀g' s',Ge g g'->Tw g' s'->s'.acc=s.acc+6->s'.aG.length=s.aG.length+1->(k true).Al Q n j s'):(lD t r m i k).Al Q (n+6) (j+1) s:=
 U4 hT ht hro hr hm hi h1 h2 h3 λg' s' d a b e f _ _ _=>H g' s' a b e (by rw[f,cO];rfl)
theorem ZJ{s:St}(hT:Tw g s):Tw g.bS s.bS.1/\s.bS.2=g.gen+1/\Ge g g.bS:=by
 obtain⟨t3,e3⟩:=hT.PI.bS hT.gw
 exact⟨⟨NN hT.gw,t3⟩,e3,Ga.yD hT.gw⟩
theorem kU{s:St}{n:Node}{i:Int}{b:fV}(hT:Tw g s)(hN:cJ g n b)(hJ:Tb g n i b):Tw (g.alloc n i b) (s.alloc n i).1/\(s.alloc n i).2=g.nodes.length+3/\Ge g (g.alloc n i b)/\(s.alloc n i).1.acc=s.acc/\(s.alloc n i).1.aG.length=s.aG.length+1:=by
 obtain⟨t1,e1⟩:=hT.PI.alloc hT.gw hN hJ
 refine⟨⟨eX hT.gw hN hJ,t1⟩,e1,Ga.rM hT.gw n i b,?_,by rw[pN,cO];rfl⟩
 unfold St.alloc St.aV;dsimp only;split<;>rfl
structure Fx(g:Ga)(t:bC)(s:St)(r m:Int):Prop where
 rt:jV g r (0,0)
 mn:oH g m (0,0)
 root:rd s t.root=r
 main:rd s (g.node r).main=m
 prev:rd s (g.node m).prev=0
theorem Fx.alloc{t:bC}{s:St}{r m i:Int}{n:Node}{b:fV}(h:Fx g t s r m)(hT:Tw g s)(ht:g.oA t.root=some .root)(hg:Ge g (g.alloc n i b)):Fx (g.alloc n i b) t (s.alloc n i).1 r m:=
 ⟨h.rt.ge hg,h.mn.ge hg,by rw[mG hT ht];exact h.root,by rw[hg.node h.rt.dU,mG hT (hT.gw.MO h.rt)];exact h.main,by rw[hg.node h.mn.dU,mG hT (hT.gw.Nl h.mn)];exact h.prev⟩
theorem Fx.gen{t:bC}{s:St}{r m:Int}(h:Fx g t s r m):Fx g.bS t s.bS.1 r m:=⟨h.rt,h.mn,h.root,h.main,h.prev⟩
theorem V8{t:bC}{s:St}{r m c:Int}{n j:Nat}{k:Bool->I α}(hT:Tw g s)(ht:g.oA t.root=some .root)(hro:t.readOnly=false)(hc:oH g c (0,0))(hF:Fx g t s r m)(H:∀g' s',Ge g g'->Tw g' s'->s'.acc=s.acc+6->s'.aG.length=s.aG.length+2->(k true).Al Q n j s'):(I.gen λx=>.alloc {kind:=2,gen:=x} c λi=>lD t r m i k).Al Q (n+6) (j+3) s:=by
 obtain⟨hT3,e3,h3⟩:=ZJ hT
 refine alG (j:=j+2) ?_
 show (I.alloc {kind:=2,gen:=s.bS.2} c λi=>lD t r m i k).Al Q (n+6) (j+2) s.bS.1
 rw[e3]
 have hN:cJ g.bS {kind:=2,gen:=(g.gen:Int)+1} (0,0):=rH (by omega) (by show _<=((_+1:Nat):Int);omega) (by decide)
 obtain⟨hT4,e4,h4,a4,l4⟩:=kU hT3 (i:=c) hN ⟨λ_=>hc.ge h3,(λh=>by cases h),λh=>by cases h⟩
 have hI:=oU hT3.gw (n:={kind:=2,gen:=(g.gen:Int)+1}) (i:=c) (b:=(0,0)) rfl
 have hF2:=hF.gen.alloc hT3 (h3.oA ht) h4
 refine Yw (j:=j+1) (λ_=>bG _ 2 _ 0 0 0) ?_
 rw[e4]
 exact D' hT4 ((h3.trans h4).oA ht) hro hF2.rt hF2.mn hI hF2.root hF2.main hF2.prev λg' s' b hT' a' l'=>H g' s' ((h3.trans h4).trans b) hT' (by rw[a',a4];rfl) (by rw[l',l4];rfl)
theorem i9{t:bC}{s s':St}{r:Int}(hR:Rt g t s s')(hr:jV g r (0,0))(h:rd s t.root=r):rd s' t.root=r:=(hR.i (by rw[h];exact hr)).trans h
end Go.Ct
end
