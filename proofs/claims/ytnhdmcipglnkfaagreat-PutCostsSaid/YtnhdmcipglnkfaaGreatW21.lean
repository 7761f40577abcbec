/- Parts of a proof: Sm. -/
import Derived.Test.YtnhdmcipglnkfaaGreatW18
set_option linter.unusedVariables false
set_option linter.unusedSimpArgs false
set_option maxRecDepth 100000
set_option maxHeartbeats 4000000
section
namespace Go.Ct
variable{α β:Type}
class Qc(α:Type) where
 q:Ga->α->Prop
 ge:∀{g g':Ga} {a:α},Ge g g'->q g a->q g' a
instance:Qc Result:=⟨λg r=>r.aF.root<=0\/Tk g r.aF,λk h=>h.imp id λh=>h.ge k⟩
section
variable[Qc α]
inductive Sm{α:Type}[Qc α]:I α->I α->Ga->Prop
 |ret (a:α) (g:Ga):Qc.q g a->Sm (.ret a) (.ret a) g
 |nl {r:Int} {k:Node->I α} {u:I α} {g:Ga}:r<=g.count->Sm (k (g.node r)) u g->Sm (.node r k) u g
 |nr {r:Int} {k:Node->I α} {u:I α} {g:Ga}:r<=g.count->Sm u (k (g.node r)) g->Sm u (.node r k) g
 |load {c:Int} {k k':Int->I α} {g:Ga} (τ:dD):g.dZ c=some τ->(∀g',Ge g g'->GW g'->∀v,I2 g' c v τ->Sm (k v) (k' v) g')->Sm (.load c k) (.load c k') g
 |cH {c o n:Int} {k k':Bool->I α} {g:Ga} (τ:dD):g.dZ c=some τ->ZE g c o n τ->(∀g',Ge g g'->GW g'->((∃b,τ=.prev b)->o=g.first c->g'.dec c)->∀b,Sm (k b) (k' b) g')->Sm (.cH c o n k) (.cH c o n k') g
 |alloc {n:Node} {i:Int} {k k':Int->I α} {g:Ga} (b:eC):bT g n b->oD g n i b->(Ge g (g.alloc n i b)->GW (g.alloc n i b)->Sm (k (g.nodes.length+3)) (k' (g.nodes.length+3)) (g.alloc n i b))->Sm (.alloc n i k) (.alloc n i k') g
 |cell {i:Int} {k k':Int->I α} {g:Ga} (τ:dD):(τ=.root\/τ=.fixed)->fH g i (0,0)->(Ge g (g.cell τ i)->GW (g.cell τ i)->Sm (k (g.ty.length+1)) (k' (g.ty.length+1)) (g.cell τ i))->Sm (.cell i k) (.cell i k') g
 |gen {k k':Int->I α} {g:Ga}:(Ge g g.bL->GW g.bL->Sm (k (g.gen+1)) (k' (g.gen+1)) g.bL)->Sm (.gen k) (.gen k') g
inductive Sh{α:Type}[Qc α]:I α->I α->Ga->Prop
 |ret (a:α) (g:Ga):Qc.q g a->Sh (.ret a) (.ret a) g
 |load {c:Int} {k k':Int->I α} {g:Ga} (τ:dD):g.dZ c=some τ->(∀g',Ge g g'->GW g'->∀v,I2 g' c v τ->Sm (k v) (k' v) g')->Sh (.load c k) (.load c k') g
 |cH {c o n:Int} {k k':Bool->I α} {g:Ga} (τ:dD):g.dZ c=some τ->ZE g c o n τ->(∀g',Ge g g'->GW g'->((∃b,τ=.prev b)->o=g.first c->g'.dec c)->∀b,Sm (k b) (k' b) g')->Sh (.cH c o n k) (.cH c o n k') g
theorem ZE.ge{g g':Ga}{c o n:Int}{τ:dD}(h:ZE g c o n τ)(k:Ge g g')(hw:GW g)(hc:g.dZ c=some τ):ZE g' c o n τ:=by
 cases τ with
 |root=>exact h.imp (λh=>h.ge k) λh=>h.ge k
 |fixed=>exact h
 |main b=>exact mZ.ge h k
 |prev b=>exact⟨h.1,h.2.imp id λx=>⟨x.1.ge k,by rw[k.node x.1.bX,k.first hw hc];exact x.2⟩⟩
 |status=>exact h
theorem Sh.ge{u u':I α}{g g':Ga}(h:Sh u u' g)(k:Ge g g')(hw:GW g):Sh u u' g':=by
 cases h with
 |ret a _ hq=>exact .ret a g' (Qc.ge k hq)
 |load τ h1 h2=>exact .load τ (k.dZ h1) λg2 h3 h4=>h2 g2 (k.trans h3) h4
 |cH τ h1 hm h2=>exact .cH τ (k.dZ h1) (hm.ge k hw h1) λg2 h3 h4 h5=>h2 g2 (k.trans h3) h4 λe1 e2=>h5 e1 (by rw[k.first hw h1];exact e2)
structure oS(g:Ga)(s:St):Prop where
 nodes:s.aG=g.nodes
 gen:s.gen=g.gen
 len:s.cells.length=g.ty.length
 holds:∀c τ,g.dZ c=some τ->mT g c (s.cells.getD (c.toNat-1) 0) τ
 dec:∀c,g.dec c->c<=g.ty.length/\-c<=g.ty.length
 DL:∀c b,g.dZ c=some (.prev b)->g.dec (-c)->s.cells.getD (c.toNat-1) 0=0
theorem oS.node{g:Ga}{s:St}(h:oS g s)(r:Int):s.node r=g.node r:=by
 unfold Ga.node Ga.st St.node St.nodes;rw[h.nodes]
theorem oS.has{g:Ga}{s:St}(h:oS g s){c:Int}{τ:dD}(hc:g.dZ c=some τ):s.bD c=true:=by
 have:=lT hc
 unfold St.bD;rw[h.len];simp;omega
theorem mT.ge{g g':Ga}{c v:Int}{τ:dD}(h:mT g c v τ)(k:Ge g g')(hw:GW g)(hc:g.dZ c=some τ)(hd:g'.dec c->g.dec c\/v≠g.first c):mT g' c v τ:=by
 cases τ with
 |root=>exact h.imp (λh=>h.ge k) λh=>h.ge k
 |fixed=>exact fH.ge h k
 |main b=>exact mZ.ge h k
 |prev b=>
  rcases h with h|h|⟨h1,h2,h3⟩
  ·exact .inl h
  ·exact .inr (.inl ⟨h.1.ge k,by rw[k.node h.1.bX,k.first hw hc];exact h.2⟩)
  ·refine .inr (.inr ⟨by rw[k.first hw hc];exact h1,h2.ge k,λLv=>?_⟩)
   rcases hd Lv with Lv|Lv
   ·exact h3 Lv
   ·exact Lv h1
 |status=>exact h
theorem mT.may{g:Ga}{c o n:Int}{τ:dD}(h:ZE g c o n τ):mT g c n τ:=by
 cases τ with
 |root=>exact h
 |fixed=>exact h.elim
 |main b=>exact h
 |prev b=>exact h.2.imp id .inl
 |status=>exact .inr h
theorem mT.first{g:Ga}{c:Int}{τ:dD}(h:mT g c (g.first c) τ)(hd:¬g.dec c):mT g c (g.first c) τ:=h
def Ga.decide(g:Ga)(c:Int):Ga:={g with dec:=λd=>g.dec d\/d=c}
theorem Ga.pX{g:Ga}(h:GW g)(c:Int):Ge g (g.decide c):=⟨xI _,xI _,xI _,xI _,aW _,λ_ h=>.inl h,h.Ak⟩
theorem Ga.Yo{g:Ga}(h:GW g)(c:Int):GW (g.decide c):=
 ⟨λm hm=>(h.node m hm).ge (Ga.pX h c),h.cell,h.main,h.prev,h.status,h.sort,h.len,h.Ak,λr b hr h0=>(h.DL r b hr h0).ge (Ga.pX h c)⟩
theorem oS.load{g:Ga}{s:St}(h:oS g s)(c:Int):oS g (s.load c).1:=⟨h.nodes,h.gen,h.len,h.holds,h.dec,h.DL⟩
theorem oS.value{g:Ga}{s:St}(h:oS g s){c:Int}{τ:dD}(hc:g.dZ c=some τ):mT g c (s.load c).2 τ:=by
 unfold St.load;dsimp only;rw[if_pos (h.has hc)];exact h.holds c τ hc
theorem oS.val{g:Ga}{s:St}(h:oS g s)(hw:GW g){c:Int}{τ:dD}(hc:g.dZ c=some τ):∃g',Ge g g'/\GW g'/\oS g' (s.load c).1/\I2 g' c (s.load c).2 τ:=by
 have hv:=h.value hc
 have hcl:=lT hc
 have same:(∀b,τ=.prev b->(s.load c).2≠0)->∃g',Ge g g'/\GW g'/\oS g' (s.load c).1/\I2 g' c (s.load c).2 τ:=λh0=>⟨g,Ge.refl hw,hw,h.load c,by
  cases τ with
  |root=>exact hv
  |fixed=>exact hv
  |main b=>exact hv
  |prev b=>exact .inr (hv.resolve_left (h0 b rfl))
  |status=>exact hv⟩
 cases τ with
 |root=>exact same λb e=>by cases e
 |fixed=>exact same λb e=>by cases e
 |main b=>exact same λb e=>by cases e
 |status=>exact same λb e=>by cases e
 |prev b=>
  by_cases h0:(s.load c).2=0
  ·have xY:=Ga.pX hw (-c)
   have hl:s.cells.getD (c.toNat-1) 0=0:=by unfold St.load at h0;dsimp only at h0;rwa [if_pos (h.has hc)]at h0
   refine⟨g.decide (-c),xY,g.Yo hw (-c),⟨h.nodes,h.gen,h.len,λd σ hd=>?_,λd hd=>?_,λd b' hd hz=>?_⟩,.inl ⟨h0,.inr rfl⟩⟩
   ·have ZJ:=lT (g:=g) hd
    exact(h.holds d σ hd).ge xY hw hd λLv=>.inl (Lv.resolve_right (by omega))
   ·rcases hd with hd|rfl
    ·exact h.dec d hd
    ·show -c<=(g.ty.length:Int)/\- -c<=(g.ty.length:Int);omega
   ·rcases hz with hz|hz
    ·exact h.DL d b' hd hz
    ·obtain rfl:d=c:=by omega
     exact hl
  ·exact same λ_ _=>h0
theorem oS.cH{g:Ga}{s:St}(h:oS g s)(hw:GW g){c o n:Int}{τ:dD}(hc:g.dZ c=some τ)(hm:ZE g c o n τ):
  ∃g',Ge g g'/\GW g'/\((∃b,τ=.prev b)->o=g.first c->g'.dec c)/\oS g' (s.cH c o n).1:=by
 have hcl:=lT hc
 have zk:∀d b',g.dZ d=some (.prev b')->g.dec (-d)->(if s.pV c o then s.cells.set (c.toNat-1) n else s.cells).getD (d.toNat-1) 0=0:=λd b' hd hz=>by
  have ZJ:=lT hd
  have h0:=h.DL d b' hd hz
  split
  ·rename_i hs
   by_cases S2:d=c
   ·subst S2
    obtain rfl:=Lx (hc.symm.trans hd)
    unfold St.pV at hs
    rw[h.has hc,h0]at hs
    simp at hs
    exact absurd hs.symm hm.1
   ·rw[cK,F2 (by omega),<- cK];exact h0
  ·exact h0
 by_cases hp:(∃b,τ=.prev b)/\o=g.first c
 ·refine⟨g.decide c,Ga.pX hw c,g.Yo hw c,λ_ _=>.inr rfl,h.nodes,h.gen,?_,λd σ hd=>?_,λd hd=>hd.elim (h.dec d) λe=>by(rw[e];show c<=(g.ty.length:Int)/\-c<=(g.ty.length:Int);omega),λd b' hd hz=>zk d b' hd (hz.resolve_right (by have:=lT (g:=g) hd;omega))⟩
  ·show List.length (if _ then _ else _)=_
   split
   ·rw[tS];exact h.len
   ·exact h.len
  ·have ZJ:=lT (g:=g) hd
   have hH:=h.holds d σ hd
   show mT (g.decide c) d (List.getD (if s.pV c o then s.cells.set (c.toNat-1) n else s.cells) _ _) σ
   by_cases S2:d=c
   ·subst S2
    obtain rfl:σ=τ:=Lx (hd.symm.trans hc)
    split
    ·rw[cK,List.getElem?_set_self (by rw[h.len];omega)];exact mT.may (hm.ge (Ga.pX hw d) hw hc)
    ·rename_i hs
     refine hH.ge (Ga.pX hw d) hw hc λ_=>.inr λe=>hs ?_
     unfold St.pV;rw[h.has hc,e,hp.2];simp
   ·have e:List.getD (if s.pV c o then s.cells.set (c.toNat-1) n else s.cells) (d.toNat-1) 0=s.cells.getD (d.toNat-1) 0:=by
     split
     ·rw[cK,cK,F2 (by omega)]
     ·rfl
    rw[e]
    exact hH.ge (Ga.pX hw c) hw hd λLv=>.inl (Lv.resolve_right S2)
 ·refine⟨g,Ge.refl hw,hw,λa b=>absurd ⟨a,b⟩ hp,h.nodes,h.gen,?_,λd σ hd=>?_,h.dec,zk⟩
  ·show List.length (if _ then _ else _)=_
   split
   ·rw[tS];exact h.len
   ·exact h.len
  ·have ZJ:=lT (g:=g) hd
   have hH:=h.holds d σ hd
   show mT g d (List.getD (if s.pV c o then s.cells.set (c.toNat-1) n else s.cells) _ _) σ
   split
   ·by_cases S2:d=c
    ·subst S2
     obtain rfl:σ=τ:=Lx (hd.symm.trans hc)
     rw[cK,List.getElem?_set_self (by rw[h.len];omega)];exact mT.may hm
    ·rw[cK,F2 (by omega),<- cK];exact hH
   ·exact hH
theorem iE(s:St)(n:Node)(i:Int):(s.alloc n i).1.aG=s.aG++[n.stored (s.cells.length+1)]:=by
 unfold St.alloc Node.stored St.aT
 simp only[Ae]
 split<;>rfl
theorem mV(s:St)(n:Node)(i:Int)(b:eC):(s.alloc n i).1.cells=s.cells++(n.gQ b).toList.map λ_=>i:=by
 unfold St.alloc Node.gQ St.aT
 by_cases h2:n.kind=2
 ·simp[h2]
 ·by_cases hm:n.bG=true
  ·simp[h2,hm]
  ·by_cases h8:n.kind=8
   ·simp[h2,hm,h8]
   ·simp[h2,hm,h8]
theorem Nh{g:Ga}{l:List dD}{c:Int}{τ:dD}{g':Ga}(hg:g'.ty=g.ty++l)(h:g'.dZ c=some τ):g.dZ c=some τ\/(g.ty.length:Int)<c/\l[c.toNat-1-g.ty.length]?=some τ:=by
 unfold Ga.dZ at h ⊢
 split at h
 ·cases h
 ·rename_i h1
  rw[if_neg h1]
  rw[hg]at h
  by_cases hl:c.toNat-1<g.ty.length
  ·rw[vS hl]at h;exact .inl h
  ·rw[tN (by omega)]at h;exact .inr ⟨by omega,h⟩
theorem oS.alloc{g:Ga}{s:St}(h:oS g s)(hw:GW g){n:Node}{i:Int}{b:eC}(hn:bT g n b)(hi:oD g n i b):
  oS (g.alloc n i b) (s.alloc n i).1/\(s.alloc n i).2=g.nodes.length+3:=by
 have xY:=Ga.gV hw n i b
 refine⟨⟨?_,?_,?_,λc τ hc=>?_,λc hc=>?_,λc b' hc hz=>?_⟩,?_⟩
 ·rw[iE,jP,h.nodes,h.len]
 ·rw[(oC g n i b).1,<- h.gen];unfold St.alloc St.aT;dsimp only;split<;>rfl
 ·rw[mV s n i b,(mG g n i b).1,cV,cV,vX,h.len]
 ·rw[mV s n i b]
  rcases Nh (mG g n i b).1 hc with h1|⟨h1,h2⟩
  ·have hcl:=lT h1
   rw[cK,vS (by rw[h.len];omega),<- cK]
   exact(h.holds c τ h1).ge xY hw h1 λLv=>.inl (by rw[(oC g n i b).2]at Lv;exact Lv)
  ·have e:n.gQ b=some τ/\c.toNat-1-g.ty.length=0:=by
    cases hct:n.gQ b with
    |none=>rw[hct]at h2;simp at h2
    |some σ=>
     rw[hct]at h2
     cases hk:c.toNat-1-g.ty.length with
     |zero=>rw[hk]at h2;simp at h2;exact⟨by rw[h2],rfl⟩
     |succ k=>rw[hk]at h2;simp at h2
   have ev:List.getD (s.cells++(n.gQ b).toList.map λ_=>i) (c.toNat-1) 0=i:=by
    rw[cK,tN (by rw[h.len];omega),h.len,e.2,e.1];rfl
   have ef:(g.alloc n i b).first c=i:=by
    unfold Ga.first
    rw[(mG g n i b).2,cK,tN (by rw[hw.len];omega),hw.len,e.2,e.1];rfl
   rw[ev]
   have h3:=e.1
   unfold Node.gQ at h3
   split at h3
   ·rename_i k2
    obtain rfl:=Lx h3
    exact(hi.1 k2).ge xY
   ·split at h3
    ·rename_i k2 km
     obtain rfl:=Lx h3
     rcases hi.2.1 km with h0|h0
     ·exact .inl h0
     ·exact .inr (.inr ⟨ef.symm,h0.m.ge xY,λLv=>by rw[(oC g n i b).2]at Lv;have:=h.dec c Lv;omega⟩)
    ·split at h3
     ·rename_i k2 km k8
      obtain rfl:=Lx h3
      exact .inl (hi.2.2 k8)
     ·cases h3
 ·rw[(oC g n i b).2]at hc;have:=h.dec c hc;rw[(mG g n i b).1,cV];omega
 ·rw[(oC g n i b).2]at hz
  have hl:=h.dec _ hz
  rw[mV s n i b]
  rcases Nh (mG g n i b).1 hc with h1|⟨h1,h2⟩
  ·have hcl:=lT h1
   rw[cK,vS (by rw[h.len];omega),<- cK]
   exact h.DL c b' h1 hz
  ·omega
 ·show (s.aG.length:Int)+3=_;rw[h.nodes]
theorem oS.cell{g:Ga}{s:St}(h:oS g s)(hw:GW g){i:Int}{σ:dD}(hσ:σ=.root\/σ=.fixed)(hi:fH g i (0,0)):oS (g.cell σ i) (s.aT i).1/\(s.aT i).2=g.ty.length+1:=by
 have xY:=Ga.uP hw σ i
 refine⟨⟨h.nodes,h.gen,?_,λc τ hc=>?_,λc hc=>by(have:=h.dec c hc;show c<=((g.ty++[σ]).length:Nat)/\-c<=((g.ty++[σ]).length:Nat);rw[cV];omega),λc b' hc hz=>?_⟩,?_⟩
 ·show (s.cells++[i]).length=(g.ty++[σ]).length;simp[h.len]
 ·show mT _ c ((s.cells++[i]).getD _ _) τ
  rcases Nh (g:=g) (l:=[σ]) rfl hc with h1|⟨h1,h2⟩
  ·have hcl:=lT h1
   rw[cK,vS (by rw[h.len];omega),<- cK]
   exact(h.holds c τ h1).ge xY hw h1 λLv=>.inl Lv
  ·cases hk:c.toNat-1-g.ty.length with
   |zero=>
    rw[hk]at h2;simp at h2;subst h2
    rw[cK,tN (by rw[h.len];omega),h.len,hk]
    rcases hσ with rfl|rfl
    ·exact .inl (hi.ge xY)
    ·exact hi.ge xY
   |succ k=>rw[hk]at h2;simp at h2
 ·have hl:=h.dec _ hz
  show (s.cells++[i]).getD _ _=0
  rcases Nh (g:=g) (l:=[σ]) rfl hc with h1|⟨h1,h2⟩
  ·have hcl:=lT h1
   rw[cK,vS (by rw[h.len];omega),<- cK]
   exact h.DL c b' h1 hz
  ·omega
 ·show (s.cells.length:Int)+1=_;rw[h.len]
theorem oS.bL{g:Ga}{s:St}(h:oS g s)(hw:GW g):oS g.bL s.bL.1/\s.bL.2=g.gen+1:=by
 refine⟨⟨h.nodes,by show s.gen+1=g.gen+1;rw[h.gen],h.len,λc τ hc=>?_,h.dec,h.DL⟩,by show (s.gen:Int)+1=_;rw[h.gen]⟩
 exact(h.holds c τ hc).ge (Ga.uX hw) hw hc λLv=>.inl Lv
theorem Sm.head{α:Type}[Qc α]{t t':I α}{g:Ga}(h:Sm t t' g):GW g->∀s,oS g s->∃g' s' u u',t.head s=(s',u)/\t'.head s=(s',u')/\Ge g g'/\GW g'/\oS g' s'/\Sh u u' g':=by
 induction h with
 |ret a g hq=>exact λhw s hs=>⟨g,s,_,_,rfl,rfl,Ge.refl hw,hw,hs,.ret a g hq⟩
 |nl hr h ih=>
  intro hw s hs
  obtain⟨g',s',u,u',h1,h2⟩:=ih hw s hs
  exact⟨g',s',u,u',by unfold I.head;rw[hs.node];exact h1,h2⟩
 |nr hr h ih=>
  intro hw s hs
  obtain⟨g',s',u,u',h1,h2,h3⟩:=ih hw s hs
  exact⟨g',s',u,u',h1,by unfold I.head;rw[hs.node];exact h2,h3⟩
 |load τ h1 h2 ih=>exact λhw s hs=>⟨_,s,_,_,rfl,rfl,Ge.refl hw,hw,hs,.load τ h1 h2⟩
 |cH τ h1 hm h2 ih=>exact λhw s hs=>⟨_,s,_,_,rfl,rfl,Ge.refl hw,hw,hs,.cH τ h1 hm h2⟩
 |@alloc n i k k' g b hn hi h ih=>
  intro hw s hs
  obtain⟨h1,h2⟩:=hs.alloc hw hn hi
  have lD:=pB hw hn hi
  obtain⟨g',s',u,u',e1,e2,e3,e4⟩:=ih (Ga.gV hw n i b) lD lD _ h1
  exact⟨g',s',u,u',by unfold I.head;rw[h2];exact e1,by unfold I.head;rw[h2];exact e2,(Ga.gV hw n i b).trans e3,e4⟩
 |@cell i k k' g τ hτ hi h ih=>
  intro hw s hs
  obtain⟨h1,h2⟩:=hs.cell hw hτ hi
  have lD:=Mw hw τ i
  obtain⟨g',s',u,u',e1,e2,e3,e4⟩:=ih (Ga.uP hw τ i) lD lD _ h1
  exact⟨g',s',u,u',by unfold I.head;rw[h2];exact e1,by unfold I.head;rw[h2];exact e2,(Ga.uP hw τ i).trans e3,e4⟩
 |@gen k k' g h ih=>
  intro hw s hs
  obtain⟨h1,h2⟩:=hs.bL hw
  have lD:=BE hw
  obtain⟨g',s',u,u',e1,e2,e3,e4⟩:=ih (Ga.uX hw) lD lD _ h1
  exact⟨g',s',u,u',by unfold I.head;rw[h2];exact e1,by unfold I.head;rw[h2];exact e2,(Ga.uX hw).trans e3,e4⟩
theorem Sh.aEv{c:Int}{k:Int->I α}{u':I α}{g:Ga}(h:Sh (.load c k) u' g)(hw:GW g){s:St}(hs:oS g s):∃k' g',u'=.load c k'/\Ge g g'/\GW g'/\oS g' (s.load c).1/\Sm (k (s.load c).2) (k' (s.load c).2) g'/\∃τ,g.dZ c=some τ/\I2 g' c (s.load c).2 τ:=by
 cases h with
 |load τ h1 h2=>
  obtain⟨g',e1,e2,e3,e4⟩:=hs.val hw h1
  exact⟨_,g',rfl,e1,e2,e3,h2 g' e1 e2 _ e4,τ,h1,e4⟩
theorem Sh.aIk{c o n:Int}{k:Bool->I α}{u':I α}{g:Ga}(h:Sh (.cH c o n k) u' g)(hw:GW g){s:St}(hs:oS g s):∃k' g',u'=.cH c o n k'/\Ge g g'/\GW g'/\oS g' (s.cH c o n).1/\Sm (k (s.cH c o n).2) (k' (s.cH c o n).2) g'/\∃τ,g.dZ c=some τ/\ZE g c o n τ/\((∃b,τ=.prev b)->o=g.first c->g'.dec c):=by
 cases h with
 |cH τ h1 hm h2=>
  obtain⟨g',e1,e2,e3,e4⟩:=hs.cH hw (o:=o) h1 hm
  exact⟨_,g',rfl,e1,e2,e4,h2 g' e1 e2 e3 _,τ,h1,hm,e3⟩
end
inductive Rp{α:Type}(g:Ga):I α->List Int->List Int->List Int->List Int->I α->Prop
 |at_ (u:I α):Rp g u [] [] [] [] u
 |load {c v:Int} {k:Int->I α} {l m d e:List Int} {u:I α}:Rp g (k v) l m d e u->Rp g (.load c k) (v::l) m d e u
 |cH {c o n v:Int} {k:Bool->I α} {l m d e:List Int} {u:I α}:Rp g (k (v==1)) l m d e u->Rp g (.cH c o n k) (v::l) m d e u
 |alloc {n:Node} {i r:Int} {k:Int->I α} {l m d e:List Int} {u:I α}:Rp g (k r) l m d e u->Rp g (.alloc n i k) l (r::m) d e u
 |cell {i r:Int} {k:Int->I α} {l m d e:List Int} {u:I α}:Rp g (k r) l m d e u->Rp g (.cell i k) l m (r::d) e u
 |gen {r:Int} {k:Int->I α} {l m d e:List Int} {u:I α}:Rp g (k r) l m d e u->Rp g (.gen k) l m d (r::e) u
 |node {r:Int} {k:Node->I α} {l m d e:List Int} {u:I α}:r<=g.count->Rp g (k (g.node r)) l m d e u->Rp g (.node r k) l m d e u
theorem Rp.ge{g g':Ga}(k:Ge g g'){t u:I α}{l m d e:List Int}(h:Rp g t l m d e u):Rp g' t l m d e u:=by
 induction h with
 |at_ u=>exact .at_ u
 |load _ ih=>exact .load ih
 |cH _ ih=>exact .cH ih
 |alloc _ ih=>exact .alloc ih
 |cell _ ih=>exact .cell ih
 |gen _ ih=>exact .gen ih
 |node hr _ ih=>
  refine .node ?_ (by rw[k.node hr];exact ih)
  have:=k.nodes.length_le
  unfold Ga.count at *;omega
theorem Rp.trans{g:Ga}{t u v:I α}{l m d e l' m' d' e':List Int}(h:Rp g t l m d e u)(h':Rp g u l' m' d' e' v):Rp g t (l++l') (m++m') (d++d') (e++e') v:=by
 induction h with
 |at_ u=>exact h'
 |load _ ih=>exact .load (ih h')
 |cH _ ih=>exact .cH (ih h')
 |alloc _ ih=>exact .alloc (ih h')
 |cell _ ih=>exact .cell (ih h')
 |gen _ ih=>exact .gen (ih h')
 |node hr _ ih=>exact .node hr (ih h')
def X.atEnd(x:X):X:={x with e:={x.e with a:=x.e.eV.length,m:=x.e.made.length,c:=x.e.cells.length,g:=x.e.dU.length}}
theorem drop_cons{l:List Int}{a:Nat}{v:Int}{r:List Int}(h:l.drop a=v::r):a<l.length/\l.getD a 0=v/\l.drop (a+1)=r:=by
 have h1:a<l.length:=by
  rcases Gg a l.length with h1|h1
  ·exact h1
  ·rw[List.drop_eq_nil_of_le h1]at h;cases h
 rw[UM h1]at h
 injection h with h2 h3
 exact⟨h1,by rw[cK,fV h1];exact h2,h3⟩
theorem drop_nil{l:List Int}{a:Nat}(h:l.drop a=[])(ha:a<=l.length):a=l.length:=by
 have:=List.drop_eq_nil_iff.1 h;omega
theorem Rp.run{g:Ga}{t u:I α}{l m d e:List Int}(h:Rp g t l m d e u):∀x:X,oS g x.s->x.e.aD=false->x.e.a<=x.e.eV.length->x.e.m<=x.e.made.length->x.e.c<=x.e.cells.length->x.e.g<=x.e.dU.length->
  x.e.eV.drop x.e.a=l->x.e.made.drop x.e.m=m->x.e.cells.drop x.e.c=d->x.e.dU.drop x.e.g=e->bC t x=bC u x.atEnd:=by
 induction h with
 |at_ u=>
  intro x _ _ ha hm hc hg h1 h2 h3 h4
  have e1:=drop_nil h1 ha;have e2:=drop_nil h2 hm;have e3:=drop_nil h3 hc;have e4:=drop_nil h4 hg
  congr 1
  unfold X.atEnd;rw[<- e1,<- e2,<- e3,<- e4]
 |load _ ih=>
  intro x ht hs ha hm hc hg h1 h2 h3 h4
  obtain⟨a1,a2,a3⟩:=drop_cons h1
  rw[run_load]
  unfold eK;rw[if_neg (by rw[hs];decide),if_pos a1]
  show bC _ (qO x)=_
  rw[a2]
  exact ih (qO x) ht hs a1 hm hc hg a3 h2 h3 h4
 |cH _ ih=>
  intro x ht hs ha hm hc hg h1 h2 h3 h4
  obtain⟨a1,a2,a3⟩:=drop_cons h1
  rw[My]
  unfold jT;rw[if_neg (by rw[hs];decide),if_pos a1]
  show bC _ (qO x)=_
  rw[a2]
  exact ih (qO x) ht hs a1 hm hc hg a3 h2 h3 h4
 |alloc _ ih=>
  intro x ht hs ha hm hc hg h1 h2 h3 h4
  obtain⟨a1,a2,a3⟩:=drop_cons h2
  rw[Iu]
  unfold dE;rw[if_neg (by rw[hs];decide),if_neg (by omega)]
  show bC _ _=_
  rw[a2]
  exact ih {x with e:={x.e with m:=x.e.m+1}} ht hs ha a1 hc hg h1 a3 h3 h4
 |cell _ ih=>
  intro x ht hs ha hm hc hg h1 h2 h3 h4
  obtain⟨a1,a2,a3⟩:=drop_cons h3
  rw[Sw]
  unfold fU;rw[if_neg (by rw[hs];decide),if_neg (by omega)]
  show bC _ _=_
  rw[a2]
  exact ih {x with e:={x.e with c:=x.e.c+1}} ht hs ha hm a1 hg h1 h2 a3 h4
 |gen _ ih=>
  intro x ht hs ha hm hc hg h1 h2 h3 h4
  obtain⟨a1,a2,a3⟩:=drop_cons h4
  rw[AS]
  unfold kN;rw[if_neg (by rw[hs];decide),if_neg (by omega)]
  show bC _ _=_
  rw[a2]
  exact ih {x with e:={x.e with g:=x.e.g+1}} ht hs ha hm hc a1 h1 h2 h3 a3
 |node hr _ ih=>
  intro x ht hs ha hm hc hg h1 h2 h3 h4
  rw[GB,show ∀r,x.node r=g.node r from ht.node]
  exact ih x ht hs ha hm hc hg h1 h2 h3 h4
def X.more(x:X)(s:St)(m d e:List Int):X:=({x with e:={x.e with made:=x.e.made++m,cells:=x.e.cells++d,dU:=x.e.dU++e},s:=s}:X).atEnd
structure Her{α:Type}[Qc α](P:Ga->I α->Prop):Prop where
 node:∀{g:Ga} {r:Int} {k:Node->I α},GW g->P g (.node r k)->P g (k (g.node r))
 alloc:∀{g:Ga} {n:Node} {i:Int} {k:Int->I α} {b:eC},P g (.alloc n i k)->bT g n b->oD g n i b->GW g->(∃u,Sm (k (g.nodes.length+3)) u (g.alloc n i b))->P (g.alloc n i b) (k (g.nodes.length+3))
 cell:∀{g:Ga} {i:Int} {k:Int->I α} {τ:dD},P g (.cell i k)->(τ=.root\/τ=.fixed)->fH g i (0,0)->GW g->(∃u,Sm (k (g.ty.length+1)) u (g.cell τ i))->P (g.cell τ i) (k (g.ty.length+1))
 gen:∀{g:Ga} {k:Int->I α},P g (.gen k)->GW g->(∃u,Sm (k (g.gen+1)) u g.bL)->P g.bL (k (g.gen+1))
 load:∀{g g':Ga} {c v:Int} {k:Int->I α} {τ:dD},GW g->P g (.load c k)->g.dZ c=some τ->Ge g g'->GW g'->I2 g' c v τ->(∃u,Sm (k v) u g')->P g' (k v)
 cH:∀{g g':Ga} {c o n:Int} {k:Bool->I α} {τ:dD} {b:Bool},GW g->P g (.cH c o n k)->g.dZ c=some τ->ZE g c o n τ->Ge g g'->GW g'->((∃b,τ=.prev b)->o=g.first c->g'.dec c)->(∃u,Sm (k b) u g')->P g' (k b)
theorem Sm.run{α:Type}[Qc α]{t t':I α}{g:Ga}(h:Sm t t' g):GW g->∀x:X,x=x.atEnd->oS g x.s->x.e.aD=false->
  ∃g' s' u u' m d e,t.head x.s=(s',u)/\t'.head x.s=(s',u')/\Ge g g'/\GW g'/\oS g' s'/\Sh u u' g'/\(∀P:Ga->I α->Prop,Her P->P g t->P g' u)/\Rp g' t' [] m d e u'/\bC t' x=bC u' (x.more s' m d e):=by
 have fin:∀(x:X),x=x.atEnd->x.more x.s [] [] []=x:=λx hx=>by
  unfold X.more;simp only[OE];exact hx.symm
 induction h with
 |ret a g hq=>exact λhw x hx ht hs=>⟨g,x.s,_,_,[],[],[],rfl,rfl,Ge.refl hw,hw,ht,.ret a g hq,λ_ _ h=>h,.at_ _,by rw[fin x hx]⟩
 |nl hr h ih=>
  intro hw x hx ht hs
  obtain⟨g',s',u,u',m,d,e,h1,h2,h3,h4,h5,h6,hP,h7⟩:=ih hw x hx ht hs
  exact⟨g',s',u,u',m,d,e,by unfold I.head;rw[ht.node];exact h1,h2,h3,h4,h5,h6,λP hH p=>hP P hH (hH.node hw p),h7⟩
 |nr hr h ih=>
  intro hw x hx ht hs
  obtain⟨g',s',u,u',m,d,e,h1,h2,h3,h4,h5,h6,hP,h7,h8⟩:=ih hw x hx ht hs
  refine⟨g',s',u,u',m,d,e,h1,by unfold I.head;rw[ht.node];exact h2,h3,h4,h5,h6,hP,.node ?_ (by rw[h3.node hr];exact h7),?_⟩
  ·have:=h3.nodes.length_le
   unfold Ga.count at *;omega
  ·rw[GB,show ∀r,x.node r=_ from ht.node];exact h8
 |load τ h1 h2 ih=>exact λhw x hx ht hs=>⟨_,x.s,_,_,[],[],[],rfl,rfl,Ge.refl hw,hw,ht,.load τ h1 h2,λ_ _ h=>h,.at_ _,by rw[fin x hx]⟩
 |cH τ h1 hm h2 ih=>exact λhw x hx ht hs=>⟨_,x.s,_,_,[],[],[],rfl,rfl,Ge.refl hw,hw,ht,.cH τ h1 hm h2,λ_ _ h=>h,.at_ _,by rw[fin x hx]⟩
 |@alloc n i k k' g b hn hi h ih=>
  intro hw x hx ht hs
  obtain⟨a1,a2⟩:=ht.alloc hw hn hi
  have lD:=pB hw hn hi
  have hm:x.e.m=x.e.made.length:=congrArg (λy:X=>y.e.m) hx
  obtain⟨g',s',u,u',m,d,e,h1,h2,h3,h4,h5,h6,hP,h7,h8⟩:=ih (Ga.gV hw n i b) lD lD {e:={x.e with made:=x.e.made++[(x.s.alloc n i).2],m:=x.e.m+1},s:=(x.s.alloc n i).1}
   (by rw[hx];unfold X.atEnd;simp) a1 hs
  refine⟨g',s',u,u',_,d,e,by unfold I.head;rw[a2];exact h1,by unfold I.head;rw[a2];exact h2,(Ga.gV hw n i b).trans h3,h4,h5,h6,λP hH p=>hP P hH (hH.alloc p hn hi hw ⟨_,h (Ga.gV hw n i b) lD⟩),.alloc h7,?_⟩
  rw[Iu]
  unfold dE;rw[if_neg (by rw[hs];decide),if_pos hm]
  show bC _ _=_
  rw[<- a2]at h8 ⊢
  rw[h8]
  unfold X.more;simp only[zA,List.singleton_append];rfl
 |@cell i k k' g τ hτ hi h ih=>
  intro hw x hx ht hs
  obtain⟨a1,a2⟩:=ht.cell hw hτ hi
  have lD:=Mw hw τ i
  have hm:x.e.c=x.e.cells.length:=congrArg (λy:X=>y.e.c) hx
  obtain⟨g',s',u,u',m,d,e,h1,h2,h3,h4,h5,h6,hP,h7,h8⟩:=ih (Ga.uP hw τ i) lD lD {e:={x.e with cells:=x.e.cells++[(x.s.aT i).2],c:=x.e.c+1},s:=(x.s.aT i).1}
   (by rw[hx];unfold X.atEnd;simp) a1 hs
  refine⟨g',s',u,u',m,_,e,by unfold I.head;rw[a2];exact h1,by unfold I.head;rw[a2];exact h2,(Ga.uP hw τ i).trans h3,h4,h5,h6,λP hH p=>hP P hH (hH.cell p hτ hi hw ⟨_,h (Ga.uP hw τ i) lD⟩),.cell h7,?_⟩
  rw[Sw]
  unfold fU;rw[if_neg (by rw[hs];decide),if_pos hm]
  show bC _ _=_
  rw[<- a2]at h8 ⊢
  rw[h8]
  unfold X.more;simp only[zA,List.singleton_append];rfl
 |@gen k k' g h ih=>
  intro hw x hx ht hs
  obtain⟨a1,a2⟩:=ht.bL hw
  have lD:=BE hw
  have hm:x.e.g=x.e.dU.length:=congrArg (λy:X=>y.e.g) hx
  obtain⟨g',s',u,u',m,d,e,h1,h2,h3,h4,h5,h6,hP,h7,h8⟩:=ih (Ga.uX hw) lD lD {e:={x.e with dU:=x.e.dU++[x.s.bL.2],g:=x.e.g+1},s:=x.s.bL.1}
   (by rw[hx];unfold X.atEnd;simp) a1 hs
  refine⟨g',s',u,u',m,d,_,by unfold I.head;rw[a2];exact h1,by unfold I.head;rw[a2];exact h2,(Ga.uX hw).trans h3,h4,h5,h6,λP hH p=>hP P hH (hH.gen p hw ⟨_,h (Ga.uX hw) lD⟩),.gen h7,?_⟩
  rw[AS]
  unfold kN;rw[if_neg (by rw[hs];decide),if_pos hm]
  show bC _ _=_
  rw[<- a2]at h8 ⊢
  rw[h8]
  unfold X.more;simp only[zA,List.singleton_append];rfl
end Go.Ct
end
