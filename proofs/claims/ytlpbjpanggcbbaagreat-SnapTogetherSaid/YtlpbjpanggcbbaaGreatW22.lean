/- Parts of a proof: Sm, Sa1. -/
import Derived.Test.YtlpbjpanggcbbaaGreatW18
set_option linter.unusedVariables false
set_option linter.unusedSimpArgs false
set_option maxRecDepth 100000
set_option maxHeartbeats 4000000
section
namespace Go.Ct
variable{α β:Type}
class Qc(α:Type) where
 q:Ga->α->Prop
 ge:∀{g g':Ga} {a:α},Ge g g'->q g a->q g' a
instance:Qc Result:=⟨λg r=>r.aE.root<=0\/Tk g r.aE,λk h=>h.imp id λh=>h.ge k⟩
section
variable[Qc α]
inductive Sm{α:Type}[Qc α]:I α->I α->Ga->Prop
 |ret (a:α) (g:Ga):Qc.q g a->Sm (.ret a) (.ret a) g
 |nl {r:Int} {k:Node->I α} {u:I α} {g:Ga}:r<=g.count->Sm (k (g.node r)) u g->Sm (.node r k) u g
 |nr {r:Int} {k:Node->I α} {u:I α} {g:Ga}:r<=g.count->Sm u (k (g.node r)) g->Sm u (.node r k) g
 |load {c:Int} {k k':Int->I α} {g:Ga} (τ:eY):g.oA c=some τ->(∀g',Ge g g'->GW g'->∀v,kB g' c v τ->Sm (k v) (k' v) g')->Sm (.load c k) (.load c k') g
 |xM {k k':Int->I α} {g:Ga}:(∀g',Ge g g'->GW g'->Sm (k 0) (k' 0) g')->Sm (.load 0 k) (.load 0 k') g
 |eA {c o n:Int} {k k':Bool->I α} {g:Ga} (τ:eY):g.oA c=some τ->YI g n τ->(∀g',Ge g g'->GW g'->((∃b,τ=.prev b)->o=g.first c->g'.dec c)->∀b,Sm (k b) (k' b) g')->Sm (.eA c o n k) (.eA c o n k') g
 |alloc {n:Node} {i:Int} {k k':Int->I α} {g:Ga} (b:fV):cJ g n b->Tb g n i b->(Ge g (g.alloc n i b)->GW (g.alloc n i b)->Sm (k (g.nodes.length+3)) (k' (g.nodes.length+3)) (g.alloc n i b))->Sm (.alloc n i k) (.alloc n i k') g
 |cell {i:Int} {k k':Int->I α} {g:Ga} (τ:eY):(τ=.root\/τ=.fixed)->jV g i (0,0)->(Ge g (g.cell τ i)->GW (g.cell τ i)->Sm (k (g.ty.length+1)) (k' (g.ty.length+1)) (g.cell τ i))->Sm (.cell i k) (.cell i k') g
 |gen {k k':Int->I α} {g:Ga}:(Ge g g.bS->GW g.bS->Sm (k (g.gen+1)) (k' (g.gen+1)) g.bS)->Sm (.gen k) (.gen k') g
inductive Sh{α:Type}[Qc α]:I α->I α->Ga->Prop
 |ret (a:α) (g:Ga):Qc.q g a->Sh (.ret a) (.ret a) g
 |load {c:Int} {k k':Int->I α} {g:Ga} (τ:eY):g.oA c=some τ->(∀g',Ge g g'->GW g'->∀v,kB g' c v τ->Sm (k v) (k' v) g')->Sh (.load c k) (.load c k') g
 |xM {k k':Int->I α} {g:Ga}:(∀g',Ge g g'->GW g'->Sm (k 0) (k' 0) g')->Sh (.load 0 k) (.load 0 k') g
 |eA {c o n:Int} {k k':Bool->I α} {g:Ga} (τ:eY):g.oA c=some τ->YI g n τ->(∀g',Ge g g'->GW g'->((∃b,τ=.prev b)->o=g.first c->g'.dec c)->∀b,Sm (k b) (k' b) g')->Sh (.eA c o n k) (.eA c o n k') g
theorem YI.ge{g g':Ga}{n:Int}{τ:eY}(h:YI g n τ)(k:Ge g g'):YI g' n τ:=by
 cases τ with
 |root=>exact h.imp (λh=>h.ge k) λh=>h.ge k
 |fixed=>exact h
 |main b=>exact oH.ge h k
 |prev b=>exact h.imp id λh=>h.ge k
 |status=>exact h
theorem Sh.ge{u u':I α}{g g':Ga}(h:Sh u u' g)(k:Ge g g')(hw:GW g):Sh u u' g':=by
 cases h with
 |ret a _ hq=>exact .ret a g' (Qc.ge k hq)
 |load τ h1 h2=>exact .load τ (k.oA h1) λg2 h3 h4=>h2 g2 (k.trans h3) h4
 |xM h2=>exact .xM λg2 h3 h4=>h2 g2 (k.trans h3) h4
 |eA τ h1 hm h2=>exact .eA τ (k.oA h1) (hm.ge k) λg2 h3 h4 h5=>h2 g2 (k.trans h3) h4 λe1 e2=>h5 e1 (by rw[k.first hw h1];exact e2)
structure nZ(g:Ga)(s:St):Prop where
 nodes:s.aG=g.nodes
 gen:s.gen=g.gen
 len:s.cells.length=g.ty.length
 holds:∀c τ,g.oA c=some τ->kB g c (s.cells.getD (c.toNat-1) 0) τ
 dec:∀c,g.dec c->c<=g.ty.length
theorem nZ.node{g:Ga}{s:St}(h:nZ g s)(r:Int):s.node r=g.node r:=by
 unfold Ga.node Ga.st St.node St.nodes;rw[h.nodes]
theorem nZ.has{g:Ga}{s:St}(h:nZ g s){c:Int}{τ:eY}(hc:g.oA c=some τ):s.cA c=true:=by
 have:=sR hc
 unfold St.cA;rw[h.len];simp;omega
theorem kB.ge{g g':Ga}{c v:Int}{τ:eY}(h:kB g c v τ)(k:Ge g g')(hw:GW g)(hc:g.oA c=some τ)(hd:g'.dec c->g.dec c\/v≠g.first c):kB g' c v τ:=by
 cases τ with
 |root=>exact h.imp (λh=>h.ge k) λh=>h.ge k
 |fixed=>exact jV.ge h k
 |main b=>exact oH.ge h k
 |prev b=>
  rcases h with h|h|⟨h1,h2,h3⟩
  ·exact .inl h
  ·exact .inr (.inl (h.ge k))
  ·refine .inr (.inr ⟨by rw[k.first hw hc];exact h1,h2.ge k,λhd'=>?_⟩)
   rcases hd hd' with hd'|hd'
   ·exact h3 hd'
   ·exact hd' h1
 |status=>exact h
theorem kB.may{g:Ga}{c n:Int}{τ:eY}(h:YI g n τ):kB g c n τ:=by
 cases τ with
 |root=>exact h
 |fixed=>exact h.elim
 |main b=>exact h
 |prev b=>exact h.imp id .inl
 |status=>exact .inr h
theorem kB.first{g:Ga}{c:Int}{τ:eY}(h:kB g c (g.first c) τ)(hd:¬g.dec c):kB g c (g.first c) τ:=h
def Ga.decide(g:Ga)(c:Int):Ga:={g with dec:=λd=>g.dec d\/d=c}
theorem Ga.rY{g:Ga}(h:GW g)(c:Int):Ge g (g.decide c):=⟨BO _,BO _,BO _,BO _,JV _,λ_ h=>.inl h,h.xT⟩
theorem Ga.IY{g:Ga}(h:GW g)(c:Int):GW (g.decide c):=
 ⟨λm hm=>(h.node m hm).ge (Ga.rY h c),h.cell,h.main,h.prev,h.status,h.sort,h.len,h.xT⟩
theorem nZ.load{g:Ga}{s:St}(h:nZ g s)(c:Int):nZ g (s.load c).1:=⟨h.nodes,h.gen,h.len,h.holds,h.dec⟩
theorem nZ.value{g:Ga}{s:St}(h:nZ g s){c:Int}{τ:eY}(hc:g.oA c=some τ):kB g c (s.load c).2 τ:=by
 unfold St.load;dsimp only;rw[if_pos (h.has hc)];exact h.holds c τ hc
theorem IA(s:St):(s.load 0).2=0:=by
 unfold St.load St.cA;simp
theorem nZ.eA{g:Ga}{s:St}(h:nZ g s)(hw:GW g){c o n:Int}{τ:eY}(hc:g.oA c=some τ)(hm:YI g n τ):
  ∃g',Ge g g'/\GW g'/\((∃b,τ=.prev b)->o=g.first c->g'.dec c)/\nZ g' (s.eA c o n).1:=by
 have hcl:=sR hc
 by_cases hp:(∃b,τ=.prev b)/\o=g.first c
 ·refine⟨g.decide c,Ga.rY hw c,g.IY hw c,λ_ _=>.inr rfl,h.nodes,h.gen,?_,λd σ hd=>?_,λd hd=>hd.elim (h.dec d) λe=>by rw[e];exact hcl.2⟩
  ·show List.length (if _ then _ else _)=_
   split
   ·rw[MA];exact h.len
   ·exact h.len
  ·have hdl:=sR (g:=g) hd
   have hH:=h.holds d σ hd
   show kB (g.decide c) d (List.getD (if s.xU c o then s.cells.set (c.toNat-1) n else s.cells) _ _) σ
   by_cases hdc:d=c
   ·subst hdc
    obtain rfl:σ=τ:=Option.some.inj (hd.symm.trans hc)
    split
    ·rw[Tx,List.getElem?_set_self (by rw[h.len];omega)];exact kB.may (hm.ge (Ga.rY hw d))
    ·rename_i hs
     refine hH.ge (Ga.rY hw d) hw hc λ_=>.inr λe=>hs ?_
     unfold St.xU;rw[h.has hc,e,hp.2];simp
   ·have e:List.getD (if s.xU c o then s.cells.set (c.toNat-1) n else s.cells) (d.toNat-1) 0=s.cells.getD (d.toNat-1) 0:=by
     split
     ·rw[Tx,Tx,List.getElem?_set_ne (by omega)]
     ·rfl
    rw[e]
    exact hH.ge (Ga.rY hw c) hw hd λhd'=>.inl (hd'.resolve_right hdc)
 ·refine⟨g,Ge.refl hw,hw,λa b=>absurd ⟨a,b⟩ hp,h.nodes,h.gen,?_,λd σ hd=>?_,h.dec⟩
  ·show List.length (if _ then _ else _)=_
   split
   ·rw[MA];exact h.len
   ·exact h.len
  ·have hdl:=sR (g:=g) hd
   have hH:=h.holds d σ hd
   show kB g d (List.getD (if s.xU c o then s.cells.set (c.toNat-1) n else s.cells) _ _) σ
   split
   ·by_cases hdc:d=c
    ·subst hdc
     obtain rfl:σ=τ:=Option.some.inj (hd.symm.trans hc)
     rw[Tx,List.getElem?_set_self (by rw[h.len];omega)];exact kB.may hm
    ·rw[Tx,List.getElem?_set_ne (by omega),<- Tx];exact hH
   ·exact hH
theorem HI(s:St)(n:Node)(i:Int):(s.alloc n i).1.aG=s.aG++[n.stored (s.cells.length+1)]:=by
 unfold St.alloc Node.stored St.aV
 simp only[mQ]
 split<;>rfl
theorem Es(s:St)(n:Node)(i:Int)(b:fV):(s.alloc n i).1.cells=s.cells++(n.iA b).toList.map λ_=>i:=by
 unfold St.alloc Node.iA St.aV
 by_cases h2:n.kind=2
 ·simp[h2]
 ·by_cases hm:n.bM=true
  ·simp[h2,hm]
  ·by_cases h8:n.kind=8
   ·simp[h2,hm,h8]
   ·simp[h2,hm,h8]
theorem FI{g:Ga}{l:List eY}{c:Int}{τ:eY}{g':Ga}(hg:g'.ty=g.ty++l)(h:g'.oA c=some τ):g.oA c=some τ\/(g.ty.length:Int)<c/\l[c.toNat-1-g.ty.length]?=some τ:=by
 unfold Ga.oA at h ⊢
 split at h
 ·cases h
 ·rename_i h1
  rw[if_neg h1]
  rw[hg]at h
  by_cases hl:c.toNat-1<g.ty.length
  ·rw[DI hl]at h;exact .inl h
  ·rw[xD (by omega)]at h;exact .inr ⟨by omega,h⟩
theorem nZ.alloc{g:Ga}{s:St}(h:nZ g s)(hw:GW g){n:Node}{i:Int}{b:fV}(hn:cJ g n b)(hi:Tb g n i b):
  nZ (g.alloc n i b) (s.alloc n i).1/\(s.alloc n i).2=g.nodes.length+3:=by
 have hge:=Ga.rM hw n i b
 refine⟨⟨?_,?_,?_,λc τ hc=>?_,λc hc=>?_⟩,?_⟩
 ·rw[HI,iQ,h.nodes,h.len]
 ·rw[(mV g n i b).1,<- h.gen];unfold St.alloc St.aV;dsimp only;split<;>rfl
 ·rw[Es s n i b,(mH g n i b).1,tW,tW,yM,h.len]
 ·rw[Es s n i b]
  rcases FI (mH g n i b).1 hc with h1|⟨h1,h2⟩
  ·have hcl:=sR h1
   rw[Tx,DI (by rw[h.len];omega),<- Tx]
   exact(h.holds c τ h1).ge hge hw h1 λhd'=>.inl (by rw[(mV g n i b).2]at hd';exact hd')
  ·have e:n.iA b=some τ/\c.toNat-1-g.ty.length=0:=by
    cases hct:n.iA b with
    |none=>rw[hct]at h2;simp at h2
    |some σ=>
     rw[hct]at h2
     cases hk:c.toNat-1-g.ty.length with
     |zero=>rw[hk]at h2;simp at h2;exact⟨by rw[h2],rfl⟩
     |succ k=>rw[hk]at h2;simp at h2
   have ev:List.getD (s.cells++(n.iA b).toList.map λ_=>i) (c.toNat-1) 0=i:=by
    rw[Tx,xD (by rw[h.len];omega),h.len,e.2,e.1];rfl
   have ef:(g.alloc n i b).first c=i:=by
    unfold Ga.first
    rw[(mH g n i b).2,Tx,xD (by rw[hw.len];omega),hw.len,e.2,e.1];rfl
   rw[ev]
   have h3:=e.1
   unfold Node.iA at h3
   split at h3
   ·rename_i k2
    obtain rfl:=Option.some.inj h3
    exact(hi.1 k2).ge hge
   ·split at h3
    ·rename_i k2 km
     obtain rfl:=Option.some.inj h3
     rcases hi.2.1 km with h0|h0
     ·exact .inl h0
     ·exact .inr (.inr ⟨ef.symm,h0.ge hge,λhd'=>by rw[(mV g n i b).2]at hd';have:=h.dec c hd';omega⟩)
    ·split at h3
     ·rename_i k2 km k8
      obtain rfl:=Option.some.inj h3
      exact .inl (hi.2.2 k8)
     ·cases h3
 ·rw[(mV g n i b).2]at hc;have:=h.dec c hc;rw[(mH g n i b).1,tW];omega
 ·show (s.aG.length:Int)+3=_;rw[h.nodes]
theorem nZ.cell{g:Ga}{s:St}(h:nZ g s)(hw:GW g){i:Int}{σ:eY}(hσ:σ=.root\/σ=.fixed)(hi:jV g i (0,0)):nZ (g.cell σ i) (s.aV i).1/\(s.aV i).2=g.ty.length+1:=by
 have hge:=Ga.wD hw σ i
 refine⟨⟨h.nodes,h.gen,?_,λc τ hc=>?_,λc hc=>by have:=h.dec c hc;show c<=((g.ty++[σ]).length:Nat);rw[tW];omega⟩,?_⟩
 ·show (s.cells++[i]).length=(g.ty++[σ]).length;simp[h.len]
 ·show kB _ c ((s.cells++[i]).getD _ _) τ
  rcases FI (g:=g) (l:=[σ]) rfl hc with h1|⟨h1,h2⟩
  ·have hcl:=sR h1
   rw[Tx,DI (by rw[h.len];omega),<- Tx]
   exact(h.holds c τ h1).ge hge hw h1 λhd'=>.inl hd'
  ·cases hk:c.toNat-1-g.ty.length with
   |zero=>
    rw[hk]at h2;simp at h2;subst h2
    rw[Tx,xD (by rw[h.len];omega),h.len,hk]
    rcases hσ with rfl|rfl
    ·exact .inl (hi.ge hge)
    ·exact hi.ge hge
   |succ k=>rw[hk]at h2;simp at h2
 ·show (s.cells.length:Int)+1=_;rw[h.len]
theorem nZ.bS{g:Ga}{s:St}(h:nZ g s)(hw:GW g):nZ g.bS s.bS.1/\s.bS.2=g.gen+1:=by
 refine⟨⟨h.nodes,by show s.gen+1=g.gen+1;rw[h.gen],h.len,λc τ hc=>?_,h.dec⟩,by show (s.gen:Int)+1=_;rw[h.gen]⟩
 exact(h.holds c τ hc).ge (Ga.yD hw) hw hc λhd'=>.inl hd'
theorem Sm.head{α:Type}[Qc α]{t t':I α}{g:Ga}(h:Sm t t' g):GW g->∀s,nZ g s->∃g' s' u u',t.head s=(s',u)/\t'.head s=(s',u')/\Ge g g'/\GW g'/\nZ g' s'/\Sh u u' g':=by
 induction h with
 |ret a g hq=>exact λhw s hs=>⟨g,s,_,_,rfl,rfl,Ge.refl hw,hw,hs,.ret a g hq⟩
 |nl hr h ih=>
  intro hw s hs
  obtain⟨g',s',u,u',h1,h2⟩:=ih hw s hs
  exact⟨g',s',u,u',by unfold I.head;rw[hs.node];exact h1,h2⟩
 |nr hr h ih=>
  intro hw s hs
  obtain⟨g',s',u,u',h1,h2,h3⟩:=ih hw s hs
  exact⟨g',s',u,u',h1,by unfold I.head;rw[hs.node];exact h2,h3⟩
 |load τ h1 h2 ih=>exact λhw s hs=>⟨_,s,_,_,rfl,rfl,Ge.refl hw,hw,hs,.load τ h1 h2⟩
 |xM h2 ih=>exact λhw s hs=>⟨_,s,_,_,rfl,rfl,Ge.refl hw,hw,hs,.xM h2⟩
 |eA τ h1 hm h2 ih=>exact λhw s hs=>⟨_,s,_,_,rfl,rfl,Ge.refl hw,hw,hs,.eA τ h1 hm h2⟩
 |@alloc n i k k' g b hn hi h ih=>
  intro hw s hs
  obtain⟨h1,h2⟩:=hs.alloc hw hn hi
  have hw':=Wy hw hn (i:=i)
  obtain⟨g',s',u,u',e1,e2,e3,e4⟩:=ih (Ga.rM hw n i b) hw' hw' _ h1
  exact⟨g',s',u,u',by unfold I.head;rw[h2];exact e1,by unfold I.head;rw[h2];exact e2,(Ga.rM hw n i b).trans e3,e4⟩
 |@cell i k k' g τ hτ hi h ih=>
  intro hw s hs
  obtain⟨h1,h2⟩:=hs.cell hw hτ hi
  have hw':=EI hw τ i
  obtain⟨g',s',u,u',e1,e2,e3,e4⟩:=ih (Ga.wD hw τ i) hw' hw' _ h1
  exact⟨g',s',u,u',by unfold I.head;rw[h2];exact e1,by unfold I.head;rw[h2];exact e2,(Ga.wD hw τ i).trans e3,e4⟩
 |@gen k k' g h ih=>
  intro hw s hs
  obtain⟨h1,h2⟩:=hs.bS hw
  have hw':=NN hw
  obtain⟨g',s',u,u',e1,e2,e3,e4⟩:=ih (Ga.yD hw) hw' hw' _ h1
  exact⟨g',s',u,u',by unfold I.head;rw[h2];exact e1,by unfold I.head;rw[h2];exact e2,(Ga.yD hw).trans e3,e4⟩
theorem Sh.XI{c:Int}{k:Int->I α}{u':I α}{g:Ga}(h:Sh (.load c k) u' g)(hw:GW g){s:St}(hs:nZ g s):∃k',u'=.load c k'/\nZ g (s.load c).1/\Sm (k (s.load c).2) (k' (s.load c).2) g:=by
 cases h with
 |load τ h1 h2=>exact⟨_,rfl,hs.load c,h2 g (Ge.refl hw) hw _ (hs.value h1)⟩
 |xM h2=>exact⟨_,rfl,hs.load 0,by rw[IA];exact h2 g (Ge.refl hw) hw⟩
theorem Sh.ZV{c o n:Int}{k:Bool->I α}{u':I α}{g:Ga}(h:Sh (.eA c o n k) u' g)(hw:GW g){s:St}(hs:nZ g s):∃k' g',u'=.eA c o n k'/\Ge g g'/\GW g'/\nZ g' (s.eA c o n).1/\Sm (k (s.eA c o n).2) (k' (s.eA c o n).2) g':=by
 cases h with
 |eA τ h1 hm h2=>
  obtain⟨g',e1,e2,e3,e4⟩:=hs.eA hw (o:=o) h1 hm
  exact⟨_,g',rfl,e1,e2,e4,h2 g' e1 e2 e3 _⟩
end
inductive Rp{α:Type}(g:Ga):I α->List Int->List Int->List Int->List Int->I α->Prop
 |at_ (u:I α):Rp g u [] [] [] [] u
 |load {c v:Int} {k:Int->I α} {l m d e:List Int} {u:I α}:Rp g (k v) l m d e u->Rp g (.load c k) (v::l) m d e u
 |eA {c o n v:Int} {k:Bool->I α} {l m d e:List Int} {u:I α}:Rp g (k (v==1)) l m d e u->Rp g (.eA c o n k) (v::l) m d e u
 |alloc {n:Node} {i r:Int} {k:Int->I α} {l m d e:List Int} {u:I α}:Rp g (k r) l m d e u->Rp g (.alloc n i k) l (r::m) d e u
 |cell {i r:Int} {k:Int->I α} {l m d e:List Int} {u:I α}:Rp g (k r) l m d e u->Rp g (.cell i k) l m (r::d) e u
 |gen {r:Int} {k:Int->I α} {l m d e:List Int} {u:I α}:Rp g (k r) l m d e u->Rp g (.gen k) l m d (r::e) u
 |node {r:Int} {k:Node->I α} {l m d e:List Int} {u:I α}:r<=g.count->Rp g (k (g.node r)) l m d e u->Rp g (.node r k) l m d e u
theorem Rp.ge{g g':Ga}(k:Ge g g'){t u:I α}{l m d e:List Int}(h:Rp g t l m d e u):Rp g' t l m d e u:=by
 induction h with
 |at_ u=>exact .at_ u
 |load _ ih=>exact .load ih
 |eA _ ih=>exact .eA ih
 |alloc _ ih=>exact .alloc ih
 |cell _ ih=>exact .cell ih
 |gen _ ih=>exact .gen ih
 |node hr _ ih=>
  refine .node ?_ (by rw[k.node hr];exact ih)
  have:=k.nodes.length_le
  unfold Ga.count at *;omega
theorem Rp.trans{g:Ga}{t u v:I α}{l m d e l' m' d' e':List Int}(h:Rp g t l m d e u)(h':Rp g u l' m' d' e' v):Rp g t (l++l') (m++m') (d++d') (e++e') v:=by
 induction h with
 |at_ u=>exact h'
 |load _ ih=>exact .load (ih h')
 |eA _ ih=>exact .eA (ih h')
 |alloc _ ih=>exact .alloc (ih h')
 |cell _ ih=>exact .cell (ih h')
 |gen _ ih=>exact .gen (ih h')
 |node hr _ ih=>exact .node hr (ih h')
def X.atEnd(x:X):X:={x with e:={x.e with a:=x.e.eG.length,m:=x.e.made.length,c:=x.e.cells.length,g:=x.e.dG.length}}
theorem drop_cons{l:List Int}{a:Nat}{v:Int}{r:List Int}(h:l.drop a=v::r):a<l.length/\l.getD a 0=v/\l.drop (a+1)=r:=by
 have h1:a<l.length:=by
  rcases Fh a l.length with h1|h1
  ·exact h1
  ·rw[List.drop_eq_nil_of_le h1]at h;cases h
 rw[Lf h1]at h
 injection h with h2 h3
 exact⟨h1,by rw[Tx,DM h1];exact h2,h3⟩
theorem drop_nil{l:List Int}{a:Nat}(h:l.drop a=[])(ha:a<=l.length):a=l.length:=by
 have:=List.drop_eq_nil_iff.1 h;omega
theorem Rp.run{g:Ga}{t u:I α}{l m d e:List Int}(h:Rp g t l m d e u):∀x:X,nZ g x.s->x.e.aC=false->x.e.a<=x.e.eG.length->x.e.m<=x.e.made.length->x.e.c<=x.e.cells.length->x.e.g<=x.e.dG.length->
  x.e.eG.drop x.e.a=l->x.e.made.drop x.e.m=m->x.e.cells.drop x.e.c=d->x.e.dG.drop x.e.g=e->aX t x=aX u x.atEnd:=by
 induction h with
 |at_ u=>
  intro x _ _ ha hm hc hg h1 h2 h3 h4
  have e1:=drop_nil h1 ha;have e2:=drop_nil h2 hm;have e3:=drop_nil h3 hc;have e4:=drop_nil h4 hg
  congr 1
  unfold X.atEnd;rw[<- e1,<- e2,<- e3,<- e4]
 |load _ ih=>
  intro x ht hs ha hm hc hg h1 h2 h3 h4
  obtain⟨a1,a2,a3⟩:=drop_cons h1
  rw[run_load]
  unfold dY;rw[if_neg (by rw[hs];decide),if_pos a1]
  show aX _ (nD x)=_
  rw[a2]
  exact ih (nD x) ht hs a1 hm hc hg a3 h2 h3 h4
 |eA _ ih=>
  intro x ht hs ha hm hc hg h1 h2 h3 h4
  obtain⟨a1,a2,a3⟩:=drop_cons h1
  rw[Gk]
  unfold iB;rw[if_neg (by rw[hs];decide),if_pos a1]
  show aX _ (nD x)=_
  rw[a2]
  exact ih (nD x) ht hs a1 hm hc hg a3 h2 h3 h4
 |alloc _ ih=>
  intro x ht hs ha hm hc hg h1 h2 h3 h4
  obtain⟨a1,a2,a3⟩:=drop_cons h2
  rw[Db]
  unfold dB;rw[if_neg (by rw[hs];decide),if_neg (by omega)]
  show aX _ _=_
  rw[a2]
  exact ih {x with e:={x.e with m:=x.e.m+1}} ht hs ha a1 hc hg h1 a3 h3 h4
 |cell _ ih=>
  intro x ht hs ha hm hc hg h1 h2 h3 h4
  obtain⟨a1,a2,a3⟩:=drop_cons h3
  rw[Ip]
  unfold fE;rw[if_neg (by rw[hs];decide),if_neg (by omega)]
  show aX _ _=_
  rw[a2]
  exact ih {x with e:={x.e with c:=x.e.c+1}} ht hs ha hm a1 hg h1 h2 a3 h4
 |gen _ ih=>
  intro x ht hs ha hm hc hg h1 h2 h3 h4
  obtain⟨a1,a2,a3⟩:=drop_cons h4
  rw[Tq]
  unfold iH;rw[if_neg (by rw[hs];decide),if_neg (by omega)]
  show aX _ _=_
  rw[a2]
  exact ih {x with e:={x.e with g:=x.e.g+1}} ht hs ha hm hc a1 h1 h2 h3 a3
 |node hr _ ih=>
  intro x ht hs ha hm hc hg h1 h2 h3 h4
  rw[Uo,show ∀r,x.node r=g.node r from ht.node]
  exact ih x ht hs ha hm hc hg h1 h2 h3 h4
def X.more(x:X)(s:St)(m d e:List Int):X:=({x with e:={x.e with made:=x.e.made++m,cells:=x.e.cells++d,dG:=x.e.dG++e},s:=s}:X).atEnd
theorem Sm.run{α:Type}[Qc α]{t t':I α}{g:Ga}(h:Sm t t' g):GW g->∀x:X,x=x.atEnd->nZ g x.s->x.e.aC=false->
  ∃g' s' u u' m d e,t.head x.s=(s',u)/\t'.head x.s=(s',u')/\Ge g g'/\GW g'/\nZ g' s'/\Sh u u' g'/\Rp g' t' [] m d e u'/\aX t' x=aX u' (x.more s' m d e):=by
 have fin:∀(x:X),x=x.atEnd->x.more x.s [] [] []=x:=λx hx=>by
  unfold X.more;simp only[List.append_nil];exact hx.symm
 induction h with
 |ret a g hq=>exact λhw x hx ht hs=>⟨g,x.s,_,_,[],[],[],rfl,rfl,Ge.refl hw,hw,ht,.ret a g hq,.at_ _,by rw[fin x hx]⟩
 |nl hr h ih=>
  intro hw x hx ht hs
  obtain⟨g',s',u,u',m,d,e,h1,h2⟩:=ih hw x hx ht hs
  exact⟨g',s',u,u',m,d,e,by unfold I.head;rw[ht.node];exact h1,h2⟩
 |nr hr h ih=>
  intro hw x hx ht hs
  obtain⟨g',s',u,u',m,d,e,h1,h2,h3,h4,h5,h6,h7,h8⟩:=ih hw x hx ht hs
  refine⟨g',s',u,u',m,d,e,h1,by unfold I.head;rw[ht.node];exact h2,h3,h4,h5,h6,.node ?_ (by rw[h3.node hr];exact h7),?_⟩
  ·have:=h3.nodes.length_le
   unfold Ga.count at *;omega
  ·rw[Uo,show ∀r,x.node r=_ from ht.node];exact h8
 |load τ h1 h2 ih=>exact λhw x hx ht hs=>⟨_,x.s,_,_,[],[],[],rfl,rfl,Ge.refl hw,hw,ht,.load τ h1 h2,.at_ _,by rw[fin x hx]⟩
 |xM h2 ih=>exact λhw x hx ht hs=>⟨_,x.s,_,_,[],[],[],rfl,rfl,Ge.refl hw,hw,ht,.xM h2,.at_ _,by rw[fin x hx]⟩
 |eA τ h1 hm h2 ih=>exact λhw x hx ht hs=>⟨_,x.s,_,_,[],[],[],rfl,rfl,Ge.refl hw,hw,ht,.eA τ h1 hm h2,.at_ _,by rw[fin x hx]⟩
 |@alloc n i k k' g b hn hi h ih=>
  intro hw x hx ht hs
  obtain⟨a1,a2⟩:=ht.alloc hw hn hi
  have hw':=Wy hw hn (i:=i)
  have hm:x.e.m=x.e.made.length:=congrArg (λy:X=>y.e.m) hx
  obtain⟨g',s',u,u',m,d,e,h1,h2,h3,h4,h5,h6,h7,h8⟩:=ih (Ga.rM hw n i b) hw' hw' {e:={x.e with made:=x.e.made++[(x.s.alloc n i).2],m:=x.e.m+1},s:=(x.s.alloc n i).1}
   (by rw[hx];unfold X.atEnd;simp) a1 hs
  refine⟨g',s',u,u',_,d,e,by unfold I.head;rw[a2];exact h1,by unfold I.head;rw[a2];exact h2,(Ga.rM hw n i b).trans h3,h4,h5,h6,.alloc h7,?_⟩
  rw[Db]
  unfold dB;rw[if_neg (by rw[hs];decide),if_pos hm]
  show aX _ _=_
  rw[<- a2]at h8 ⊢
  rw[h8]
  unfold X.more;simp only[dP,List.singleton_append];rfl
 |@cell i k k' g τ hτ hi h ih=>
  intro hw x hx ht hs
  obtain⟨a1,a2⟩:=ht.cell hw hτ hi
  have hw':=EI hw τ i
  have hm:x.e.c=x.e.cells.length:=congrArg (λy:X=>y.e.c) hx
  obtain⟨g',s',u,u',m,d,e,h1,h2,h3,h4,h5,h6,h7,h8⟩:=ih (Ga.wD hw τ i) hw' hw' {e:={x.e with cells:=x.e.cells++[(x.s.aV i).2],c:=x.e.c+1},s:=(x.s.aV i).1}
   (by rw[hx];unfold X.atEnd;simp) a1 hs
  refine⟨g',s',u,u',m,_,e,by unfold I.head;rw[a2];exact h1,by unfold I.head;rw[a2];exact h2,(Ga.wD hw τ i).trans h3,h4,h5,h6,.cell h7,?_⟩
  rw[Ip]
  unfold fE;rw[if_neg (by rw[hs];decide),if_pos hm]
  show aX _ _=_
  rw[<- a2]at h8 ⊢
  rw[h8]
  unfold X.more;simp only[dP,List.singleton_append];rfl
 |@gen k k' g h ih=>
  intro hw x hx ht hs
  obtain⟨a1,a2⟩:=ht.bS hw
  have hw':=NN hw
  have hm:x.e.g=x.e.dG.length:=congrArg (λy:X=>y.e.g) hx
  obtain⟨g',s',u,u',m,d,e,h1,h2,h3,h4,h5,h6,h7,h8⟩:=ih (Ga.yD hw) hw' hw' {e:={x.e with dG:=x.e.dG++[x.s.bS.2],g:=x.e.g+1},s:=x.s.bS.1}
   (by rw[hx];unfold X.atEnd;simp) a1 hs
  refine⟨g',s',u,u',m,d,_,by unfold I.head;rw[a2];exact h1,by unfold I.head;rw[a2];exact h2,(Ga.yD hw).trans h3,h4,h5,h6,.gen h7,?_⟩
  rw[Tq]
  unfold iH;rw[if_neg (by rw[hs];decide),if_pos hm]
  show aX _ _=_
  rw[<- a2]at h8 ⊢
  rw[h8]
  unfold X.more;simp only[dP,List.singleton_append];rfl
end Go.Ct
end
section
namespace Go.Ct
variable{α β γ:Type}{g:Ga}
theorem I.bind_assoc:∀(t:I α) (f:α->I β) (h:β->I γ),(t.bind f).bind h=t.bind λv=>(f v).bind h
 |.ret a,f,h=>rfl
 |.load c k,f,h=>by show I.load c _=I.load c _;congr 1;funext v;exact I.bind_assoc (k v) f h
 |.eA c o n k,f,h=>by show I.eA c o n _=I.eA c o n _;congr 1;funext v;exact I.bind_assoc (k v) f h
 |.alloc n i k,f,h=>by show I.alloc n i _=I.alloc n i _;congr 1;funext v;exact I.bind_assoc (k v) f h
 |.cell i k,f,h=>by show I.cell i _=I.cell i _;congr 1;funext v;exact I.bind_assoc (k v) f h
 |.gen k,f,h=>by show I.gen _=I.gen _;congr 1;funext v;exact I.bind_assoc (k v) f h
 |.node r k,f,h=>by show I.node r _=I.node r _;congr 1;funext v;exact I.bind_assoc (k v) f h
theorem Sm.as9[Qc γ]{t:I γ}{u:I α}{f:α->I β}{h:β->I γ}(k:Sm t (u.bind λv=>(f v).bind h) g):Sm t ((u.bind f).bind h) g:=by rw[I.bind_assoc];exact k
variable[Qc β]
theorem Sm.cc{c:Bool}{a b:I β}{x y:I α}{k:α->I β}(h1:c=true->Sm a (x.bind k) g)(h2:c=false->Sm b (y.bind k) g):Sm (bif c then a else b) ((bif c then x else y).bind k) g:=by
 cases c with
 |true=>exact h1 rfl
 |false=>exact h2 rfl
theorem Sm.cn{c:Bool}{a b:I β}{x y:I α}{k:α->I β}(h1:c=true->Sm b (x.bind k) g)(h2:c=false->Sm a (y.bind k) g):Sm (bif !c then a else b) ((bif c then x else y).bind k) g:=by
 cases c with
 |true=>exact h1 rfl
 |false=>exact h2 rfl
theorem Sm.tt{c:Bool}{a b:I β}{u:I β}(hc:c=true)(h:Sm a u g):Sm (bif c then a else b) u g:=by rw[hc];exact h
theorem Sm.ff{c:Bool}{a b:I β}{u:I β}(hc:c=false)(h:Sm b u g):Sm (bif c then a else b) u g:=by rw[hc];exact h
theorem Sm.rt{c:Bool}{x y:I α}{k:α->I β}{t:I β}(hc:c=true)(h:Sm t (x.bind k) g):Sm t ((bif c then x else y).bind k) g:=by rw[hc];exact h
theorem Sm.rf{c:Bool}{x y:I α}{k:α->I β}{t:I β}(hc:c=false)(h:Sm t (y.bind k) g):Sm t ((bif c then x else y).bind k) g:=by rw[hc];exact h
theorem w7{k g0 o e w:Int}{b:fV}(hk:k=2\/k=7\/k=8)(hv:Node.valid {kind:=k,gen:=g0,dC:=o,aK:=e,new:=w}=true)(hi:k=2->g0<=g.gen/\b.1<=11)(hf:k=7->oH g o b)(hd:k=8->jV g o (0,0)/\oH g e (0,0)/\jV g w (0,0)):
  cJ g {kind:=k,gen:=g0,dC:=o,aK:=e,new:=w} b:=by
 refine⟨hv,⟨0,bG 0 k g0 o e w (by omega)⟩,by show 2<=k;omega,by show k<=8;omega,hi,λh=>?_,λh=>?_,λh=>?_,hf,hd⟩
 ·exact absurd (show k=3 from h) (by omega)
 ·exact absurd (show k=5 from h) (by omega)
 ·exact absurd (show k=6 from h) (by omega)
theorem oH.one{r:Int}{b:fV}(h:oH g r b):1<=r:=uA (g:=g) (r:=r) (by have:=h.two;omega)
theorem jV.one{r:Int}{b:fV}(h:jV g r b):1<=r:=uA (by rw[h.1];decide)
theorem Dg.one{r:Int}{b:fV}(h:Dg g r b):1<=r:=uA (by rw[h.1];decide)
theorem JS{p:Int}{b:fV}(h:oH g p b):cJ g {kind:=7,dC:=p} b:=
 w7 (.inr (.inl rfl)) (by have:=h.one;unfold Node.valid;simp[fT,Node.only,bR,mJ,this]) (λh=>by cases h) (λ_=>h) λh=>by cases h
theorem rH{x:Int}{b:fV}(h1:1<=x)(h2:x<=g.gen)(hb:b.1<=11):cJ g {kind:=2,gen:=x} b:=
 w7 (.inl rfl) (by unfold Node.valid;simp[fT,Node.only,bR,mJ,h1]) (λ_=>⟨h2,hb⟩) (λh=>by cases h) λh=>by cases h
theorem TX{o e w:Int}{b:fV}(ho:jV g o (0,0))(he:oH g e (0,0))(hw:jV g w (0,0)):cJ g {kind:=8,dC:=o,aK:=e,new:=w} b:=
 w7 (.inr (.inr rfl)) (by have:=ho.one;have:=he.one;have:=hw.one;unfold Node.valid;simp[fT,Node.only,bR,mJ, *]) (λh=>by cases h) (λh=>by cases h) λ_=>⟨ho,he,hw⟩
theorem Js{b:fV}(hb:b.1<=10)(hb2:b.2<64^b.1):cJ g {kind:=3} b:=
 ⟨by decide+kernel,⟨0,fY 0⟩,by decide,by decide,(λh=>by cases h),λ_=>⟨hb,hb2,λk hk=>by
  have:=pV hk
  unfold aB at this;rw[if_pos (.inr (by unfold Bm.has;simp))]at this;exact absurd this (by decide)⟩,(λh=>by cases h),(λh=>by cases h),(λh=>by cases h),λh=>by cases h⟩
theorem ED.SO{p:Int}{b:fV}(h:ED g p b):(g.node p).bM=false:=by unfold Node.bM;rw[h.1];rfl
abbrev Kp(g:Ga)(b:fV)(k:Int->I β)(k':Int->I β):Prop:=∀g',Ge g g'->GW g'->∀r,oH g' r b->Sm (k r) (k' r) g'
abbrev Ki(g:Ga)(k:Int->I β)(k':Int->I β):Prop:=∀g',Ge g g'->GW g'->∀r,jV g' r (0,0)->Sm (k r) (k' r) g'
theorem Kp.ge{b:fV}{k k':Int->I β}{g':Ga}(h:Kp g b k k')(hg:Ge g g'):Kp g' b k k':=λg2 h2 hw r hr=>h g2 (hg.trans h2) hw r hr
theorem Ki.ge{k k':Int->I β}{g':Ga}(h:Ki g k k')(hg:Ge g g'):Ki g' k k':=λg2 h2 hw r hr=>h g2 (hg.trans h2) hw r hr
theorem FJ{k k':Int->I β}{i m p:Int}{b:fV}(hw:GW g)(hi:jV g i b)(hp:ED g p b)(hk:Kp g b k k'):Sm (Dq i m p k) ((EO i m p).bind k') g:=by
 have ho:=(hw.K4 hp).f hp.1
 refine .nl hp.dU (.nl hi.dU (.nr hi.dU (.nr hp.dU (.eA (.main b) (hw.MO hi) ho λg' hg hw' _ ok=>.nr (hp.ge hg).dU ?_))))
 rw[hg.node hp.dU];exact hk g' hg hw' _ (ho.ge hg)
theorem FH{k k':Int->I β}{i m pr:Int}{b:fV}{ok:Bool}(hw:GW g)(hi:jV g i b)(hm:oH g m b)(hpr:pr=(g.node m).prev)(hd:g.dec pr)(hk:Kp g b k k'):Sm (kY pr i m k ok) ((GV i m).bind k') g:=by
 subst hpr
 refine .nr hm.dU (.load (.prev b) (hw.Nl hm) λg' hg hw' v hv=>?_)
 refine Sm.cc (λh=>hk g' hg hw' m (hm.ge hg)) λh=>?_
 have h0:v≠0:=by simpa using h
 have hp:ED g' v b:=by
  rcases hv with hv|hv|⟨_,_,hv⟩
  ·exact absurd hv h0
  ·exact hv
  ·exact absurd (hg.dec _ hd) hv
 exact FJ hw' (hi.ge hg) hp (hk.ge hg)
theorem EU{k k':Int->I β}{i m p pr:Int}{b:fV}(hw:GW g)(hi:jV g i b)(hm:oH g m b)(hp:oH g p b)(hpr:pr=(g.node m).prev)(hf:p=g.first pr)(hk:Kp g b k k'):Sm (mK pr p false (kY pr i m k)) ((EN i m p).bind k') g:=by
 subst hpr
 refine .nr hm.dU (.alloc b (JS hp) ⟨(λh=>by cases h),(λh=>by cases h),λh=>by cases h⟩ λhg hw'=>?_)
 refine .eA (.prev b) (hg.oA (hw.Nl hm)) (.inr (HY hw rfl)) λg2 h2 hw2 hd ok=>?_
 have hg2:=hg.trans h2
 exact FH hw2 (hi.ge hg2) (hm.ge hg2) (by rw[hg2.node hm.dU]) (hd ⟨b,rfl⟩ (by rw[hg.first hw (hw.Nl hm)];exact hf)) (hk.ge hg2)
theorem Hi{t:bC}{k k':Int->I β}{v s:Int}(hw:GW g)(ht:g.oA t.root=some .root)(hv:Tz g v)(hk:Ki g k k'):Sm (iD t v s k) ((Mj t v s).bind k') g:=by
 have hd:=(hw.G4 hv).d hv
 unfold iD Mj wR
 refine .nl hv.dU ?_
 generalize (s==1)=c
 cases c with
 |true=>exact .nr hv.dU (.eA .root ht (.inl hd.2.2) λg' hg hw' _ ok=>hk g' hg hw' _ (hd.2.2.ge hg))
 |false=>exact .nr hv.dU (.eA .root ht (.inl hd.1) λg' hg hw' _ ok=>hk g' hg hw' _ (hd.1.ge hg))
theorem UN{v:Int}{c:Int}(h:kB g c v .root)(hc:((g.node v).kind==2)=false):Tz g v:=by
 rcases h with h|h
 ·rw[h.1]at hc;exact absurd hc (by decide)
 ·exact h
theorem VK{v:Int}{c:Int}(h:kB g c v .root)(hc:((g.node v).kind==2)=true):jV g v (0,0):=by
 rcases h with h|h
 ·exact h
 ·rw[show (g.node v).kind=8 from h]at hc;exact absurd hc (by decide)
theorem kB.dU{v c:Int}(h:kB g c v .root):v<=g.count:=h.elim jV.dU Tz.dU
theorem SE{t:bC}{k k':Int->I β}(hw:GW g)(ht:g.oA t.root=some .root)(hk:Ki g k k'):Sm (Zi t k) ((GS t).bind k') g:=by
 refine .load .root ht λg1 h1 hw1 v hv=>?_
 refine .nl hv.dU (.nr hv.dU (Sm.cc (λh=>hk g1 h1 hw1 v (VK hv h)) λh=>?_))
 have hD:=UN hv h
 refine .nr hD.dU (.load .status (hw1.Dt hD) λg2 h2 hw2 s hs=>?_)
 have hD2:=hD.ge h2
 have hk2:=hk.ge (h1.trans h2)
 have ht2:=(h1.trans h2).oA ht
 by_cases h0:s=0
 ·subst h0
  refine .nr hD2.dU ?_
  rw[h2.node hD.dU]
  refine .eA .status (h2.oA (hw1.Dt hD)) (.inr rfl) λg3 h3 hw3 _ ok=>.nr (hD2.ge h3).dU ?_
  rw[(h2.trans h3).node hD.dU]
  exact .load .status ((h2.trans h3).oA (hw1.Dt hD)) λg4 h4 hw4 s' hs'=>Hi hw4 ((h3.trans h4).oA ht2) (hD2.ge (h3.trans h4)) (hk2.ge (h3.trans h4))
 ·refine Sm.tt (by simpa using h0) (Sm.rf (by simpa using h0) ?_)
  exact Hi hw2 ht2 hD2 hk2
theorem Of{t:bC}{k k':Int->I β}{i m:Int}{b:fV}(hw:GW g)(ht:Tk g t)(hi:jV g i b)(hm:oH g m b)(hk:Kp g b k k'):Sm (qB t i m k) ((wQ t i m).bind k') g:=by
 refine .nl hm.dU (.nr hm.dU (.load (.prev b) (hw.Nl hm) λg1 h1 hw1 p hp=>?_))
 refine Sm.cc (λh=>hk g1 h1 hw1 m (hm.ge h1)) λh=>?_
 have h0:p≠0:=by simpa using h
 have hi1:=hi.ge h1
 have hm1:=hm.ge h1
 rcases hp with hp|hp|⟨hf,hp,hd⟩
 ·exact absurd hp h0
 ·exact .nl hp.dU (.nr hp.dU (Sm.cn (λh=>absurd (hp.SO.symm.trans h) (by decide)) λ_=>FJ hw1 hi1 hp (hk.ge h1)))
 ·refine .nl hp.dU (.nr hp.dU (Sm.cn (λ_=>?_) λh=>absurd (hp.1.symm.trans h) (by decide)))
  refine Sm.cc (λh=>?_) λh=>?_
  ·exact EU hw1 hi1 hm1 hp (by rw[h1.node hm.dU]) hf (hk.ge h1)
  ·refine Sm.as9 (SE hw1 ((ht.ge h1).root h) λg2 h2 hw2 r hr=>?_)
   have hi2:=hi1.ge h2
   have hm2:=hm1.ge h2
   have hf2:p=g2.first (g.node m).prev:=by rw[h2.first hw1 (h1.oA (hw.Nl hm))];exact hf
   refine .nl hr.dU (.nl hi2.dU (.nr hr.dU (.nr hi2.dU ?_)))
   dsimp only
   generalize ((g2.node r).gen==(g2.node i).gen)=c
   cases c with
   |true=>
    refine .nr hm2.dU ?_
    rw[(h1.trans h2).node hm.dU]
    refine .eA (.prev b) ((h1.trans h2).oA (hw.Nl hm)) (.inl rfl) λg3 h3 hw3 hd3 ok=>?_
    exact FH hw3 (hi2.ge h3) (hm2.ge h3) (by rw[((h1.trans h2).trans h3).node hm.dU]) (hd3 ⟨b,rfl⟩ hf2) (hk.ge ((h1.trans h2).trans h3))
   |false=>exact EU hw2 hi2 hm2 (hp.ge h2) (by rw[(h1.trans h2).node hm.dU]) hf2 (hk.ge (h1.trans h2))
theorem mN{t:bC}{k k':Int->I β}{i:Int}{b:fV}(hw:GW g)(ht:Tk g t)(hi:jV g i b)(hk:Kp g b k k'):Sm (mM t i k) ((oJ t i).bind k') g:=
 .nl hi.dU (.nr hi.dU (.load (.main b) (hw.MO hi) λg1 h1 hw1 m hm=>Of hw1 (ht.ge h1) (hi.ge h1) hm (hk.ge h1)))
abbrev Kb(g:Ga)(k:Bool->I β)(k':Bool->I β):Prop:=∀g',Ge g g'->GW g'->∀c,Sm (k c) (k' c) g'
theorem Kb.ge{k k':Bool->I β}{g':Ga}(h:Kb g k k')(hg:Ge g g'):Kb g' k k':=λg2 h2 hw r=>h g2 (hg.trans h2) hw r
theorem Gh{t:bC}{k k':Bool->I β}{i o n:Int}{b:fV}(hw:GW g)(ht:Tk g t)(hi:jV g i b)(hn:oH g n b)(hk:Kb g k k'):Sm (swapT t i o n k) ((mE t i o n).bind k') g:=by
 refine .nl hi.dU (.nr hi.dU (.eA (.main b) (hw.MO hi) hn λg1 h1 hw1 _ ok=>?_))
 refine Sm.cn (λh=>?_) λh=>hk g1 h1 hw1 false
 exact Sm.as9 (Of hw1 (ht.ge h1) (hi.ge h1) (hn.ge h1) λg2 h2 hw2 r hr=>hk g2 (h1.trans h2) hw2 _)
theorem QJ{t:bC}{k:I β}{k':Unit->I β}{v:Int}{d:Node}(hw:GW g)(ht:Tk g t)(hv:Tz g v)(hd:d=g.node v)(hk:∀g',Ge g g'->GW g'->Sm k (k' ()) g'):Sm (Fm t d k) ((vR t v).bind k') g:=by
 subst hd
 have hD:=(hw.G4 hv).d hv
 refine .nr hv.dU (Sm.as9 (mN hw ht hD.1 λg1 h1 hw1 m hm=>.nr (hv.ge h1).dU ?_))
 rw[h1.node hv.dU]
 refine Sm.cc (λh=>.nr (hv.ge h1).dU ?_) λh=>.nr (hv.ge h1).dU ?_
 ·rw[h1.node hv.dU]
  exact .eA .status (h1.oA (hw.Dt hv)) (.inl rfl) λg2 h2 hw2 _ ok=>hk g2 (h1.trans h2) hw2
 ·rw[h1.node hv.dU]
  exact .eA .status (h1.oA (hw.Dt hv)) (.inr rfl) λg2 h2 hw2 _ ok=>hk g2 (h1.trans h2) hw2
theorem Bk{t:bC}{k k':Int->I β}(hw:GW g)(ht:Tk g t)(hk:Ki g k k'):Sm (uO t k) ((tV t).bind k') g:=by
 cases hro:t.readOnly with
 |true=>
  refine .load .fixed (ht.fixed hro) λg1 h1 hw1 v hv=>?_
  have hv:jV g1 v (0,0):=hv
  exact .nl hv.dU (.nr hv.dU (Sm.cc (λh=>hk g1 h1 hw1 v hv) λh=>absurd h (by rw[hv.1];decide)))
 |false=>
 refine .load .root (ht.root hro) λg1 h1 hw1 v hv=>?_
 refine .nl hv.dU (.nr hv.dU (Sm.cc (λh=>hk g1 h1 hw1 v (VK hv h)) λh=>?_))
 have hD:=UN hv h
 refine .nr hD.dU (.load .status (hw1.Dt hD) λg2 h2 hw2 s hs=>?_)
 have hD2:=hD.ge h2
 have hk2:=hk.ge (h1.trans h2)
 have ht2:=ht.ge (h1.trans h2)
 by_cases h0:s=0
 ·subst h0
  refine Sm.as9 (QJ hw2 ht2 hD2 (by rw[h2.node hD.dU]) λg3 h3 hw3=>.nr (hD2.ge h3).dU ?_)
  rw[(h2.trans h3).node hD.dU]
  exact .load .status ((h2.trans h3).oA (hw1.Dt hD)) λg4 h4 hw4 s' hs'=>Hi hw4 ((ht2.ge (h3.trans h4)).root hro) (hD2.ge (h3.trans h4)) (hk2.ge (h3.trans h4))
 ·refine Sm.tt (by simpa using h0) (Sm.rf (by simpa using h0) ?_)
  exact Hi hw2 (ht2.root hro) hD2 hk2
theorem Iw{t:bC}{k k':Bool->I β}{o e n:Int}(hw:GW g)(ht:Tk g t)(hro:t.readOnly=false)(ho:jV g o (0,0))(he:oH g e (0,0))(hn:jV g n (0,0))(hk:Kb g k k'):Sm (lD t o e n k) ((Dn t o e n).bind k') g:=by
 refine .alloc (0,0) (TX ho he hn) ⟨(λh=>by cases h),(λh=>by cases h),λ_=>rfl⟩ λh1 hw1=>?_
 have hD:Tz (g.alloc {kind:=8,dC:=o,aK:=e,new:=n} 0 (0,0)) (g.nodes.length+3):=IM rfl
 refine .nl hD.dU (.eA .root ((ht.ge h1).root hro) (.inr hD) λg2 h2 hw2 _ ok=>?_)
 refine Sm.cn (λh=>?_) λh=>hk g2 (h1.trans h2) hw2 false
 refine Sm.as9 (QJ hw2 (ht.ge (h1.trans h2)) (hD.ge h2) (h2.node hD.dU).symm λg3 h3 hw3=>.nr (hD.ge (h2.trans h3)).dU ?_)
 rw[(h2.trans h3).node hD.dU]
 refine .load .status ((h2.trans h3).oA (hw1.Dt hD)) λg4 h4 hw4 s hs=>?_
 have:=Hi (s:=s) (k:=λ_=>k (s==1)) (k':=λ_=>k' (s==1)) hw4 ((ht.ge (h1.trans (h2.trans (h3.trans h4)))).root hro) (hD.ge (h2.trans (h3.trans h4))) λg5 h5 hw5 r hr=>hk g5 ((h1.trans (h2.trans (h3.trans h4))).trans h5) hw5 _
 unfold Mj at this
 rw[I.bind_assoc]at this ⊢
 exact this
end Go.Ct
end
