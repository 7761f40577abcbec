/- Parts of a proof: Fm, Fy, Fq, Wl. -/
import Derived.Test.YtnhdmcipglnkfaaGreatW28
set_option linter.unusedVariables false
set_option linter.unusedSimpArgs false
set_option maxRecDepth 100000
set_option maxHeartbeats 4000000
section
namespace Go.Ct
variable{g:Ga}{c:Call}
abbrev Hg(g:Ga)(again:I Result):Prop:=∀g',Ge g g'->GW g'->∀n j,Hb g' again n j
theorem Hg.ge{again:I Result}{g':Ga}(h:Hg g again)(hg:Ge g g'):Hg g' again:=λg2 a=>h g2 (hg.trans a)
theorem TE{again:I Result}(h1:∀g' s,Ge g g'->Tw g' s->again.Al oS 1775 1000 s)(h2:∀g',Ge g g'->GW g'->Hb g' again hN hJ):Hg g again:=
 λg' a _ n j=>.stop (λg2 s b d=>h1 g2 s (a.trans b) d) λg2 b d=>h2 g2 (a.trans b) d
theorem DT(r:Result):Hg g (.ret r):=λ_ _ _ _ _=>.ret
theorem LI{t:bC}(hro:t.readOnly=false):∀(n:Nat) (g:Ga),Tk g t->Hg g (iT t n)
 |0,g,hk=>DT _
 |n+1,g,hk=>by
  refine TE (λg' s a b=>Al.mono (s8 n b (hk.ge a) hro) (by omega) (by omega)) λg' a hw=>?_
  have hk1:=hk.ge a
  refine Hb.mono (n:=100) (j:=100) ?_ (by decide) (by decide)
  refine Hw (n:=85) (j:=99) hw hk1 λg1 r h1 hw1 hr _=>oO (n:=75) (j:=98) hw1 (hk1.ge h1) hr λg2 m h2 hw2 hz _=>?_
  refine Hb.alloc (j:=97) (λs _ _ _ _=>fY _) λb hN hJ _ _=>Hb.gen (j:=96) λhw3 _=>Hb.alloc (j:=95) (λs _ _ _ _=>bG _ 2 _ 0 0 0) λb2 hN2 hJ2 hw4 _=>?_
  have h3:=Ga.rM hw2 {kind:=3} 0 b
  have h4:=Ga.yD hw3
  have h5:=Ga.rM hw4 {kind:=2,gen:=(((g2.alloc {kind:=3} 0 b).gen:Nat):Int)+1} ((g2.nodes.length:Int)+3) b2
  have aa:=(h1.trans h2).trans (h3.trans (h4.trans h5))
  refine Vh (n:=61) (j:=93) (eX hw4 hN2 hJ2) (hk1.ge aa) λg6 ok h6 hw6 _=>?_
  cases ok with
  |true=>exact .ret
  |false=>exact LI hro n g6 (hk1.ge (aa.trans h6)) g6 (Ge.refl hw6) hw6 _ _
theorem AT{m:Int}{n j:Nat}:Hb g (Bt m) n (j+3):=
 .gen λ_ _=>.alloc (λs _ _ _ _=>bG _ 2 _ 0 0 0) λ_ _ _ _ _=>.cell λ_ _ _ _ _=>.ret
theorem BD{r:Int}{n j:Nat}:Hb g (Gd r) n (j+1):=.cell λ_ _ _ _ _=>.ret
theorem Lb{t:bC}(hro:t.readOnly=false)(fz:Bool):∀(n:Nat) (g:Ga),Tk g t->Hg g (Gb t (λr m=>bif fz then Gd r else Bt m) n)
 |0,g,hk=>DT _
 |n+1,g,hk=>by
  refine TE (λg' s a b=>Al.mono (TB fz n b (hk.ge a) hro) (by omega) (by omega)) λg' a hw=>?_
  have hk1:=hk.ge a
  refine Hb.mono (n:=100) (j:=100) ?_ (by decide) (by decide)
  refine Hw (n:=85) (j:=99) hw hk1 λg1 r h1 hw1 hr _=>oO (n:=75) (j:=98) hw1 (hk1.ge h1) hr λg2 m h2 hw2 hz _=>?_
  refine Hb.gen (j:=97) λhw3 _=>Hb.alloc (j:=96) (λs _ _ _ _=>bG _ 2 _ 0 0 0) λb2 hN2 hJ2 hw4 _=>?_
  have h4:=Ga.yD hw3
  have h5:=Ga.rM hw4 {kind:=2,gen:=(g2.gen:Int)+1} m b2
  have aa:=(h1.trans h2).trans (h4.trans h5)
  refine Vh (n:=61) (j:=94) (eX hw4 hN2 hJ2) (hk1.ge aa) λg6 ok h6 hw6 _=>?_
  cases ok with
  |true=>
   cases fz with
   |true=>exact BD (j:=93)
   |false=>exact AT (j:=91)
  |false=>exact Lb hro fz n g6 (hk1.ge (aa.trans h6)) g6 (Ge.refl hw6) hw6 _ _
theorem SF{t:bC}{key:ByteArray}{h:Nat}:∀(d l k:Nat) (b:fV) (g:Ga) (i level:Int),b.1=l->l+d=12->d<=k->GW g->Tk g t->jV g i b->Ls (pG t key h k i level) g->Hb g (pG t key h k i level) (10*d) d
 |0,l,k,b,g,i,level,hb,hd,hk,hw,ht,hi,hL=>by
  have:=((hw.YW hi).i hi.1).2
  omega
 |d+1,l,0,b,g,i,level,hb,hd,hk,hw,ht,hi,hL=>absurd hk (by omega)
 |d+1,l,k+1,b,g,i,level,hb,hd,hk,hw,ht,hi,hL=>by
  show Hb g (mM t i _) (10*d+10) (d+1)
  refine oO hw ht hi λg1 m h1 hw1 hz hL1=>.node ?_
  have hL1:=Ls.node hL1
  have hn:=hw1.ofM hz.m
  have pr:∀x:Node,Hb g1 (vO key x) (10*d) d:=λx=>by
   unfold vO;cases bR x.key key<;>exact .ret
  rcases sH hz.m with h3|h5|h6
  ·rw[h3]at hL1 ⊢
   cases hl:(aB (g1.node m) (slice h level)).2 with
   |false=>exact .ret
   |true=>
    rw[hl]at hL1
    have hL1:=Ls.node hL1
    refine .node ?_
    rcases(hn.c h3).2.2 _ hl with hI|hS
    ·rw[hI.1]at hL1 ⊢
     exact SF d (l+1) k (dO b (slice h level)) g1 _ _ (by show b.1+1=l+1;omega) (by omega) (by omega) hw1 (ht.ge h1) hI hL1
    ·rw[hS.1];exact pr _
  ·rw[h5];exact pr _
  ·rw[h6]
   show Hb g1 (bif (bB (g1.node m).aF key).2 then _ else _) _ _
   cases (bB (g1.node m).aF key).2<;>exact .ret
theorem IX{t:bC}{i m ix:Int}{b:fV}{k:Int->I Result}{n j:Nat}(hw:GW g)(ht:Tk g t)(hi:jV g i b)(hm:tS g m b)(hI:jV g (aB (g.node m) ix).1 (dO b ix))(hL:Ls (pD t i m ix k) g)(h0:∀g',Ge g g'->GW g'->Ls (k 0) g'->Hb g' (k 0) n j)(H:∀g' r,Ge g g'->GW g'->jV g' r (dO b ix)->Ls (k r) g'->Hb g' (k r) n j):Hb g (pD t i m ix k) (n+20) (j+4):=by
 have hL:=Ls.node hL
 refine .node ?_
 cases hl:(aB (g.node m) ix).2 with
 |false=>rw[hl]at hL;exact(h0 g (Ge.refl hw) hw hL).mono (by omega) (by omega)
 |true=>
  rw[hl]at hL
  refine oO (n:=n+10) (j:=j+3) hw ht hI λg1 m2 h1 hw1 hz2 hL1=>.node ?_
  have hL1:=Ls.node hL1
  refine Hb.alloc (j:=j+2) (λs _ _ _ _=>bG _ 2 _ 0 0 0) λb2 hN hJ hw1' hL2=>.node ?_
  have hb2:b2=dO b ix:=by have:=(hJ.1 rfl).2;rw[<- this];exact hz2.m.2
  subst hb2
  have hL2:=Ls.node hL2
  have h2:=Ga.rM hw1 {kind:=2,gen:=(g1.node i).gen} m2 (dO b ix)
  have hw2:=eX hw1 hN hJ
  have hI2:=oU hw1 (n:={kind:=2,gen:=(g1.node i).gen}) (i:=m2) (b:=dO b ix) rfl
  have a2:=h1.trans h2
  cases hp:(aP ((g1.alloc {kind:=2,gen:=(g1.node i).gen} m2 (dO b ix)).node m) ix ((g1.nodes.length:Int)+3)).2 with
  |false=>rw[hp]at hL2;exact(h0 _ a2 hw2 hL2).mono (by omega) (by omega)
  |true=>
   rw[hp]at hL2
   refine Hb.alloc (j:=j+1) (λs b hN _ _=>hN.fD (by rw[nO];exact dF _)) λb3 hN3 hJ3 _ hL3=>?_
   have h3:=Ga.rM hw2 (aP ((g1.alloc {kind:=2,gen:=(g1.node i).gen} m2 (dO b ix)).node m) ix ((g1.nodes.length:Int)+3)).1 m b3
   have hw3:=eX hw2 hN3 hJ3
   have a3:=a2.trans h3
   obtain⟨hM,_⟩:=hL3.swap hw3 (hi.ge a3)
   refine Rx hw3 (ht.ge a3) (hi.ge a3) hM λg4 ok h4 hw4 hL4=>?_
   cases ok with
   |true=>exact H g4 _ (a3.trans h4) hw4 (hI2.ge (h3.trans h4)) hL4
   |false=>exact h0 g4 (a3.trans h4) hw4 hL4
theorem Ul{t:bC}{pa i:Int}{h l n j:Nat}{b b2:fV}{k:Bool->I Result}(hw:GW g)(hk:Tk g t)(hp:jV g pa b)(hi:jV g i b2)(hL:Ls (qW t pa i h l k) g)(H:HB g k n j):Hb g (qW t pa i h l k) (n+30) (j+5):=by
 refine oO (n:=n+20) (j:=j+4) hw hk hp λg1 m h1 hw1 hz hL1=>.node ?_
 have hL1:=Ls.node hL1
 cases hl1:(aB (g1.node m) (slice h l)).2 with
 |false=>rw[hl1]at hL1;exact(H g1 false h1 hw1 hL1).mono (by omega) (by omega)
 |true=>
  rw[hl1]at hL1
  cases hl2:(aB (g1.node m) (slice h l)).1 != i with
  |true=>rw[hl2]at hL1;exact(H g1 false h1 hw1 hL1).mono (by omega) (by omega)
  |false=>
   rw[hl2]at hL1
   refine oO (n:=n+10) (j:=j+3) hw1 (hk.ge h1) (hi.ge h1) λg2 q h2 hw2 hz2 hL2=>.node ?_
   have hL2:=Ls.node hL2
   have a2:=h1.trans h2
   cases hu:(aT (g2.node q)).2 with
   |false=>rw[hu]at hL2;exact(H g2 false a2 hw2 hL2).mono (by omega) (by omega)
   |true=>
    rw[hu]at hL2
    have hL2:=Ls.node hL2
    refine .node (Hb.alloc (j:=j+2) (λs b hN _ _=>hN.fD (by rw[AR];exact dF _)) λb3 hN hJ _ hL3=>?_)
    have h3:=Ga.rM hw2 (aT (g2.node q)).1 0 b3
    have hw3:=eX hw2 hN hJ
    have a3:=a2.trans h3
    cases hp2:(aP (g2.node m) (slice h l) ((g2.nodes.length:Int)+3)).2 with
    |false=>rw[hp2]at hL3;exact(H _ false a3 hw3 hL3).mono (by omega) (by omega)
    |true=>
     rw[hp2]at hL3
     refine Hb.alloc (j:=j+1) (λs b hN _ _=>hN.fD (by rw[tU _ _ _ (nO _ _ _)];exact dF _)) λb4 hN4 hJ4 _ hL4=>?_
     ·have h4:=Ga.rM hw3 (bQ (aP (g2.node m) (slice h l) ((g2.nodes.length:Int)+3)).1 l (aT (g2.node q)).1) m b4
      have hw4:=eX hw3 hN4 hJ4
      have a4:=a3.trans h4
      obtain⟨hM,_⟩:=hL4.swap hw4 (hp.ge a4)
      exact Rx hw4 (hk.ge a4) (hp.ge a4) hM (H.ge a4)
end Go.Ct
end
section
namespace Go.Ct
variable{g:Ga}{c:Call}
theorem Pn{again:I Result}{b:fV}{i m:Int}{n:Node×Bool}{f:Bool}{v N j:Nat}(hw:GW g)(hk:Tk g c.aE)(hi:jV g i b)(hL:Ls (Ol c again i m n f v) g)(hf:∀s b,cJ g n.1 b->Tw g s->eK s->n.1.Fit (s.aG.length+1))(ha:Hg g again):Hb g (Ol c again i m n f v) (N+10) (j+2):=by
 obtain⟨n1,n2⟩:=n
 cases n2 with
 |false=>exact .ret
 |true=>
  have hL:Ls (I.alloc n1 m λx=>swapT c.aE i m x λok=>bif !ok then again else .ret (dL f v)) g:=hL
  show Hb g (I.alloc n1 m λx=>swapT c.aE i m x λok=>bif !ok then again else .ret (dL f v)) _ _
  refine Hb.alloc (j:=j+1) hf λb2 hN hJ _ hL2=>?_
  have h1:=Ga.rM hw n1 m b2
  have hw1:=eX hw hN hJ
  obtain⟨hM,_⟩:=hL2.swap hw1 (hi.ge h1)
  refine Rx (n:=N) (j:=j) hw1 (hk.ge h1) (hi.ge h1) hM λg2 ok h2 hw2 _=>?_
  cases ok with
  |true=>exact .ret
  |false=>exact ha g2 (h1.trans h2) hw2 _ _
theorem UX{x:Node}{at_:Int}{h v:Nat}{key:ByteArray}{gen:Int}{N j:Nat}:∀(n:Nat) (k:Int->I Result) (g:Ga),GW g->Ls (uY x at_ h key v gen n k) g->(∀g' r,Ge g g'->GW g'->Ls (k r) g'->Hb g' (k r) N j)->Hb g (uY x at_ h key v gen n k) N (j+2+2*n)
 |0,k,g,hw,hL,H=>by
  show Hb g (I.alloc _ 0 k) N (j+1+1)
  refine Hb.alloc (λs b hN _ _=>hN.fD (by show (gG _ _).length<=_;unfold gG;split<;>(simp only[QR,List.length_nil];omega))) λb hN hJ hw0 hL2=>?_
  exact(H _ _ (Ga.rM hw _ _ b) (eX hw hN hJ) hL2).mono (JV _) (by omega)
 |n+1,k,g,hw,hL,H=>by
  rw[uY]at hL ⊢
  cases hs:slice h (11-((n+1:Nat):Int)) != slice x.hash (11-((n+1:Nat):Int))with
  |true=>
   rw[hs]at hL
   rw[show j+2+2*(n+1)=(j+2+2*n+1)+1 by omega]
   refine Hb.alloc (j:=j+2+2*n+1) (λs b hN _ _=>hN.fD (dF _)) λb hN hJ _ hL2=>?_
   have hw1:=eX hw hN hJ
   refine Hb.alloc (j:=j+2+2*n) (λs b hN _ _=>hN.fD (by rw[vC];exact dF _)) λb2 hN2 hJ2 _ hL3=>?_
   exact(H _ _ ((Ga.rM hw _ _ b).trans (Ga.rM hw1 _ _ b2)) (eX hw1 hN2 hJ2) hL3).mono (JV _) (by omega)
  |false=>
   rw[hs]at hL
   show Hb g (uY x at_ h key v gen n _) N _
   rw[show j+2+2*(n+1)=(j+2)+2+2*n by omega]
   refine UX n _ g hw hL λg1 r h1 hw1 hL1=>?_
   refine Hb.alloc (j:=j+1) (λs b hN _ _=>hN.fD (dF _)) λb hN hJ _ hL2=>?_
   have hw2:=eX hw1 hN hJ
   refine Hb.alloc (j:=j) (λs b hN _ _=>hN.fD (by rw[vC];exact dF _)) λb2 hN2 hJ2 _ hL3=>?_
   exact H _ _ (h1.trans ((Ga.rM hw1 _ _ b).trans (Ga.rM hw2 _ _ b2))) (eX hw2 hN2 hJ2) hL3
theorem Uh{gen:Int}{again:I Result}:∀(d l k:Nat) (g:Ga) (pa i:Int),l+d=12->d<=k->GW g->Tk g c.aE->jV g i (l,aH c.key c.aI%64^l)->(l=0\/jV g pa (l-1,aH c.key c.aI%64^(l-1)))->Hg g again->Ls (gA c (aH c.key c.aI) gen again k pa i l) g->Hb g (gA c (aH c.key c.aI) gen again k pa i l) (30*d+50) (5*d+60)
 |0,l,k,g,pa,i,hd,hk,hw,ht,hi,hp,ha,hL=>by
  have:=((hw.YW hi).i hi.1).2
  exact absurd (show l<=11 from this) (by omega)
 |d+1,l,0,g,pa,i,hd,hk,hw,ht,hi,hp,ha,hL=>absurd hk (by omega)
 |d+1,l,k+1,g,pa,i,hd,hk,hw,ht,hi,hp,ha,hL=>by
  rw[vL]
  refine(oO (n:=30*d+70) (j:=5*d+64) hw ht hi λg1 m h1 hw1 hz hL1=>?_).mono (by omega) (by omega)
  have ht1:=ht.ge h1
  have hi1:=hi.ge h1
  have ha1:=ha.ge h1
  have hL1:=Ls.node hL1
  refine .node ?_
  have hn:=hw1.ofM hz.m
  rcases sH hz.m with h3|h5|h6
  ·rw[show ((g1.node m).kind==5)=false by rw[h3];rfl,show ((g1.node m).kind==6)=false by rw[h3];rfl,show ((g1.node m).kind==3)=true by rw[h3];rfl]at hL1 ⊢
   simp only[xM,pJ]at hL1 ⊢
   cases hb:(aB (g1.node m) (slice (aH c.key c.aI) l)).2 with
   |false=>
    rw[hb]at hL1
    have hL1:Ls (qY c again (aH c.key c.aI) i m (g1.node m) (slice (aH c.key c.aI) l)) g1:=hL1
    show Hb g1 (qY c again (aH c.key c.aI) i m (g1.node m) (slice (aH c.key c.aI) l)) _ _
    unfold qY at hL1 ⊢
    cases hp:cS c false 0 with
    |false=>exact .ret
    |true=>
     rw[hp]at hL1
     refine(Hb.alloc (j:=2) (n:=10) (λs b hN _ _=>hN.fD (dF _)) λb hN hJ _ hL2=>?_).mono (by omega) (by omega)
     have h2:=Ga.rM hw1 {kind:=4,hash:=aH c.key c.aI,key:=c.key,value:=c.value} 0 b
     exact Pn (N:=0) (j:=0) (eX hw1 hN hJ) (ht1.ge h2) (hi1.ge h2) hL2 (λs b hb _ _=>hb.fD (by rw[vC];exact dF _)) (ha1.ge h2)
   |true=>
    rw[hb]at hL1
    have hL1:=Ls.node hL1
    refine .node ?_
    rcases(hn.c h3).2.2 _ hb with hI|hS
    ·have hl10:=(hn.c h3).1
     have ed:=fP (h:=aH c.key c.aI) (l:=l) hl10
     rw[ed]at hI
     have hI4:((g1.node (aB (g1.node m) (slice (aH c.key c.aI) l)).1).kind==4)=false:=by rw[hI.1];rfl
     rw[hI4]at hL1 ⊢
     simp only[pJ]at hL1 ⊢
     cases hg:(g1.node (aB (g1.node m) (slice (aH c.key c.aI) l)).1).gen != gen with
     |false=>
      rw[hg]at hL1
      simp only[pJ]at hL1 ⊢
      exact(Uh d (l+1) k g1 i _ (by omega) (by omega) hw1 ht1 hI (.inr hi1) ha1 hL1).mono (by omega) (by omega)
     |true=>
      rw[hg]at hL1
      simp only[xM]at hL1 ⊢
      refine IX (n:=30*d+50) (j:=5*d+60) hw1 ht1 hi1 hz (by rw[ed];exact hI) hL1 (λg2 h2 hw2 _=>?_) λg2 x h2 hw2 hx hL2=>?_
      ·exact ha1 g2 h2 hw2 _ _
      ·rw[ed]at hx
       have hx1:=hx.one
       rw[show (x==0)=false by simp;omega]at hL2 ⊢
       exact Uh d (l+1) k g2 i x (by omega) (by omega) hw2 (ht1.ge h2) hx (.inr (hi1.ge h2)) (ha1.ge h2) hL2
    ·have h4:=hS.1
     rw[show ((g1.node (aB (g1.node m) (slice (aH c.key c.aI) l)).1).kind==4)=true by rw[h4];rfl]at hL1 ⊢
     simp only[xM]at hL1 ⊢
     generalize (aB (g1.node m) (slice (aH c.key c.aI) l)).1=at_ at *
     unfold hX at hL1 ⊢
     cases hq:bR (g1.node at_).key c.key with
     |true=>
      rw[hq]at hL1
      simp only[xM]at hL1 ⊢
      cases hp:cS c true (g1.node at_).value with
      |false=>exact .ret
      |true=>
       rw[hp]at hL1
       refine(Hb.alloc (j:=2) (n:=10) (λs b hN _ _=>hN.fD (dF _)) λb hN hJ _ hL2=>?_).mono (by omega) (by omega)
       have h2:=Ga.rM hw1 {kind:=4,hash:=aH c.key c.aI,key:=c.key,value:=c.value} 0 b
       exact Pn (N:=0) (j:=0) (eX hw1 hN hJ) (ht1.ge h2) (hi1.ge h2) hL2 (λs b hb _ _=>hb.fD (by rw[nO];exact dF _)) (ha1.ge h2)
     |false=>
      rw[hq]at hL1
      simp only[pJ]at hL1 ⊢
      cases hp:cS c false 0 with
      |false=>exact .ret
      |true=>
       rw[hp]at hL1
       simp only[zT,pJ]at hL1 ⊢
       unfold vJ at hL1 ⊢
       cases hc1:decide ((l:Int)+1<0)||(decide ((l:Int)+1>11)||decide (gen<1))with
       |true=>exact .ret
       |false=>
        rw[hc1]at hL1
        simp only[pJ]at hL1 ⊢
        have hL1:=Ls.node hL1
        refine .node ?_
        cases hc2:(g1.node at_).kind != 4||(decide (64<c.key.size)||bR c.key (g1.node at_).key)with
        |true=>exact .ret
        |false=>
         rw[hc2]at hL1
         simp only[pJ]at hL1 ⊢
         cases hc3:decide ((aJ (g1.node at_).hash (aH c.key c.aI):Int)<(l:Int)+1)with
         |true=>exact .ret
         |false=>
          rw[hc3]at hL1
          simp only[pJ]at hL1 ⊢
          refine(UX (N:=10) (j:=3) _ _ g1 hw1 hL1 λg2 x h2 hw2 hL2=>?_).mono (by omega) (by omega)
          have hL2:Ls (I.alloc {kind:=2,gen:=gen} x λj=>Ol c again i m (aP (g1.node m) (slice (aH c.key c.aI) l) j) false 0) g2:=hL2
          show Hb g2 (I.alloc {kind:=2,gen:=gen} x λj=>Ol c again i m (aP (g1.node m) (slice (aH c.key c.aI) l) j) false 0) 10 3
          refine Hb.alloc (j:=2) (λs b hN _ _=>hN.fD (dF _)) λb hN hJ _ hL3=>?_
          have h4:=h2.trans (Ga.rM hw2 {kind:=2,gen:=gen} x b)
          exact Pn (N:=0) (j:=0) (eX hw2 hN hJ) (ht1.ge h4) (hi1.ge h4) hL3 (λs b hb _ _=>hb.fD (by rw[nO];exact dF _)) (ha1.ge h4)
  ·have h1l:1<=l:=(hn.t h5).1
   rw[show ((g1.node m).kind==5)=true by rw[h5];rfl]at hL1 ⊢
   have hL1:Ls (qW c.aE pa i (aH c.key c.aI) ((l:Int)-1) λ_=>again) g1:=hL1
   show Hb g1 (qW c.aE pa i (aH c.key c.aI) ((l:Int)-1) λ_=>again) _ _
   obtain⟨l',rfl⟩:∃l',l=l'+1:=⟨l-1,by omega⟩
   rw[Qf]at hL1 ⊢
   have hpp:jV g1 pa (l',aH c.key c.aI%64^l'):=(hp.resolve_left (by omega)).ge h1
   exact(Ul (n:=0) (j:=0) hw1 ht1 hpp hi1 hL1 λg2 ok h2 hw2 _=>ha1 g2 h2 hw2 _ _).mono (by omega) (by omega)
  ·rw[show ((g1.node m).kind==5)=false by rw[h6];rfl,show ((g1.node m).kind==6)=true by rw[h6];rfl]at hL1 ⊢
   simp only[xM,pJ]at hL1 ⊢
   unfold mO at hL1 ⊢
   cases hp:cS c (bB (g1.node m).aF c.key).2 (bB (g1.node m).aF c.key).1 with
   |false=>exact .ret
   |true=>
    rw[hp]at hL1
    refine(Pn (N:=0) (j:=0) hw1 ht1 hi1 hL1 (λs b _ hT hf=>?_) ha1).mono (by omega) (by omega)
    have:=hf.node m
    rw[hT.PI.node]at this
    exact Ch this _ _
section
variable(hro:c.aE.readOnly=false)(hkey:c.key.size<=64)
include hro hkey
theorem LF{kk:Nat}(hkk:12<=kk):∀(n:Nat) (g:Ga),Tk g c.aE->Hg g (bO c kk n)
 |0,g,hk=>DT _
 |n+1,g,hk=>by
  refine TE (λg' s a b=>Al.mono (E' hro hkey hkk b (hk.ge a)) (by omega) (by omega)) λg' a hw=>?_
  have hk1:=hk.ge a
  show Hb g' (uO c.aE λr=>.node r λa=>gA c (aH c.key c.aI) a.gen (bO c kk n) kk 0 r 0) hN hJ
  refine(Hw (n:=30*12+50) (j:=5*12+60) hw hk1 λg1 r h1 hw1 hr hL=>.node ?_).mono (by unfold hN;omega) (by unfold hJ;omega)
  exact Uh 12 0 kk g1 0 r rfl hkk hw1 (hk1.ge h1) (by rw[i6];exact hr) (.inl rfl) (LF hkk n g1 (hk1.ge h1)) (Ls.node hL)
end
theorem W2{path:List Int}{h v:Nat}:∀(l:Nat) (g:Ga),l<=11->GW g->Tk g c.aE->(∀j,j<=l->jV g (path.getD j 0) (j,h%64^j))->Hb g (YV c path h v l) (40*l) (6*l)
 |0,g,hl,hw,hk,hp=>.ret
 |l+1,g,hl,hw,hk,hp=>by
  have hi:=hp (l+1) (JV _)
  show Hb g (mM c.aE (path.getD (l+1) 0) _) (40*l+30+10) (6*l+5+1)
  refine oO hw hk hi λg1 m h1 hw1 hz hL1=>.node ?_
  have hL1:=Ls.node hL1
  cases hq:(g1.node m).kind != 5 with
  |true=>exact .ret
  |false=>
   rw[hq]at hL1
   simp only[pJ]at hL1 ⊢
   exact Ul hw1 (hk.ge h1) ((hp l (by omega)).ge h1) (hi.ge h1) hL1 λg' ok a hw' _=>W2 l g' (by omega) hw' (hk.ge (h1.trans a)) λj hj=>(hp j (by omega)).ge (h1.trans a)
theorem Xp{again:I Result}{b:fV}{i m pa:Int}{n:Node}{v h l:Nat}{path:List Int}(hw:GW g)(hk:Tk g c.aE)(hi:jV g i b)(hp:Pz g path h l pa i)(hl:l<=11)(hL:Ls (wM c again path h i m n v) g)(hf:∀s b,cJ g n b->Tw g s->eK s->n.Fit (s.aG.length+1))(ha:Hg g again):Hb g (wM c again path h i m n v) (40*l+10) (6*l+2):=by
 have hL:Ls (I.alloc n m λx=>swapT c.aE i m x λok=>bif !ok then again else YV c path h v (path.length-1)) g:=hL
 show Hb g (I.alloc n m λx=>swapT c.aE i m x λok=>bif !ok then again else YV c path h v (path.length-1)) _ _
 refine Hb.alloc (j:=6*l+1) hf λb2 hN hJ _ hL2=>?_
 have h1:=Ga.rM hw n m b2
 have hw1:=eX hw hN hJ
 obtain⟨hM,_⟩:=hL2.swap hw1 (hi.ge h1)
 refine Rx (n:=40*l) (j:=6*l) hw1 (hk.ge h1) (hi.ge h1) hM λg2 ok h2 hw2 _=>?_
 have a2:=h1.trans h2
 cases ok with
 |true=>
  show Hb g2 (YV c path h v (path.length-1)) _ _
  rw[hp.p.1,OG]
  exact W2 l g2 hl hw2 (hk.ge a2) λj hj=>(hp.p.2 j hj).ge a2
 |false=>exact ha g2 a2 hw2 _ _
theorem Jv{gen:Int}{again:I Result}:∀(d l k:Nat) (g:Ga) (pa i:Int) (path:List Int),l+d=12->d<=k->GW g->Tk g c.aE->jV g i (l,aH c.key c.aI%64^l)->Pz g path (aH c.key c.aI) l pa i->Hg g again->Ls (pM c (aH c.key c.aI) gen again k path i l) g->Hb g (pM c (aH c.key c.aI) gen again k path i l) (30*d+500) (5*d+100)
 |0,l,k,g,pa,i,path,hd,hk,hw,ht,hi,hp,ha,hL=>by
  have:=((hw.YW hi).i hi.1).2
  exact absurd (show l<=11 from this) (by omega)
 |d+1,l,0,g,pa,i,path,hd,hk,hw,ht,hi,hp,ha,hL=>absurd hk (by omega)
 |d+1,l,k+1,g,pa,i,path,hd,hk,hw,ht,hi,hp,ha,hL=>by
  have h11:l<=11:=((hw.YW hi).i hi.1).2
  rw[nK]
  refine(oO (n:=30*d+520) (j:=5*d+104) hw ht hi λg1 m h1 hw1 hz hL1=>?_).mono (by omega) (by omega)
  have ht1:=ht.ge h1
  have hi1:=hi.ge h1
  have ha1:=ha.ge h1
  have hp1:=hp.ge h1
  have hL1:=Ls.node hL1
  refine .node ?_
  have hn:=hw1.ofM hz.m
  rcases sH hz.m with h3|h5|h6
  ·rw[show ((g1.node m).kind==5)=false by rw[h3];rfl,show ((g1.node m).kind==6)=false by rw[h3];rfl,show ((g1.node m).kind==3)=true by rw[h3];rfl]at hL1 ⊢
   simp only[xM,pJ]at hL1 ⊢
   cases hb:(aB (g1.node m) (slice (aH c.key c.aI) l)).2 with
   |false=>exact .ret
   |true=>
    rw[hb]at hL1
    have hL1:=Ls.node hL1
    refine .node ?_
    rcases(hn.c h3).2.2 _ hb with hI|hS
    ·have hl10:=(hn.c h3).1
     have ed:=fP (h:=aH c.key c.aI) (l:=l) hl10
     rw[ed]at hI
     have hI4:((g1.node (aB (g1.node m) (slice (aH c.key c.aI) l)).1).kind==4)=false:=by rw[hI.1];rfl
     rw[hI4]at hL1 ⊢
     simp only[pJ]at hL1 ⊢
     cases hg:(g1.node (aB (g1.node m) (slice (aH c.key c.aI) l)).1).gen != gen with
     |false=>
      rw[hg]at hL1
      simp only[pJ]at hL1 ⊢
      exact(Jv d (l+1) k g1 i _ _ (by omega) (by omega) hw1 ht1 hI (hp1.snoc hI) ha1 hL1).mono (by omega) (by omega)
     |true=>
      rw[hg]at hL1
      simp only[xM]at hL1 ⊢
      refine IX (n:=30*d+500) (j:=5*d+100) hw1 ht1 hi1 hz (by rw[ed];exact hI) hL1 (λg2 h2 hw2 _=>?_) λg2 x h2 hw2 hx hL2=>?_
      ·exact ha1 g2 h2 hw2 _ _
      ·rw[ed]at hx
       have hx1:=hx.one
       rw[show (x==0)=false by simp;omega]at hL2 ⊢
       exact Jv d (l+1) k g2 i x (path++[x]) (by omega) (by omega) hw2 (ht1.ge h2) hx ((hp1.ge h2).snoc hx) (ha1.ge h2) hL2
    ·have h4:=hS.1
     rw[show ((g1.node (aB (g1.node m) (slice (aH c.key c.aI) l)).1).kind==4)=true by rw[h4];rfl]at hL1 ⊢
     simp only[xM]at hL1 ⊢
     generalize g1.node (aB (g1.node m) (slice (aH c.key c.aI) l)).1=x at *
     unfold Pp at hL1 ⊢
     cases hq:bR x.key c.key with
     |false=>exact .ret
     |true=>
      rw[hq]at hL1
      cases hq2:Qj c x.value with
      |false=>exact .ret
      |true=>
       rw[hq2]at hL1
       simp only[zT,pJ]at hL1 ⊢
       cases hq3:(fF (bL (g1.node m) (slice (aH c.key c.aI) l)).1).2 with
       |true=>
        rw[hq3]at hL1
        simp only[xM]at hL1 ⊢
        have hL1:=Ls.node hL1
        refine .node ((Xp hw1 ht1 hi1 hp1 h11 hL1 (λs b hb _ _=>hb.fD (by rw[tU _ _ _ (Ed _ _)];exact dF _)) ha1).mono (by omega) (by omega))
       |false=>
        rw[hq3]at hL1
        simp only[pJ]at hL1 ⊢
        exact(Xp hw1 ht1 hi1 hp1 h11 hL1 (λs b hb _ _=>hb.fD (by rw[tU _ _ _ (Ed _ _)];exact dF _)) ha1).mono (by omega) (by omega)
  ·have h1l:1<=l:=(hn.t h5).1
   rw[show ((g1.node m).kind==5)=true by rw[h5];rfl,show decide (0<l)=true from mI (by omega)]at hL1
   rw[show ((g1.node m).kind==5)=true by rw[h5];rfl,show decide (0<l)=true from mI (by omega)]
   have hL1:Ls (qW c.aE (path.getD (l-1) 0) i (aH c.key c.aI) ((l:Int)-1) λ_=>again) g1:=hL1
   show Hb g1 (qW c.aE (path.getD (l-1) 0) i (aH c.key c.aI) ((l:Int)-1) λ_=>again) _ _
   obtain⟨l',rfl⟩:∃l',l=l'+1:=⟨l-1,by omega⟩
   rw[Qf]at hL1 ⊢
   have hpp:=hp1.p.2 l' (by omega)
   exact(Ul (n:=0) (j:=0) hw1 ht1 hpp hi1 hL1 λg2 ok h2 hw2 _=>ha1 g2 h2 hw2 _ _).mono (by omega) (by omega)
  ·rw[show ((g1.node m).kind==5)=false by rw[h6];rfl,show ((g1.node m).kind==6)=true by rw[h6];rfl]at hL1 ⊢
   simp only[xM,pJ]at hL1 ⊢
   unfold vA at hL1 ⊢
   cases hq1:(bB (g1.node m).aF c.key).2 with
   |false=>exact .ret
   |true=>
    rw[hq1]at hL1
    cases hq2:Qj c (bB (g1.node m).aF c.key).1 with
    |false=>exact .ret
    |true=>
     rw[hq2]at hL1
     cases hq3:(gC (g1.node m) c.key).2 with
     |false=>exact .ret
     |true=>
      rw[hq3]at hL1
      refine(Xp hw1 ht1 hi1 hp1 h11 hL1 (λs b _ hT hf=>?_) ha1).mono (by omega) (by omega)
      have:=hf.node m
      rw[hT.PI.node]at this
      exact(pH this _).mono (Nat.le_succ _)
section
variable(hro:c.aE.readOnly=false)
include hro
theorem AQ{kk:Nat}(hkk:12<=kk):∀(n:Nat) (g:Ga),Tk g c.aE->Hg g (yQ c kk n)
 |0,g,hk=>DT _
 |n+1,g,hk=>by
  refine TE (λg' s a b=>Al.mono (U8 hro hkk b (hk.ge a)) (by omega) (by omega)) λg' a hw=>?_
  have hk1:=hk.ge a
  show Hb g' (uO c.aE λr=>.node r λa=>pM c (aH c.key c.aI) a.gen (yQ c kk n) kk [r] r 0) hN hJ
  refine(Hw (n:=30*12+500) (j:=5*12+100) hw hk1 λg1 r h1 hw1 hr hL=>.node ?_).mono (by unfold hN;omega) (by unfold hJ;omega)
  have hr0:jV g1 r (0,aH c.key c.aI%64^0):=by rw[i6];exact hr
  exact Jv 12 0 kk g1 0 r [r] rfl hkk hw1 (hk1.ge h1) hr0 ⟨⟨rfl,λj hj=>by(obtain rfl:j=0:=Nat.le_zero.1 hj);exact hr0⟩,rfl,λh=>absurd h (by omega)⟩ (AQ hkk n g1 (hk1.ge h1)) (Ls.node hL)
end
theorem m8{c:Call}{F:Nat}(hF:12<=F)(hw:GW g)(hc:kZ g c)(h12:c.kind<=12):Hb g (mS c F) hN hJ:=by
 have h7:=hc.lo
 have hk:=hc.aE
 have e0:=Ge.refl hw
 unfold mS
 split
 ·unfold FN
  cases hv:!bU c.key with
  |true=>exact .ret
  |false=>
   refine(Hw (n:=120) (j:=12) (k:=λr=>pG c.aE c.key (aH c.key c.aI) F r 0) hw hk λg1 r h1 hw1 hr hL=>?_).mono (by decide) (by decide)
   exact SF 12 0 F (0,0) g1 r 0 rfl rfl hF hw1 (hk.ge h1) hr hL
 ·split
  ·rename_i h8
   unfold RN
   cases hv:!bU c.key||(decide (c.bF<0)||decide (c.bF>3))with
   |true=>exact .ret
   |false=>
    have hkey:c.key.size<=64:=by
     have:bU c.key=true:=by simp at hv;exact hv.1
     unfold bU at this;simpa using this
    exact LF (hc.ro (.inl h8)) hkey hF F g hk g e0 hw _ _
  ·split
   ·rename_i h9
    unfold SP
    cases hv:!bU c.key with
    |true=>exact .ret
    |false=>exact AQ (hc.ro (.inr (.inl h9))) hF F g hk g e0 hw _ _
   ·split
    ·unfold Cg
     cases hro:c.aE.readOnly with
     |false=>exact Lb hro false F g hk g e0 hw _ _
     |true=>
      refine Hb.load (n:=1999) λτ g1 v hq h1 hw1 hv _=>?_
      obtain rfl:eY.fixed=τ:=Pe ((hk.fixed hro).symm.trans hq)
      have hv:jV g1 v (0,0):=hv
      exact(oO (n:=0) (j:=3) hw1 (hk.ge h1) hv λg2 m h2 hw2 hz _=>AT (j:=0)).mono (by decide) (by decide)
    ·split
     ·unfold Qg
      cases hro:c.aE.readOnly with
      |false=>exact Lb hro true F g hk g e0 hw _ _
      |true=>exact Hb.load (n:=1999) λτ g1 v hq h1 hw1 hv _=>BD (j:=499)
     ·rw[if_neg (by omega)]
      exact LI (hc.ro (.inr (.inr (by omega)))) F g hk g e0 hw _ _
theorem S2{c:Call}(hw:GW g)(hc:kZ g c)(h12:c.kind<=12):Hb g (mS c FU) hN hJ:=m8 (by decide) hw hc h12
end Go.Ct
end
section
namespace Go.Ct
variable{g:Ga}
theorem Sh.rest{u u':I Result}(h:Sh u u' g):u.rest=true:=by cases h<;>rfl
theorem Sh.ls{u u':I Result}(h:Sh u u' g):Ls u g:=by
 cases h with
 |ret a g hq=>exact⟨_,.ret a _ hq⟩
 |load τ h1 h2=>exact⟨_,.load τ h1 h2⟩
 |eA τ h1 hm h2=>exact⟨_,.eA τ h1 hm h2⟩
def Hd(g:Ga)(u:I Result):Prop:=∃n j,n<=hN/\j<=hJ/\Hb g u n j
theorem Hb.Z6{r:Int}{k:Node->I Result}{n j:Nat}(h:Hb g (.node r k) n j)(hw:GW g)(hn:n<=hN)(hj:j<=hJ):Hd g (k (g.node r)):=by
 generalize hx:I.node r k=t at h
 induction h with
 |node H _=>injection hx with e1 e2;subst e1 e2;exact⟨_,_,hn,hj,H⟩
 |stop h1 h2 ih=>exact ih _ (Ge.refl hw) hw hw (JV _) (JV _) hx
 |_=>cases hx
theorem Hb.X1{a:Node}{i:Int}{k:Int->I Result}{n j:Nat}{b:fV}(h:Hb g (.alloc a i k) n j)(hw:GW g)(hn:n<=hN)(hj:j<=hJ)(h1:cJ g a b)(h2:Tb g a i b)(hL:Ls (k (g.nodes.length+3)) (g.alloc a i b)):Hd (g.alloc a i b) (k (g.nodes.length+3)):=by
 generalize hx:I.alloc a i k=t at h
 induction h with
 |alloc _ H _=>injection hx with e1 e2 e3;subst e1 e2 e3;exact⟨_,_,hn,by omega,H b h1 h2 hw hL⟩
 |stop _ _ ih=>exact ih _ (Ge.refl hw) hw hw (JV _) (JV _) h1 h2 hL hx
 |_=>cases hx
theorem Hb.aA4{i:Int}{k:Int->I Result}{n j:Nat}{τ:eY}(h:Hb g (.cell i k) n j)(hw:GW g)(hn:n<=hN)(hj:j<=hJ)(h1:τ=.root\/τ=.fixed)(h2:jV g i (0,0))(hL:Ls (k (g.ty.length+1)) (g.cell τ i)):Hd (g.cell τ i) (k (g.ty.length+1)):=by
 generalize hx:I.cell i k=t at h
 induction h with
 |cell H _=>injection hx with e1 e2;subst e1 e2;exact⟨_,_,hn,by omega,H τ h1 h2 hw hL⟩
 |stop _ _ ih=>exact ih _ (Ge.refl hw) hw hw (JV _) (JV _) h2 hL hx
 |_=>cases hx
theorem Hb.ZH{k:Int->I Result}{n j:Nat}(h:Hb g (.gen k) n j)(hw:GW g)(hn:n<=hN)(hj:j<=hJ)(hL:Ls (k (g.gen+1)) g.bS):Hd g.bS (k (g.gen+1)):=by
 generalize hx:I.gen k=t at h
 induction h with
 |gen H _=>injection hx with e1;subst e1;exact⟨_,_,hn,by omega,H hw hL⟩
 |stop _ _ ih=>exact ih _ (Ge.refl hw) hw hw (JV _) (JV _) hL hx
 |_=>cases hx
theorem Hb.Z8{c:Int}{k:Int->I Result}{n j:Nat}{τ:eY}{g':Ga}{v:Int}(h:Hb g (.load c k) n j)(hw:GW g)(hn:n<=hN)(hj:j<=hJ)(hc:g.oA c=some τ)(hg:Ge g g')(hw':GW g')(hv:YP g' c v τ)(hL:Ls (k v) g'):Hd g' (k v):=by
 generalize hx:I.load c k=t at h
 induction h with
 |load H _=>injection hx with e1 e2;subst e1 e2;exact⟨_,_,by omega,hj,H τ g' v hc hg hw' hv hL⟩
 |stop _ _ ih=>exact ih _ (Ge.refl hw) hw hw (JV _) (JV _) hc hg hx
 |_=>cases hx
theorem Hb.aAq{c o x:Int}{k:Bool->I Result}{n j:Nat}{τ:eY}{g':Ga}{b:Bool}(h:Hb g (.eA c o x k) n j)(hw:GW g)(hn:n<=hN)(hj:j<=hJ)(hc:g.oA c=some τ)(hm:YI g c o x τ)(hg:Ge g g')(hw':GW g')(hd:(∃b,τ=.prev b)->o=g.first c->g'.dec c)(hL:Ls (k b) g'):Hd g' (k b):=by
 generalize hx:I.eA c o x k=t at h
 induction h with
 |eA H _=>injection hx with e1 e2 e3 e4;subst e1 e2 e3 e4;exact⟨_,_,by omega,hj,H τ g' b hc hm hg hw' hd hL⟩
 |stop _ _ ih=>exact ih _ (Ge.refl hw) hw hw (JV _) (JV _) hc hm hg hd hx
 |_=>cases hx
theorem HP:P8 Hd where
 node:=λhw ⟨n,j,a,b,h⟩=>h.Z6 hw a b
 alloc:=λ⟨n,j,a,b,h⟩ h1 h2 hw hL=>h.X1 hw a b h1 h2 hL
 cell:=λ⟨n,j,a,b,h⟩ h1 h2 hw hL=>h.aA4 hw a b h1 h2 hL
 gen:=λ⟨n,j,a,b,h⟩ hw hL=>h.ZH hw a b hL
 load:=λhw ⟨n,j,a,b,h⟩ hc hg hw' hv hL=>h.Z8 hw a b hc hg hw' hv hL
 eA:=λhw ⟨n,j,a,b,h⟩ hc hm hg hw' hd hL=>h.aAq hw a b hc hm hg hw' hd hL
theorem Hd.ge{u:I Result}{g':Ga}(h:Hd g u)(hr:u.rest=true)(hL:Ls u g)(hw:GW g)(hg:Ge g g')(hw':GW g'):Hd g' u:=by
 obtain⟨n,j,hn,hj,h⟩:=h
 cases h with
 |ret=>exact⟨n,j,hn,hj,.ret⟩
 |load H=>
  refine⟨_,j,hn,hj,.load λτ g2 v hc a b d e=>?_⟩
  obtain⟨σ,hs⟩:=hL.tR
  obtain rfl:=Pe ((hg.oA hs).symm.trans hc)
  exact H σ g2 v hs (hg.trans a) b d e
 |eA H=>
  refine⟨_,j,hn,hj,.eA λτ g2 v hc hm a b d e=>?_⟩
  obtain⟨σ,hs⟩:=hL.Fp
  obtain rfl:=Pe ((hg.oA hs).symm.trans hc)
  exact H σ g2 v hs (hL.eA hs).1 (hg.trans a) b (λx y=>d x (by rw[hg.first hw hs];exact y)) e
 |alloc _ _=>cases hr
 |cell _=>cases hr
 |gen _=>cases hr
 |node _=>cases hr
 |stop h1 h2=>exact⟨hN,hJ,JV _,JV _,h2 g' hg hw'⟩
theorem Hd.al{u:I Result}{s:St}(h:Hd g u)(hT:Tw g s)(hL:Ls u g):u.Al oS 3775 1500 s:=by
 obtain⟨n,j,hn,hj,h⟩:=h
 exact Al.mono (h.al s hT hL) (by unfold hN at hn;omega) (by unfold hJ at hj;omega)
end Go.Ct
end
section
namespace Go.Ct
variable{g:Ga}
structure uM(g:Ga)(S0 i:Nat)(x:X):Prop where
 ex:∃g' u u',Ge g g'/\GW g'/\nZ g' x.s/\eK x.s/\Er g' x.e u u'
 eG:x.e.eG.length<=i
 size:x.s.size<=S0+x.wt
 wt:x.wt<=199*i+120
theorem uM.mono{S0 i j:Nat}{x:X}(h:uM g S0 i x)(hj:i<=j):uM g S0 j x:=⟨h.ex,lK h.eG hj,h.size,by have:=h.wt;omega⟩
theorem uM.call{S0 i:Nat}{x:X}(h:uM g S0 i x):x.e.call.aI<18446744073709551616/\x.e.call.key.size<=9223372036854775807/\7<=x.e.call.kind/\(x.e.call.kind<=12\/x.e.call.kind=14):=by
 obtain⟨g',u,u',_,_,_,_,hE⟩:=h.ex
 exact⟨hE.aI,hE.key,hE.ok.lo,hE.ok.hi⟩
theorem uM.start{c:Call}{s:St}(hw:GW g)(ht:nZ g s)(hf:eK s)(hc:kZ g c)(hm:c.aI<18446744073709551616)(hk:c.key.size<=9223372036854775807)(hok:Ok 50 (bX (bY c FU) 0 ⟨{call:=c},s⟩)):
  uM g s.size 0 (bX (bY c FU) 0 ⟨{call:=c},s⟩):=by
 obtain⟨g',u,u',_,h2,h3,h4,h5,h6,h7,h8,h9,_⟩:=Er.start hw ht hf hc hm hk hok
 have hb:=wC (bY c FU) 0 ⟨{call:=c},s⟩
 have e1:(X.mk {call:=c} s).wt=0:=rfl
 have e2:(X.mk {call:=c} s).s.size=s.size:=rfl
 exact⟨⟨g',u,u',h2,h3,h4,h5,h6⟩,by rw[h7];exact JV _,by omega,by omega⟩
theorem uM.ready{S0 i:Nat}{x:X}(h:uM g S0 i x)(hs:S0+199*i+120<=room):Ok 60 (cD 1 x)/\(cD 1 x).left<FU:=by
 obtain⟨g',u,u',_,hw,ht,hf,hE⟩:=h.ex
 have h1:=h.size
 have h2:=h.wt
 exact hE.ready (s:=x.s) ht hf (by omega)
theorem uM.step{S0 i:Nat}{x:X}(h:uM g S0 i x)(hd:x.e.done=false)(hi:i<Cx)(hok:Ok 50 (bX (bY x.e.call FU) 1 x)):uM g S0 (i+1) (bX (bY x.e.call FU) 1 x):=by
 obtain⟨g',u,u',k,hw,ht,hf,hE⟩:=h.ex
 obtain⟨g2,v,v',_,k2,h2,h3,h4,h5,h6,h7,h8,hP⟩:=hE.step (s:=x.s) hw ht hf hd (fU h.eG hi) hok
 have hb:=wC (bY x.e.call FU) 1 x
 have hz:=h.size
 have hg:=h.eG
 exact⟨⟨g2,v,v',k.trans k2,h2,h3,h4,h5⟩,by rw[show (bX (bY x.e.call FU) 1 x).e.eG.length=x.e.eG.length+1 from h6];omega,by omega,lK h8 (by omega)⟩
def DP:Nat:=20000
def MM:Nat:=15
abbrev EP(g:Ga)(u:I Result):Prop:=Hd g u
theorem EP.ge{u u':I Result}{g':Ga}(h:EP g u)(hs:Sh u u' g)(hw:GW g)(hg:Ge g g')(hw':GW g'):EP g' u:=Hd.ge h hs.rest hs.ls hw hg hw'
theorem EP.step{u v:I Result}{g':Ga}(h:EP g u)(hP:∀P:Ga->I Result->Prop,P8 P->P g u->P g' v):EP g' v:=hP _ HP h
theorem EP.start{c:Call}{u:I Result}{g':Ga}(hw:GW g)(hc:kZ g c)(h12:c.kind<=12)(hP:∀P:Ga->I Result->Prop,P8 P->P g (mS c FU)->P g' u):EP g' u:=hP _ HP ⟨_,_,JV _,JV _,S2 hw hc h12⟩
def DJ(zs:List (Nat×Ex))(b:Nat)(e:Ex):List (Nat×Ex):=if e.done=true then zs else zs++[(b,e)]
def Jw(ts:List bC)(e:Ex):List bC:=if e.done=true/\0<e.result.aE.root/\ts.length<5 then ts++[e.result.aE]else ts
structure Lc(k:Nat)(g:Ga)(s:St)(ts:List bC)(zs:List (Nat×Ex)):Prop where
 gw:GW g
 PI:nZ g s
 fit:eK s
 GO:∀t∈ts,Tk g t
 first:(ts.getD 0 {}).readOnly=false
 some:0<ts.length
 Qr:ts.length<=5
 ex:∀z∈zs,z.2.eG.length<=MM+k/\∃u u',Er g z.2 u u'/\EP g u
 RZ:zs.length<=k
 small:s.size<=DP*(k+1)
theorem Lc.size{k:Nat}{s:St}{ts:List bC}{zs:List (Nat×Ex)}(h:Lc k g s ts zs):s.size<=1000000000*(k+1):=by have:=h.small;unfold DP at this;omega
theorem R6:MM<=1048576:=by decide
theorem Lc.ready{k i:Nat}{s:St}{ts:List bC}{zs:List (Nat×Ex)}(h:Lc k g s ts zs)(hk:k<=40){z:Nat×Ex}(hz:z∈zs):Ok 60 (cD 1 ⟨z.2,s⟩)/\(cD 1 ⟨z.2,s⟩).left<FU/\z.2.call.aI<18446744073709551616/\z.2.call.key.size<=9223372036854775807/\7<=z.2.call.kind/\(z.2.call.kind<=12\/z.2.call.kind=14):=by
 obtain⟨h1,u,u',hE,_⟩:=h.ex z hz
 have hs:=h.size
 obtain⟨a,b⟩:=hE.ready h.PI h.fit (by unfold room;omega)
 exact⟨a,b,hE.aI,hE.key,hE.ok.lo,hE.ok.hi⟩
theorem Lc.step{k i:Nat}{s:St}{ts:List bC}{zs:List (Nat×Ex)}(h:Lc k g s ts zs)(hk:k<=40)(hi:i<zs.length)(hd:zs[i].2.done=false)(hok:Ok 50 (bX (bY zs[i].2.call FU) 1 ⟨zs[i].2,s⟩)):
  ∃g',Lc (k+1) g' (bX (bY zs[i].2.call FU) 1 ⟨zs[i].2,s⟩).s ts (zs.set i (zs[i].1,(bX (bY zs[i].2.call FU) 1 ⟨zs[i].2,s⟩).e)):=by
 obtain⟨h1,u,u',hE,hS⟩:=h.ex _ (wU hi)
 obtain⟨g2,v,v',_,k2,h2,h3,h4,h5,h6,h7,h8,hP⟩:=hE.step h.gw h.PI h.fit hd (by have:=R6;unfold Cx;omega) hok
 have hs:=h.small
 refine⟨g2,h2,h3,h4,λt m=>(h.GO t m).ge k2,h.first,h.some,h.Qr,?_,?_,?_⟩
 ·intro z m
  rcases List.mem_or_eq_of_mem_set m with m|rfl
  ·obtain⟨a,w,w',b,d⟩:=h.ex z m
   exact⟨by omega,w,w',b.ge h.gw k2,d.ge b.sh h.gw k2 h2⟩
  ·exact⟨by show (bX (bY zs[i].2.call FU) 1 ⟨zs[i].2,s⟩).e.eG.length<=_;omega,v,v',h5,hS.step hP⟩
 ·rw[uZ];have:=h.RZ;omega
 ·unfold DP MM at *;omega
theorem Lc.mono{k j:Nat}{s:St}{ts:List bC}{zs:List (Nat×Ex)}(h:Lc k g s ts zs)(hj:k<=j):Lc j g s ts zs:=
 ⟨h.gw,h.PI,h.fit,h.GO,h.first,h.some,h.Qr,λz m=>⟨by have:=(h.ex z m).1;omega,(h.ex z m).2⟩,by have:=h.RZ;omega,by have:=h.small;unfold DP at *;omega⟩
end Go.Ct
end
