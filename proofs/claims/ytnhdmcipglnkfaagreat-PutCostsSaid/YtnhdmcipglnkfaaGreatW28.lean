/- Parts of a proof: Fi, Fd, Fk, Fl, Fm, Fy, Fq, Wl. -/
import Derived.Test.YtnhdmcipglnkfaaGreatW27
set_option linter.unusedVariables false
set_option linter.unusedSimpArgs false
set_option maxRecDepth 100000
set_option maxHeartbeats 4000000
section
namespace Go.Ct
variable{g:Ga}{c:Call}
theorem E'{s:St}{d o v:Int}(hc:s.bD d=true)(h:rd s d≠o):(s.cH d o v).2=false:=by
 show s.pV d o=false
 unfold St.pV
 rw[hc]
 have:s.cells.getD (d.toNat-1) 0=rd s d:=by unfold rd St.load;dsimp only;rw[if_pos hc]
 rw[this];simpa using h
theorem aJj{t:aX}{s:St}{b:eC}{i o n:Int}{N j:Nat}{k:Bool->I Result}(hT:Tw g s)(hk:Tk g t)(hi:fH g i b)(hn:mZ g n b)(H:∀g' s' ok,Ge g g'->Tw g' s'->(k ok).Al pS N j s'):(swapT t i o n k).Al pS (N+10) (j+1) s:=by
 have hc:=hT.gw.fQ hi
 obtain⟨g1,h1,cY⟩:=hT.cH (o:=o) (n:=n) hc hn
 refine nT (hT.gC.node i) (WE (n:=N+9) ?_)
 by_cases hq:rd s (g.node i).main=o
 ·have c1:=oX (v:=n) (hT.has hc) hq
  rw[c1.2]
  exact RY (n:=N) (j:=j) (k:=λm=>k (m==n)) cY (hk.ge h1) (hi.ge h1) (hn.ge h1) (by rw[h1.node hi.bX];exact c1.1) λg' s' m a b _ _ _ _=>H g' s' _ (h1.trans a) b
 ·rw[E' (hT.has hc) hq]
  exact Al.mono (H g1 _ false h1 cY) (by omega) (by omega)
theorem Jl(n:Node)(l:Int)(x:Node)(h:n.aH=[]):(bI n l x).aH=[]:=by
 unfold bI;split
 ·rfl
 ·exact h
theorem Yi(n:Node)(i:Int):(cG n i).1.aH=[]:=by
 unfold cG;repeat' split
 all_goals rfl
theorem VJ(n:Node):(aP n).1.aH=[]:=by unfold aP;split<;>rfl
theorem aDk{t:aX}{s:St}{pa i:Int}{h l N j:Nat}{b b2:eC}{k:Bool->I Result}(hT:Tw g s)(hk:Tk g t)(hp:fH g pa b)(hi:fH g i b2)(hL:Ls (mP t pa i h l k) g)(H:∀g' s' ok,Ge g g'->Tw g' s'->(k ok).Al pS N j s'):(mP t pa i h l k).Al pS (N+30) (j+5) s:=by
 refine yH (n:=N+20) (j:=j+4) hT hk hp λg1 s1 m h1 cY hz hm _ _=>?_
 have Hy:=Ls.node (Ls.read hL hT.gw hp h1 cY.gw hz)
 refine nT (cY.gC.node m) ?_
 cases YF:(aB (g1.node m) (slice h l)).2 with
 |false=>exact Al.mono (H g1 s1 false h1 cY) (by omega) (by omega)
 |true=>
  rw[YF]at Hy
  cases YH:(aB (g1.node m) (slice h l)).1 != i with
  |true=>exact Al.mono (H g1 s1 false h1 cY) (by omega) (by omega)
  |false=>
   rw[YH]at Hy
   refine yH (n:=N+10) (j:=j+3) cY (hk.ge h1) (hi.ge h1) λg2 s2 q h2 gO Ud DF _ _=>?_
   have sR:=Ls.node (Ls.read Hy cY.gw (hi.ge h1) h2 gO.gw Ud)
   have a2:=h1.trans h2
   refine nT (gO.gC.node q) ?_
   cases hu:(aP (g2.node q)).2 with
   |false=>exact Al.mono (H g2 s2 false a2 gO) (by omega) (by omega)
   |true=>
    rw[hu]at sR
    have sR:=Ls.node sR
    refine nT (gO.gC.node m) ?_
    obtain⟨b3,hN,hJ,Yy⟩:=Ls.alloc sR gO.gw
    obtain⟨tB,e3,h3,_,_⟩:=gS gO hN hJ
    refine Hx (j:=j+2) (λ_=>hN.eZ (by rw[VJ];exact bZ _)) ?_
    rw[e3]
    have a3:=a2.trans h3
    cases hp2:(aM (g2.node m) (slice h l) ((g2.nodes.length:Int)+3)).2 with
    |false=>exact Al.mono (H _ _ false a3 tB) (by omega) (by omega)
    |true=>
     rw[hp2]at Yy
     obtain⟨b4,hN4,hJ4,hL4⟩:=Ls.alloc Yy tB.gw
     obtain⟨TW,e4,h4,_,_⟩:=gS tB hN4 hJ4
     refine Hx (j:=j+1) (λ_=>hN4.eZ (by rw[Jl _ _ _ (oN _ _ _)];exact bZ _)) ?_
     rw[e4]
     have hpp:=(hp.ge a3).ge h4
     obtain⟨hM,_⟩:=hL4.swap TW.gw hpp
     exact aJj TW ((hk.ge a3).ge h4) hpp hM λg' s' ok a b=>H g' s' ok ((a3.trans h4).trans a) b
theorem upA{path:List Int}{h v:Nat}:∀(l:Nat) (g:Ga) (s:St),l<=11->Tw g s->Tk g c.aF->(∀j,j<=l->fH g (path.getD j 0) (j,h%64^j))->(y' c path h v l).Al pS (40*l) (6*l) s
 |0,g,s,hl,hT,hk,hp=>trivial
 |l+1,g,s,hl,hT,hk,hp=>by
  have hL:Ls (y' c path h v (l+1)) g:=⟨_,H7 (K':=λ_=>.ret (dL true v)) (l+1) g hT.gw hk hl hp λg' _ _=>.ret _ _ (q0 rfl)⟩
  have hi:=hp (l+1) (aW _)
  show (kT c.aF (path.getD (l+1) 0) _).Al pS (40*l+30+10) (6*l+5+1) s
  refine yH hT hk hi λg1 s1 m h1 cY hz hm _ _=>?_
  have Hy:=Ls.node (Ls.read (show Ls (kT c.aF (path.getD (l+1) 0) _) g from hL) hT.gw hi h1 cY.gw hz)
  refine nT (cY.gC.node m) ?_
  cases hq:(g1.node m).kind != 5 with
  |true=>exact trivial
  |false=>
   rw[hq]at Hy
   simp only[fN]at Hy ⊢
   exact aDk cY (hk.ge h1) ((hp l (by omega)).ge h1) (hi.ge h1) Hy λg' s' ok a b=>upA l g' s' (by omega) b (hk.ge (h1.trans a)) λj hj=>(hp j (by omega)).ge (h1.trans a)
structure Pz(g:Ga)(path:List Int)(h l:Nat)(pa i:Int):Prop where
 p:Path g path h l
 ii:path.getD l 0=i
 a:1<=l->path.getD (l-1) 0=pa
theorem Pz.ge{g':Ga}{path:List Int}{h l:Nat}{pa i:Int}(hp:Pz g path h l pa i)(hg:Ge g g'):Pz g' path h l pa i:=⟨hp.p.ge hg,hp.ii,hp.a⟩
theorem Pz.snoc{path:List Int}{h l:Nat}{pa i x:Int}(hp:Pz g path h l pa i)(hx:fH g x (l+1,h%64^(l+1))):Pz g (path++[x]) h (l+1) i x:=by
 refine⟨hp.p.snoc hx,?_,λ_=>?_⟩
 ·rw[cK,tN (by rw[hp.p.1];exact aW _),hp.p.1];simp
 ·rw[YA,cK,vS (by rw[hp.p.1];omega),<- cK];exact hp.ii
def Vd(c:Call)(h:Nat)(gen:Int)(again:I Result)(k:Nat)(path:List Int)(i:Int)(level:Nat)(m:Int):I Result:=.node m λn=>
  bif n.kind==5 then mP c.aF (bif decide (0<level)then path.getD (level-1) 0 else 0) i h ((level:Int)-1) λ_=>again
  else bif n.kind==6 then vG c again path h i m n
  else bif n.kind==3 then
   bif !(aB n (slice h level)).2 then .ret {}else .node (aB n (slice h level)).1 λx=>
    bif x.kind==4 then Es c again path h i m n level x
    else bif x.gen != gen then oE c.aF i m (slice h level) λb=>bif b==0 then again else fS c h gen again k (path++[b]) b (level+1)
    else fS c h gen again k (path++[(aB n (slice h level)).1]) (aB n (slice h level)).1 (level+1)
  else .ret {}
theorem pA(c:Call)(h:Nat)(gen:Int)(again:I Result)(k:Nat)(path:List Int)(i:Int)(level:Nat):fS c h gen again (k+1) path i level=kT c.aF i (Vd c h gen again k path i level):=rfl
theorem XC(eR:c.aF.readOnly=false){s:St}{r pa i:Int}{l:Nat}{path:List Int}(hw:GW g)(ht:Tk g c.aF)(w:Wf g s c.aF (aE c.key c.aI) r l pa i)(hp:Pz g path (aE c.key c.aI) l pa i)(k n kk:Nat):Ls (fS c (aE c.key c.aI) (g.node r).gen (eU c kk n) k path i l) g:=by
 obtain⟨a1,a2⟩:=NJ hw w.rt
 exact⟨_,wK (K:=λ|some r=>.ret r|none=>vM c kk n) eR a1 k l path i g hw ht hp.p hp.ii a2 ⟨λg' h' lD r hr=>.ret _ _ (q0 hr),λg' h' lD=>wL eR n g' lD (ht.ge h')⟩⟩
theorem NB{again:I Result}{s:St}{b:eC}{r i m pa:Int}{n:Node}{v h l:Nat}{path:List Int}(hT:Tw g s)(hk:Tk g c.aF)(eR:c.aF.readOnly=false)(hA:At g s c.aF b r i m)(hp:Pz g path h l pa i)(hl:l<=11)(hL:Ls (tA c again path h i m n v) g)(hf:∀b,bT g n b->cL s->n.Fit (s.aG.length+1)):(tA c again path h i m n v).Al pS (40*l+5) (6*l+1) s:=by
 have hL:Ls (I.alloc n m λx=>swapT c.aF i m x λok=>bif !ok then again else y' c path h v (path.length-1)) g:=hL
 obtain⟨b2,hN,hJ,sR⟩:=hL.alloc hT.gw
 have h1:=Ga.gV hT.gw n m b2
 obtain⟨hM,_⟩:=sR.swap (pB hT.gw hN hJ) (hA.ii.ge h1)
 refine T9 (N:=40*l) (j:=6*l) (k:=λok=>bif !ok then again else y' c path h v (path.length-1)) hT hk eR hA hN hJ hM (hf b2 hN) λg' s' a hT' _ _ _ _=>?_
 show (y' c path h v (path.length-1)).Al pS _ _ s'
 rw[hp.p.1,YA]
 exact upA l g' s' hl hT' (hk.ge (h1.trans a)) λj hj=>(hp.p.2 j hj).ge (h1.trans a)
def TD(c:Call)(l:Nat):Prop:=∀(g:Ga) (s:St) (r pa i m:Int) (kk n:Nat),Tw g s->Tk g c.aF->Wy g s c.aF (aE c.key c.aI) r l pa i->rd s (g.node i).main=m->rU g m (l,aE c.key c.aI%64^l)->Stop g (aE c.key c.aI) l m->12<=kk->(eU c kk n).Al pS (110*(l+1)) (20*(l+1)) s
theorem aDv{s:St}{r pa i:Int}{l n kk N j:Nat}(hT:Tw g s)(hk:Tk g c.aF)(w:Wy g s c.aF (aE c.key c.aI) r l pa i)(hl:l<=kk)(P:∀g' s' path,Ge g g'->Tw g' s'->gP g s s'->Pz g' path (aE c.key c.aI) l pa i->(fS c (aE c.key c.aI) (g.node r).gen (eU c kk n) (kk-l) path i l).Al pS N j s'):
  ∀g' s',Ge g g'->Tw g' s'->gP g s s'->(fS c (aE c.key c.aI) (g.node r).gen (eU c kk n) kk [r] r 0).Al pS (N+2*l) j s':=by
 induction w generalizing N with
 |root hi hr=>
  intro g' s' a b d
  exact P g' s' [r] a b d ⟨⟨rfl,λj hj=>by(obtain rfl:j=0:=Nat.le_zero.1 hj);exact hi.ge a⟩,rfl,λh=>absurd h (by omega)⟩
 |@step l pa i m x w hm hz hb hx hI wF ih=>
  have wf:=w.wf
  have oO:=lX hb
  intro g' s' a b d
  refine Al.mono (ih (N:=N+2) (by omega) (λg1 s1 path h1 cY Hz hp=>?_) g' s' a b d) (by omega) (aW _)
  rw[show kk-l=(kk-(l+1))+1 by omega,pA]
  refine Yn (b:=(l,aE c.key c.aI%64^l)) cY (wf.ii.ge h1) (hz.ge h1) (by rw[h1.node wf.ii.bX,Hz _ _ (hT.gw.fQ wf.ii)];exact hm) λg2 s2 h2 gO Ln=>?_
  have a2:=h1.trans h2
  refine nT (gO.gC.node m) ?_
  rw[a2.node hz.bX]
  show (bif (g.node m).kind==5 then _ else bif (g.node m).kind==6 then _ else bif (g.node m).kind==3 then _ else _:I Result).Al pS N j s2
  rw[show ((g.node m).kind==5)=false by rw[oO];rfl,show ((g.node m).kind==6)=false by rw[oO];rfl,show ((g.node m).kind==3)=true by rw[oO];rfl]
  simp only[tV,fN]
  rw[hb,hx]
  show (I.node x _).Al pS N j s2
  refine nT (gO.gC.node x) ?_
  rw[a2.node hI.bX,show ((g.node x).kind==4)=false by rw[hI.1];rfl,wF,show ((g.node r).gen != (g.node r).gen)=false by simp]
  simp only[fN]
  exact P g2 s2 (path++[x]) a2 gO (Hz.trans h1 Ln) ((hp.ge h2).snoc (hI.ge a2))
section
variable(eR:c.aF.readOnly=false)
include eR
theorem B6{s:St}{r pa i m:Int}{l n kk k:Nat}{path:List Int}(IH:∀l',l'<l->TD c l')(hT:Tw g s)(hk:Tk g c.aF)(w:Wy g s c.aF (aE c.key c.aI) r l pa i)(hp:Pz g path (aE c.key c.aI) l pa i)(hm:rd s (g.node i).main=m)(hz:rU g m (l,aE c.key c.aI%64^l))(hs:Stop g (aE c.key c.aI) l m)(Bz:12<=kk):
  (Vd c (aE c.key c.aI) (g.node r).gen (eU c kk n) k path i l m).Al pS (110*l+20) (20*l+10) s:=by
 have wf:=w.wf
 have hA:=wf.at_ hz hm
 have TT:l<=11:=((hT.gw.RJ wf.ii).i wf.ii.1).2
 have hL:Ls (Vd c (aE c.key c.aI) (g.node r).gen (eU c kk n) k path i l m) g:=
  Ls.read (by have:=XC eR hT.gw hk wf hp (k+1) n kk;rw[pA]at this;exact this) hT.gw wf.ii (Ge.refl hT.gw) hT.gw hz
 have hL:=Ls.node hL
 refine nT (hT.gC.node m) ?_
 rcases nW hz.m with h3|h5|h6
 ·rw[show ((g.node m).kind==5)=false by rw[h3];rfl,show ((g.node m).kind==6)=false by rw[h3];rfl,show ((g.node m).kind==3)=true by rw[h3];rfl]at hL ⊢
  simp only[tV,fN]at hL ⊢
  cases hb:(aB (g.node m) (slice (aE c.key c.aI) l)).2 with
  |false=>exact trivial
  |true=>
   rw[hb]at hL
   have hL:=Ls.node hL
   refine nT (hT.gC.node _) ?_
   have h4:=hs hb
   rw[show ((g.node (aB (g.node m) (slice (aE c.key c.aI) l)).1).kind==4)=true by rw[h4];rfl]at hL ⊢
   simp only[tV]at hL ⊢
   generalize g.node (aB (g.node m) (slice (aE c.key c.aI) l)).1=x at *
   unfold Es at hL ⊢
   cases hq:bO x.key c.key with
   |false=>exact trivial
   |true=>
    rw[hq]at hL
    cases Ei:Jc c x.value with
    |false=>exact trivial
    |true=>
     rw[Ei]at hL
     simp only[xX,fN]at hL ⊢
     cases hq3:(iP (cG (g.node m) (slice (aE c.key c.aI) l)).1).2 with
     |true=>
      rw[hq3]at hL
      simp only[tV]at hL ⊢
      have hL:=Ls.node hL
      refine nT (hT.gC.node _) (Al.mono (NB hT hk eR hA hp TT hL λb hb _=>hb.eZ (by rw[Jl _ _ _ (Yi _ _)];exact bZ _)) (by omega) (by omega))
     |false=>
      rw[hq3]at hL
      simp only[fN]at hL ⊢
      exact Al.mono (NB hT hk eR hA hp TT hL λb hb _=>hb.eZ (by rw[Jl _ _ _ (Yi _ _)];exact bZ _)) (by omega) (by omega)
 ·have h1l:1<=l:=((hT.gw.ofM hz.m).t h5).1
  rw[show ((g.node m).kind==5)=true by rw[h5];rfl]
  show (mP c.aF (bif decide (0<l)then path.getD (l-1) 0 else 0) i (aE c.key c.aI) ((l:Int)-1) λ_=>eU c kk n).Al pS _ _ s
  rw[show decide (0<l)=true from gM (by omega),tV,hp.a h1l]
  obtain⟨l',rfl⟩:∃l',l=l'+1:=⟨l-1,by omega⟩
  rw[SN]
  cases w with
  |step w0 hpm hzp hlb hj hI wF=>
   exact Al.mono (j9 (N:=110*(l'+1)) (j:=20*(l'+1)) hT hk eR w0 hpm hzp hlb hj hI hm hz h5 λg' s' x a b d e f i=>IH l' (by omega) g' s' r _ _ x kk n b (hk.ge a) d e f i Bz) (by omega) (by omega)
 ·rw[show ((g.node m).kind==5)=false by rw[h6];rfl,show ((g.node m).kind==6)=true by rw[h6];rfl]at hL ⊢
  simp only[tV,fN]at hL ⊢
  unfold vG at hL ⊢
  cases hp1:(bN (g.node m).aH c.key).2 with
  |false=>exact trivial
  |true=>
   rw[hp1]at hL
   cases hp2:Jc c (bN (g.node m).aH c.key).1 with
   |false=>exact trivial
   |true=>
    rw[hp2]at hL
    cases hp3:(jH (g.node m) c.key).2 with
    |false=>exact trivial
    |true=>
     rw[hp3]at hL
     refine Al.mono (NB hT hk eR hA hp TT hL λb _ hf=>?_) (by omega) (by omega)
     have:=hf.node m
     rw[hT.gC.node]at this
     exact(xJ this _).mono (Nat.le_succ _)
theorem W6:∀l,TD c l:=by
 intro l
 induction l using Nat.strongRecOn with
 |ind l IH=>
  intro g s r pa i m kk n hT hk w hm hz hs Bz
  have wf:=w.wf
  cases n with
  |zero=>exact trivial
  |succ n=>
  have TT:l<=11:=((hT.gw.RJ wf.ii).i wf.ii.1).2
  obtain⟨g1,h1,cY,_⟩:=hT.val (hk.root eR)
  show (uD c.aF λr=>.node r λa=>fS c (aE c.key c.aI) a.gen (eU c kk n) kk [r] r 0).Al pS (110*(l+1)) (20*(l+1)) s
  refine Al.mono (n:=(110*l+22)+2*l+1) (i:=20*l+10) (Nm (nT (cY.gC.node _) ?_)) (by omega) (by omega)
  rw[wf.root,h1.node wf.rt.bX,wf.rt.1]
  refine nT (cY.gC.node r) ?_
  have w1:=w.pP (s':=(s.load c.aF.root).1) hT.gw h1 rfl (Bc _ _)
  refine aDv (n:=n) (kk:=kk) (N:=110*l+22) (j:=20*l+10) cY (hk.ge h1) w1 (by omega) (λg2 s2 path h2 gO Ln hp=>?_) g1 _ (Ge.refl cY.gw) cY (gP.refl _)
  have a2:=h1.trans h2
  have Da:=w1.wf
  have CT:rd (s.load c.aF.root).1 (g1.node i).main=m:=by rw[h1.node wf.ii.bX];exact hm
  have w2:=w1.pP cY.gw h2 (Ln _ _ ((hk.ge h1).root eR)) Ln.ml
  have wf2:=w2.wf
  obtain⟨k,hk1⟩:∃k,kk-l=k+1:=⟨kk-l-1,by omega⟩
  rw[hk1,pA]
  refine Yn (n:=110*l+20) gO wf2.ii (hz.ge a2) (by rw[h2.node Da.ii.bX,Ln _ _ (cY.gw.fQ Da.ii)];exact CT) λg3 s3 h3 tB hS3=>?_
  have w3:=w2.pP gO.gw h3 (hS3 _ _ ((hk.ge a2).root eR)) hS3.ml
  have a3:=a2.trans h3
  have:=B6 eR (k:=k) (kk:=kk) (n:=n) IH tB (hk.ge a3) w3 (hp.ge h3) (by rw[h3.node wf2.ii.bX,hS3 _ _ (gO.gw.fQ wf2.ii),h2.node Da.ii.bX,Ln _ _ (cY.gw.fQ Da.ii)];exact CT) (hz.ge a3) (hs.ge hT.gw hz.m a3) Bz
  rw[(h2.trans h3).node Da.rt.bX]at this
  exact this
theorem Zu:∀(d l k:Nat) (g:Ga) (s:St) (r pa i:Int) (path:List Int) (kk n:Nat),l+d=12->d<=k->12<=kk->Tw g s->Tk g c.aF->Wy g s c.aF (aE c.key c.aI) r l pa i->Pz g path (aE c.key c.aI) l pa i->(fS c (aE c.key c.aI) (g.node r).gen (eU c kk n) k path i l).Al pS (1400+30*d) (300+10*d) s
 |0,l,k,g,s,r,pa,i,path,kk,n,hd,hk,Bz,hT,ht,w,hp=>by
  have:=((hT.gw.RJ w.wf.ii).i w.wf.ii.1).2
  exact absurd (show l<=11 from this) (by omega)
 |d+1,l,0,g,s,r,pa,i,path,kk,n,hd,hk,Bz,hT,ht,w,hp=>absurd hk (by omega)
 |d+1,l,k+1,g,s,r,pa,i,path,kk,n,hd,hk,Bz,hT,ht,w,hp=>by
  have wf:=w.wf
  rw[pA]
  refine Al.mono (yH (n:=1400+30*d+20) (j:=300+10*d+5) hT ht wf.ii λg1 s1 m h1 cY hz hm hR hl=>?_) (by omega) (by omega)
  have w1:=w.pP hT.gw h1 (hR.i (by rw[wf.root];exact wf.rt)) hl
  have Da:=w1.wf
  have vD:=ht.ge h1
  have er:=h1.node wf.rt.bX
  by_cases hs:Stop g1 (aE c.key c.aI) l m
  ·have:=B6 eR (k:=k) (kk:=kk) (n:=n) (λl' _=>W6 eR l') cY vD w1 (hp.ge h1) hm hz hs Bz
   rw[er]at this
   exact Al.mono this (by omega) (by omega)
  ·have hb:(aB (g1.node m) (slice (aE c.key c.aI) l)).2=true:=by
    cases hq:(aB (g1.node m) (slice (aE c.key c.aI) l)).2 with
    |true=>rfl
    |false=>exact absurd (λh=>by rw[hq]at h;cases h) hs
   have h4:(g1.node (aB (g1.node m) (slice (aE c.key c.aI) l)).1).kind≠4:=λh=>hs λ_=>h
   have oO:=lX hb
   have hn1:=cY.gw.ofM hz.m
   have wG:=(hn1.c oO).1
   have ed:=dP (h:=aE c.key c.aI) (l:=l) wG
   have hI:fH g1 (aB (g1.node m) (slice (aE c.key c.aI) l)).1 (l+1,aE c.key c.aI%64^(l+1)):=by
    rcases(hn1.c oO).2.2 _ hb with h|h
    ·rw[ed]at h;exact h
    ·exact absurd h.1 h4
   refine nT (cY.gC.node m) ?_
   show (bif (g1.node m).kind==5 then _ else bif (g1.node m).kind==6 then _ else bif (g1.node m).kind==3 then _ else _:I Result).Al pS _ _ s1
   rw[show ((g1.node m).kind==5)=false by rw[oO];rfl,show ((g1.node m).kind==6)=false by rw[oO];rfl,show ((g1.node m).kind==3)=true by rw[oO];rfl]
   simp only[tV,fN]
   rw[hb]
   show (I.node _ _).Al pS _ _ s1
   refine nT (cY.gC.node _) ?_
   rw[show ((g1.node (aB (g1.node m) (slice (aE c.key c.aI) l)).1).kind==4)=false by rw[hI.1];rfl]
   simp only[fN]
   cases hg:(g1.node (aB (g1.node m) (slice (aE c.key c.aI) l)).1).gen != (g.node r).gen with
   |false=>
    simp only[fN]
    have xY:(g1.node (aB (g1.node m) (slice (aE c.key c.aI) l)).1).gen=(g1.node r).gen:=by rw[er];simpa using hg
    have:=Zu d (l+1) k g1 s1 r i _ _ kk n (by omega) (by omega) Bz cY vD (.step w1 hm hz hb rfl hI xY) ((hp.ge h1).snoc hI)
    rw[er]at this
    exact Al.mono this (by omega) (by omega)
   |true=>
    simp only[tV]
    refine Al.mono (k7 (N:=1400+30*d) (j:=300+10*d) cY vD eR w1 hm hz hb hI λg2 s2 x h2 gO w2=>?_) (by omega) (by omega)
    have hx1:=w2.wf.ii.one
    rw[show (x==0)=false by simp;omega]
    have:=Zu d (l+1) k g2 s2 r i x (path++[x]) kk n (by omega) (by omega) Bz gO (vD.ge h2) w2 ((hp.ge (h1.trans h2)).snoc w2.wf.ii)
    rw[h2.node Da.rt.bX,er]at this
    exact this
theorem aJt{s:St}{kk n:Nat}(Bz:12<=kk)(hT:Tw g s)(ht:Tk g c.aF):(eU c kk (n+1)).Al pS 1775 421 s:=by
 show (uD c.aF λr=>.node r λa=>fS c (aE c.key c.aI) a.gen (eU c kk n) kk [r] r 0).Al pS 1775 421 s
 refine FX (n:=1760) (j:=420) hT ht λg1 s1 r h1 cY hr hq=>nT (cY.gC.node r) ?_
 have hr0:fH g1 r (0,aE c.key c.aI%64^0):=by rw[U8];exact hr
 exact Zu eR 12 0 kk g1 s1 r 0 r [r] kk n rfl Bz Bz cY (ht.ge h1) (.root hr0 hq) ⟨⟨rfl,λj hj=>by(obtain rfl:j=0:=Nat.le_zero.1 hj);exact hr0⟩,rfl,λh=>absurd h (by omega)⟩
end
theorem Y6{s:St}(eR:c.aF.readOnly=false)(hT:Tw g s)(ht:Tk g c.aF):(AU c FU).Al pS 1775 421 s:=by
 unfold AU
 cases hv:!bR c.key with
 |true=>exact trivial
 |false=>
  have e:eU c FU FU=eU c FU (99999999+1):=rfl
  simp only[fN]
  rw[e]
  exact aJt eR (by decide) hT ht
end Go.Ct
end
section
namespace Go.Ct
variable{α:Type}{g:Ga}{Q:α->St->Prop}
def alone(s:St)(u:I α):Nat->St×I α
 |0=>(s,u)
 |i+1=>(alone s u i).2.step (alone s u i).1
theorem qL(s:St)(u:I α):∀i,alone s u (i+1)=alone (u.step s).1 (u.step s).2 i
 |0=>rfl
 |i+1=>by show (alone s u (i+1)).2.step (alone s u (i+1)).1=_;rw[qL s u i];rfl
structure Grown(j n:Nat)(s s':St):Prop where
 nodes:s'.aG.length<=s.aG.length+j
 more:s.aG.length<=s'.aG.length
 size:s'.size<=s.size+2*j+n
 fit:cL s->cL s'
theorem Wg{u:I α}{n j:Nat}{s:St}(h:u.Al Q n j s)(hr:u.rest=true)(he:u.ended=none):0<n/\∃i s1,i<=j/\s1.acc=s.acc+1/\s1.aG=s.aG/\s1.size<=s.size+1/\Tc i s1 (u.step s).1/\(u.step s).2.rest=true/\(u.step s).2.Al Q (n-1) (j-i) (u.step s).1:=by
 cases u with
 |ret a=>cases he
 |load c k=>
  obtain⟨i,a,b,d,e⟩:=Al.head h.2
  exact⟨h.1,i,(s.load c).1,a,rfl,rfl,Nat.le_of_eq (St.Bi s c).1,b,d,e⟩
 |cH c o v k=>
  obtain⟨i,a,b,d,e⟩:=Al.head h.2
  exact⟨h.1,i,(s.cH c o v).1,a,rfl,rfl,Nat.le_of_eq (St.zX s c o v).1,b,d,e⟩
 |_=>cases hr
theorem Al.run:∀(n j:Nat) (u:I α) (s:St),u.Al Q n j s->u.rest=true->∃z,z<=n/\(∀i,i<=z->Grown j n s (alone s u i).1)/\(∀i,i<z->(alone s u i).2.ended.isSome=false)/\∃r,(alone s u z).2=.ret r/\Q r (alone s u z).1/\(alone s u z).1.acc=s.acc+z:=by
 intro n
 induction n with
 |zero=>
  intro j u s h hr
  cases u with
  |ret a=>exact⟨0,aW _,λi hi=>by
    obtain rfl:i=0:=by omega
    exact⟨Nat.le_add_right ..,aW _,by show s.size<=_;omega,id⟩,λi hi=>absurd hi (Nat.not_lt_zero i),a,rfl,h,rfl⟩
  |load c k=>exact absurd h.1 (Nat.lt_irrefl 0)
  |cH c o v k=>exact absurd h.1 (Nat.lt_irrefl 0)
  |_=>cases hr
 |succ n ih=>
  intro j u s h hr
  cases he:u.ended with
  |some a=>
   cases u with
   |ret a=>exact⟨0,bZ _,λi hi=>by
     obtain rfl:i=0:=by omega
     exact⟨Nat.le_add_right ..,aW _,by show s.size<=_;omega,id⟩,λi hi=>absurd hi (Nat.not_lt_zero i),a,rfl,h,rfl⟩
   |_=>cases he
  |none=>
   obtain⟨_,i,s1,hi,ha,hs,hz,hG,N1,h'⟩:=Wg h hr he
   obtain⟨z,hzn,hg,Hw,r,e1,e2,e3⟩:=ih (j-i) _ _ h' N1
   have hf1:cL s->cL s1:=λhf=>by unfold cL;rw[hs];exact hf
   refine⟨z+1,by omega,λk hk=>?_,λk hk=>?_,r,by rw[qL];exact e1,by rw[qL];exact e2,by rw[qL,e3,hG.acc,ha];omega⟩
   ·cases k with
    |zero=>exact⟨Nat.le_add_right ..,aW _,by show s.size<=_;omega,id⟩
    |succ k=>
     have q:=hg k (by omega)
     rw[qL]
     have a1:=q.nodes;have a2:=q.more;have a3:=q.size;have b1:=hG.nodes;have b2:=hG.more;have b3:=hG.size
     rw[hs]at b1 b2
     exact⟨by omega,by omega,by omega,λhf=>q.fit (hG.fit (hf1 hf))⟩
   ·cases k with
    |zero=>show u.ended.isSome=false;rw[he];rfl
    |succ k=>rw[qL];exact Hw k (by omega)
theorem aDp{t:aX}{s:St}(n:Nat)(hT:Tw g s)(hk:Tk g t)(eR:t.readOnly=false):(Zi t (n+1)).Al (λ_ _=>True) 31 6 s:=by
 have ht:=hk.root eR
 exact FX (n:=16) (j:=5) hT hk λg1 s1 r h1 cY hr q1=>yH (n:=6) (j:=4) cY (hk.ge h1) hr λg2 s2 m h2 gO hm q2 hR _=>by
  obtain⟨tB,e3,h3,_,_⟩:=gS gO (n:={kind:=3}) (i:=0) (b:=(0,0)) (Hl (by decide) (by decide)) ⟨(λh=>by cases h),(λ_=>.inl rfl),λh=>by cases h⟩
  refine Hx (j:=3) (λ_=>iS _) ?_
  rw[e3]
  have hF:Fx g2 t s2 r m:=⟨hr.ge h2,hm.m,aB4 hR hr q1,q2,LU gO hm⟩
  have ht2:=(h1.trans h2).dZ ht
  exact aB5 (n:=0) (j:=0) tB (h3.dZ ht2) eR (fW gO.gw rfl) (hF.alloc gO ht2 h3) λg' s' _ _ _ _=>trivial
theorem QZ{Q:Result->St->Prop}{s:St}{m:Int}(hT:Tw g s)(hm:mZ g m (0,0))(H:∀r s',s'.acc=s.acc->s'.aG.length=s.aG.length+1->Q r s'):(wJ m).Al Q 0 3 s:=by
 obtain⟨tB,e3,h3⟩:=aEn hT
 refine alG (j:=2) ?_
 rw[e3]
 have hN:bT g.bL {kind:=2,gen:=(g.gen:Int)+1} (0,0):=nU (by omega) (by show _<=((_+1:Nat):Int);omega) (by decide)
 obtain⟨TW,e4,h4,a4,l4⟩:=gS tB (i:=m) hN ⟨λ_=>hm.ge h3,(λh=>by cases h),λh=>by cases h⟩
 refine Hx (j:=1) (λ_=>bP _ 2 _ 0 0 0) (alC (j:=0) ?_)
 exact H _ _ a4 l4
theorem T2{t:aX}{s:St}(fz:Bool)(n:Nat)(hT:Tw g s)(hk:Tk g t)(eR:t.readOnly=false):(Ey t (λr m=>bif fz then Eu r else wJ m) (n+1)).Al (λ_ _=>True) 31 8 s:=by
 have ht:=hk.root eR
 refine FX (n:=16) (j:=7) hT hk λg1 s1 r h1 cY hr q1=>yH (n:=6) (j:=6) cY (hk.ge h1) hr λg2 s2 m h2 gO hm q2 hR _=>?_
 refine aB5 (n:=0) (j:=3) gO ((h1.trans h2).dZ ht) eR hm.m ⟨hr.ge h2,hm.m,aB4 hR hr q1,q2,LU gO hm⟩ λg' s' h3 tB _ _=>?_
 cases fz with
 |true=>exact alC (j:=2) trivial
 |false=>exact QZ tB (hm.m.ge h3) λ_ _ _ _=>trivial
theorem aAy{t:aX}{s:St}(fz:Bool)(n:Nat)(hT:Tw g s)(hk:Tk g t):(bif fz then Ag t (n+1)else sZ t (n+1)).Al (λ_ _=>True) 31 8 s:=by
 cases eR:t.readOnly with
 |false=>
  have:=T2 fz n hT hk eR
  cases fz with
  |true=>unfold Ag;rw[eR];exact this
  |false=>unfold sZ;rw[eR];exact this
 |true=>
  obtain⟨g1,h1,cY,hv⟩:=hT.val (hk.fixed eR)
  have hv:fH g1 (rd s t.root) (0,0):=hv
  cases fz with
  |true=>unfold Ag;rw[eR];exact Nm (n:=30) (alC (j:=7) trivial)
  |false=>
   unfold sZ;rw[eR]
   exact Nm (n:=30) (yH (n:=20) (j:=7) cY (hk.ge h1) hv λg2 s2 m h2 gO hm _ _ _=>Al.mono (QZ gO hm.m λ_ _ _ _=>trivial) (by omega) (by omega))
end Go.Ct
end
section
namespace Go.Ct
variable{α:Type}{g:Ga}
theorem Ls.sF[Qc α]{c:Int}{k:Int->I α}(h:Ls (.load c k) g):∃τ,g.dZ c=some τ:=by
 obtain⟨u,h⟩:=h
 generalize hx:I.load c k=t at h
 induction h with
 |nr hr h ih=>exact ih hx
 |load σ h1 h2=>injection hx with e1 e2;subst e1;exact⟨σ,h1⟩
 |_=>cases hx
theorem Ls.Bo[Qc α]{c o x:Int}{k:Bool->I α}(h:Ls (.cH c o x k) g):∃τ,g.dZ c=some τ:=by
 obtain⟨u,h⟩:=h
 generalize hx:I.cH c o x k=t at h
 induction h with
 |nr hr h ih=>exact ih hx
 |cH σ h1 h2 h3=>injection hx with e1 e2;subst e1;exact⟨σ,h1⟩
 |_=>cases hx
theorem Ls.aIs[Qc α]{i:Int}{k:Int->I α}(h:Ls (.cell i k) g)(hw:GW g):∃τ,(τ=.root\/τ=.fixed)/\fH g i (0,0)/\Ls (k (g.ty.length+1)) (g.cell τ i):=by
 obtain⟨u,h⟩:=h
 generalize hx:I.cell i k=t at h
 induction h with
 |nr hr h ih=>exact ih hw hx
 |cell σ h1 h2 h3=>injection hx with e1 e2;subst e1 e2;exact⟨σ,h1,h2,_,h3 (Ga.uP hw σ _) (Mw hw σ _)⟩
 |_=>cases hx
theorem Ls.aNm[Qc α]{k:Int->I α}(h:Ls (.gen k) g)(hw:GW g):Ls (k (g.gen+1)) g.bL:=by
 obtain⟨u,h⟩:=h
 generalize hx:I.gen k=t at h
 induction h with
 |nr hr h ih=>exact ih hw hx
 |gen h3=>injection hx with e1;subst e1;exact⟨_,h3 (Ga.uX hw) (BE hw)⟩
 |_=>cases hx
def hN:Nat:=2000
def hJ:Nat:=500
inductive Hb:Ga->I Result->Nat->Nat->Prop
 |ret {g:Ga} {r:Result} {n j:Nat}:Hb g (.ret r) n j
 |load {g:Ga} {c:Int} {k:Int->I Result} {n j:Nat}:(∀τ g' v,g.dZ c=some τ->Ge g g'->GW g'->I2 g' c v τ->Ls (k v) g'->Hb g' (k v) n j)->Hb g (.load c k) (n+1) j
 |cH {g:Ga} {c o x:Int} {k:Bool->I Result} {n j:Nat}:(∀τ g' b,g.dZ c=some τ->ZE g c o x τ->Ge g g'->GW g'->((∃b,τ=.prev b)->o=g.first c->g'.dec c)->Ls (k b) g'->Hb g' (k b) n j)->Hb g (.cH c o x k) (n+1) j
 |alloc {g:Ga} {a:Node} {i:Int} {k:Int->I Result} {n j:Nat}:(∀s b,bT g a b->Tw g s->cL s->a.Fit (s.aG.length+1))->(∀b,bT g a b->oD g a i b->GW g->Ls (k (g.nodes.length+3)) (g.alloc a i b)->Hb (g.alloc a i b) (k (g.nodes.length+3)) n j)->Hb g (.alloc a i k) n (j+1)
 |cell {g:Ga} {i:Int} {k:Int->I Result} {n j:Nat}:(∀τ,(τ=.root\/τ=.fixed)->fH g i (0,0)->GW g->Ls (k (g.ty.length+1)) (g.cell τ i)->Hb (g.cell τ i) (k (g.ty.length+1)) n j)->Hb g (.cell i k) n (j+1)
 |gen {g:Ga} {k:Int->I Result} {n j:Nat}:(GW g->Ls (k (g.gen+1)) g.bL->Hb g.bL (k (g.gen+1)) n j)->Hb g (.gen k) n (j+1)
 |node {g:Ga} {r:Int} {k:Node->I Result} {n j:Nat}:Hb g (k (g.node r)) n j->Hb g (.node r k) n j
 |stop {g:Ga} {t:I Result} {n j:Nat}:(∀g' s,Ge g g'->Tw g' s->t.Al pS 1775 1000 s)->(∀g',Ge g g'->GW g'->Hb g' t hN hJ)->Hb g t n j
theorem Hb.mono{g:Ga}{t:I Result}{n j n' j':Nat}(h:Hb g t n j)(hn:n<=n')(hj:j<=j'):Hb g t n' j':=by
 induction h generalizing n' j' with
 |ret=>exact .ret
 |load H ih=>
  obtain⟨n',rfl⟩:∃m,n'=m+1:=⟨n'-1,by omega⟩
  exact .load λτ g' v a b c d e=>ih τ g' v a b c d e (by omega) hj
 |cH H ih=>
  obtain⟨n',rfl⟩:∃m,n'=m+1:=⟨n'-1,by omega⟩
  exact .cH λτ g' v a b c d e f=>ih τ g' v a b c d e f (by omega) hj
 |alloc hf H ih=>
  obtain⟨j',rfl⟩:∃m,j'=m+1:=⟨j'-1,by omega⟩
  exact .alloc hf λb x y z w=>ih b x y z w hn (by omega)
 |cell H ih=>
  obtain⟨j',rfl⟩:∃m,j'=m+1:=⟨j'-1,by omega⟩
  exact .cell λτ x y z w=>ih τ x y z w hn (by omega)
 |gen H ih=>
  obtain⟨j',rfl⟩:∃m,j'=m+1:=⟨j'-1,by omega⟩
  exact .gen λx y=>ih x y hn (by omega)
 |node H ih=>exact .node (ih hn hj)
 |stop h1 h2 ih=>exact .stop h1 h2
theorem Hb.al{g:Ga}{t:I Result}{n j:Nat}(h:Hb g t n j):∀s,Tw g s->Ls t g->t.Al pS (n+1775) (j+1000) s:=by
 induction h with
 |ret=>exact λ_ _ _=>trivial
 |@load g c k n j H ih=>
  intro s hT hL
  obtain⟨τ,hc⟩:=hL.sF
  obtain⟨g1,h1,cY,hv⟩:=hT.val hc
  have Hy:=hL.load hc h1 cY.gw hv
  rw[show n+1+1775=(n+1775)+1 by omega]
  exact Nm (ih τ g1 _ hc h1 cY.gw hv Hy _ cY Hy)
 |@cH g c o x k n j H ih=>
  intro s hT hL
  obtain⟨τ,hc⟩:=hL.Bo
  obtain⟨hm,sR⟩:=hL.cH hc
  obtain⟨g1,a,b,hd,d⟩:=hT.gC.cH hT.gw (o:=o) hc hm
  have Hy:=sR g1 a b hd (s.cH c o x).2
  rw[show n+1+1775=(n+1775)+1 by omega]
  exact WE (ih τ g1 _ hc hm a b hd Hy _ ⟨b,d⟩ Hy)
 |@alloc g a i k n j hf H ih=>
  intro s hT hL
  obtain⟨b,hN,hJ,Hy⟩:=Ls.alloc hL hT.gw
  obtain⟨cY,e1,h1,_,_⟩:=gS hT hN hJ
  rw[show j+1+1000=(j+1000)+1 by omega]
  refine Hx (hf s b hN hT) ?_
  rw[e1]
  exact ih b hN hJ hT.gw Hy _ cY Hy
 |@cell g i k n j H ih=>
  intro s hT hL
  obtain⟨τ,hτ,hi,Hy⟩:=hL.aIs hT.gw
  obtain⟨t1,e1⟩:=hT.gC.cell hT.gw hτ hi
  rw[show j+1+1000=(j+1000)+1 by omega]
  refine alC ?_
  rw[e1]
  exact ih τ hτ hi hT.gw Hy _ ⟨Mw hT.gw τ i,t1⟩ Hy
 |@gen g k n j H ih=>
  intro s hT hL
  have Hy:=hL.aNm hT.gw
  obtain⟨cY,e1,h1⟩:=aEn hT
  rw[show j+1+1000=(j+1000)+1 by omega]
  refine alG ?_
  rw[e1]
  exact ih hT.gw Hy _ cY Hy
 |@node g r k n j H ih=>
  intro s hT hL
  exact nT (hT.gC.node r) (ih _ hT (Ls.node hL))
 |@stop g t n j h1 h2 ih=>
  intro s hT hL
  exact Al.mono (h1 g s (Ge.refl hT.gw) hT) (by omega) (by omega)
end Go.Ct
end
section
namespace Go.Ct
variable{g:Ga}
abbrev HZ(g:Ga)(b:eC)(k:Int->I Result)(n j:Nat):Prop:=∀g' m,Ge g g'->GW g'->rU g' m b->Ls (k m) g'->Hb g' (k m) n j
abbrev HI(g:Ga)(k:Int->I Result)(n j:Nat):Prop:=∀g' r,Ge g g'->GW g'->fH g' r (0,0)->Ls (k r) g'->Hb g' (k r) n j
abbrev HB(g:Ga)(k:Bool->I Result)(n j:Nat):Prop:=∀g' (ok:Bool),Ge g g'->GW g'->Ls (k ok) g'->Hb g' (k ok) n j
theorem HZ.ge{b:eC}{k:Int->I Result}{n j:Nat}{g':Ga}(h:HZ g b k n j)(hg:Ge g g'):HZ g' b k n j:=λg2 m a=>h g2 m (hg.trans a)
theorem HI.ge{k:Int->I Result}{n j:Nat}{g':Ga}(h:HI g k n j)(hg:Ge g g'):HI g' k n j:=λg2 m a=>h g2 m (hg.trans a)
theorem HB.ge{k:Bool->I Result}{n j:Nat}{g':Ga}(h:HB g k n j)(hg:Ge g g'):HB g' k n j:=λg2 m a=>h g2 m (hg.trans a)
end Go.Ct
end
section
namespace Go.Ct
variable{g:Ga}{c:Call}
abbrev Hg(g:Ga)(again:I Result):Prop:=∀g',Ge g g'->GW g'->∀n j,Hb g' again n j
theorem Hg.ge{again:I Result}{g':Ga}(h:Hg g again)(hg:Ge g g'):Hg g' again:=λg2 a=>h g2 (hg.trans a)
end Go.Ct
end
section
namespace Go.Ct
variable{g:Ga}{c:Call}
section
variable(eR:c.aF.readOnly=false)(kP:c.key.size<=64)
include eR kP
end
section
variable(eR:c.aF.readOnly=false)
include eR
end
end Go.Ct
end
section
namespace Go.Ct
variable{g:Ga}
theorem Sh.rest{u u':I Result}(h:Sh u u' g):u.rest=true:=by cases h<;>rfl
theorem Sh.ls{u u':I Result}(h:Sh u u' g):Ls u g:=by
 cases h with
 |ret a g hq=>exact⟨_,.ret a _ hq⟩
 |load τ h1 h2=>exact⟨_,.load τ h1 h2⟩
 |cH τ h1 hm h2=>exact⟨_,.cH τ h1 hm h2⟩
def WG(g:Ga)(u:I Result):Prop:=∃n j,n<=hN/\j<=hJ/\Hb g u n j
theorem Hb.NJ{k:Int->I Result}{n j:Nat}(h:Hb g (.gen k) n j)(hw:GW g)(hn:n<=hN)(hj:j<=hJ)(hL:Ls (k (g.gen+1)) g.bL):WG g.bL (k (g.gen+1)):=by
 generalize hx:I.gen k=t at h
 induction h with
 |gen H _=>injection hx with e1;subst e1;exact⟨_,_,hn,by omega,H hw hL⟩
 |stop _ _ ih=>exact ih _ (Ge.refl hw) hw hw (aW _) (aW _) hL hx
 |_=>cases hx
theorem WG.ge{u:I Result}{g':Ga}(h:WG g u)(hr:u.rest=true)(hL:Ls u g)(hw:GW g)(hg:Ge g g')(lD:GW g'):WG g' u:=by
 obtain⟨n,j,hn,hj,h⟩:=h
 cases h with
 |ret=>exact⟨n,j,hn,hj,.ret⟩
 |load H=>
  refine⟨_,j,hn,hj,.load λτ g2 v hc a b d e=>?_⟩
  obtain⟨σ,hs⟩:=hL.sF
  obtain rfl:=Lx ((hg.dZ hs).symm.trans hc)
  exact H σ g2 v hs (hg.trans a) b d e
 |cH H=>
  refine⟨_,j,hn,hj,.cH λτ g2 v hc hm a b d e=>?_⟩
  obtain⟨σ,hs⟩:=hL.Bo
  obtain rfl:=Lx ((hg.dZ hs).symm.trans hc)
  exact H σ g2 v hs (hL.cH hs).1 (hg.trans a) b (λx y=>d x (by rw[hg.first hw hs];exact y)) e
 |alloc _ _=>cases hr
 |cell _=>cases hr
 |gen _=>cases hr
 |node _=>cases hr
 |stop h1 h2=>exact⟨hN,hJ,aW _,aW _,h2 g' hg lD⟩
theorem WG.al{u:I Result}{s:St}(h:WG g u)(hT:Tw g s)(hL:Ls u g):u.Al pS 3775 1500 s:=by
 obtain⟨n,j,hn,hj,h⟩:=h
 exact Al.mono (h.al s hT hL) (by unfold hN at hn;omega) (by unfold hJ at hj;omega)
end Go.Ct
end
section
namespace Go.Ct
variable{g:Ga}
structure Mc(g:Ga)(S0 i:Nat)(x:X):Prop where
 ex:∃g' u u',Ge g g'/\GW g'/\oS g' x.s/\cL x.s/\Er g' x.e u u'
 eV:x.e.eV.length<=i
 size:x.s.size<=S0+x.wt
 wt:x.wt<=199*i+120
theorem Mc.mono{S0 i j:Nat}{x:X}(h:Mc g S0 i x)(hj:i<=j):Mc g S0 j x:=⟨h.ex,kR h.eV hj,h.size,by have:=h.wt;omega⟩
theorem Mc.call{S0 i:Nat}{x:X}(h:Mc g S0 i x):x.e.call.aI<18446744073709551616/\x.e.call.key.size<=9223372036854775807/\7<=x.e.call.kind/\(x.e.call.kind<=12\/x.e.call.kind<=12):=by
 obtain⟨g',u,u',_,_,_,_,hE⟩:=h.ex
 exact⟨hE.aI,hE.key,hE.ok.lo,hE.ok.hi⟩
theorem Mc.start{c:Call}{s:St}(hw:GW g)(ht:oS g s)(hf:cL s)(hc:nQ g c)(hm:c.aI<18446744073709551616)(hk:c.key.size<=9223372036854775807)(Tr:Ok 50 (cC (cA c FU) 0 ⟨{call:=c},s⟩)):
  Mc g s.size 0 (cC (cA c FU) 0 ⟨{call:=c},s⟩):=by
 obtain⟨g',u,u',_,h2,h3,h4,h5,h6,h7,h8,h9,_⟩:=Er.start hw ht hf hc hm hk Tr
 have hb:=Be (cA c FU) 0 ⟨{call:=c},s⟩
 have e1:(X.mk {call:=c} s).wt=0:=rfl
 have e2:(X.mk {call:=c} s).s.size=s.size:=rfl
 exact⟨⟨g',u,u',h2,h3,h4,h5,h6⟩,by rw[h7];exact aW _,by omega,by omega⟩
theorem Mc.ready{S0 i:Nat}{x:X}(h:Mc g S0 i x)(hs:S0+199*i+120<=room):Ok 60 (cE 1 x)/\(cE 1 x).left<FU:=by
 obtain⟨g',u,u',_,hw,ht,hf,hE⟩:=h.ex
 have h1:=h.size
 have h2:=h.wt
 exact hE.ready (s:=x.s) ht hf (by omega)
theorem Mc.step{S0 i:Nat}{x:X}(h:Mc g S0 i x)(hd:x.e.done=false)(hi:i<Jp)(Tr:Ok 50 (cC (cA x.e.call FU) 1 x)):Mc g S0 (i+1) (cC (cA x.e.call FU) 1 x):=by
 obtain⟨g',u,u',k,hw,ht,hf,hE⟩:=h.ex
 obtain⟨g2,v,v',_,k2,h2,h3,h4,h5,h6,h7,h8,hP⟩:=hE.step (s:=x.s) hw ht hf hd (Sc h.eV hi) Tr
 have hb:=Be (cA x.e.call FU) 1 x
 have hz:=h.size
 have hg:=h.eV
 exact⟨⟨g2,v,v',k.trans k2,h2,h3,h4,h5⟩,by rw[show (cC (cA x.e.call FU) 1 x).e.eV.length=x.e.eV.length+1 from h6];omega,by omega,kR h8 (by omega)⟩
def AW:Nat:=20000
def XE:Nat:=15
def EP(g:Ga)(u:I Result):Prop:=True
theorem EP.ge{u u':I Result}{g':Ga}(h:EP g u)(hs:Sh u u' g)(hw:GW g)(hg:Ge g g')(lD:GW g'):EP g' u:=trivial
theorem EP.step{u v:I Result}{g':Ga}(h:EP g u)(hP:∀P:Ga->I Result->Prop,Her P->P g u->P g' v):EP g' v:=trivial
theorem EP.start{c:Call}{u:I Result}{g':Ga}(hw:GW g)(hc:nQ g c)(h12:c.kind<=12)(hP:∀P:Ga->I Result->Prop,Her P->P g (jC c FU)->P g' u):EP g' u:=trivial
def NS(zs:List (Nat×Ex))(b:Nat)(e:Ex):List (Nat×Ex):=if e.done=true then zs else zs++[(b,e)]
def Qm(ts:List aX)(e:Ex):List aX:=if e.done=true/\0<e.result.aF.root/\ts.length<5 then ts++[e.result.aF]else ts
structure Mx(k:Nat)(g:Ga)(s:St)(ts:List aX)(zs:List (Nat×Ex)):Prop where
 gw:GW g
 gC:oS g s
 fit:cL s
 SX:∀t∈ts,Tk g t
 first:(ts.getD 0 {}).readOnly=false
 some:0<ts.length
 NM:ts.length<=5
 ex:∀z∈zs,z.2.eV.length<=XE+k/\∃u u',Er g z.2 u u'/\EP g u
 xT:zs.length<=k
 small:s.size<=AW*(k+1)
theorem Mx.size{k:Nat}{s:St}{ts:List aX}{zs:List (Nat×Ex)}(h:Mx k g s ts zs):s.size<=1000000000*(k+1):=by have:=h.small;unfold AW at this;omega
theorem Y0:XE<=1048576:=by decide
theorem Mx.ready{k i:Nat}{s:St}{ts:List aX}{zs:List (Nat×Ex)}(h:Mx k g s ts zs)(hk:k<=40){z:Nat×Ex}(hz:z∈zs):Ok 60 (cE 1 ⟨z.2,s⟩)/\(cE 1 ⟨z.2,s⟩).left<FU/\z.2.call.aI<18446744073709551616/\z.2.call.key.size<=9223372036854775807/\7<=z.2.call.kind/\(z.2.call.kind<=12\/z.2.call.kind<=12):=by
 obtain⟨h1,u,u',hE,_⟩:=h.ex z hz
 have hs:=h.size
 obtain⟨a,b⟩:=hE.ready h.gC h.fit (by unfold room;omega)
 exact⟨a,b,hE.aI,hE.key,hE.ok.lo,hE.ok.hi⟩
theorem Mx.step{k i:Nat}{s:St}{ts:List aX}{zs:List (Nat×Ex)}(h:Mx k g s ts zs)(hk:k<=40)(hi:i<zs.length)(hd:zs[i].2.done=false)(Tr:Ok 50 (cC (cA zs[i].2.call FU) 1 ⟨zs[i].2,s⟩)):
  ∃g',Mx (k+1) g' (cC (cA zs[i].2.call FU) 1 ⟨zs[i].2,s⟩).s ts (zs.set i (zs[i].1,(cC (cA zs[i].2.call FU) 1 ⟨zs[i].2,s⟩).e)):=by
 obtain⟨h1,u,u',hE,hS⟩:=h.ex _ (uY hi)
 obtain⟨g2,v,v',_,k2,h2,h3,h4,h5,h6,h7,h8,hP⟩:=hE.step h.gw h.gC h.fit hd (by have:=Y0;unfold Jp;omega) Tr
 have hs:=h.small
 refine⟨g2,h2,h3,h4,λt m=>(h.SX t m).ge k2,h.first,h.some,h.NM,?_,?_,?_⟩
 ·intro z m
  rcases List.mem_or_eq_of_mem_set m with m|rfl
  ·obtain⟨a,w,w',b,d⟩:=h.ex z m
   exact⟨by omega,w,w',b.ge h.gw k2,d.ge b.sh h.gw k2 h2⟩
  ·exact⟨by show (cC (cA zs[i].2.call FU) 1 ⟨zs[i].2,s⟩).e.eV.length<=_;omega,v,v',h5,hS.step hP⟩
 ·rw[tS];have:=h.xT;omega
 ·unfold AW XE at *;omega
theorem Mx.mono{k j:Nat}{s:St}{ts:List aX}{zs:List (Nat×Ex)}(h:Mx k g s ts zs)(hj:k<=j):Mx j g s ts zs:=
 ⟨h.gw,h.gC,h.fit,h.SX,h.first,h.some,h.NM,λz m=>⟨by have:=(h.ex z m).1;omega,(h.ex z m).2⟩,by have:=h.xT;omega,by have:=h.small;unfold AW at *;omega⟩
end Go.Ct
end
