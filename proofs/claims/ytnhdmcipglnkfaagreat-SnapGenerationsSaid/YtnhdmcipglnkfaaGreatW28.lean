/- Parts of a proof: Fi, Fd, Fk, Fl. -/
import Derived.Test.YtnhdmcipglnkfaaGreatW27
set_option linter.unusedVariables false
set_option linter.unusedSimpArgs false
set_option maxRecDepth 100000
set_option maxHeartbeats 4000000
section
namespace Go.Ct
variable{g:Ga}{c:Call}
theorem S3{s:St}{d o v:Int}(hc:s.cA d=true)(h:rd s d≠o):(s.eA d o v).2=false:=by
 show s.xU d o=false
 unfold St.xU
 rw[hc]
 have:s.cells.getD (d.toNat-1) 0=rd s d:=by unfold rd St.load;dsimp only;rw[if_pos hc]
 rw[this];simpa using h
theorem Z9{t:bC}{s:St}{b:fV}{i o n:Int}{N j:Nat}{k:Bool->I Result}(hT:Tw g s)(hk:Tk g t)(hi:jV g i b)(hn:oH g n b)(H:∀g' s' ok,Ge g g'->Tw g' s'->(k ok).Al oS N j s'):(swapT t i o n k).Al oS (N+10) (j+1) s:=by
 have hc:=hT.gw.MO hi
 obtain⟨g1,h1,hT1⟩:=hT.eA (o:=o) (n:=n) hc hn
 refine oW (hT.PI.node i) (XB (n:=N+9) ?_)
 by_cases hq:rd s (g.node i).main=o
 ·have c1:=oP (v:=n) (hT.has hc) hq
  rw[c1.2]
  exact UU (n:=N) (j:=j) (k:=λm=>k (m==n)) hT1 (hk.ge h1) (hi.ge h1) (hn.ge h1) (by rw[h1.node hi.dU];exact c1.1) λg' s' m a b _ _ _ _=>H g' s' _ (h1.trans a) b
 ·rw[S3 (hT.has hc) hq]
  exact Al.mono (H g1 _ false h1 hT1) (by omega) (by omega)
theorem tU(n:Node)(l:Int)(x:Node)(h:n.aF=[]):(bQ n l x).aF=[]:=by
 unfold bQ;split
 ·rfl
 ·exact h
theorem Ed(n:Node)(i:Int):(bL n i).1.aF=[]:=by
 unfold bL;repeat' split
 all_goals rfl
theorem AR(n:Node):(aT n).1.aF=[]:=by unfold aT;split<;>rfl
theorem W5{t:bC}{s:St}{pa i:Int}{h l N j:Nat}{b b2:fV}{k:Bool->I Result}(hT:Tw g s)(hk:Tk g t)(hp:jV g pa b)(hi:jV g i b2)(hL:Ls (qW t pa i h l k) g)(H:∀g' s' ok,Ge g g'->Tw g' s'->(k ok).Al oS N j s'):(qW t pa i h l k).Al oS (N+30) (j+5) s:=by
 refine Au (n:=N+20) (j:=j+4) hT hk hp λg1 s1 m h1 hT1 hz hm _ _=>?_
 have hL1:=Ls.node (Ls.read hL hT.gw hp h1 hT1.gw hz)
 refine oW (hT1.PI.node m) ?_
 cases hl1:(aB (g1.node m) (slice h l)).2 with
 |false=>exact Al.mono (H g1 s1 false h1 hT1) (by omega) (by omega)
 |true=>
  rw[hl1]at hL1
  cases hl2:(aB (g1.node m) (slice h l)).1 != i with
  |true=>exact Al.mono (H g1 s1 false h1 hT1) (by omega) (by omega)
  |false=>
   rw[hl2]at hL1
   refine Au (n:=N+10) (j:=j+3) hT1 (hk.ge h1) (hi.ge h1) λg2 s2 q h2 hT2 hz2 hm2 _ _=>?_
   have hL2:=Ls.node (Ls.read hL1 hT1.gw (hi.ge h1) h2 hT2.gw hz2)
   have a2:=h1.trans h2
   refine oW (hT2.PI.node q) ?_
   cases hu:(aT (g2.node q)).2 with
   |false=>exact Al.mono (H g2 s2 false a2 hT2) (by omega) (by omega)
   |true=>
    rw[hu]at hL2
    have hL2:=Ls.node hL2
    refine oW (hT2.PI.node m) ?_
    obtain⟨b3,hN,hJ,hL3⟩:=Ls.alloc hL2 hT2.gw
    obtain⟨hT3,e3,h3,_,_⟩:=kU hT2 hN hJ
    refine Yw (j:=j+2) (λ_=>hN.fD (by rw[AR];exact dF _)) ?_
    rw[e3]
    have a3:=a2.trans h3
    cases hp2:(aP (g2.node m) (slice h l) ((g2.nodes.length:Int)+3)).2 with
    |false=>exact Al.mono (H _ _ false a3 hT3) (by omega) (by omega)
    |true=>
     rw[hp2]at hL3
     obtain⟨b4,hN4,hJ4,hL4⟩:=Ls.alloc hL3 hT3.gw
     obtain⟨hT4,e4,h4,_,_⟩:=kU hT3 hN4 hJ4
     refine Yw (j:=j+1) (λ_=>hN4.fD (by rw[tU _ _ _ (nO _ _ _)];exact dF _)) ?_
     rw[e4]
     have hpp:=(hp.ge a3).ge h4
     obtain⟨hM,_⟩:=hL4.swap hT4.gw hpp
     exact Z9 hT4 ((hk.ge a3).ge h4) hpp hM λg' s' ok a b=>H g' s' ok ((a3.trans h4).trans a) b
theorem upA{path:List Int}{h v:Nat}:∀(l:Nat) (g:Ga) (s:St),l<=11->Tw g s->Tk g c.aE->(∀j,j<=l->jV g (path.getD j 0) (j,h%64^j))->(YV c path h v l).Al oS (40*l) (6*l) s
 |0,g,s,hl,hT,hk,hp=>trivial
 |l+1,g,s,hl,hT,hk,hp=>by
  have hL:Ls (YV c path h v (l+1)) g:=⟨_,UP (K':=λ_=>.ret (dL true v)) (l+1) g hT.gw hk hl hp λg' _ _=>.ret _ _ (q0 rfl)⟩
  have hi:=hp (l+1) (JV _)
  show (mM c.aE (path.getD (l+1) 0) _).Al oS (40*l+30+10) (6*l+5+1) s
  refine Au hT hk hi λg1 s1 m h1 hT1 hz hm _ _=>?_
  have hL1:=Ls.node (Ls.read (show Ls (mM c.aE (path.getD (l+1) 0) _) g from hL) hT.gw hi h1 hT1.gw hz)
  refine oW (hT1.PI.node m) ?_
  cases hq:(g1.node m).kind != 5 with
  |true=>exact trivial
  |false=>
   rw[hq]at hL1
   simp only[pJ]at hL1 ⊢
   exact W5 hT1 (hk.ge h1) ((hp l (by omega)).ge h1) (hi.ge h1) hL1 λg' s' ok a b=>upA l g' s' (by omega) b (hk.ge (h1.trans a)) λj hj=>(hp j (by omega)).ge (h1.trans a)
structure Pz(g:Ga)(path:List Int)(h l:Nat)(pa i:Int):Prop where
 p:Path g path h l
 ii:path.getD l 0=i
 a:1<=l->path.getD (l-1) 0=pa
theorem Pz.ge{g':Ga}{path:List Int}{h l:Nat}{pa i:Int}(hp:Pz g path h l pa i)(hg:Ge g g'):Pz g' path h l pa i:=⟨hp.p.ge hg,hp.ii,hp.a⟩
theorem Pz.snoc{path:List Int}{h l:Nat}{pa i x:Int}(hp:Pz g path h l pa i)(hx:jV g x (l+1,h%64^(l+1))):Pz g (path++[x]) h (l+1) i x:=by
 refine⟨hp.p.snoc hx,?_,λ_=>?_⟩
 ·rw[dI,tW (by rw[hp.p.1];exact JV _),hp.p.1];simp
 ·rw[OG,dI,xD (by rw[hp.p.1];omega),<- dI];exact hp.ii
def Vd(c:Call)(h:Nat)(gen:Int)(again:I Result)(k:Nat)(path:List Int)(i:Int)(level:Nat)(m:Int):I Result:=.node m λn=>
  bif n.kind==5 then qW c.aE (bif decide (0<level)then path.getD (level-1) 0 else 0) i h ((level:Int)-1) λ_=>again
  else bif n.kind==6 then vA c again path h i m n
  else bif n.kind==3 then
   bif !(aB n (slice h level)).2 then .ret {}else .node (aB n (slice h level)).1 λx=>
    bif x.kind==4 then Pp c again path h i m n level x
    else bif x.gen != gen then pD c.aE i m (slice h level) λb=>bif b==0 then again else pM c h gen again k (path++[b]) b (level+1)
    else pM c h gen again k (path++[(aB n (slice h level)).1]) (aB n (slice h level)).1 (level+1)
  else .ret {}
theorem nK(c:Call)(h:Nat)(gen:Int)(again:I Result)(k:Nat)(path:List Int)(i:Int)(level:Nat):pM c h gen again (k+1) path i level=mM c.aE i (Vd c h gen again k path i level):=rfl
theorem YA(hro:c.aE.readOnly=false){s:St}{r pa i:Int}{l:Nat}{path:List Int}(hw:GW g)(ht:Tk g c.aE)(w:Wf g s c.aE (aH c.key c.aI) r l pa i)(hp:Pz g path (aH c.key c.aI) l pa i)(k n kk:Nat):Ls (pM c (aH c.key c.aI) (g.node r).gen (yQ c kk n) k path i l) g:=by
 obtain⟨a1,a2⟩:=ZH hw w.rt
 exact⟨_,Bd (K:=λ|some r=>.ret r|none=>pE c kk n) hro a1 k l path i g hw ht hp.p hp.ii a2 ⟨λg' h' hw' r hr=>.ret _ _ (q0 hr),λg' h' hw'=>Bg hro n g' hw' (ht.ge h')⟩⟩
theorem NL{again:I Result}{s:St}{b:fV}{r i m pa:Int}{n:Node}{v h l:Nat}{path:List Int}(hT:Tw g s)(hk:Tk g c.aE)(hro:c.aE.readOnly=false)(hA:At g s c.aE b r i m)(hp:Pz g path h l pa i)(hl:l<=11)(hL:Ls (wM c again path h i m n v) g)(hf:∀b,cJ g n b->eK s->n.Fit (s.aG.length+1)):(wM c again path h i m n v).Al oS (40*l+5) (6*l+1) s:=by
 have hL:Ls (I.alloc n m λx=>swapT c.aE i m x λok=>bif !ok then again else YV c path h v (path.length-1)) g:=hL
 obtain⟨b2,hN,hJ,hL2⟩:=hL.alloc hT.gw
 have h1:=Ga.rM hT.gw n m b2
 obtain⟨hM,_⟩:=hL2.swap (eX hT.gw hN hJ) (hA.ii.ge h1)
 refine S1 (N:=40*l) (j:=6*l) (k:=λok=>bif !ok then again else YV c path h v (path.length-1)) hT hk hro hA hN hJ hM (hf b2 hN) λg' s' a hT' _ _ _ _=>?_
 show (YV c path h v (path.length-1)).Al oS _ _ s'
 rw[hp.p.1,OG]
 exact upA l g' s' hl hT' (hk.ge (h1.trans a)) λj hj=>(hp.p.2 j hj).ge (h1.trans a)
def TD(c:Call)(l:Nat):Prop:=∀(g:Ga) (s:St) (r pa i m:Int) (kk n:Nat),Tw g s->Tk g c.aE->Wy g s c.aE (aH c.key c.aI) r l pa i->rd s (g.node i).main=m->tS g m (l,aH c.key c.aI%64^l)->Stop g (aH c.key c.aI) l m->12<=kk->(yQ c kk n).Al oS (110*(l+1)) (20*(l+1)) s
theorem X8{s:St}{r pa i:Int}{l n kk N j:Nat}(hT:Tw g s)(hk:Tk g c.aE)(w:Wy g s c.aE (aH c.key c.aI) r l pa i)(hl:l<=kk)(P:∀g' s' path,Ge g g'->Tw g' s'->Mc g s s'->Pz g' path (aH c.key c.aI) l pa i->(pM c (aH c.key c.aI) (g.node r).gen (yQ c kk n) (kk-l) path i l).Al oS N j s'):
  ∀g' s',Ge g g'->Tw g' s'->Mc g s s'->(pM c (aH c.key c.aI) (g.node r).gen (yQ c kk n) kk [r] r 0).Al oS (N+2*l) j s':=by
 induction w generalizing N with
 |root hi hr=>
  intro g' s' a b d
  exact P g' s' [r] a b d ⟨⟨rfl,λj hj=>by(obtain rfl:j=0:=Nat.le_zero.1 hj);exact hi.ge a⟩,rfl,λh=>absurd h (by omega)⟩
 |@step l pa i m x w hm hz hb hx hI hgen ih=>
  have wf:=w.wf
  have hk3:=Ai hb
  intro g' s' a b d
  refine Al.mono (ih (N:=N+2) (by omega) (λg1 s1 path h1 hT1 hS1 hp=>?_) g' s' a b d) (by omega) (JV _)
  rw[show kk-l=(kk-(l+1))+1 by omega,nK]
  refine BC (b:=(l,aH c.key c.aI%64^l)) hT1 (wf.ii.ge h1) (hz.ge h1) (by rw[h1.node wf.ii.dU,hS1 _ _ (hT.gw.MO wf.ii)];exact hm) λg2 s2 h2 hT2 hS2=>?_
  have a2:=h1.trans h2
  refine oW (hT2.PI.node m) ?_
  rw[a2.node hz.dU]
  show (bif (g.node m).kind==5 then _ else bif (g.node m).kind==6 then _ else bif (g.node m).kind==3 then _ else _:I Result).Al oS N j s2
  rw[show ((g.node m).kind==5)=false by rw[hk3];rfl,show ((g.node m).kind==6)=false by rw[hk3];rfl,show ((g.node m).kind==3)=true by rw[hk3];rfl]
  simp only[xM,pJ]
  rw[hb,hx]
  show (I.node x _).Al oS N j s2
  refine oW (hT2.PI.node x) ?_
  rw[a2.node hI.dU,show ((g.node x).kind==4)=false by rw[hI.1];rfl,hgen,show ((g.node r).gen != (g.node r).gen)=false by simp]
  simp only[pJ]
  exact P g2 s2 (path++[x]) a2 hT2 (hS1.trans h1 hS2) ((hp.ge h2).snoc (hI.ge a2))
section
variable(hro:c.aE.readOnly=false)
include hro
theorem f9{s:St}{r pa i m:Int}{l n kk k:Nat}{path:List Int}(IH:∀l',l'<l->TD c l')(hT:Tw g s)(hk:Tk g c.aE)(w:Wy g s c.aE (aH c.key c.aI) r l pa i)(hp:Pz g path (aH c.key c.aI) l pa i)(hm:rd s (g.node i).main=m)(hz:tS g m (l,aH c.key c.aI%64^l))(hs:Stop g (aH c.key c.aI) l m)(hkk:12<=kk):
  (Vd c (aH c.key c.aI) (g.node r).gen (yQ c kk n) k path i l m).Al oS (110*l+20) (20*l+10) s:=by
 have wf:=w.wf
 have hA:=wf.at_ hz hm
 have h11:l<=11:=((hT.gw.YW wf.ii).i wf.ii.1).2
 have hL:Ls (Vd c (aH c.key c.aI) (g.node r).gen (yQ c kk n) k path i l m) g:=
  Ls.read (by have:=YA hro hT.gw hk wf hp (k+1) n kk;rw[nK]at this;exact this) hT.gw wf.ii (Ge.refl hT.gw) hT.gw hz
 have hL:=Ls.node hL
 refine oW (hT.PI.node m) ?_
 rcases sH hz.m with h3|h5|h6
 ·rw[show ((g.node m).kind==5)=false by rw[h3];rfl,show ((g.node m).kind==6)=false by rw[h3];rfl,show ((g.node m).kind==3)=true by rw[h3];rfl]at hL ⊢
  simp only[xM,pJ]at hL ⊢
  cases hb:(aB (g.node m) (slice (aH c.key c.aI) l)).2 with
  |false=>exact trivial
  |true=>
   rw[hb]at hL
   have hL:=Ls.node hL
   refine oW (hT.PI.node _) ?_
   have h4:=hs hb
   rw[show ((g.node (aB (g.node m) (slice (aH c.key c.aI) l)).1).kind==4)=true by rw[h4];rfl]at hL ⊢
   simp only[xM]at hL ⊢
   generalize g.node (aB (g.node m) (slice (aH c.key c.aI) l)).1=x at *
   unfold Pp at hL ⊢
   cases hq:bR x.key c.key with
   |false=>exact trivial
   |true=>
    rw[hq]at hL
    cases hq2:Qj c x.value with
    |false=>exact trivial
    |true=>
     rw[hq2]at hL
     simp only[zT,pJ]at hL ⊢
     cases hq3:(fF (bL (g.node m) (slice (aH c.key c.aI) l)).1).2 with
     |true=>
      rw[hq3]at hL
      simp only[xM]at hL ⊢
      have hL:=Ls.node hL
      refine oW (hT.PI.node _) (Al.mono (NL hT hk hro hA hp h11 hL λb hb _=>hb.fD (by rw[tU _ _ _ (Ed _ _)];exact dF _)) (by omega) (by omega))
     |false=>
      rw[hq3]at hL
      simp only[pJ]at hL ⊢
      exact Al.mono (NL hT hk hro hA hp h11 hL λb hb _=>hb.fD (by rw[tU _ _ _ (Ed _ _)];exact dF _)) (by omega) (by omega)
 ·have h1l:1<=l:=((hT.gw.ofM hz.m).t h5).1
  rw[show ((g.node m).kind==5)=true by rw[h5];rfl]
  show (qW c.aE (bif decide (0<l)then path.getD (l-1) 0 else 0) i (aH c.key c.aI) ((l:Int)-1) λ_=>yQ c kk n).Al oS _ _ s
  rw[show decide (0<l)=true from mI (by omega),xM,hp.a h1l]
  obtain⟨l',rfl⟩:∃l',l=l'+1:=⟨l-1,by omega⟩
  rw[Qf]
  cases w with
  |step w0 hpm hzp hlb hj hI hgen=>
   exact Al.mono (ZS (N:=110*(l'+1)) (j:=20*(l'+1)) hT hk hro w0 hpm hzp hlb hj hI hm hz h5 λg' s' x a b d e f i=>IH l' (by omega) g' s' r _ _ x kk n b (hk.ge a) d e f i hkk) (by omega) (by omega)
 ·rw[show ((g.node m).kind==5)=false by rw[h6];rfl,show ((g.node m).kind==6)=true by rw[h6];rfl]at hL ⊢
  simp only[xM,pJ]at hL ⊢
  unfold vA at hL ⊢
  cases hp1:(bB (g.node m).aF c.key).2 with
  |false=>exact trivial
  |true=>
   rw[hp1]at hL
   cases hp2:Qj c (bB (g.node m).aF c.key).1 with
   |false=>exact trivial
   |true=>
    rw[hp2]at hL
    cases hp3:(gC (g.node m) c.key).2 with
    |false=>exact trivial
    |true=>
     rw[hp3]at hL
     refine Al.mono (NL hT hk hro hA hp h11 hL λb _ hf=>?_) (by omega) (by omega)
     have:=hf.node m
     rw[hT.PI.node]at this
     exact(pH this _).mono (Nat.le_succ _)
theorem O8:∀l,TD c l:=by
 intro l
 induction l using Nat.strongRecOn with
 |ind l IH=>
  intro g s r pa i m kk n hT hk w hm hz hs hkk
  have wf:=w.wf
  cases n with
  |zero=>exact trivial
  |succ n=>
  have h11:l<=11:=((hT.gw.YW wf.ii).i wf.ii.1).2
  obtain⟨g1,h1,hT1,_⟩:=hT.val (hk.root hro)
  show (uO c.aE λr=>.node r λa=>pM c (aH c.key c.aI) a.gen (yQ c kk n) kk [r] r 0).Al oS (110*(l+1)) (20*(l+1)) s
  refine Al.mono (n:=(110*l+22)+2*l+1) (i:=20*l+10) (Vn (oW (hT1.PI.node _) ?_)) (by omega) (by omega)
  rw[wf.root,h1.node wf.rt.dU,wf.rt.1]
  refine oW (hT1.PI.node r) ?_
  have w1:=w.m6 (s':=(s.load c.aE.root).1) hT.gw h1 rfl (Et _ _)
  refine X8 (n:=n) (kk:=kk) (N:=110*l+22) (j:=20*l+10) hT1 (hk.ge h1) w1 (by omega) (λg2 s2 path h2 hT2 hS2 hp=>?_) g1 _ (Ge.refl hT1.gw) hT1 (Mc.refl _)
  have a2:=h1.trans h2
  have wf1:=w1.wf
  have hm1:rd (s.load c.aE.root).1 (g1.node i).main=m:=by rw[h1.node wf.ii.dU];exact hm
  have w2:=w1.m6 hT1.gw h2 (hS2 _ _ ((hk.ge h1).root hro)) hS2.ml
  have wf2:=w2.wf
  obtain⟨k,hk1⟩:∃k,kk-l=k+1:=⟨kk-l-1,by omega⟩
  rw[hk1,nK]
  refine BC (n:=110*l+20) hT2 wf2.ii (hz.ge a2) (by rw[h2.node wf1.ii.dU,hS2 _ _ (hT1.gw.MO wf1.ii)];exact hm1) λg3 s3 h3 hT3 hS3=>?_
  have w3:=w2.m6 hT2.gw h3 (hS3 _ _ ((hk.ge a2).root hro)) hS3.ml
  have a3:=a2.trans h3
  have:=f9 hro (k:=k) (kk:=kk) (n:=n) IH hT3 (hk.ge a3) w3 (hp.ge h3) (by rw[h3.node wf2.ii.dU,hS3 _ _ (hT2.gw.MO wf2.ii),h2.node wf1.ii.dU,hS2 _ _ (hT1.gw.MO wf1.ii)];exact hm1) (hz.ge a3) (hs.ge hT.gw hz.m a3) hkk
  rw[(h2.trans h3).node wf1.rt.dU]at this
  exact this
theorem DA:∀(d l k:Nat) (g:Ga) (s:St) (r pa i:Int) (path:List Int) (kk n:Nat),l+d=12->d<=k->12<=kk->Tw g s->Tk g c.aE->Wy g s c.aE (aH c.key c.aI) r l pa i->Pz g path (aH c.key c.aI) l pa i->(pM c (aH c.key c.aI) (g.node r).gen (yQ c kk n) k path i l).Al oS (1400+30*d) (300+10*d) s
 |0,l,k,g,s,r,pa,i,path,kk,n,hd,hk,hkk,hT,ht,w,hp=>by
  have:=((hT.gw.YW w.wf.ii).i w.wf.ii.1).2
  exact absurd (show l<=11 from this) (by omega)
 |d+1,l,0,g,s,r,pa,i,path,kk,n,hd,hk,hkk,hT,ht,w,hp=>absurd hk (by omega)
 |d+1,l,k+1,g,s,r,pa,i,path,kk,n,hd,hk,hkk,hT,ht,w,hp=>by
  have wf:=w.wf
  rw[nK]
  refine Al.mono (Au (n:=1400+30*d+20) (j:=300+10*d+5) hT ht wf.ii λg1 s1 m h1 hT1 hz hm hR hl=>?_) (by omega) (by omega)
  have w1:=w.m6 hT.gw h1 (hR.i (by rw[wf.root];exact wf.rt)) hl
  have wf1:=w1.wf
  have ht1:=ht.ge h1
  have er:=h1.node wf.rt.dU
  by_cases hs:Stop g1 (aH c.key c.aI) l m
  ·have:=f9 hro (k:=k) (kk:=kk) (n:=n) (λl' _=>O8 hro l') hT1 ht1 w1 (hp.ge h1) hm hz hs hkk
   rw[er]at this
   exact Al.mono this (by omega) (by omega)
  ·have hb:(aB (g1.node m) (slice (aH c.key c.aI) l)).2=true:=by
    cases hq:(aB (g1.node m) (slice (aH c.key c.aI) l)).2 with
    |true=>rfl
    |false=>exact absurd (λh=>by rw[hq]at h;cases h) hs
   have h4:(g1.node (aB (g1.node m) (slice (aH c.key c.aI) l)).1).kind≠4:=λh=>hs λ_=>h
   have hk3:=Ai hb
   have hn1:=hT1.gw.ofM hz.m
   have hl10:=(hn1.c hk3).1
   have ed:=fP (h:=aH c.key c.aI) (l:=l) hl10
   have hI:jV g1 (aB (g1.node m) (slice (aH c.key c.aI) l)).1 (l+1,aH c.key c.aI%64^(l+1)):=by
    rcases(hn1.c hk3).2.2 _ hb with h|h
    ·rw[ed]at h;exact h
    ·exact absurd h.1 h4
   refine oW (hT1.PI.node m) ?_
   show (bif (g1.node m).kind==5 then _ else bif (g1.node m).kind==6 then _ else bif (g1.node m).kind==3 then _ else _:I Result).Al oS _ _ s1
   rw[show ((g1.node m).kind==5)=false by rw[hk3];rfl,show ((g1.node m).kind==6)=false by rw[hk3];rfl,show ((g1.node m).kind==3)=true by rw[hk3];rfl]
   simp only[xM,pJ]
   rw[hb]
   show (I.node _ _).Al oS _ _ s1
   refine oW (hT1.PI.node _) ?_
   rw[show ((g1.node (aB (g1.node m) (slice (aH c.key c.aI) l)).1).kind==4)=false by rw[hI.1];rfl]
   simp only[pJ]
   cases hg:(g1.node (aB (g1.node m) (slice (aH c.key c.aI) l)).1).gen != (g.node r).gen with
   |false=>
    simp only[pJ]
    have hge:(g1.node (aB (g1.node m) (slice (aH c.key c.aI) l)).1).gen=(g1.node r).gen:=by rw[er];simpa using hg
    have:=DA d (l+1) k g1 s1 r i _ _ kk n (by omega) (by omega) hkk hT1 ht1 (.step w1 hm hz hb rfl hI hge) ((hp.ge h1).snoc hI)
    rw[er]at this
    exact Al.mono this (by omega) (by omega)
   |true=>
    simp only[xM]
    refine Al.mono (G8 (N:=1400+30*d) (j:=300+10*d) hT1 ht1 hro w1 hm hz hb hI λg2 s2 x h2 hT2 w2=>?_) (by omega) (by omega)
    have hx1:=w2.wf.ii.one
    rw[show (x==0)=false by simp;omega]
    have:=DA d (l+1) k g2 s2 r i x (path++[x]) kk n (by omega) (by omega) hkk hT2 (ht1.ge h2) w2 ((hp.ge (h1.trans h2)).snoc w2.wf.ii)
    rw[h2.node wf1.rt.dU,er]at this
    exact this
theorem U8{s:St}{kk n:Nat}(hkk:12<=kk)(hT:Tw g s)(ht:Tk g c.aE):(yQ c kk (n+1)).Al oS 1775 421 s:=by
 show (uO c.aE λr=>.node r λa=>pM c (aH c.key c.aI) a.gen (yQ c kk n) kk [r] r 0).Al oS 1775 421 s
 refine AZ (n:=1760) (j:=420) hT ht λg1 s1 r h1 hT1 hr hq=>oW (hT1.PI.node r) ?_
 have hr0:jV g1 r (0,aH c.key c.aI%64^0):=by rw[i6];exact hr
 exact DA hro 12 0 kk g1 s1 r 0 r [r] kk n rfl hkk hkk hT1 (ht.ge h1) (.root hr0 hq) ⟨⟨rfl,λj hj=>by(obtain rfl:j=0:=Nat.le_zero.1 hj);exact hr0⟩,rfl,λh=>absurd h (by omega)⟩
end
theorem P2{s:St}(hro:c.aE.readOnly=false)(hT:Tw g s)(ht:Tk g c.aE):(SP c FU).Al oS 1775 421 s:=by
 unfold SP
 cases hv:!bU c.key with
 |true=>exact trivial
 |false=>
  have e:yQ c FU FU=yQ c FU (99999999+1):=rfl
  simp only[pJ]
  rw[e]
  exact U8 hro (by decide) hT ht
end Go.Ct
end
section
namespace Go.Ct
variable{α:Type}{g:Ga}{Q:α->St->Prop}
def alone(s:St)(u:I α):Nat->St×I α
 |0=>(s,u)
 |i+1=>(alone s u i).2.step (alone s u i).1
theorem pL(s:St)(u:I α):∀i,alone s u (i+1)=alone (u.step s).1 (u.step s).2 i
 |0=>rfl
 |i+1=>by show (alone s u (i+1)).2.step (alone s u (i+1)).1=_;rw[pL s u i];rfl
structure Grown(j n:Nat)(s s':St):Prop where
 nodes:s'.aG.length<=s.aG.length+j
 more:s.aG.length<=s'.aG.length
 size:s'.size<=s.size+2*j+n
 fit:eK s->eK s'
theorem Mr{u:I α}{n j:Nat}{s:St}(h:u.Al Q n j s)(hr:u.rest=true)(he:u.ended=none):0<n/\∃i s1,i<=j/\s1.acc=s.acc+1/\s1.aG=s.aG/\s1.size<=s.size+1/\Vz i s1 (u.step s).1/\(u.step s).2.rest=true/\(u.step s).2.Al Q (n-1) (j-i) (u.step s).1:=by
 cases u with
 |ret a=>cases he
 |load c k=>
  obtain⟨i,a,b,d,e⟩:=Al.head h.2
  exact⟨h.1,i,(s.load c).1,a,rfl,rfl,Nat.le_of_eq (St.Cp s c).1,b,d,e⟩
 |eA c o v k=>
  obtain⟨i,a,b,d,e⟩:=Al.head h.2
  exact⟨h.1,i,(s.eA c o v).1,a,rfl,rfl,Nat.le_of_eq (St.Bu s c o v).1,b,d,e⟩
 |_=>cases hr
theorem Al.run:∀(n j:Nat) (u:I α) (s:St),u.Al Q n j s->u.rest=true->∃z,z<=n/\(∀i,i<=z->Grown j n s (alone s u i).1)/\(∀i,i<z->(alone s u i).2.ended.isSome=false)/\∃r,(alone s u z).2=.ret r/\Q r (alone s u z).1/\(alone s u z).1.acc=s.acc+z:=by
 intro n
 induction n with
 |zero=>
  intro j u s h hr
  cases u with
  |ret a=>exact⟨0,JV _,λi hi=>by
    obtain rfl:i=0:=by omega
    exact⟨Nat.le_add_right ..,JV _,by show s.size<=_;omega,id⟩,λi hi=>absurd hi (Nat.not_lt_zero i),a,rfl,h,rfl⟩
  |load c k=>exact absurd h.1 (Nat.lt_irrefl 0)
  |eA c o v k=>exact absurd h.1 (Nat.lt_irrefl 0)
  |_=>cases hr
 |succ n ih=>
  intro j u s h hr
  cases he:u.ended with
  |some a=>
   cases u with
   |ret a=>exact⟨0,dF _,λi hi=>by
     obtain rfl:i=0:=by omega
     exact⟨Nat.le_add_right ..,JV _,by show s.size<=_;omega,id⟩,λi hi=>absurd hi (Nat.not_lt_zero i),a,rfl,h,rfl⟩
   |_=>cases he
  |none=>
   obtain⟨_,i,s1,hi,ha,hs,hz,hG,hr',h'⟩:=Mr h hr he
   obtain⟨z,hzn,hg,hrun,r,e1,e2,e3⟩:=ih (j-i) _ _ h' hr'
   have hf1:eK s->eK s1:=λhf=>by unfold eK;rw[hs];exact hf
   refine⟨z+1,by omega,λk hk=>?_,λk hk=>?_,r,by rw[pL];exact e1,by rw[pL];exact e2,by rw[pL,e3,hG.acc,ha];omega⟩
   ·cases k with
    |zero=>exact⟨Nat.le_add_right ..,JV _,by show s.size<=_;omega,id⟩
    |succ k=>
     have q:=hg k (by omega)
     rw[pL]
     have a1:=q.nodes;have a2:=q.more;have a3:=q.size;have b1:=hG.nodes;have b2:=hG.more;have b3:=hG.size
     rw[hs]at b1 b2
     exact⟨by omega,by omega,by omega,λhf=>q.fit (hG.fit (hf1 hf))⟩
   ·cases k with
    |zero=>show u.ended.isSome=false;rw[he];rfl
    |succ k=>rw[pL];exact hrun k (by omega)
theorem s8{t:bC}{s:St}(n:Nat)(hT:Tw g s)(hk:Tk g t)(hro:t.readOnly=false):(iT t (n+1)).Al (λ_ _=>True) 31 6 s:=by
 have ht:=hk.root hro
 exact AZ (n:=16) (j:=5) hT hk λg1 s1 r h1 hT1 hr q1=>Au (n:=6) (j:=4) hT1 (hk.ge h1) hr λg2 s2 m h2 hT2 hm q2 hR _=>by
  obtain⟨hT3,e3,h3,_,_⟩:=kU hT2 (n:={kind:=3}) (i:=0) (b:=(0,0)) (Js (by decide) (by decide)) ⟨(λh=>by cases h),(λ_=>.inl rfl),λh=>by cases h⟩
  refine Yw (j:=3) (λ_=>fY _) ?_
  rw[e3]
  have hF:Fx g2 t s2 r m:=⟨hr.ge h2,hm.m,i9 hR hr q1,q2,DO hT2 hm⟩
  have ht2:=(h1.trans h2).oA ht
  exact V8 (n:=0) (j:=0) hT3 (h3.oA ht2) hro (kQ hT2.gw rfl) (hF.alloc hT2 ht2 h3) λg' s' _ _ _ _=>trivial
theorem SU{Q:Result->St->Prop}{s:St}{m:Int}(hT:Tw g s)(hm:oH g m (0,0))(H:∀r s',s'.acc=s.acc->s'.aG.length=s.aG.length+1->Q r s'):(Bt m).Al Q 0 3 s:=by
 obtain⟨hT3,e3,h3⟩:=ZJ hT
 refine alG (j:=2) ?_
 rw[e3]
 have hN:cJ g.bS {kind:=2,gen:=(g.gen:Int)+1} (0,0):=rH (by omega) (by show _<=((_+1:Nat):Int);omega) (by decide)
 obtain⟨hT4,e4,h4,a4,l4⟩:=kU hT3 (i:=m) hN ⟨λ_=>hm.ge h3,(λh=>by cases h),λh=>by cases h⟩
 refine Yw (j:=1) (λ_=>bG _ 2 _ 0 0 0) (P' (j:=0) ?_)
 exact H _ _ a4 l4
theorem TB{t:bC}{s:St}(fz:Bool)(n:Nat)(hT:Tw g s)(hk:Tk g t)(hro:t.readOnly=false):(Gb t (λr m=>bif fz then Gd r else Bt m) (n+1)).Al (λ_ _=>True) 31 8 s:=by
 have ht:=hk.root hro
 refine AZ (n:=16) (j:=7) hT hk λg1 s1 r h1 hT1 hr q1=>Au (n:=6) (j:=6) hT1 (hk.ge h1) hr λg2 s2 m h2 hT2 hm q2 hR _=>?_
 refine V8 (n:=0) (j:=3) hT2 ((h1.trans h2).oA ht) hro hm.m ⟨hr.ge h2,hm.m,i9 hR hr q1,q2,DO hT2 hm⟩ λg' s' h3 hT3 _ _=>?_
 cases fz with
 |true=>exact P' (j:=2) trivial
 |false=>exact SU hT3 (hm.m.ge h3) λ_ _ _ _=>trivial
theorem V1{t:bC}{s:St}(fz:Bool)(n:Nat)(hT:Tw g s)(hk:Tk g t):(bif fz then Qg t (n+1)else Cg t (n+1)).Al (λ_ _=>True) 31 8 s:=by
 cases hro:t.readOnly with
 |false=>
  have:=TB fz n hT hk hro
  cases fz with
  |true=>unfold Qg;rw[hro];exact this
  |false=>unfold Cg;rw[hro];exact this
 |true=>
  obtain⟨g1,h1,hT1,hv⟩:=hT.val (hk.fixed hro)
  have hv:jV g1 (rd s t.root) (0,0):=hv
  cases fz with
  |true=>unfold Qg;rw[hro];exact Vn (n:=30) (P' (j:=7) trivial)
  |false=>
   unfold Cg;rw[hro]
   exact Vn (n:=30) (Au (n:=20) (j:=7) hT1 (hk.ge h1) hv λg2 s2 m h2 hT2 hm _ _ _=>Al.mono (SU hT2 hm.m λ_ _ _ _=>trivial) (by omega) (by omega))
end Go.Ct
end
section
namespace Go.Ct
variable{α:Type}{g:Ga}
theorem Ls.tR[Qc α]{c:Int}{k:Int->I α}(h:Ls (.load c k) g):∃τ,g.oA c=some τ:=by
 obtain⟨u,h⟩:=h
 generalize hx:I.load c k=t at h
 induction h with
 |nr hr h ih=>exact ih hx
 |load σ h1 h2=>injection hx with e1 e2;subst e1;exact⟨σ,h1⟩
 |_=>cases hx
theorem Ls.Fp[Qc α]{c o x:Int}{k:Bool->I α}(h:Ls (.eA c o x k) g):∃τ,g.oA c=some τ:=by
 obtain⟨u,h⟩:=h
 generalize hx:I.eA c o x k=t at h
 induction h with
 |nr hr h ih=>exact ih hx
 |eA σ h1 h2 h3=>injection hx with e1 e2;subst e1;exact⟨σ,h1⟩
 |_=>cases hx
theorem Ls.F'[Qc α]{i:Int}{k:Int->I α}(h:Ls (.cell i k) g)(hw:GW g):∃τ,(τ=.root\/τ=.fixed)/\jV g i (0,0)/\Ls (k (g.ty.length+1)) (g.cell τ i):=by
 obtain⟨u,h⟩:=h
 generalize hx:I.cell i k=t at h
 induction h with
 |nr hr h ih=>exact ih hw hx
 |cell σ h1 h2 h3=>injection hx with e1 e2;subst e1 e2;exact⟨σ,h1,h2,_,h3 (Ga.wD hw σ _) (EI hw σ _)⟩
 |_=>cases hx
theorem Ls.aAg[Qc α]{k:Int->I α}(h:Ls (.gen k) g)(hw:GW g):Ls (k (g.gen+1)) g.bS:=by
 obtain⟨u,h⟩:=h
 generalize hx:I.gen k=t at h
 induction h with
 |nr hr h ih=>exact ih hw hx
 |gen h3=>injection hx with e1;subst e1;exact⟨_,h3 (Ga.yD hw) (NN hw)⟩
 |_=>cases hx
def hN:Nat:=2000
def hJ:Nat:=500
inductive Hb:Ga->I Result->Nat->Nat->Prop
 |ret {g:Ga} {r:Result} {n j:Nat}:Hb g (.ret r) n j
 |load {g:Ga} {c:Int} {k:Int->I Result} {n j:Nat}:(∀τ g' v,g.oA c=some τ->Ge g g'->GW g'->YP g' c v τ->Ls (k v) g'->Hb g' (k v) n j)->Hb g (.load c k) (n+1) j
 |eA {g:Ga} {c o x:Int} {k:Bool->I Result} {n j:Nat}:(∀τ g' b,g.oA c=some τ->YI g c o x τ->Ge g g'->GW g'->((∃b,τ=.prev b)->o=g.first c->g'.dec c)->Ls (k b) g'->Hb g' (k b) n j)->Hb g (.eA c o x k) (n+1) j
 |alloc {g:Ga} {a:Node} {i:Int} {k:Int->I Result} {n j:Nat}:(∀s b,cJ g a b->Tw g s->eK s->a.Fit (s.aG.length+1))->(∀b,cJ g a b->Tb g a i b->GW g->Ls (k (g.nodes.length+3)) (g.alloc a i b)->Hb (g.alloc a i b) (k (g.nodes.length+3)) n j)->Hb g (.alloc a i k) n (j+1)
 |cell {g:Ga} {i:Int} {k:Int->I Result} {n j:Nat}:(∀τ,(τ=.root\/τ=.fixed)->jV g i (0,0)->GW g->Ls (k (g.ty.length+1)) (g.cell τ i)->Hb (g.cell τ i) (k (g.ty.length+1)) n j)->Hb g (.cell i k) n (j+1)
 |gen {g:Ga} {k:Int->I Result} {n j:Nat}:(GW g->Ls (k (g.gen+1)) g.bS->Hb g.bS (k (g.gen+1)) n j)->Hb g (.gen k) n (j+1)
 |node {g:Ga} {r:Int} {k:Node->I Result} {n j:Nat}:Hb g (k (g.node r)) n j->Hb g (.node r k) n j
 |stop {g:Ga} {t:I Result} {n j:Nat}:(∀g' s,Ge g g'->Tw g' s->t.Al oS 1775 1000 s)->(∀g',Ge g g'->GW g'->Hb g' t hN hJ)->Hb g t n j
theorem Hb.mono{g:Ga}{t:I Result}{n j n' j':Nat}(h:Hb g t n j)(hn:n<=n')(hj:j<=j'):Hb g t n' j':=by
 induction h generalizing n' j' with
 |ret=>exact .ret
 |load H ih=>
  obtain⟨n',rfl⟩:∃m,n'=m+1:=⟨n'-1,by omega⟩
  exact .load λτ g' v a b c d e=>ih τ g' v a b c d e (by omega) hj
 |eA H ih=>
  obtain⟨n',rfl⟩:∃m,n'=m+1:=⟨n'-1,by omega⟩
  exact .eA λτ g' v a b c d e f=>ih τ g' v a b c d e f (by omega) hj
 |alloc hf H ih=>
  obtain⟨j',rfl⟩:∃m,j'=m+1:=⟨j'-1,by omega⟩
  exact .alloc hf λb x y z w=>ih b x y z w hn (by omega)
 |cell H ih=>
  obtain⟨j',rfl⟩:∃m,j'=m+1:=⟨j'-1,by omega⟩
  exact .cell λτ x y z w=>ih τ x y z w hn (by omega)
 |gen H ih=>
  obtain⟨j',rfl⟩:∃m,j'=m+1:=⟨j'-1,by omega⟩
  exact .gen λx y=>ih x y hn (by omega)
 |node H ih=>exact .node (ih hn hj)
 |stop h1 h2 ih=>exact .stop h1 h2
theorem Hb.al{g:Ga}{t:I Result}{n j:Nat}(h:Hb g t n j):∀s,Tw g s->Ls t g->t.Al oS (n+1775) (j+1000) s:=by
 induction h with
 |ret=>exact λ_ _ _=>trivial
 |@load g c k n j H ih=>
  intro s hT hL
  obtain⟨τ,hc⟩:=hL.tR
  obtain⟨g1,h1,hT1,hv⟩:=hT.val hc
  have hL1:=hL.load hc h1 hT1.gw hv
  rw[show n+1+1775=(n+1775)+1 by omega]
  exact Vn (ih τ g1 _ hc h1 hT1.gw hv hL1 _ hT1 hL1)
 |@eA g c o x k n j H ih=>
  intro s hT hL
  obtain⟨τ,hc⟩:=hL.Fp
  obtain⟨hm,hL2⟩:=hL.eA hc
  obtain⟨g1,a,b,hd,d⟩:=hT.PI.eA hT.gw (o:=o) hc hm
  have hL1:=hL2 g1 a b hd (s.eA c o x).2
  rw[show n+1+1775=(n+1775)+1 by omega]
  exact XB (ih τ g1 _ hc hm a b hd hL1 _ ⟨b,d⟩ hL1)
 |@alloc g a i k n j hf H ih=>
  intro s hT hL
  obtain⟨b,hN,hJ,hL1⟩:=Ls.alloc hL hT.gw
  obtain⟨hT1,e1,h1,_,_⟩:=kU hT hN hJ
  rw[show j+1+1000=(j+1000)+1 by omega]
  refine Yw (hf s b hN hT) ?_
  rw[e1]
  exact ih b hN hJ hT.gw hL1 _ hT1 hL1
 |@cell g i k n j H ih=>
  intro s hT hL
  obtain⟨τ,hτ,hi,hL1⟩:=hL.F' hT.gw
  obtain⟨t1,e1⟩:=hT.PI.cell hT.gw hτ hi
  rw[show j+1+1000=(j+1000)+1 by omega]
  refine P' ?_
  rw[e1]
  exact ih τ hτ hi hT.gw hL1 _ ⟨EI hT.gw τ i,t1⟩ hL1
 |@gen g k n j H ih=>
  intro s hT hL
  have hL1:=hL.aAg hT.gw
  obtain⟨hT1,e1,h1⟩:=ZJ hT
  rw[show j+1+1000=(j+1000)+1 by omega]
  refine alG ?_
  rw[e1]
  exact ih hT.gw hL1 _ hT1 hL1
 |@node g r k n j H ih=>
  intro s hT hL
  exact oW (hT.PI.node r) (ih _ hT (Ls.node hL))
 |@stop g t n j h1 h2 ih=>
  intro s hT hL
  exact Al.mono (h1 g s (Ge.refl hT.gw) hT) (by omega) (by omega)
end Go.Ct
end
section
namespace Go.Ct
variable{g:Ga}
abbrev HZ(g:Ga)(b:fV)(k:Int->I Result)(n j:Nat):Prop:=∀g' m,Ge g g'->GW g'->tS g' m b->Ls (k m) g'->Hb g' (k m) n j
abbrev HI(g:Ga)(k:Int->I Result)(n j:Nat):Prop:=∀g' r,Ge g g'->GW g'->jV g' r (0,0)->Ls (k r) g'->Hb g' (k r) n j
abbrev HB(g:Ga)(k:Bool->I Result)(n j:Nat):Prop:=∀g' (ok:Bool),Ge g g'->GW g'->Ls (k ok) g'->Hb g' (k ok) n j
theorem HZ.ge{b:fV}{k:Int->I Result}{n j:Nat}{g':Ga}(h:HZ g b k n j)(hg:Ge g g'):HZ g' b k n j:=λg2 m a=>h g2 m (hg.trans a)
theorem HI.ge{k:Int->I Result}{n j:Nat}{g':Ga}(h:HI g k n j)(hg:Ge g g'):HI g' k n j:=λg2 m a=>h g2 m (hg.trans a)
theorem HB.ge{k:Bool->I Result}{n j:Nat}{g':Ga}(h:HB g k n j)(hg:Ge g g'):HB g' k n j:=λg2 m a=>h g2 m (hg.trans a)
theorem RR{i m p:Int}{b:fV}{k:Int->I Result}{n j:Nat}(hw:GW g)(hm:oH g m b)(hp:ED g p b)(hf:(g.node p).dC=g.first (g.node m).prev)(H:HZ g b k n j):Hb g (Dq i m p k) (n+1) j:=by
 have ho:=(hw.K4 hp).f hp.1
 have hz:tS g (g.node p).dC b:=by
  rw[hf];exact hw.LJ m b hm (by rw[<- hf];have:=ho.one;omega)
 exact .node (.node (.eA λτ g' ok hc hmay hg hw' hd hL=>H g' _ hg hw' (hz.ge hg) hL))
theorem RG{i m pr:Int}{b:fV}{k:Int->I Result}{ok:Bool}{n j:Nat}(hw:GW g)(hm:oH g m b)(hpr:pr=(g.node m).prev)(hd:g.dec pr)(H:HZ g b k n j):Hb g (kY pr i m k ok) (n+2) j:=by
 subst hpr
 refine .load λτ g' v hc hg hw' hv hL=>?_
 obtain rfl:eY.prev b=τ:=Pe ((hw.Nl hm).symm.trans hc)
 cases h0:(v==0)with
 |true=>
  rw[h0]at hL
  exact(H g' m hg hw' ⟨hm.ge hg,by rw[hg.node hm.dU];exact val_zero hv (by simpa using h0)⟩ hL).mono (by omega) (JV _)
 |false=>
  have hv0:v≠0:=by simpa using h0
  have hp:ED g' v b/\(g'.node v).dC=g'.first (g.node m).prev:=by
   rcases hv with hv|hv|⟨_,_,hv⟩
   ·exact absurd hv.1 hv0
   ·exact hv
   ·exact absurd (hg.dec _ hd) hv
  exact RR hw' (hm.ge hg) hp.1 (by rw[hg.node hm.dU];exact hp.2) (H.ge hg)
theorem VG{i m p pr:Int}{b:fV}{k:Int->I Result}{n j:Nat}(hw:GW g)(hm:oH g m b)(hpr:pr=(g.node m).prev)(hf:p=g.first pr)(H:HZ g b k n j):Hb g (mK pr p false (kY pr i m k)) (n+3) (j+1):=by
 subst hpr
 refine .alloc (λs _ _ _ _=>bG _ 7 0 p 0 0) λb' hN hJ _ hL=>.eA λτ g2 ok hc hmay hg2 hw2 hd hL2=>?_
 have h1:=Ga.rM hw {kind:=7,dC:=p} 0 b'
 have hg:=h1.trans hg2
 obtain rfl:eY.prev b=τ:=Pe ((h1.oA (hw.Nl hm)).symm.trans hc)
 exact RG hw2 (hm.ge hg) (by rw[hg.node hm.dU]) (hd ⟨b,rfl⟩ (by rw[h1.first hw (hw.Nl hm)];exact hf)) (H.ge hg)
theorem Vj{t:bC}{v s:Int}{k:Int->I Result}{n j:Nat}(hw:GW g)(hv:tC g v)(H:HI g k n j):Hb g (iD t v s k) (n+1) j:=by
 have hd:=(hw.G4 hv).d hv
 refine .node ?_
 generalize (s==1)=c
 cases c with
 |true=>exact .eA λτ g' ok hc hmay hg hw' _ hL=>H g' _ hg hw' (hd.2.2.ge hg) hL
 |false=>exact .eA λτ g' ok hc hmay hg hw' _ hL=>H g' _ hg hw' (hd.1.ge hg) hL
theorem R7{t:bC}{k:Int->I Result}{n j:Nat}(ht:g.oA t.root=some .root)(H:HI g k n j):Hb g (Zi t k) (n+5) j:=by
 refine .load λτ g1 v hc h1 hw1 hv hL=>?_
 obtain rfl:eY.root=τ:=Pe (ht.symm.trans hc)
 have hL:=Ls.node hL
 refine .node ?_
 rcases VI hv with⟨hv,hq⟩|⟨hv,hq⟩
 ·rw[hq]at hL ⊢
  exact(H g1 v h1 hw1 hv hL).mono (by omega) (JV _)
 ·rw[hq]
  refine Hb.load (n:=n+3) λτ g2 s hc h2 hw2 hs hL2=>?_
  have hv2:=tC.ge hv h2
  have H2:=H.ge (h1.trans h2)
  cases h0:s != 0 with
  |true=>exact(Vj hw2 hv2 H2).mono (by omega) (JV _)
  |false=>exact .eA λτ g3 ok hc hmay h3 hw3 _ hL3=>.load λτ g4 s' hc h4 hw4 hs' hL4=>Vj hw4 (tC.ge hv2 (h3.trans h4)) (H2.ge (h3.trans h4))
theorem Zv{t:bC}{i m:Int}{b:fV}{k:Int->I Result}{n j:Nat}(hw:GW g)(ht:Tk g t)(hi:jV g i b)(hm:oH g m b)(H:HZ g b k n j):Hb g (qB t i m k) (n+9) (j+1):=by
 refine .node (Hb.load (n:=n+8) λτ g1 p hc h1 hw1 hp hL=>?_)
 obtain rfl:eY.prev b=τ:=Pe ((hw.Nl hm).symm.trans hc)
 have e1:=h1.node hm.dU
 have H1:=H.ge h1
 have hm1:=hm.ge h1
 cases h0:(p==0)with
 |true=>
  rw[h0]at hL
  exact(H g1 m h1 hw1 ⟨hm1,by rw[e1];exact val_zero hp (by simpa using h0)⟩ hL).mono (by omega) (by omega)
 |false=>
  have hp0:p≠0:=by simpa using h0
  refine .node ?_
  rcases hp with hp|hp|⟨hf,hp,hd⟩
  ·exact absurd hp.1 hp0
  ·rw[hp.1.SO]
   exact(RR hw1 hm1 hp.1 (by rw[e1];exact hp.2) H1).mono (by omega) (by omega)
  ·rw[hp.1]
   cases hro:t.readOnly with
   |true=>exact(VG hw1 hm1 (by rw[e1]) hf H1).mono (by omega) (by omega)
   |false=>
    refine(R7 (n:=n+3) (j:=j+1) ((ht.ge h1).root hro) λg2 r h2 hw2 hr hL2=>.node (.node ?_)).mono (by omega) (by omega)
    have hg:=h1.trans h2
    have hf2:p=g2.first (g.node m).prev:=by rw[h2.first hw1 (h1.oA (hw.Nl hm))];exact hf
    cases ((g2.node r).gen==(g2.node i).gen)with
    |false=>exact VG hw2 (hm.ge hg) (by rw[hg.node hm.dU]) hf2 (H.ge hg)
    |true=>
     refine Hb.eA (n:=n+2) λτ g3 ok hc hmay h3 hw3 hd3 hL3=>?_
     obtain rfl:eY.prev b=τ:=Pe ((hg.oA (hw.Nl hm)).symm.trans hc)
     have a3:=hg.trans h3
     exact(RG hw3 (hm.ge a3) (by rw[a3.node hm.dU]) (hd3 ⟨b,rfl⟩ hf2) (H.ge a3)).mono (JV _) (by omega)
theorem oO{t:bC}{i:Int}{b:fV}{k:Int->I Result}{n j:Nat}(hw:GW g)(ht:Tk g t)(hi:jV g i b)(H:HZ g b k n j):Hb g (mM t i k) (n+10) (j+1):=by
 refine .node (Hb.load (n:=n+9) λτ g1 m hc h1 hw1 hm hL=>?_)
 obtain rfl:eY.main b=τ:=Pe ((hw.MO hi).symm.trans hc)
 exact Zv hw1 (ht.ge h1) (hi.ge h1) hm (H.ge h1)
theorem Rx{t:bC}{i o x:Int}{b:fV}{k:Bool->I Result}{n j:Nat}(hw:GW g)(ht:Tk g t)(hi:jV g i b)(hx:oH g x b)(H:HB g k n j):Hb g (swapT t i o x k) (n+10) (j+1):=by
 refine .node (Hb.eA (n:=n+9) λτ g1 ok hc hmay h1 hw1 hd hL=>?_)
 cases ok with
 |true=>
  show Hb g1 (qB t i x λm=>k (m==x)) _ _
  exact Zv hw1 (ht.ge h1) (hi.ge h1) (hx.ge h1) λg2 m h2 hw2 hz hL2=>H g2 _ (h1.trans h2) hw2 hL2
 |false=>exact(H g1 false h1 hw1 hL).mono (by omega) (by omega)
theorem L8{t:bC}{v:Int}{d:Node}{k:I Result}{n j:Nat}(hw:GW g)(ht:Tk g t)(hv:tC g v)(hd:d=g.node v)(H:∀g',Ge g g'->GW g'->Ls k g'->Hb g' k n j):Hb g (Gu t d k) (n+11) (j+1):=by
 subst hd
 have hD:=(hw.G4 hv).d hv
 refine oO (n:=n+1) hw ht hD.1 λg1 m h1 hw1 hz hL=>?_
 cases hq:m==(g.node v).aK with
 |true=>exact .eA λτ g2 ok hc hmay h2 hw2 _ hL2=>H g2 (h1.trans h2) hw2 hL2
 |false=>exact .eA λτ g2 ok hc hmay h2 hw2 _ hL2=>H g2 (h1.trans h2) hw2 hL2
theorem Hw{t:bC}{k:Int->I Result}{n j:Nat}(hw:GW g)(ht:Tk g t)(H:HI g k n j):Hb g (uO t k) (n+15) (j+1):=by
 refine Hb.load (n:=n+14) λτ g1 v hc h1 hw1 hv hL=>.node ?_
 have hL:=Ls.node hL
 have hv:YP g1 t.root v .root:=by
  have e:g.oA t.root=some (bif t.readOnly then eY.fixed else .root):=ht
  obtain rfl:=Pe (e.symm.trans hc)
  cases hro:t.readOnly with
  |true=>rw[hro]at hv;exact .inl hv
  |false=>rw[hro]at hv;exact hv
 rcases VI hv with⟨hv,hq⟩|⟨hv,hq⟩
 ·rw[hq]at hL ⊢
  exact(H g1 v h1 hw1 hv hL).mono (by omega) (by omega)
 ·rw[hq]
  refine Hb.load (n:=n+13) λτ g2 s hc h2 hw2 hs hL2=>?_
  have hv2:=tC.ge hv h2
  have H2:=H.ge (h1.trans h2)
  cases h0:s != 0 with
  |true=>exact(Vj hw2 hv2 H2).mono (by omega) (by omega)
  |false=>exact L8 (n:=n+2) hw2 (ht.ge (h1.trans h2)) hv2 (h2.node (tC.dU hv)).symm λg3 h3 hw3 hL3=>.load λτ g4 s' hc h4 hw4 hs' hL4=>Vj hw4 (tC.ge hv2 (h3.trans h4)) (H2.ge (h3.trans h4))
theorem Vh{t:bC}{o e x:Int}{k:Bool->I Result}{n j:Nat}(hw:GW g)(ht:Tk g t)(H:HB g k n j):Hb g (lD t o e x k) (n+14) (j+2):=by
 refine Hb.alloc (j:=j+1) (λs _ _ _ _=>bG _ 8 0 o e x) λb hN hJ _ hL=>.node (Hb.eA (n:=n+13) λτ g2 ok hc hmay h2 hw2 _ hL2=>?_)
 have h1:=Ga.rM hw {kind:=8,dC:=o,aK:=e,new:=x} 0 b
 have hD:tC (g.alloc {kind:=8,dC:=o,aK:=e,new:=x} 0 b) (g.nodes.length+3):=IM rfl
 cases ok with
 |false=>exact(H g2 false (h1.trans h2) hw2 hL2).mono (by omega) (by omega)
 |true=>
  refine L8 (n:=n+2) hw2 (ht.ge (h1.trans h2)) (tC.ge hD h2) (h2.node (tC.dU hD)).symm λg3 h3 hw3 hL3=>.load λτ g4 s' hc h4 hw4 hs' hL4=>?_
  exact Vj hw4 (tC.ge hD ((h2.trans h3).trans h4)) λg5 r h5 hw5 hr hL5=>H g5 _ (h1.trans (((h2.trans h3).trans h4).trans h5)) hw5 hL5
end Go.Ct
end
