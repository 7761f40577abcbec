/- Parts of a proof: Fi, Fd, Wq. -/
import Derived.Test.YthhcpkikpammmaaGreatW43
import Derived.Test.YthhcpkikpammmaaGreatW33
set_option linter.unusedVariables false
set_option linter.unusedSimpArgs false
set_option maxRecDepth 100000
set_option maxHeartbeats 4000000
section
namespace Go.Ct
variable{g:Ga}{c:Call}
theorem V4{s:St}{d o v:Int}(hc:s.cA d=true)(h:rd s d≠o):(s.eA d o v).2=false:=by
 show s.xU d o=false
 unfold St.xU
 rw[hc]
 have:s.cells.getD (d.toNat-1) 0=rd s d:=by unfold rd St.load;dsimp only;rw[if_pos hc]
 rw[this];simpa using h
theorem aAa{t:bC}{s:St}{b:fV}{i o n:Int}{N j:Nat}{k:Bool->I Result}(hT:Tw g s)(hk:Tk g t)(hi:jV g i b)(hn:oH g n b)(H:∀g' s' ok,Ge g g'->Tw g' s'->(k ok).Al tS N j s'):(swapT t i o n k).Al tS (N+10) (j+1) s:=by
 have hc:=hT.gw.MO hi
 obtain⟨g1,h1,hT1⟩:=hT.eA (o:=o) (n:=n) hc hn
 refine qH (hT.PI.node i) (L8 (n:=N+9) ?_)
 by_cases hq:rd s (g.node i).main=o
 ·have c1:=tF (v:=n) (hT.has hc) hq
  rw[c1.2]
  exact XJ (n:=N) (j:=j) (k:=λm=>k (m==n)) hT1 (hk.ge h1) (hi.ge h1) (hn.ge h1) (by rw[h1.node hi.dU];exact c1.1) λg' s' m a b _ _ _ _=>H g' s' _ (h1.trans a) b
 ·rw[V4 (hT.has hc) hq]
  exact Al.mono (H g1 _ false h1 hT1) (by omega) (by omega)
theorem Pw(n:Node)(l:Int)(x:Node)(h:n.aF=[]):(bQ n l x).aF=[]:=by
 unfold bQ;split
 ·rfl
 ·exact h
theorem BW(n:Node)(i:Int):(bL n i).1.aF=[]:=by
 unfold bL;repeat' split
 all_goals rfl
theorem t7(n:Node):(aT n).1.aF=[]:=by unfold aT;split<;>rfl
theorem aA0{t:bC}{s:St}{pa i:Int}{h l N j:Nat}{b b2:fV}{k:Bool->I Result}(hT:Tw g s)(hk:Tk g t)(hp:jV g pa b)(hi:jV g i b2)(hL:Ls (qW t pa i h l k) g)(H:∀g' s' ok,Ge g g'->Tw g' s'->(k ok).Al tS N j s'):(qW t pa i h l k).Al tS (N+30) (j+5) s:=by
 refine Ek (n:=N+20) (j:=j+4) hT hk hp λg1 s1 m h1 hT1 hz hm _ _=>?_
 have hL1:=Ls.node (Ls.read hL hT.gw hp h1 hT1.gw hz)
 refine qH (hT1.PI.node m) ?_
 cases hl1:(aB (g1.node m) (slice h l)).2 with
 |false=>exact Al.mono (H g1 s1 false h1 hT1) (by omega) (by omega)
 |true=>
  rw[hl1]at hL1
  cases hl2:(aB (g1.node m) (slice h l)).1 != i with
  |true=>exact Al.mono (H g1 s1 false h1 hT1) (by omega) (by omega)
  |false=>
   rw[hl2]at hL1
   refine Ek (n:=N+10) (j:=j+3) hT1 (hk.ge h1) (hi.ge h1) λg2 s2 q h2 hT2 hz2 hm2 _ _=>?_
   have hL2:=Ls.node (Ls.read hL1 hT1.gw (hi.ge h1) h2 hT2.gw hz2)
   have a2:=h1.trans h2
   refine qH (hT2.PI.node q) ?_
   cases hu:(aT (g2.node q)).2 with
   |false=>exact Al.mono (H g2 s2 false a2 hT2) (by omega) (by omega)
   |true=>
    rw[hu]at hL2
    have hL2:=Ls.node hL2
    refine qH (hT2.PI.node m) ?_
    obtain⟨b3,hN,hJ,hL3⟩:=Ls.alloc hL2 hT2.gw
    obtain⟨hT3,e3,h3,_,_⟩:=nO hT2 hN hJ
    refine GX (j:=j+2) (λ_=>hN.nB (by rw[t7];exact Hg _)) ?_
    rw[e3]
    have a3:=a2.trans h3
    cases hp2:(aP (g2.node m) (slice h l) ((g2.nodes.length:Int)+3)).2 with
    |false=>exact Al.mono (H _ _ false a3 hT3) (by omega) (by omega)
    |true=>
     rw[hp2]at hL3
     obtain⟨b4,hN4,hJ4,hL4⟩:=Ls.alloc hL3 hT3.gw
     obtain⟨hT4,e4,h4,_,_⟩:=nO hT3 hN4 hJ4
     refine GX (j:=j+1) (λ_=>hN4.nB (by rw[Pw _ _ _ (Ac _ _ _)];exact Hg _)) ?_
     rw[e4]
     have hpp:=(hp.ge a3).ge h4
     obtain⟨hM,_⟩:=hL4.swap hT4.gw hpp
     exact aAa hT4 ((hk.ge a3).ge h4) hpp hM λg' s' ok a b=>H g' s' ok ((a3.trans h4).trans a) b
theorem upA{path:List Int}{h v:Nat}:∀(l:Nat) (g:Ga) (s:St),l<=11->Tw g s->Tk g c.aE->(∀j,j<=l->jV g (path.getD j 0) (j,h%64^j))->(n9 c path h v l).Al tS (40*l) (6*l) s
 |0,g,s,hl,hT,hk,hp=>trivial
 |l+1,g,s,hl,hT,hk,hp=>by
  have hL:Ls (n9 c path h v (l+1)) g:=⟨_,UP (K':=λ_=>.ret (dL true v)) (l+1) g hT.gw hk hl hp λg' _ _=>.ret _ _ (q0 rfl)⟩
  have hi:=hp (l+1) (bD _)
  show (mM c.aE (path.getD (l+1) 0) _).Al tS (40*l+30+10) (6*l+5+1) s
  refine Ek hT hk hi λg1 s1 m h1 hT1 hz hm _ _=>?_
  have hL1:=Ls.node (Ls.read (show Ls (mM c.aE (path.getD (l+1) 0) _) g from hL) hT.gw hi h1 hT1.gw hz)
  refine qH (hT1.PI.node m) ?_
  cases hq:(g1.node m).kind != 5 with
  |true=>exact trivial
  |false=>
   rw[hq]at hL1
   simp only[Yv]at hL1 ⊢
   exact aA0 hT1 (hk.ge h1) ((hp l (by omega)).ge h1) (hi.ge h1) hL1 λg' s' ok a b=>upA l g' s' (by omega) b (hk.ge (h1.trans a)) λj hj=>(hp j (by omega)).ge (h1.trans a)
structure Pz(g:Ga)(path:List Int)(h l:Nat)(pa i:Int):Prop where
 p:Path g path h l
 ii:path.getD l 0=i
 a:1<=l->path.getD (l-1) 0=pa
theorem Pz.ge{g':Ga}{path:List Int}{h l:Nat}{pa i:Int}(hp:Pz g path h l pa i)(hg:Ge g g'):Pz g' path h l pa i:=⟨hp.p.ge hg,hp.ii,hp.a⟩
theorem Pz.snoc{path:List Int}{h l:Nat}{pa i x:Int}(hp:Pz g path h l pa i)(hx:jV g x (l+1,h%64^(l+1))):Pz g (path++[x]) h (l+1) i x:=by
 refine⟨hp.p.snoc hx,?_,λ_=>?_⟩
 ·rw[Xe,cO (by rw[hp.p.1];exact bD _),hp.p.1];simp
 ·rw[lK,Xe,tW (by rw[hp.p.1];omega),<- Xe];exact hp.ii
def Vd(c:Call)(h:Nat)(gen:Int)(again:I Result)(k:Nat)(path:List Int)(i:Int)(level:Nat)(m:Int):I Result:=.node m λn=>
  bif n.kind==5 then qW c.aE (bif decide (0<level)then path.getD (level-1) 0 else 0) i h ((level:Int)-1) λ_=>again
  else bif n.kind==6 then Cq c again path h i m n
  else bif n.kind==3 then
   bif !(aB n (slice h level)).2 then .ret {}else .node (aB n (slice h level)).1 λx=>
    bif x.kind==4 then Pp c again path h i m n level x
    else bif x.gen != gen then pD c.aE i m (slice h level) λb=>bif b==0 then again else pM c h gen again k (path++[b]) b (level+1)
    else pM c h gen again k (path++[(aB n (slice h level)).1]) (aB n (slice h level)).1 (level+1)
  else .ret {}
theorem qD(c:Call)(h:Nat)(gen:Int)(again:I Result)(k:Nat)(path:List Int)(i:Int)(level:Nat):pM c h gen again (k+1) path i level=mM c.aE i (Vd c h gen again k path i level):=rfl
theorem F8(hro:c.aE.readOnly=false){s:St}{r pa i:Int}{l:Nat}{path:List Int}(hw:GW g)(ht:Tk g c.aE)(w:Wf g s c.aE (aH c.key c.aI) r l pa i)(hp:Pz g path (aH c.key c.aI) l pa i)(k n kk:Nat):Ls (pM c (aH c.key c.aI) (g.node r).gen (yQ c kk n) k path i l) g:=by
 obtain⟨a1,a2⟩:=ZH hw w.rt
 exact⟨_,Bd (K:=λ|some r=>.ret r|none=>pE c kk n) hro a1 k l path i g hw ht hp.p hp.ii a2 ⟨λg' h' hw' r hr=>.ret _ _ (q0 hr),λg' h' hw'=>Bg hro n g' hw' (ht.ge h')⟩⟩
theorem RY{again:I Result}{s:St}{b:fV}{r i m pa:Int}{n:Node}{v h l:Nat}{path:List Int}(hT:Tw g s)(hk:Tk g c.aE)(hro:c.aE.readOnly=false)(hA:At g s c.aE b r i m)(hp:Pz g path h l pa i)(hl:l<=11)(hL:Ls (wM c again path h i m n v) g)(hf:∀b,cJ g n b->eK s->n.Fit (s.aG.length+1)):(wM c again path h i m n v).Al tS (40*l+5) (6*l+1) s:=by
 have hL:Ls (I.alloc n m λx=>swapT c.aE i m x λok=>bif !ok then again else n9 c path h v (path.length-1)) g:=hL
 obtain⟨b2,hN,hJ,hL2⟩:=hL.alloc hT.gw
 have h1:=Ga.rM hT.gw n m b2
 obtain⟨hM,_⟩:=hL2.swap (tO hT.gw hN hJ) (hA.ii.ge h1)
 refine V5 (N:=40*l) (j:=6*l) (k:=λok=>bif !ok then again else n9 c path h v (path.length-1)) hT hk hro hA hN hJ hM (hf b2 hN) λg' s' a hT' _ _ _ _=>?_
 show (n9 c path h v (path.length-1)).Al tS _ _ s'
 rw[hp.p.1,lK]
 exact upA l g' s' hl hT' (hk.ge (h1.trans a)) λj hj=>(hp.p.2 j hj).ge (h1.trans a)
def TD(c:Call)(l:Nat):Prop:=∀(g:Ga) (s:St) (r pa i m:Int) (kk n:Nat),Tw g s->Tk g c.aE->Wy g s c.aE (aH c.key c.aI) r l pa i->rd s (g.node i).main=m->xK g m (l,aH c.key c.aI%64^l)->Stop g (aH c.key c.aI) l m->12<=kk->(yQ c kk n).Al tS (110*(l+1)) (20*(l+1)) s
section
variable(hro:c.aE.readOnly=false)
include hro
theorem T3{s:St}{r pa i m:Int}{l n kk k:Nat}{path:List Int}(IH:∀l',l'<l->TD c l')(hT:Tw g s)(hk:Tk g c.aE)(w:Wy g s c.aE (aH c.key c.aI) r l pa i)(hp:Pz g path (aH c.key c.aI) l pa i)(hm:rd s (g.node i).main=m)(hz:xK g m (l,aH c.key c.aI%64^l))(hs:Stop g (aH c.key c.aI) l m)(hkk:12<=kk):
  (Vd c (aH c.key c.aI) (g.node r).gen (yQ c kk n) k path i l m).Al tS (110*l+20) (20*l+10) s:=by
 have wf:=w.wf
 have hA:=wf.at_ hz hm
 have h11:l<=11:=((hT.gw.YW wf.ii).i wf.ii.1).2
 have hL:Ls (Vd c (aH c.key c.aI) (g.node r).gen (yQ c kk n) k path i l m) g:=
  Ls.read (by have:=F8 hro hT.gw hk wf hp (k+1) n kk;rw[qD]at this;exact this) hT.gw wf.ii (Ge.refl hT.gw) hT.gw hz
 have hL:=Ls.node hL
 refine qH (hT.PI.node m) ?_
 rcases sH hz.m with h3|h5|h6
 ·rw[show ((g.node m).kind==5)=false by rw[h3];rfl,show ((g.node m).kind==6)=false by rw[h3];rfl,show ((g.node m).kind==3)=true by rw[h3];rfl]at hL ⊢
  simp only[Ak,Yv]at hL ⊢
  cases hb:(aB (g.node m) (slice (aH c.key c.aI) l)).2 with
  |false=>exact trivial
  |true=>
   rw[hb]at hL
   have hL:=Ls.node hL
   refine qH (hT.PI.node _) ?_
   have h4:=hs hb
   rw[show ((g.node (aB (g.node m) (slice (aH c.key c.aI) l)).1).kind==4)=true by rw[h4];rfl]at hL ⊢
   simp only[Ak]at hL ⊢
   generalize g.node (aB (g.node m) (slice (aH c.key c.aI) l)).1=x at *
   unfold Pp at hL ⊢
   cases hq:bR x.key c.key with
   |false=>exact trivial
   |true=>
    rw[hq]at hL
    cases hq2:Qj c x.value with
    |false=>exact trivial
    |true=>
     rw[hq2]at hL
     simp only[fU,Yv]at hL ⊢
     cases hq3:(fF (bL (g.node m) (slice (aH c.key c.aI) l)).1).2 with
     |true=>
      rw[hq3]at hL
      simp only[Ak]at hL ⊢
      have hL:=Ls.node hL
      refine qH (hT.PI.node _) (Al.mono (RY hT hk hro hA hp h11 hL λb hb _=>hb.nB (by rw[Pw _ _ _ (BW _ _)];exact Hg _)) (by omega) (by omega))
     |false=>
      rw[hq3]at hL
      simp only[Yv]at hL ⊢
      exact Al.mono (RY hT hk hro hA hp h11 hL λb hb _=>hb.nB (by rw[Pw _ _ _ (BW _ _)];exact Hg _)) (by omega) (by omega)
 ·have h1l:1<=l:=((hT.gw.ofM hz.m).t h5).1
  rw[show ((g.node m).kind==5)=true by rw[h5];rfl]
  show (qW c.aE (bif decide (0<l)then path.getD (l-1) 0 else 0) i (aH c.key c.aI) ((l:Int)-1) λ_=>yQ c kk n).Al tS _ _ s
  rw[show decide (0<l)=true from cE (by omega),Ak,hp.a h1l]
  obtain⟨l',rfl⟩:∃l',l=l'+1:=⟨l-1,by omega⟩
  rw[ZG]
  cases w with
  |step w0 hpm hzp hlb hj hI hgen=>
   exact Al.mono (P1 (N:=110*(l'+1)) (j:=20*(l'+1)) hT hk hro w0 hpm hzp hlb hj hI hm hz h5 λg' s' x a b d e f i=>IH l' (by omega) g' s' r _ _ x kk n b (hk.ge a) d e f i hkk) (by omega) (by omega)
 ·rw[show ((g.node m).kind==5)=false by rw[h6];rfl,show ((g.node m).kind==6)=true by rw[h6];rfl]at hL ⊢
  simp only[Ak,Yv]at hL ⊢
  unfold Cq at hL ⊢
  cases hp1:(bB (g.node m).aF c.key).2 with
  |false=>exact trivial
  |true=>
   rw[hp1]at hL
   cases hp2:Qj c (bB (g.node m).aF c.key).1 with
   |false=>exact trivial
   |true=>
    rw[hp2]at hL
    cases hp3:(gC (g.node m) c.key).2 with
    |false=>exact trivial
    |true=>
     rw[hp3]at hL
     refine Al.mono (RY hT hk hro hA hp h11 hL λb _ hf=>?_) (by omega) (by omega)
     have:=hf.node m
     rw[hT.PI.node]at this
     exact(pH this _).mono (Nat.le_succ _)
omit hro in
theorem C'{s:St}{r pa i:Int}{l n kk N j:Nat}(hT:Tw g s)(hk:Tk g c.aE)(w:Wy g s c.aE (aH c.key c.aI) r l pa i)(hl:l<=kk)(P:∀g' s' path,Ge g g'->Tw g' s'->Mc g s s'->Pz g' path (aH c.key c.aI) l pa i->(pM c (aH c.key c.aI) (g.node r).gen (yQ c kk n) (kk-l) path i l).Al tS N j s'):
  ∀g' s',Ge g g'->Tw g' s'->Mc g s s'->(pM c (aH c.key c.aI) (g.node r).gen (yQ c kk n) kk [r] r 0).Al tS (N+2*l) j s':=by
 induction w generalizing N with
 |root hi hr=>
  intro g' s' a b d
  exact P g' s' [r] a b d ⟨⟨rfl,λj hj=>by(obtain rfl:j=0:=Nat.le_zero.1 hj);exact hi.ge a⟩,rfl,λh=>absurd h (by omega)⟩
 |@step l pa i m x w hm hz hb hx hI hgen ih=>
  have wf:=w.wf
  have hk3:=Ai hb
  intro g' s' a b d
  refine Al.mono (ih (N:=N+2) (by omega) (λg1 s1 path h1 hT1 hS1 hp=>?_) g' s' a b d) (by omega) (bD _)
  rw[show kk-l=(kk-(l+1))+1 by omega,qD]
  refine FK (b:=(l,aH c.key c.aI%64^l)) hT1 (wf.ii.ge h1) (hz.ge h1) (by rw[h1.node wf.ii.dU,hS1 _ _ (hT.gw.MO wf.ii)];exact hm) λg2 s2 h2 hT2 hS2=>?_
  have a2:=h1.trans h2
  refine qH (hT2.PI.node m) ?_
  rw[a2.node hz.dU]
  show (bif (g.node m).kind==5 then _ else bif (g.node m).kind==6 then _ else bif (g.node m).kind==3 then _ else _:I Result).Al tS N j s2
  rw[show ((g.node m).kind==5)=false by rw[hk3];rfl,show ((g.node m).kind==6)=false by rw[hk3];rfl,show ((g.node m).kind==3)=true by rw[hk3];rfl]
  simp only[Ak,Yv]
  rw[hb,hx]
  show (I.node x _).Al tS N j s2
  refine qH (hT2.PI.node x) ?_
  rw[a2.node hI.dU,show ((g.node x).kind==4)=false by rw[hI.1];rfl,hgen,show ((g.node r).gen != (g.node r).gen)=false by simp]
  simp only[Yv]
  exact P g2 s2 (path++[x]) a2 hT2 (hS1.trans h1 hS2) ((hp.ge h2).snoc (hI.ge a2))
theorem W4:∀l,TD c l:=by
 intro l
 induction l using Nat.strongRecOn with
 |ind l IH=>
  intro g s r pa i m kk n hT hk w hm hz hs hkk
  have wf:=w.wf
  cases n with
  |zero=>exact trivial
  |succ n=>
  have h11:l<=11:=((hT.gw.YW wf.ii).i wf.ii.1).2
  obtain⟨g1,h1,hT1,_⟩:=hT.val (hk.root hro)
  show (uO c.aE λr=>.node r λa=>pM c (aH c.key c.aI) a.gen (yQ c kk n) kk [r] r 0).Al tS (110*(l+1)) (20*(l+1)) s
  refine Al.mono (n:=(110*l+22)+2*l+1) (i:=20*l+10) (Qf (qH (hT1.PI.node _) ?_)) (by omega) (by omega)
  rw[wf.root,h1.node wf.rt.dU,wf.rt.1]
  refine qH (hT1.PI.node r) ?_
  have w1:=w.m6 (s':=(s.load c.aE.root).1) hT.gw h1 rfl (Gc _ _)
  refine C' (n:=n) (kk:=kk) (N:=110*l+22) (j:=20*l+10) hT1 (hk.ge h1) w1 (by omega) (λg2 s2 path h2 hT2 hS2 hp=>?_) g1 _ (Ge.refl hT1.gw) hT1 (Mc.refl _)
  have a2:=h1.trans h2
  have wf1:=w1.wf
  have hm1:rd (s.load c.aE.root).1 (g1.node i).main=m:=by rw[h1.node wf.ii.dU];exact hm
  have w2:=w1.m6 hT1.gw h2 (hS2 _ _ ((hk.ge h1).root hro)) hS2.ml
  have wf2:=w2.wf
  obtain⟨k,hk1⟩:∃k,kk-l=k+1:=⟨kk-l-1,by omega⟩
  rw[hk1,qD]
  refine FK (n:=110*l+20) hT2 wf2.ii (hz.ge a2) (by rw[h2.node wf1.ii.dU,hS2 _ _ (hT1.gw.MO wf1.ii)];exact hm1) λg3 s3 h3 hT3 hS3=>?_
  have w3:=w2.m6 hT2.gw h3 (hS3 _ _ ((hk.ge a2).root hro)) hS3.ml
  have a3:=a2.trans h3
  have:=T3 hro (k:=k) (kk:=kk) (n:=n) IH hT3 (hk.ge a3) w3 (hp.ge h3) (by rw[h3.node wf2.ii.dU,hS3 _ _ (hT2.gw.MO wf2.ii),h2.node wf1.ii.dU,hS2 _ _ (hT1.gw.MO wf1.ii)];exact hm1) (hz.ge a3) (hs.ge hT.gw hz.m a3) hkk
  rw[(h2.trans h3).node wf1.rt.dU]at this
  exact this
theorem GY:∀(d l k:Nat) (g:Ga) (s:St) (r pa i:Int) (path:List Int) (kk n:Nat),l+d=12->d<=k->12<=kk->Tw g s->Tk g c.aE->Wy g s c.aE (aH c.key c.aI) r l pa i->Pz g path (aH c.key c.aI) l pa i->(pM c (aH c.key c.aI) (g.node r).gen (yQ c kk n) k path i l).Al tS (1400+30*d) (300+10*d) s
 |0,l,k,g,s,r,pa,i,path,kk,n,hd,hk,hkk,hT,ht,w,hp=>by
  have:=((hT.gw.YW w.wf.ii).i w.wf.ii.1).2
  exact absurd (show l<=11 from this) (by omega)
 |d+1,l,0,g,s,r,pa,i,path,kk,n,hd,hk,hkk,hT,ht,w,hp=>absurd hk (by omega)
 |d+1,l,k+1,g,s,r,pa,i,path,kk,n,hd,hk,hkk,hT,ht,w,hp=>by
  have wf:=w.wf
  rw[qD]
  refine Al.mono (Ek (n:=1400+30*d+20) (j:=300+10*d+5) hT ht wf.ii λg1 s1 m h1 hT1 hz hm hR hl=>?_) (by omega) (by omega)
  have w1:=w.m6 hT.gw h1 (hR.i (by rw[wf.root];exact wf.rt)) hl
  have wf1:=w1.wf
  have ht1:=ht.ge h1
  have er:=h1.node wf.rt.dU
  by_cases hs:Stop g1 (aH c.key c.aI) l m
  ·have:=T3 hro (k:=k) (kk:=kk) (n:=n) (λl' _=>W4 hro l') hT1 ht1 w1 (hp.ge h1) hm hz hs hkk
   rw[er]at this
   exact Al.mono this (by omega) (by omega)
  ·have hb:(aB (g1.node m) (slice (aH c.key c.aI) l)).2=true:=by
    cases hq:(aB (g1.node m) (slice (aH c.key c.aI) l)).2 with
    |true=>rfl
    |false=>exact absurd (λh=>by rw[hq]at h;cases h) hs
   have h4:(g1.node (aB (g1.node m) (slice (aH c.key c.aI) l)).1).kind≠4:=λh=>hs λ_=>h
   have hk3:=Ai hb
   have hn1:=hT1.gw.ofM hz.m
   have hl10:=(hn1.c hk3).1
   have ed:=fP (h:=aH c.key c.aI) (l:=l) hl10
   have hI:jV g1 (aB (g1.node m) (slice (aH c.key c.aI) l)).1 (l+1,aH c.key c.aI%64^(l+1)):=by
    rcases(hn1.c hk3).2.2 _ hb with h|h
    ·rw[ed]at h;exact h
    ·exact absurd h.1 h4
   refine qH (hT1.PI.node m) ?_
   show (bif (g1.node m).kind==5 then _ else bif (g1.node m).kind==6 then _ else bif (g1.node m).kind==3 then _ else _:I Result).Al tS _ _ s1
   rw[show ((g1.node m).kind==5)=false by rw[hk3];rfl,show ((g1.node m).kind==6)=false by rw[hk3];rfl,show ((g1.node m).kind==3)=true by rw[hk3];rfl]
   simp only[Ak,Yv]
   rw[hb]
   show (I.node _ _).Al tS _ _ s1
   refine qH (hT1.PI.node _) ?_
   rw[show ((g1.node (aB (g1.node m) (slice (aH c.key c.aI) l)).1).kind==4)=false by rw[hI.1];rfl]
   simp only[Yv]
   cases hg:(g1.node (aB (g1.node m) (slice (aH c.key c.aI) l)).1).gen != (g.node r).gen with
   |false=>
    simp only[Yv]
    have hge:(g1.node (aB (g1.node m) (slice (aH c.key c.aI) l)).1).gen=(g1.node r).gen:=by rw[er];simpa using hg
    have:=GY d (l+1) k g1 s1 r i _ _ kk n (by omega) (by omega) hkk hT1 ht1 (.step w1 hm hz hb rfl hI hge) ((hp.ge h1).snoc hI)
    rw[er]at this
    exact Al.mono this (by omega) (by omega)
   |true=>
    simp only[Ak]
    refine Al.mono (P4 (N:=1400+30*d) (j:=300+10*d) hT1 ht1 hro w1 hm hz hb hI λg2 s2 x h2 hT2 w2=>?_) (by omega) (by omega)
    have hx1:=w2.wf.ii.one
    rw[show (x==0)=false by simp;omega]
    have:=GY d (l+1) k g2 s2 r i x (path++[x]) kk n (by omega) (by omega) hkk hT2 (ht1.ge h2) w2 ((hp.ge (h1.trans h2)).snoc w2.wf.ii)
    rw[h2.node wf1.rt.dU,er]at this
    exact this
theorem aAr{s:St}{kk n:Nat}(hkk:12<=kk)(hT:Tw g s)(ht:Tk g c.aE):(yQ c kk (n+1)).Al tS 1775 421 s:=by
 show (uO c.aE λr=>.node r λa=>pM c (aH c.key c.aI) a.gen (yQ c kk n) kk [r] r 0).Al tS 1775 421 s
 refine PB (n:=1760) (j:=420) hT ht λg1 s1 r h1 hT1 hr hq=>qH (hT1.PI.node r) ?_
 have hr0:jV g1 r (0,aH c.key c.aI%64^0):=by rw[Y'];exact hr
 exact GY hro 12 0 kk g1 s1 r 0 r [r] kk n rfl hkk hkk hT1 (ht.ge h1) (.root hr0 hq) ⟨⟨rfl,λj hj=>by(obtain rfl:j=0:=Nat.le_zero.1 hj);exact hr0⟩,rfl,λh=>absurd h (by omega)⟩
end
theorem X2{s:St}(hro:c.aE.readOnly=false)(hT:Tw g s)(ht:Tk g c.aE):(SP c FU).Al tS 1775 421 s:=by
 unfold SP
 cases hv:!bU c.key with
 |true=>exact trivial
 |false=>
  have e:yQ c FU FU=yQ c FU (99999999+1):=rfl
  simp only[Yv]
  rw[e]
  exact aAr hro (by decide) hT ht
end Go.Ct
end
section
namespace Go.Ct
variable{α:Type}{g:Ga}{Q:α->St->Prop}
def alone(s:St)(u:I α):Nat->St×I α
 |0=>(s,u)
 |i+1=>(alone s u i).2.step (alone s u i).1
theorem sM(s:St)(u:I α):∀i,alone s u (i+1)=alone (u.step s).1 (u.step s).2 i
 |0=>rfl
 |i+1=>by show (alone s u (i+1)).2.step (alone s u (i+1)).1=_;rw[sM s u i];rfl
structure Grown(j n:Nat)(s s':St):Prop where
 nodes:s'.aG.length<=s.aG.length+j
 more:s.aG.length<=s'.aG.length
 size:s'.size<=s.size+2*j+n
 fit:eK s->eK s'
theorem CF{u:I α}{n j:Nat}{s:St}(h:u.Al Q n j s)(hr:u.rest=true)(he:u.ended=none):0<n/\∃i s1,i<=j/\s1.acc=s.acc+1/\s1.aG=s.aG/\s1.size<=s.size+1/\Zd i s1 (u.step s).1/\(u.step s).2.rest=true/\(u.step s).2.Al Q (n-1) (j-i) (u.step s).1:=by
 cases u with
 |ret a=>cases he
 |load c k=>
  obtain⟨i,a,b,d,e⟩:=Al.head h.2
  exact⟨h.1,i,(s.load c).1,a,rfl,rfl,Nat.le_of_eq (St.Cp s c).1,b,d,e⟩
 |eA c o v k=>
  obtain⟨i,a,b,d,e⟩:=Al.head h.2
  exact⟨h.1,i,(s.eA c o v).1,a,rfl,rfl,Nat.le_of_eq (St.Bu s c o v).1,b,d,e⟩
 |_=>cases hr
theorem Al.run:∀(n j:Nat) (u:I α) (s:St),u.Al Q n j s->u.rest=true->∃z,z<=n/\(∀i,i<=z->Grown j n s (alone s u i).1)/\(∀i,i<z->(alone s u i).2.ended.isSome=false)/\∃r,(alone s u z).2=.ret r/\Q r (alone s u z).1/\(alone s u z).1.acc=s.acc+z:=by
 intro n
 induction n with
 |zero=>
  intro j u s h hr
  cases u with
  |ret a=>exact⟨0,bD _,λi hi=>by
    obtain rfl:i=0:=by omega
    exact⟨Nat.le_add_right ..,bD _,by show s.size<=_;omega,id⟩,λi hi=>absurd hi (Nat.not_lt_zero i),a,rfl,h,rfl⟩
  |load c k=>exact absurd h.1 (Nat.lt_irrefl 0)
  |eA c o v k=>exact absurd h.1 (Nat.lt_irrefl 0)
  |_=>cases hr
 |succ n ih=>
  intro j u s h hr
  cases he:u.ended with
  |some a=>
   cases u with
   |ret a=>exact⟨0,Hg _,λi hi=>by
     obtain rfl:i=0:=by omega
     exact⟨Nat.le_add_right ..,bD _,by show s.size<=_;omega,id⟩,λi hi=>absurd hi (Nat.not_lt_zero i),a,rfl,h,rfl⟩
   |_=>cases he
  |none=>
   obtain⟨_,i,s1,hi,ha,hs,hz,hG,hr',h'⟩:=CF h hr he
   obtain⟨z,hzn,hg,hrun,r,e1,e2,e3⟩:=ih (j-i) _ _ h' hr'
   have hf1:eK s->eK s1:=λhf=>by unfold eK;rw[hs];exact hf
   refine⟨z+1,by omega,λk hk=>?_,λk hk=>?_,r,by rw[sM];exact e1,by rw[sM];exact e2,by rw[sM,e3,hG.acc,ha];omega⟩
   ·cases k with
    |zero=>exact⟨Nat.le_add_right ..,bD _,by show s.size<=_;omega,id⟩
    |succ k=>
     have q:=hg k (by omega)
     rw[sM]
     have a1:=q.nodes;have a2:=q.more;have a3:=q.size;have b1:=hG.nodes;have b2:=hG.more;have b3:=hG.size
     rw[hs]at b1 b2
     exact⟨by omega,by omega,by omega,λhf=>q.fit (hG.fit (hf1 hf))⟩
   ·cases k with
    |zero=>show u.ended.isSome=false;rw[he];rfl
    |succ k=>rw[sM];exact hrun k (by omega)
theorem P8{t:bC}{s:St}(n:Nat)(hT:Tw g s)(hk:Tk g t)(hro:t.readOnly=false):(iT t (n+1)).Al (λ_ _=>True) 31 6 s:=by
 have ht:=hk.root hro
 exact PB (n:=16) (j:=5) hT hk λg1 s1 r h1 hT1 hr q1=>Ek (n:=6) (j:=4) hT1 (hk.ge h1) hr λg2 s2 m h2 hT2 hm q2 hR _=>by
  obtain⟨hT3,e3,h3,_,_⟩:=nO hT2 (n:={kind:=3}) (i:=0) (b:=(0,0)) (Js (by decide) (by decide)) ⟨(λh=>by cases h),(λ_=>.inl rfl),λh=>by cases h⟩
  refine GX (j:=3) (λ_=>fY _) ?_
  rw[e3]
  have hF:Fx g2 t s2 r m:=⟨hr.ge h2,hm.m,Z4 hR hr q1,q2,SU hT2 hm⟩
  have ht2:=(h1.trans h2).oA ht
  exact XT (n:=0) (j:=0) hT3 (h3.oA ht2) hro (kQ hT2.gw rfl) (hF.alloc hT2 ht2 h3) λg' s' _ _ _ _=>trivial
theorem H'{t:bC}{s:St}{r m:Int}(n:Nat)(hT:Tw g s)(hk:Tk g t)(hro:t.readOnly=false)(hF:Fx g t s r m):(iT t (n+1)).Al (λ_ s'=>s'.acc=s.acc+9/\s'.aG.length=s.aG.length+3) 9 4 s:=by
 have ht:=hk.root hro
 exact Z6 (n:=8) hT hk hF λg1 s1 h1 hT1 a1 l1 hF1=>T5 (n:=6) hT1 hF1 λg2 s2 h2 hT2 a2 l2 hF2=>by
  obtain⟨hT3,e3,h3,a3,l3⟩:=nO hT2 (n:={kind:=3}) (i:=0) (b:=(0,0)) (Js (by decide) (by decide)) ⟨(λh=>by cases h),(λ_=>.inl rfl),λh=>by cases h⟩
  refine GX (j:=3) (λ_=>fY _) ?_
  rw[e3]
  have ht2:=(h1.trans h2).oA ht
  exact XT (n:=0) (j:=0) hT3 (h3.oA ht2) hro (kQ hT2.gw rfl) (hF2.alloc hT2 ht2 h3) λg' s' _ _ a4 l4=>⟨by rw[a4,a3,a2,a1],by rw[l4,l3,l2,l1]⟩
theorem Ur{Q:Result->St->Prop}{s:St}{m:Int}(hT:Tw g s)(hm:oH g m (0,0))(H:∀r s',s'.acc=s.acc->s'.aG.length=s.aG.length+1->Q r s'):(Bt m).Al Q 0 3 s:=by
 obtain⟨hT3,e3,h3⟩:=aAv hT
 refine alG (j:=2) ?_
 rw[e3]
 have hN:cJ g.bS {kind:=2,gen:=(g.gen:Int)+1} (0,0):=rH (by omega) (by show _<=((_+1:Nat):Int);omega) (by decide)
 obtain⟨hT4,e4,h4,a4,l4⟩:=nO hT3 (i:=m) hN ⟨λ_=>hm.ge h3,(λh=>by cases h),λh=>by cases h⟩
 refine GX (j:=1) (λ_=>bG _ 2 _ 0 0 0) (alC (j:=0) ?_)
 exact H _ _ a4 l4
theorem V7{t:bC}{s:St}(fz:Bool)(n:Nat)(hT:Tw g s)(hk:Tk g t)(hro:t.readOnly=false):(Gb t (λr m=>bif fz then Gd r else Bt m) (n+1)).Al (λ_ _=>True) 31 8 s:=by
 have ht:=hk.root hro
 refine PB (n:=16) (j:=7) hT hk λg1 s1 r h1 hT1 hr q1=>Ek (n:=6) (j:=6) hT1 (hk.ge h1) hr λg2 s2 m h2 hT2 hm q2 hR _=>?_
 refine XT (n:=0) (j:=3) hT2 ((h1.trans h2).oA ht) hro hm.m ⟨hr.ge h2,hm.m,Z4 hR hr q1,q2,SU hT2 hm⟩ λg' s' h3 hT3 _ _=>?_
 cases fz with
 |true=>exact alC (j:=2) trivial
 |false=>exact Ur hT3 (hm.m.ge h3) λ_ _ _ _=>trivial
theorem V6{t:bC}{s:St}{r m:Int}(fz:Bool)(n:Nat)(hT:Tw g s)(hk:Tk g t)(hro:t.readOnly=false)(hF:Fx g t s r m):(Gb t (λr m=>bif fz then Gd r else Bt m) (n+1)).Al (λ_ s'=>s'.acc<=s.acc+9/\s'.aG.length<=s.aG.length+3) 9 8 s:=by
 have ht:=hk.root hro
 refine Z6 (n:=8) hT hk hF λg1 s1 h1 hT1 a1 l1 hF1=>T5 (n:=6) hT1 hF1 λg2 s2 h2 hT2 a2 l2 hF2=>?_
 refine XT (n:=0) (j:=5) hT2 ((h1.trans h2).oA ht) hro hF2.mn hF2 λg' s' h3 hT3 a3 l3=>?_
 rw[a2,a1]at a3
 rw[l2,l1]at l3
 cases fz with
 |true=>exact alC (j:=4) ⟨by show s'.acc<=_;omega,by show s'.aG.length<=_;omega⟩
 |false=>exact Al.mono (Ur hT3 (hF2.mn.ge h3) λ_ x b c=>⟨by omega,by omega⟩) (bD _) (by omega)
theorem S5{t:bC}{s:St}(fz:Bool)(n:Nat)(hT:Tw g s)(hk:Tk g t):(bif fz then Qg t (n+1)else Cg t (n+1)).Al (λ_ _=>True) 31 8 s:=by
 cases hro:t.readOnly with
 |false=>
  have:=V7 fz n hT hk hro
  cases fz with
  |true=>unfold Qg;rw[hro];exact this
  |false=>unfold Cg;rw[hro];exact this
 |true=>
  obtain⟨g1,h1,hT1,hv⟩:=hT.val (hk.fixed hro)
  have hv:jV g1 (rd s t.root) (0,0):=hv
  cases fz with
  |true=>unfold Qg;rw[hro];exact Qf (n:=30) (alC (j:=7) trivial)
  |false=>
   unfold Cg;rw[hro]
   exact Qf (n:=30) (Ek (n:=20) (j:=7) hT1 (hk.ge h1) hv λg2 s2 m h2 hT2 hm _ _ _=>Al.mono (Ur hT2 hm.m λ_ _ _ _=>trivial) (by omega) (by omega))
theorem aAs{t:bC}{s:St}{r m:Int}(fz:Bool)(n:Nat)(hT:Tw g s)(hk:Tk g t)(hF:Fx g t s r m):(bif fz then Qg t (n+1)else Cg t (n+1)).Al (λ_ s'=>s'.acc<=s.acc+9/\s'.aG.length<=s.aG.length+3) 9 8 s:=by
 cases hro:t.readOnly with
 |false=>
  have:=V6 fz n hT hk hro hF
  cases fz with
  |true=>unfold Qg;rw[hro];exact this
  |false=>unfold Cg;rw[hro];exact this
 |true=>
  obtain⟨g1,h1,hT1,hv⟩:=hT.val (hk.fixed hro)
  have hF1:Fx g1 t (s.load t.root).1 r m:=⟨hF.rt.ge h1,hF.mn.ge h1,hF.root,by rw[h1.node hF.rt.dU];exact hF.main,by rw[h1.node hF.mn.dU];exact hF.prev⟩
  cases fz with
  |true=>unfold Qg;rw[hro];exact Qf (n:=8) (alC (j:=7) ⟨by show s.acc+1<=_;omega,by show s.aG.length<=_;omega⟩)
  |false=>
   unfold Cg;rw[hro]
   refine Qf (n:=8) ?_
   rw[hF.root]
   exact T5 (n:=6) hT1 hF1 λg2 s2 h2 hT2 a2 l2 hF2=>Al.mono (Ur hT2 hF2.mn λ_ x b c=>⟨by rw[b,a2];show s.acc+1+2<=_;omega,by rw[c,l2];show s.aG.length+1<=_;omega⟩) (by omega) (by omega)
end Go.Ct
end
section
namespace Go.Ct
variable{g:Ga}
theorem Y2{t:bC}{key:ByteArray}{h:Nat}:∀(d l k:Nat) (b:fV) (g:Ga) (s:St) (i level:Int),b.1=l->l+d=12->d<=k->Tw g s->Tk g t->jV g i b->(pG t key h k i level).Al tS (10*d) d s
 |0,l,k,b,g,s,i,level,hb,hd,hk,hT,ht,hi=>by
  have:=((hT.gw.YW hi).i hi.1).2
  omega
 |d+1,l,0,b,g,s,i,level,hb,hd,hk,hT,ht,hi=>absurd hk (by omega)
 |d+1,l,k+1,b,g,s,i,level,hb,hd,hk,hT,ht,hi=>by
  show (mM t i _).Al tS (10*d+10) (d+1) s
  refine Ek hT ht hi λg1 s1 m h1 hT1 hz hm _ _=>qH (hT1.PI.node m) ?_
  have hn:=hT1.gw.ofM hz.m
  have pr:∀x:Node,(vO key x).Al tS (10*d) d s1:=λx=>by
   unfold vO;cases bR x.key key<;>exact trivial
  rcases sH hz.m with h3|h5|h6
  ·rw[h3]
   cases hl:(aB (g1.node m) (slice h level)).2 with
   |false=>exact trivial
   |true=>
    refine qH (hT1.PI.node _) ?_
    rcases(hn.c h3).2.2 _ hl with hI|hS
    ·rw[hI.1]
     exact Y2 d (l+1) k (dO b (slice h level)) g1 s1 _ _ (by show b.1+1=l+1;omega) (by omega) (by omega) hT1 (ht.ge h1) hI
    ·rw[hS.1];exact pr _
  ·rw[h5];exact pr _
  ·rw[h6]
   show (bif (bB (g1.node m).aF key).2 then _ else _:I Result).Al tS _ _ s1
   cases (bB (g1.node m).aF key).2<;>exact trivial
theorem J'{c:Call}{s:St}(hT:Tw g s)(hc:kZ g c)(h12:c.kind<=12):(mS c FU).Al tS 1775 1000 s:=by
 have h7:=hc.lo
 unfold mS
 split
 ·unfold FN
  cases !bU c.key with
  |true=>exact trivial
  |false=>
   refine Al.mono (PB (n:=120) (j:=12) (k:=λr=>pG c.aE c.key (aH c.key c.aI) FU r 0) hT hc.aE λg1 s1 r h1 hT1 hr _=>?_) (by omega) (by omega)
   exact Y2 12 0 FU (0,0) g1 s1 r 0 rfl rfl (by decide) hT1 (hc.aE.ge h1) hr
 ·split
  ·rename_i h8;exact Al.mono (aB3 (hc.ro (.inl h8)) hT hc.aE) (by omega) (by omega)
  ·split
   ·rename_i h9;exact Al.mono (X2 (hc.ro (.inr (.inl h9))) hT hc.aE) (by omega) (by omega)
   ·have eF:FU=99999999+1:=rfl
    split
    ·rw[eF];exact Al.mono (S5 false 99999999 hT hc.aE) (by omega) (by omega)
    ·split
     ·rw[eF];exact Al.mono (S5 true 99999999 hT hc.aE) (by omega) (by omega)
     ·rw[if_neg (by omega),eF]
      exact Al.mono (P8 99999999 hT hc.aE (hc.ro (.inr (.inr (by omega))))) (by omega) (by omega)
theorem Sh.rest{u u':I Result}(h:Sh u u' g):u.rest=true:=by cases h<;>rfl
structure JG(g:Ga)(S0 i:Nat)(x:X):Prop where
 ex:∃g' u u',Ge g g'/\GW g'/\nZ g' x.s/\eK x.s/\Er g' x.e u u'/\∃n j,u.Al tS n j x.s/\x.s.size+2*j+n<=S0+4000/\i+n<=1775
 eG:x.e.eG.length<=i
 rm:S0<=80000000000
theorem JG.start{c:Call}{s:St}(hS:s.size<=80000000000)(h12:c.kind<=12)(hw:GW g)(ht:nZ g s)(hf:eK s)(hc:kZ g c)(hm:c.aI<18446744073709551616)(hk:c.key.size<=9223372036854775807)(hok:Ok 50 (bX (bY c FU) 0 ⟨{call:=c},s⟩)):JG g s.size 0 (bX (bY c FU) 0 ⟨{call:=c},s⟩):=by
 obtain⟨g',u,u',h1,h2,h3,h4,h5,h6,h7,_⟩:=Er.start hw ht hf hc hm hk hok
 obtain⟨i,hi,hG,_,ha⟩:=Al.head (J' ⟨hw,ht⟩ hc h12)
 rw[h1]at hG ha
 have:=hG.size
 exact⟨⟨g',u,u',h2,h3,h4,h5,h6,1775,1000-i,ha,by dsimp only at this;omega,by omega⟩,by rw[h7];exact bD _,hS⟩
theorem JG.call{S0 i:Nat}{x:X}(h:JG g S0 i x):x.e.call.aI<18446744073709551616/\x.e.call.key.size<=9223372036854775807/\7<=x.e.call.kind/\(x.e.call.kind<=12\/x.e.call.kind=14):=by
 obtain⟨g',u,u',_,_,_,_,hE,_⟩:=h.ex
 exact⟨hE.aI,hE.key,hE.ok.lo,hE.ok.hi⟩
theorem JG.ready{S0 i:Nat}{x:X}(h:JG g S0 i x)(hs:S0+199*i+120<=room):Ok 60 (cD 1 x)/\(cD 1 x).left<FU:=by
 obtain⟨g',u,u',_,hw,ht,hf,hE,n,j,_,h1,_⟩:=h.ex
 exact hE.ready (s:=x.s) ht hf (by have:=h.rm;unfold Ct.room;omega)
theorem JG.step{S0 i:Nat}{x:X}(h:JG g S0 i x)(hd:x.e.done=false)(hi:i<Cx)(hok:Ok 50 (bX (bY x.e.call FU) 1 x)):JG g S0 (i+1) (bX (bY x.e.call FU) 1 x):=by
 obtain⟨g',u,u',k,hw,ht,hf,hE,n,j,ha,hz,hin⟩:=h.ex
 obtain⟨g2,v,v',h0,k2,h2,h3,h4,h5,h6,h7,h8,hP⟩:=hE.step (s:=x.s) hw ht hf hd (An h.eG hi) hok
 have he:u.ended=none:=by
  have:=hE.same.1
  rw[hd]at this
  cases hu:u.ended with
  |none=>rfl
  |some r=>rw[hu]at this;cases this
 obtain⟨hn,q,s1,b1,b2,b3,b4,b5,b6,b7⟩:=CF ha hE.sh.rest he
 rw[h0]at b5 b7
 have b8:(bX (bY x.e.call FU) 1 x).s.size<=s1.size+2*q:=b5.size
 have hg:=h.eG
 exact⟨⟨g2,v,v',k.trans k2,h2,h3,h4,h5,n-1,j-q,b7,by omega,by omega⟩,by rw[show (bX (bY x.e.call FU) 1 x).e.eG.length=x.e.eG.length+1 from h6];omega,h.rm⟩
theorem JG.aAz{S0 i n:Nat}{x:X}(h:JG g S0 i x)(hi:i<=n)(hn:n<=15\/n=1048576):x.s.size<=S0+Yd/\(i=n->i<=s6):=by
 obtain⟨g',u,u',k,hw,ht,hf,hE,m,j,ha,hz,hin⟩:=h.ex
 exact⟨by unfold Yd;omega,λe=>by unfold s6;omega⟩
theorem JG.er{S0 i:Nat}{x:X}(h:JG g S0 i x):∃g' u u',Ge g g'/\GW g'/\nZ g' x.s/\eK x.s/\Er g' x.e u u':=by
 obtain⟨g',u,u',a,b,c,d,e,_⟩:=h.ex
 exact⟨g',u,u',a,b,c,d,e⟩
theorem Lc.m6{k n i b:Nat}{s:St}{ts:List bC}{zs:List (Nat×Ex)}{x:X}(h:Lc k g s ts zs)(hx:JG g s.size i x)(hi:i<=n)(hq:x.e.done=true\/i=n)(hn:n<=15\/n=1048576):∃g',Lc (k+1) g' x.s (Jw ts x.e) (DJ zs b x.e):=by
 obtain⟨g',u,u',hk,hw,ht,hf,hE⟩:=JG.er hx
 obtain⟨f1,f2⟩:=JG.aAz hx hi hn
 have hT:∀t∈ts,Tk g' t:=λt m=>(h.GO t m).ge hk
 have hZ:∀z∈zs,z.2.eG.length<=s6+(k+1)/\∃u u',Er g' z.2 u u':=λz m=>by
  obtain⟨h1,v,v',h2⟩:=h.ex z m
  exact⟨by omega,v,v',h2.ge h.gw hk⟩
 have hs:x.s.size<=Yd*(k+1+1):=by have:=h.small;unfold Yd at *;omega
 have h5:=h.Qr
 have h0:=h.some
 refine⟨g',hw,ht,hf,?_,?_,?_,?_,?_,?_,hs⟩
 ·unfold Jw
  split
  ·rename_i hc
   intro t m
   rcases List.mem_append.1 m with m|m
   ·exact hT t m
   ·rw[List.mem_singleton.1 m]
    rcases hE.result hc.1 with hr|hr
    ·omega
    ·exact hr
  ·exact hT
 ·unfold Jw
  split
  ·rw[Xe,tW h0,<- Xe];exact h.first
  ·exact h.first
 ·unfold Jw;split
  ·rw[Xb];omega
  ·exact h0
 ·unfold Jw
  split
  ·rename_i hc
   rw[Xb,dP];omega
  ·exact h5
 ·unfold DJ
  split
  ·exact hZ
  ·rename_i hd
   intro z m
   rcases List.mem_append.1 m with m|m
   ·exact hZ z m
   ·rw[List.mem_singleton.1 m]
    have hg:=hx.eG
    have:=f2 (hq.resolve_left hd)
    exact⟨by show x.e.eG.length<=_;omega,u,u',hE⟩
 ·have:=h.RZ
  unfold DJ;split
  ·omega
  ·rw[Xb,dP];omega
end Go.Ct
end
