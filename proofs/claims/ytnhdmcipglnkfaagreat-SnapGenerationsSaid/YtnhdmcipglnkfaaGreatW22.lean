/- Parts of a proof: Sa1, Sb, Wn, C6, BmPlace, C7. -/
import Derived.Test.YtnhdmcipglnkfaaGreatW21
set_option linter.unusedVariables false
set_option linter.unusedSimpArgs false
set_option maxRecDepth 100000
set_option maxHeartbeats 4000000
section
namespace Go.Ct
variable{α β γ:Type}{g:Ga}
theorem I.bind_assoc:∀(t:I α) (f:α->I β) (h:β->I γ),(t.bind f).bind h=t.bind λv=>(f v).bind h
 |.ret a,f,h=>rfl
 |.load c k,f,h=>by show I.load c _=I.load c _;congr 1;funext v;exact I.bind_assoc (k v) f h
 |.eA c o n k,f,h=>by show I.eA c o n _=I.eA c o n _;congr 1;funext v;exact I.bind_assoc (k v) f h
 |.alloc n i k,f,h=>by show I.alloc n i _=I.alloc n i _;congr 1;funext v;exact I.bind_assoc (k v) f h
 |.cell i k,f,h=>by show I.cell i _=I.cell i _;congr 1;funext v;exact I.bind_assoc (k v) f h
 |.gen k,f,h=>by show I.gen _=I.gen _;congr 1;funext v;exact I.bind_assoc (k v) f h
 |.node r k,f,h=>by show I.node r _=I.node r _;congr 1;funext v;exact I.bind_assoc (k v) f h
theorem Sm.as9[Qc γ]{t:I γ}{u:I α}{f:α->I β}{h:β->I γ}(k:Sm t (u.bind λv=>(f v).bind h) g):Sm t ((u.bind f).bind h) g:=by rw[I.bind_assoc];exact k
variable[Qc β]
theorem Sm.cc{c:Bool}{a b:I β}{x y:I α}{k:α->I β}(h1:c=true->Sm a (x.bind k) g)(h2:c=false->Sm b (y.bind k) g):Sm (bif c then a else b) ((bif c then x else y).bind k) g:=by
 cases c with
 |true=>exact h1 rfl
 |false=>exact h2 rfl
theorem Sm.cn{c:Bool}{a b:I β}{x y:I α}{k:α->I β}(h1:c=true->Sm b (x.bind k) g)(h2:c=false->Sm a (y.bind k) g):Sm (bif !c then a else b) ((bif c then x else y).bind k) g:=by
 cases c with
 |true=>exact h1 rfl
 |false=>exact h2 rfl
theorem Sm.tt{c:Bool}{a b:I β}{u:I β}(hc:c=true)(h:Sm a u g):Sm (bif c then a else b) u g:=by rw[hc];exact h
theorem Sm.ff{c:Bool}{a b:I β}{u:I β}(hc:c=false)(h:Sm b u g):Sm (bif c then a else b) u g:=by rw[hc];exact h
theorem Sm.rt{c:Bool}{x y:I α}{k:α->I β}{t:I β}(hc:c=true)(h:Sm t (x.bind k) g):Sm t ((bif c then x else y).bind k) g:=by rw[hc];exact h
theorem Sm.rf{c:Bool}{x y:I α}{k:α->I β}{t:I β}(hc:c=false)(h:Sm t (y.bind k) g):Sm t ((bif c then x else y).bind k) g:=by rw[hc];exact h
theorem w7{k g0 o e w:Int}{b:fV}(hk:k=2\/k=7\/k=8)(hv:Node.valid {kind:=k,gen:=g0,dC:=o,aK:=e,new:=w}=true)(hi:k=2->g0<=g.gen/\b.1<=11)(hf:k=7->oH g o b)(hd:k=8->jV g o (0,0)/\oH g e (0,0)/\jV g w (0,0)):
  cJ g {kind:=k,gen:=g0,dC:=o,aK:=e,new:=w} b:=by
 refine⟨hv,⟨0,bG 0 k g0 o e w (by omega)⟩,by show 2<=k;omega,by show k<=8;omega,hi,λh=>?_,λh=>?_,λh=>?_,hf,hd⟩
 ·exact absurd (show k=3 from h) (by omega)
 ·exact absurd (show k=5 from h) (by omega)
 ·exact absurd (show k=6 from h) (by omega)
theorem oH.one{r:Int}{b:fV}(h:oH g r b):1<=r:=uA (g:=g) (r:=r) (by have:=h.two;omega)
theorem jV.one{r:Int}{b:fV}(h:jV g r b):1<=r:=uA (by rw[h.1];decide)
theorem Dg.one{r:Int}{b:fV}(h:Dg g r b):1<=r:=uA (by rw[h.1];decide)
theorem JS{p:Int}{b:fV}(h:oH g p b):cJ g {kind:=7,dC:=p} b:=
 w7 (.inr (.inl rfl)) (by have:=h.one;unfold Node.valid;simp[fT,Node.only,bR,mJ,this]) (λh=>by cases h) (λ_=>h) λh=>by cases h
theorem rH{x:Int}{b:fV}(h1:1<=x)(h2:x<=g.gen)(hb:b.1<=11):cJ g {kind:=2,gen:=x} b:=
 w7 (.inl rfl) (by unfold Node.valid;simp[fT,Node.only,bR,mJ,h1]) (λ_=>⟨h2,hb⟩) (λh=>by cases h) λh=>by cases h
theorem TX{o e w:Int}{b:fV}(ho:jV g o (0,0))(he:oH g e (0,0))(hw:jV g w (0,0)):cJ g {kind:=8,dC:=o,aK:=e,new:=w} b:=
 w7 (.inr (.inr rfl)) (by have:=ho.one;have:=he.one;have:=hw.one;unfold Node.valid;simp[fT,Node.only,bR,mJ, *]) (λh=>by cases h) (λh=>by cases h) λ_=>⟨ho,he,hw⟩
theorem Js{b:fV}(hb:b.1<=10)(hb2:b.2<64^b.1):cJ g {kind:=3} b:=
 ⟨by decide+kernel,⟨0,fY 0⟩,by decide,by decide,(λh=>by cases h),λ_=>⟨hb,hb2,λk hk=>by
  have:=pV hk
  unfold aB at this;rw[if_pos (.inr (by unfold Bm.has;simp))]at this;exact absurd this (by decide)⟩,(λh=>by cases h),(λh=>by cases h),(λh=>by cases h),λh=>by cases h⟩
theorem ED.SO{p:Int}{b:fV}(h:ED g p b):(g.node p).bM=false:=by unfold Node.bM;rw[h.1];rfl
abbrev Kp(g:Ga)(b:fV)(k:Int->I β)(k':Int->I β):Prop:=∀g',Ge g g'->GW g'->∀r,tS g' r b->Sm (k r) (k' r) g'
theorem val_zero{c v:Int}{b:fV}(h:YP g c v (.prev b))(h0:v=0):g.dec (-c):=by
 rcases h with h|h|h
 ·exact h.2
 ·have:=uA (g:=g) (r:=v) (by rw[h.1.1];decide);omega
 ·have:=h.2.1.one;omega
abbrev Ki(g:Ga)(k:Int->I β)(k':Int->I β):Prop:=∀g',Ge g g'->GW g'->∀r,jV g' r (0,0)->Sm (k r) (k' r) g'
theorem Kp.ge{b:fV}{k k':Int->I β}{g':Ga}(h:Kp g b k k')(hg:Ge g g'):Kp g' b k k':=λg2 h2 hw r hr=>h g2 (hg.trans h2) hw r hr
theorem Ki.ge{k k':Int->I β}{g':Ga}(h:Ki g k k')(hg:Ge g g'):Ki g' k k':=λg2 h2 hw r hr=>h g2 (hg.trans h2) hw r hr
theorem FJ{k k':Int->I β}{i m p:Int}{b:fV}(hw:GW g)(hi:jV g i b)(hm:oH g m b)(hp:ED g p b)(hf:(g.node p).dC=g.first (g.node m).prev)(hk:Kp g b k k'):Sm (Dq i m p k) ((EO i m p).bind k') g:=by
 have ho:=(hw.K4 hp).f hp.1
 have hz:tS g (g.node p).dC b:=by
  rw[hf];exact hw.LJ m b hm (by rw[<- hf];have:=ho.one;omega)
 refine .nl hp.dU (.nl hi.dU (.nr hi.dU (.nr hp.dU (.eA (.main b) (hw.MO hi) ho λg' hg hw' _ ok=>.nr (hp.ge hg).dU ?_))))
 rw[hg.node hp.dU];exact hk g' hg hw' _ (hz.ge hg)
theorem FH{k k':Int->I β}{i m pr:Int}{b:fV}{ok:Bool}(hw:GW g)(hi:jV g i b)(hm:oH g m b)(hpr:pr=(g.node m).prev)(hd:g.dec pr)(hk:Kp g b k k'):Sm (kY pr i m k ok) ((GV i m).bind k') g:=by
 subst hpr
 refine .nr hm.dU (.load (.prev b) (hw.Nl hm) λg' hg hw' v hv=>?_)
 refine Sm.cc (λh=>hk g' hg hw' m ⟨hm.ge hg,by rw[hg.node hm.dU];exact val_zero hv (by simpa using h)⟩) λh=>?_
 have h0:v≠0:=by simpa using h
 have hp:ED g' v b/\(g'.node v).dC=g'.first (g.node m).prev:=by
  rcases hv with hv|hv|⟨_,_,hv⟩
  ·exact absurd hv.1 h0
  ·exact hv
  ·exact absurd (hg.dec _ hd) hv
 exact FJ hw' (hi.ge hg) (hm.ge hg) hp.1 (by rw[hg.node hm.dU];exact hp.2) (hk.ge hg)
theorem EU{k k':Int->I β}{i m p pr:Int}{b:fV}(hw:GW g)(hi:jV g i b)(hm:oH g m b)(hp:oH g p b)(hpr:pr=(g.node m).prev)(hf:p=g.first pr)(hk:Kp g b k k'):Sm (mK pr p false (kY pr i m k)) ((EN i m p).bind k') g:=by
 subst hpr
 refine .nr hm.dU (.alloc b (JS hp) ⟨(λh=>by cases h),(λh=>by cases h),λh=>by cases h⟩ λhg hw'=>?_)
 refine .eA (.prev b) (hg.oA (hw.Nl hm)) ⟨by have:=hp.one;omega,.inr ⟨HY hw rfl,by rw[hg.first hw (hw.Nl hm),<- hf,yE];rfl⟩⟩ λg2 h2 hw2 hd ok=>?_
 have hg2:=hg.trans h2
 exact FH hw2 (hi.ge hg2) (hm.ge hg2) (by rw[hg2.node hm.dU]) (hd ⟨b,rfl⟩ (by rw[hg.first hw (hw.Nl hm)];exact hf)) (hk.ge hg2)
theorem Hi{t:bC}{k k':Int->I β}{v s:Int}(hw:GW g)(ht:g.oA t.root=some .root)(hv:tC g v)(hk:Ki g k k'):Sm (iD t v s k) ((Mj t v s).bind k') g:=by
 have hd:=(hw.G4 hv).d hv
 unfold iD Mj wR
 refine .nl hv.dU ?_
 generalize (s==1)=c
 cases c with
 |true=>exact .nr hv.dU (.eA .root ht (.inl hd.2.2) λg' hg hw' _ ok=>hk g' hg hw' _ (hd.2.2.ge hg))
 |false=>exact .nr hv.dU (.eA .root ht (.inl hd.1) λg' hg hw' _ ok=>hk g' hg hw' _ (hd.1.ge hg))
theorem UN{v:Int}{c:Int}(h:kB g c v .root)(hc:((g.node v).kind==2)=false):tC g v:=by
 rcases h with h|h
 ·rw[h.1]at hc;exact absurd hc (by decide)
 ·exact h
theorem VK{v:Int}{c:Int}(h:kB g c v .root)(hc:((g.node v).kind==2)=true):jV g v (0,0):=by
 rcases h with h|h
 ·exact h
 ·rw[show (g.node v).kind=8 from h]at hc;exact absurd hc (by decide)
theorem kB.dU{v c:Int}(h:kB g c v .root):v<=g.count:=h.elim jV.dU tC.dU
theorem SE{t:bC}{k k':Int->I β}(hw:GW g)(ht:g.oA t.root=some .root)(hk:Ki g k k'):Sm (Zi t k) ((GS t).bind k') g:=by
 refine .load .root ht λg1 h1 hw1 v hv=>?_
 have hv:kB g1 t.root v .root:=hv
 refine .nl hv.dU (.nr hv.dU (Sm.cc (λh=>hk g1 h1 hw1 v (VK hv h)) λh=>?_))
 have hD:=UN hv h
 refine .nr hD.dU (.load .status (hw1.Dt hD) λg2 h2 hw2 s hs=>?_)
 have hD2:=hD.ge h2
 have hk2:=hk.ge (h1.trans h2)
 have ht2:=(h1.trans h2).oA ht
 by_cases h0:s=0
 ·subst h0
  refine .nr hD2.dU ?_
  rw[h2.node hD.dU]
  refine .eA .status (h2.oA (hw1.Dt hD)) (.inr rfl) λg3 h3 hw3 _ ok=>.nr (hD2.ge h3).dU ?_
  rw[(h2.trans h3).node hD.dU]
  exact .load .status ((h2.trans h3).oA (hw1.Dt hD)) λg4 h4 hw4 s' hs'=>Hi hw4 ((h3.trans h4).oA ht2) (hD2.ge (h3.trans h4)) (hk2.ge (h3.trans h4))
 ·refine Sm.tt (by simpa using h0) (Sm.rf (by simpa using h0) ?_)
  exact Hi hw2 ht2 hD2 hk2
theorem Of{t:bC}{k k':Int->I β}{i m:Int}{b:fV}(hw:GW g)(ht:Tk g t)(hi:jV g i b)(hm:oH g m b)(hk:Kp g b k k'):Sm (qB t i m k) ((wQ t i m).bind k') g:=by
 refine .nl hm.dU (.nr hm.dU (.load (.prev b) (hw.Nl hm) λg1 h1 hw1 p hp=>?_))
 refine Sm.cc (λh=>hk g1 h1 hw1 m ⟨hm.ge h1,by rw[h1.node hm.dU];exact val_zero hp (by simpa using h)⟩) λh=>?_
 have h0:p≠0:=by simpa using h
 have hi1:=hi.ge h1
 have hm1:=hm.ge h1
 rcases hp with hp|hp|⟨hf,hp,hd⟩
 ·exact absurd hp.1 h0
 ·obtain⟨hp,hf⟩:=hp
  exact .nl hp.dU (.nr hp.dU (Sm.cn (λh=>absurd (hp.SO.symm.trans h) (by decide)) λ_=>FJ hw1 hi1 hm1 hp (by rw[h1.node hm.dU];exact hf) (hk.ge h1)))
 ·refine .nl hp.dU (.nr hp.dU (Sm.cn (λ_=>?_) λh=>absurd (hp.1.symm.trans h) (by decide)))
  refine Sm.cc (λh=>?_) λh=>?_
  ·exact EU hw1 hi1 hm1 hp (by rw[h1.node hm.dU]) hf (hk.ge h1)
  ·refine Sm.as9 (SE hw1 ((ht.ge h1).root h) λg2 h2 hw2 r hr=>?_)
   have hi2:=hi1.ge h2
   have hm2:=hm1.ge h2
   have hf2:p=g2.first (g.node m).prev:=by rw[h2.first hw1 (h1.oA (hw.Nl hm))];exact hf
   refine .nl hr.dU (.nl hi2.dU (.nr hr.dU (.nr hi2.dU ?_)))
   dsimp only
   generalize ((g2.node r).gen==(g2.node i).gen)=c
   cases c with
   |true=>
    refine .nr hm2.dU ?_
    rw[(h1.trans h2).node hm.dU]
    refine .eA (.prev b) ((h1.trans h2).oA (hw.Nl hm)) ⟨h0,.inl rfl⟩ λg3 h3 hw3 hd3 ok=>?_
    exact FH hw3 (hi2.ge h3) (hm2.ge h3) (by rw[((h1.trans h2).trans h3).node hm.dU]) (hd3 ⟨b,rfl⟩ hf2) (hk.ge ((h1.trans h2).trans h3))
   |false=>exact EU hw2 hi2 hm2 (hp.ge h2) (by rw[(h1.trans h2).node hm.dU]) hf2 (hk.ge (h1.trans h2))
theorem mN{t:bC}{k k':Int->I β}{i:Int}{b:fV}(hw:GW g)(ht:Tk g t)(hi:jV g i b)(hk:Kp g b k k'):Sm (mM t i k) ((oJ t i).bind k') g:=
 .nl hi.dU (.nr hi.dU (.load (.main b) (hw.MO hi) λg1 h1 hw1 m hm=>Of hw1 (ht.ge h1) (hi.ge h1) hm (hk.ge h1)))
abbrev Kb(g:Ga)(k:Bool->I β)(k':Bool->I β):Prop:=∀g',Ge g g'->GW g'->∀c,Sm (k c) (k' c) g'
theorem Kb.ge{k k':Bool->I β}{g':Ga}(h:Kb g k k')(hg:Ge g g'):Kb g' k k':=λg2 h2 hw r=>h g2 (hg.trans h2) hw r
theorem Gh{t:bC}{k k':Bool->I β}{i o n:Int}{b:fV}(hw:GW g)(ht:Tk g t)(hi:jV g i b)(hn:oH g n b)(hk:Kb g k k'):Sm (swapT t i o n k) ((mE t i o n).bind k') g:=by
 refine .nl hi.dU (.nr hi.dU (.eA (.main b) (hw.MO hi) hn λg1 h1 hw1 _ ok=>?_))
 refine Sm.cn (λh=>?_) λh=>hk g1 h1 hw1 false
 exact Sm.as9 (Of hw1 (ht.ge h1) (hi.ge h1) (hn.ge h1) λg2 h2 hw2 r hr=>hk g2 (h1.trans h2) hw2 _)
theorem QJ{t:bC}{k:I β}{k':Unit->I β}{v:Int}{d:Node}(hw:GW g)(ht:Tk g t)(hv:tC g v)(hd:d=g.node v)(hk:∀g',Ge g g'->GW g'->Sm k (k' ()) g'):Sm (Gu t d k) ((vR t v).bind k') g:=by
 subst hd
 have hD:=(hw.G4 hv).d hv
 refine .nr hv.dU (Sm.as9 (mN hw ht hD.1 λg1 h1 hw1 m hm=>.nr (hv.ge h1).dU ?_))
 rw[h1.node hv.dU]
 refine Sm.cc (λh=>.nr (hv.ge h1).dU ?_) λh=>.nr (hv.ge h1).dU ?_
 ·rw[h1.node hv.dU]
  exact .eA .status (h1.oA (hw.Dt hv)) (.inl rfl) λg2 h2 hw2 _ ok=>hk g2 (h1.trans h2) hw2
 ·rw[h1.node hv.dU]
  exact .eA .status (h1.oA (hw.Dt hv)) (.inr rfl) λg2 h2 hw2 _ ok=>hk g2 (h1.trans h2) hw2
theorem Bk{t:bC}{k k':Int->I β}(hw:GW g)(ht:Tk g t)(hk:Ki g k k'):Sm (uO t k) ((tV t).bind k') g:=by
 cases hro:t.readOnly with
 |true=>
  refine .load .fixed (ht.fixed hro) λg1 h1 hw1 v hv=>?_
  have hv:jV g1 v (0,0):=hv
  exact .nl hv.dU (.nr hv.dU (Sm.cc (λh=>hk g1 h1 hw1 v hv) λh=>absurd h (by rw[hv.1];decide)))
 |false=>
 refine .load .root (ht.root hro) λg1 h1 hw1 v hv=>?_
 have hv:kB g1 t.root v .root:=hv
 refine .nl hv.dU (.nr hv.dU (Sm.cc (λh=>hk g1 h1 hw1 v (VK hv h)) λh=>?_))
 have hD:=UN hv h
 refine .nr hD.dU (.load .status (hw1.Dt hD) λg2 h2 hw2 s hs=>?_)
 have hD2:=hD.ge h2
 have hk2:=hk.ge (h1.trans h2)
 have ht2:=ht.ge (h1.trans h2)
 by_cases h0:s=0
 ·subst h0
  refine Sm.as9 (QJ hw2 ht2 hD2 (by rw[h2.node hD.dU]) λg3 h3 hw3=>.nr (hD2.ge h3).dU ?_)
  rw[(h2.trans h3).node hD.dU]
  exact .load .status ((h2.trans h3).oA (hw1.Dt hD)) λg4 h4 hw4 s' hs'=>Hi hw4 ((ht2.ge (h3.trans h4)).root hro) (hD2.ge (h3.trans h4)) (hk2.ge (h3.trans h4))
 ·refine Sm.tt (by simpa using h0) (Sm.rf (by simpa using h0) ?_)
  exact Hi hw2 (ht2.root hro) hD2 hk2
theorem Iw{t:bC}{k k':Bool->I β}{o e n:Int}(hw:GW g)(ht:Tk g t)(hro:t.readOnly=false)(ho:jV g o (0,0))(he:oH g e (0,0))(hn:jV g n (0,0))(hk:Kb g k k'):Sm (lD t o e n k) ((Dn t o e n).bind k') g:=by
 refine .alloc (0,0) (TX ho he hn) ⟨(λh=>by cases h),(λh=>by cases h),λ_=>rfl⟩ λh1 hw1=>?_
 have hD:tC (g.alloc {kind:=8,dC:=o,aK:=e,new:=n} 0 (0,0)) (g.nodes.length+3):=IM rfl
 refine .nl hD.dU (.eA .root ((ht.ge h1).root hro) (.inr hD) λg2 h2 hw2 _ ok=>?_)
 refine Sm.cn (λh=>?_) λh=>hk g2 (h1.trans h2) hw2 false
 refine Sm.as9 (QJ hw2 (ht.ge (h1.trans h2)) (hD.ge h2) (h2.node hD.dU).symm λg3 h3 hw3=>.nr (hD.ge (h2.trans h3)).dU ?_)
 rw[(h2.trans h3).node hD.dU]
 refine .load .status ((h2.trans h3).oA (hw1.Dt hD)) λg4 h4 hw4 s hs=>?_
 have:=Hi (s:=s) (k:=λ_=>k (s==1)) (k':=λ_=>k' (s==1)) hw4 ((ht.ge (h1.trans (h2.trans (h3.trans h4)))).root hro) (hD.ge (h2.trans (h3.trans h4))) λg5 h5 hw5 r hr=>hk g5 ((h1.trans (h2.trans (h3.trans h4))).trans h5) hw5 _
 unfold Mj at this
 rw[I.bind_assoc]at this ⊢
 exact this
end Go.Ct
end
section
namespace Go.Ct
variable{g:Ga}
theorem Nh{a b:Nat}:∀j,(∀i,i<j->a.testBit i=b.testBit i)->Bm.pop j a=Bm.pop j b
 |0,_=>by simp[Bm.pop]
 |j+1,h=>by rw[Bm.cZ,Bm.cZ,Nh j λi hi=>h i (by omega),h j (by omega)]
theorem UG{n:Node}{i r:Int}{k:Nat}(h:(wX n i r k).2=true):1<=(wX n i r k).1:=by
 unfold wX at h ⊢
 split at h
 ·rename_i e;rw[if_pos e];have:=eC h;show 1<=r;omega
 ·rename_i e;rw[if_neg e];exact pV h
theorem tI(n:Node)(i r:Int):∀k,k<=64->(∀j,(bW n i r k).1.testBit j=(decide (j<k)&&(wX n i r j).2))/\(bW n i r k).2.length=Bm.pop k (bW n i r k).1/\
  (∀j,j<k->(wX n i r j).2=true->(bW n i r k).2.getD (Bm.pop j (bW n i r k).1) 0=(wX n i r j).1)/\∀x∈(bW n i r k).2,1<=x
 |0,_=>⟨λj=>by simp[bW],by simp[bW,Bm.pop],λj hj=>absurd hj (Nat.not_lt_zero _),λx hx=>by simp[bW]at hx⟩
 |k+1,hk=>by
  obtain⟨h1,h2,h3,h4⟩:=tI n i r k (by omega)
  rw[bW]
  cases hb:(wX n i r k).2 with
  |true=>
   simp only[xM]
   have hbit:∀j,(Bm.cI (bW n i r k).1 k).testBit j=(decide (k=j)||(bW n i r k).1.testBit j):=λj=>by
    rw[Bm.gL _ k (by omega)]
    by_cases hj:k=j<;>simp[hj]
   have hpop:∀j,j<=k->Bm.pop j (Bm.cI (bW n i r k).1 k)=Bm.pop j (bW n i r k).1:=λj hj=>Nh j λi hi=>by rw[hbit];simp[show k≠i by omega]
   refine⟨λj=>?_,?_,λj hj hj2=>?_,λx hx=>?_⟩
   ·rw[hbit,h1]
    by_cases hj:k=j
    ·subst hj;simp[hb]
    ·by_cases hjk:j<k
     ·simp[hj,hjk,show j<k+1 by omega]
     ·simp[hj,hjk,show ¬j<k+1 by omega]
   ·rw[cO,CG,h2,Bm.cZ,hpop k (JV _),hbit];simp
   ·rw[hpop j (by omega)]
    by_cases hjk:j=k
    ·subst hjk
     rw[<- h2,dI,tW (JV _)];simp
    ·have hlt:Bm.pop j (bW n i r k).1<(bW n i r k).2.length:=by
      rw[h2];exact oM (by rw[h1];simp[hj2];omega) (by omega)
     rw[dI,xD hlt,<- dI]
     exact h3 j (by omega) hj2
   ·rcases List.mem_append.1 hx with hx|hx
    ·exact h4 x hx
    ·rw[List.mem_singleton.1 hx];exact UG hb
  |false=>
   simp only[pJ]
   refine⟨λj=>?_,?_,λj hj hj2=>?_,h4⟩
   ·rw[h1]
    by_cases hj:k=j
    ·subst hj;simp[hb]
    ·by_cases hjk:j<k
     ·simp[hjk,show j<k+1 by omega]
     ·simp[hjk,show ¬j<k+1 by omega]
   ·rw[h2,Bm.cZ,h1];simp
   ·by_cases hjk:j=k
    ·subst hjk;rw[hb]at hj2;cases hj2
    ·exact h3 j (by omega) hj2
theorem Dv(n:Node)(i r:Int):(Dr n i r).valid=true:=by
 obtain⟨h1,h2,h3,h4⟩:=tI n i r 64 (JV _)
 show Node.valid {kind:=3,aD:=(bW n i r 64).1,aA:=(bW n i r 64).2,prev:=0}=true
 rw[EZ _ _ 0 (JA _)]
 simp only[Qb,wB,Ft,mQ]
 exact⟨h4,h2⟩
theorem KE(n:Node)(i r:Int):(Dr n i r).lO=true:=by
 unfold Node.lO;rw[Dv];rfl
theorem Tc(n:Node)(i r:Int){k:Int}(h:(aB (Dr n i r) k).2=true):∃j:Nat,k=j/\j<64/\(wX n i r j).2=true/\(aB (Dr n i r) k).1=(wX n i r j).1:=by
 obtain⟨h1,h2,h3,h4⟩:=tI n i r 64 (JV _)
 have hh:=(DF h).2
 have hi:0<=k/\k<64:=by unfold Bm.has at hh;simp at hh;omega
 obtain⟨j,rfl⟩:=BO hi.1
 have hj:j<64:=by omega
 have hb:(bW n i r 64).1.testBit j=true:=by rw[<- Bm.nI _ _ hj];exact hh
 rw[h1]at hb
 simp[hj]at hb
 refine⟨j,rfl,hj,hb,?_⟩
 rw[lQ (KE n i r) hj]
 show (if(bW n i r 64).1.testBit j=true then _ else _:Int×Bool).1=_
 rw[if_pos (by rw[h1];simp[hj,hb])]
 exact h3 j hj hb
theorem Ku{n:Node}{i r:Int}{b:fV}(hb:b.1<=10)(hb2:b.2<64^b.1)(hc:∀k:Nat,k<64->(wX n i r k).2=true->jV g (wX n i r k).1 (dO b k)\/Dg g (wX n i r k).1 (dO b k)):cJ g (Dr n i r) b:=by
 obtain⟨h1,h2,h3,h4⟩:=tI n i r 64 (JV _)
 refine⟨Dv n i r,⟨0,Nc 0 _ _ (Ni n i r 64).1 h4 h2⟩,by show (2:Int)<=3;decide,by show (3:Int)<=8;decide,(λh=>by cases h),λ_=>⟨hb,hb2,λk hk=>?_⟩,(λh=>by cases h),(λh=>by cases h),(λh=>by cases h),λh=>by cases h⟩
 obtain⟨j,rfl,hj,e1,e2⟩:=Tc n i r hk
 rw[e2];exact hc j hj e1
theorem Node.Fit.bm{L:Nat}{n:Node}(h:n.Fit L):n.aD<18446744073709551616:=h.1.2.2.1
theorem YN{n:Node}{i r:Int}{k:Nat}(h:(k:Int)≠i):wX n i r k=aB n k:=by unfold wX;rw[if_neg h]
theorem BG{n:Node}{b:fV}{i r:Int}(hn:cJ g n b)(hk:n.kind=3)(hr:r=0\/jV g r (dO b i)\/Dg g r (dO b i)):∀k:Nat,k<64->(wX n i r k).2=true->jV g (wX n i r k).1 (dO b k)\/Dg g (wX n i r k).1 (dO b k):=λk hk2 h=>by
 by_cases e:(k:Int)=i
 ·unfold wX at h ⊢
  rw[if_pos e]at h ⊢
  have:=eC h
  rcases hr with hr|hr
  ·omega
  ·rw[e];exact hr
 ·rw[YN e]at h ⊢
  exact(hn.c hk).2.2 k h
theorem yY{n:Node}{b:fV}{i r:Int}(hn:cJ g n b)(hk:n.kind=3)(h:(aB n i).2=true)(hr:jV g r (dO b i)\/Dg g r (dO b i)):cJ g (aP n i r).1 b/\(aP n i r).2=true/\(aP n i r).1.bM=true:=by
 obtain⟨L,hL⟩:=hn.fit
 rw[qQ hL.bm h (hr.elim jV.one Dg.one)]
 exact⟨Ku (hn.c hk).1 (hn.c hk).2.1 (BG hn hk (.inr hr)),rfl,rfl⟩
theorem YE{n:Node}{b:fV}(hn:cJ g n b)(hk:n.kind=3):n.lO=true:=by unfold Node.lO;rw[hk,hn.valid];rfl
theorem uC{n:Node}{b:fV}{i r:Int}(hn:cJ g n b)(hk:n.kind=3)(h:(aB n i).2=false)(h0:0<=i)(h1:i<64)(hr:jV g r (dO b i)\/Dg g r (dO b i)):cJ g (aS n i r).1 b/\(aS n i r).2=true/\(aS n i r).1.bM=true:=by
 obtain⟨L,hL⟩:=hn.fit
 rw[vB hL.bm (YE hn hk) h h0 (by omega) (hr.elim jV.one Dg.one)]
 exact⟨Ku (hn.c hk).1 (hn.c hk).2.1 (BG hn hk (.inr hr)),rfl,rfl⟩
theorem BH{n:Node}{b:fV}{i:Int}(hn:cJ g n b)(hk:n.kind=3)(h:(aB n i).2=true):cJ g (bL n i).1 b/\(bL n i).1.kind=3:=by
 obtain⟨L,hL⟩:=hn.fit
 rw[xV hL.bm h]
 exact⟨Ku (hn.c hk).1 (hn.c hk).2.1 (BG hn hk (.inl rfl)),rfl⟩
theorem Bz{k:Int}{h v:Nat}{key:ByteArray}{b:fV}(hk:k=4\/k=5)(hh:h<18446744073709551616)(hs:key.size<=64)(ht:k=5->1<=b.1/\h%64^b.1=b.2):cJ g {kind:=k,hash:=h,key:=key,value:=v} b:=by
 refine⟨?_,⟨0,iF 0 k h key v (by omega) hh hs⟩,by show 2<=k;omega,by show k<=8;omega,λe=>absurd (show k=2 from e) (by omega),λe=>absurd (show k=3 from e) (by omega),ht,λe=>absurd (show k=6 from e) (by omega),λe=>absurd (show k=7 from e) (by omega),λe=>absurd (show k=8 from e) (by omega)⟩
 unfold Node.valid
 rcases hk with rfl|rfl<;>simp[fT,Node.only,bR,mJ,hs]
theorem cJ.hash{n:Node}{b:fV}(h:cJ g n b):n.hash<18446744073709551616:=by obtain⟨L,hL⟩:=h.fit;exact hL.1.2.2.2.1
theorem cJ.key{n:Node}{b:fV}(h:cJ g n b):n.key.size<=64:=by obtain⟨L,hL⟩:=h.fit;exact hL.2
theorem DV{b:fV}{i:Int}{h:Nat}(hb:b.2<64^b.1)(e:h%64^(dO b i).1=(dO b i).2):h%64^b.1=b.2:=by
 have e1:h%64^(b.1+1)=b.2+i.toNat*64^b.1:=e
 rw[<- Nat.mod_mod_of_dvd h (Nat.pow_dvd_pow 64 (Nat.le_succ b.1)),e1,Nat.add_mul_mod_self_right,Nat.mod_eq_of_lt hb]
theorem qO{c s:Node}{b:fV}{i l:Int}(hc:cJ g c b)(hk:c.kind=3)(hs:s.kind=4->s.hash<18446744073709551616/\s.key.size<=64/\s.hash%64^(dO b i).1=(dO b i).2)(hl:l=(b.1:Int)):cJ g (bQ c l s) b/\(bQ c l s).bM=true:=by
 unfold bQ
 split
 ·rename_i h
  obtain⟨s1,s2,s3⟩:=hs h.2.2
  exact⟨Bz (.inr rfl) s1 s2 λ_=>⟨by omega,DV (hc.c hk).2.1 s3⟩,rfl⟩
 ·exact⟨hc,by unfold Node.bM;rw[hk];rfl⟩
theorem Zb{n:Node}{b:fV}(hn:cJ g n b)(h:(aT n).2=true):cJ g (aT n).1 b/\(aT n).1.kind=4/\(aT n).1.hash%64^b.1=b.2:=by
 unfold aT at h ⊢
 split at h
 ·rename_i hk;rw[if_pos hk];exact⟨Bz (.inl rfl) hn.hash hn.key (λh=>by cases h),rfl,(hn.t hk).2⟩
 ·cases h
theorem Oc{n:Node}(hm:n.bM=true):n.kind=3\/n.kind=5\/n.kind=6:=by unfold Node.bM at hm;simpa[or_assoc]using hm
theorem mZ{n:Node}{i:Int}{b:fV}(hm:n.bM=true)(h:i=0\/tS g i b):Tb g n i b:=by
 have hk:=Oc hm
 exact⟨λe=>absurd e (by omega),λ_=>h,λe=>absurd e (by omega)⟩
theorem wH{n:Node}{i:Int}{b:fV}(hk:n.kind=4\/n.kind=7):Tb g n i b:=
 ⟨λe=>absurd e (by omega),λe=>absurd (Oc e) (by omega),λe=>absurd e (by omega)⟩
theorem zR(h:Nat)(l:Int):0<=slice h l/\slice h l<64:=dD h l
theorem fP{h l:Nat}(hl:l<=10):dO (l,h%64^l) (slice h l)=(l+1,h%64^(l+1)):=by
 unfold dO slice
 rw[if_neg (by omega)]
 simp only[Prod.mk.injEq,true_and]
 rw[GY,GY,Nat.pow_succ,Nat.mod_mul,Nat.mul_comm (64^l)]
end Go.Ct
end
section
namespace Go.Ct
variable{α β γ:Type}
def RZ:Nat->I α->Prop
 |_,.ret _=>True
 |_,.load _ k=>∀v,RZ 20 (k v)
 |_,.eA _ _ _ k=>∀v,RZ 20 (k v)
 |j,.alloc n _ k=>1<=j/\(∀L,n.Fit L)/\∀v,RZ (j-1) (k v)
 |_,.cell _ _=>False
 |_,.gen _=>False
 |j,.node _ k=>∀n,RZ j (k n)
theorem RZ.mono:∀{t:I α} {i j:Nat},RZ i t->i<=j->RZ j t
 |.ret _,_,_,_,_=>trivial
 |.load _ _,_,_,h,_=>h
 |.eA _ _ _ _,_,_,h,_=>h
 |.alloc n i k,a,b,h,hab=>⟨lK h.1 hab,h.2.1,λv=>RZ.mono (h.2.2 v) (by omega)⟩
 |.node r k,_,_,h,hab=>λn=>RZ.mono (h n) hab
theorem RZ.head:∀{t:I α} {i j:Nat} {s:St},RZ i t->Rm (j+i) s->Rm j (t.head s).1/\∀i',RZ i' (t.head s).2
 |.ret _,i,j,s,_,hs=>⟨hs.less (by omega),λ_=>trivial⟩
 |.load _ _,i,j,s,h,hs=>⟨hs.less (by omega),λ_=>h⟩
 |.eA _ _ _ _,i,j,s,h,hs=>⟨hs.less (by omega),λ_=>h⟩
 |.alloc n x k,i,j,s,h,hs=>by
  obtain⟨i,rfl⟩:∃m,i=m+1:=⟨i-1,by have:=h.1;omega⟩
  exact RZ.head (t:=k (s.alloc n x).2) (i:=i) (j:=j) (h.2.2 _) (Rm.alloc (j:=j+i) hs (h.2.1 _) x)
 |.node r k,i,j,s,h,hs=>RZ.head (t:=k (s.node r)) (h _) hs
theorem RZ.bif{c:Bool}{a b:I α}{j:Nat}(ha:RZ j a)(hb:RZ j b):RZ j (bif c then a else b):=by cases c with|true=>exact ha|false=>exact hb
end Go.Ct
namespace Go.Ct
variable{α β γ:Type}
def iN(Q:Nat->α->Prop):Nat->I α->Prop
 |n,.ret b=>Q n b
 |0,.load _ _=>True
 |n+1,.load _ k=>∀v,iN Q n (k v)
 |0,.eA _ _ _ _=>True
 |n+1,.eA _ _ _ k=>∀v,iN Q n (k v)
 |n,.alloc _ _ k=>∀v,iN Q n (k v)
 |n,.cell _ k=>∀v,iN Q n (k v)
 |n,.gen k=>∀v,iN Q n (k v)
 |n,.node _ k=>∀q:Node,q.Fit 100000000001->iN Q n (k q)
theorem MX{Q:Nat->α->Prop}{n:Nat}{r:Int}{k:Node->I α}(h:∀q:Node,q.Fit 100000000001->iN Q n (k q)):iN Q n (.node r k):=by cases n<;>exact h
theorem JE{Q:Nat->α->Prop}{n:Nat}{m:Node}{i:Int}{k:Int->I α}(h:∀v,iN Q n (k v)):iN Q n (.alloc m i k):=by cases n<;>exact h
theorem XJ{Q:Nat->α->Prop}{n:Nat}{b:α}(h:Q n b):iN Q n (.ret b):=by cases n<;>exact h
theorem MU{Q:Nat->α->Prop}{n:Nat}{c:Int}{k:Int->I α}(h:∀m,m<n->∀v,iN Q m (k v)):iN Q n (.load c k):=by
 cases n with
 |zero=>trivial
 |succ n=>exact h n (Nat.lt_succ_self n)
theorem XP{Q:Nat->α->Prop}{n:Nat}{c o x:Int}{k:Bool->I α}(h:∀m,m<n->∀v,iN Q m (k v)):iN Q n (.eA c o x k):=by
 cases n with
 |zero=>trivial
 |succ n=>exact h n (Nat.lt_succ_self n)
theorem iN.less{Q:Nat->α->Prop}(hQ:∀m n b,m<=n->Q n b->Q m b):∀{t:I α} {m n:Nat},m<=n->iN Q n t->iN Q m t
 |.ret b,m,n,hm,h=>XJ (hQ m n b hm (by cases n<;>exact h))
 |.load c k,m,n,hm,h=>MU λj hj v=>by
  obtain⟨n,rfl⟩:∃i,n=i+1:=⟨n-1,by omega⟩
  exact iN.less hQ (by omega) (h v)
 |.eA c o x k,m,n,hm,h=>XP λj hj v=>by
  obtain⟨n,rfl⟩:∃i,n=i+1:=⟨n-1,by omega⟩
  exact iN.less hQ (by omega) (h v)
 |.alloc x i k,m,n,hm,h=>JE λv=>iN.less hQ hm ((by cases n<;>exact h:∀v,iN Q n (k v)) v)
 |.cell i k,m,n,hm,h=>by
  have h':∀v,iN Q n (k v):=by cases n<;>exact h
  have h2:∀v,iN Q m (k v):=λv=>iN.less hQ hm (h' v)
  cases m<;>exact h2
 |.gen k,m,n,hm,h=>by
  have h':∀v,iN Q n (k v):=by cases n<;>exact h
  have h2:∀v,iN Q m (k v):=λv=>iN.less hQ hm (h' v)
  cases m<;>exact h2
 |.node r k,m,n,hm,h=>MX λq hq=>iN.less hQ hm ((by cases n<;>exact h:∀q:Node,q.Fit 100000000001->iN Q n (k q)) q hq)
end Go.Ct
end
section
namespace Go.Ct
variable{α β γ:Type}
structure Place where
 node:Node:={}
 next:Int:=0
structure pX where
 started:Bool:=false
 stack:List Place:=[]
 wait:List bN:=[]
def pX.meet(w:pX)(m:Node):pX:=
 bif m.kind==3 then⟨w.started,⟨m,0⟩::w.stack,w.wait⟩else bif m.kind==5 then⟨w.started,w.stack,w.wait++[⟨m.key,m.value⟩]⟩else bif m.kind==6 then⟨w.started,w.stack,w.wait++m.aF⟩else w
def Place.pos(p:Place):Nat:=Bm.aO p.node.aD p.next
def Place.idx(p:Place):Int:=Bm.at_ p.node.aD (p.pos:Int)
def Place.out(p:Place):Bool:=decide (p.idx<0)||decide ((p.node.aA.length:Int)<=(p.pos:Int))
def Place.branch(p:Place):Int:=p.node.aA.getD p.pos 0
def Place.step(p:Place):Place:=⟨p.node,p.idx+1⟩
def OL(p:bN):Result:={found:=true,key:=p.key,value:=p.value}
def TY(t:bC)(st:Bool)(K:pX->I (Result×pX)):List Place->I (Result×pX)
 |[]=>.ret ({},⟨st,[],[]⟩)
 |p::l=>bif p.out then TY t st K l else .node p.branch λs=>
  bif s.kind==4 then .ret (OL ⟨s.key,s.value⟩,⟨st,p.step::l,[]⟩)else mM t p.branch λm=>.node m λq=>K (pX.meet ⟨st,p.step::l,[]⟩ q)
def L5(t:bC)(K:pX->I (Result×pX))(w:pX):I (Result×pX):=match w.wait with
 |p::ps=>.ret (OL p,⟨w.started,w.stack,ps⟩)
 |[]=>TY t w.started K w.stack
def Ow(t:bC):Nat->pX->I (Result×pX)
 |0,w=>L5 t (λw=>.ret ({},w)) w
 |n+1,w=>L5 t (Ow t n) w
def Y0(t:bC)(n:Nat)(w:pX)(i:Int):I (Result×pX):=mM t i λm=>.node m λq=>Ow t n (w.meet q)
def J7(t:bC)(n:Nat)(w:pX):I (Result×pX):=
 bif !t.readOnly then .ret ({err:=7},w)else bif w.started then Ow t n w else .load t.root λr=>Y0 t n ⟨true,w.stack,w.wait⟩ r
def PE(t:bC)(n:Nat):Nat->Int->pX->I Result
 |0,_,_=>.ret {}
 |c+1,k,w=>(J7 t n w).bind λz=>bif !z.1.found then .ret {count:=k}else PE t n c (wr (k+1)) z.2
theorem Vc{c:Bool}{a b:I α}{f:α->I β}:(bif c then a else b).bind f=bif c then a.bind f else b.bind f:=by cases c<;>rfl
theorem YT(t:bC)(v s:Int)(k:Int->I α)(f:α->I β):(iD t v s k).bind f=iD t v s λm=>(k m).bind f:=by
 unfold iD;simp only[I.bind,Vc]
theorem PB(t:bC)(k:Int->I α)(f:α->I β):(Zi t k).bind f=Zi t λm=>(k m).bind f:=by
 unfold Zi;simp only[I.bind,Vc,YT]
theorem NU(t:bC)(i:Int)(k:Int->I α)(f:α->I β):(mM t i k).bind f=mM t i λm=>(k m).bind f:=by
 unfold mM qB kY mK Dq;simp only[I.bind,Vc,PB]
end Go.Ct
namespace Go.Ct
variable{α β γ:Type}
structure MC(n:Nat)(it:pX):Prop where
 fit:∀p∈it.stack,p.node.Fit 100000000001
 deep:it.stack.length+n<=1000000000
 wait:it.wait.length<=200000000003
theorem MC.less{m n:Nat}{it:pX}(h:MC n it)(hm:m<=n):MC m it:=⟨h.fit,by have:=h.deep;omega,h.wait⟩
theorem MC.meet{n:Nat}{sd:Bool}{l:List Place}{q:Node}(h:MC (n+1) ⟨sd,l,[]⟩)(hq:q.Fit 100000000001):MC n (pX.meet ⟨sd,l,[]⟩ q):=by
 have hp:=hq.1.2.1
 have hd:=h.deep
 unfold pX.meet
 cases h3:(q.kind==3)with
 |true=>
  refine⟨λp hp=>?_,?_,by simp⟩
  ·rcases List.mem_cons.1 hp with rfl|hp
   ·exact hq
   ·exact h.fit p hp
  ·show (_::l).length+n<=_;rw[QR];dsimp only at hd;omega
 |false=>
  cases h5:(q.kind==5)with
  |true=>exact⟨h.fit,by show l.length+n<=_;dsimp only at hd;omega,by simp⟩
  |false=>
   cases h6:(q.kind==6)with
   |true=>exact⟨h.fit,by show l.length+n<=_;dsimp only at hd;omega,by show ([]++q.aF).length<=_;rw[Xb];omega⟩
   |false=>exact⟨h.fit,by show l.length+n<=_;dsimp only at hd;omega,by simp⟩
structure N8(n:Nat)(it:pX):Prop where
 ok:MC n it
 new:it.started=false->it.wait=[]
theorem N8.less{m n:Nat}{it:pX}(h:N8 n it)(hm:m<=n):N8 m it:=⟨h.ok.less hm,h.new⟩
end Go.Ct
end
section
namespace Go.Bm
theorem Gl(n b j:Nat):j∈Nu n b↔j<n/\b.testBit j=true:=by
 unfold Nu
 rw[List.mem_filter,List.mem_range]
theorem Le(n b:Nat):(Nu n b).Pairwise (·<·):=by
 unfold Nu
 exact List.Pairwise.filter _ List.pairwise_lt_range
theorem xW(b i:Nat):∀d,∃t,Nu (i+d) b=Nu i b++t
 |0=>⟨[],by simp⟩
 |d+1=>by
  obtain⟨t,ht⟩:=xW b i d
  exact⟨_,by rw[<- Nat.add_assoc,Bo,ht,Co]⟩
theorem HM(b p:Nat)(hp:p<(indices b).length):pop ((indices b)[p]) b=p:=by
 have hm:(indices b)[p]∈indices b:=wU hp
 have hs:=Le 64 b
 have hmi:=(Gl 64 b _).1 hm
 generalize hi:(indices b)[p]=i at *
 rw[<- yA]
 obtain⟨d,hd⟩:∃d,64=i+1+d:=⟨64-i-1,by omega⟩
 obtain⟨t,ht⟩:=xW b (i+1) d
 have hx:indices b=Nu i b++(i::t):=by
  unfold indices
  rw[hd,ht,Bo,hmi.2]
  simp
 have hl:(Nu i b).length<(indices b).length:=by rw[hx];simp
 have he:(indices b)[(Nu i b).length]'hl=i:=by
  simp only[hx]
  rw[List.getElem_append_right (JV _)]
  simp
 have hpw:(indices b).Pairwise (·<·):=hs
 rw[List.pairwise_iff_getElem]at hpw
 apply Classical.byContradiction
 intro hne
 rcases Nat.lt_or_gt_of_ne hne with h|h
 ·have:=hpw _ _ hl hp h
  omega
 ·have:=hpw _ _ hp hl h
  omega
def aA2(xs:List Nat):Nat->Nat
 |0=>0
 |k+1=>aA2 xs k|||2^xs.getD k 0
attribute [irreducible] aA2
end Go.Bm
end
section
namespace Go.Ct
def RE(t:bC)(N c:Nat):I Result:=bif !t.readOnly then .ret {err:=7}else PE t N c 0 {}
def Place.mu(p:Place):Nat:=64-p.pos
def muL(l:List Place):Nat:=(l.map Place.mu).sum
def pX.mu(w:pX):Nat:=w.wait.length+muL w.stack
end Go.Ct
end
