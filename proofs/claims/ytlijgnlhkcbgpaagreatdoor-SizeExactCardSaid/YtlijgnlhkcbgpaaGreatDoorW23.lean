/- Parts of a proof: Ayh, Cw, Sa1, Ru. -/
import Derived.Test.YtlijgnlhkcbgpaaGreatDoorW19
set_option linter.unusedVariables false
set_option linter.unusedSimpArgs false
set_option maxRecDepth 100000
set_option maxHeartbeats 4000000
section
namespace Go.Q9
open Go.Proofs.Tryz
open Go.E
theorem T9:KY prog 201=some ([.nilIface,.int .i64 0,↑false],[(0,1),(1,2)]):=by kernel_rfl
theorem U8:(prog.info? 201).map (·.size)=some 3:=by kernel_rfl
theorem T8:zc prog 201=some [.nilIface,.int .i64 0,↑false]:=by kernel_rfl
end Go.Q9
end
section
namespace Go.Q9
open Go.Proofs.Tryz
open Go.RowKit Go.E
attribute [local irreducible] gB wpS Go.E.X XS C jU kP fin Y U F Ca jT bl rb aU bV ex ce pu sK gK bK zK gM fO dH gP nE rD
open Go.Ct (qN qA qC qG qT qF)
end Go.Q9
end
section
namespace Go.Ct
variable{α β γ:Type}{g:Ga}
theorem I.bind_assoc:∀(t:I α) (f:α->I β) (h:β->I γ),(t.bind f).bind h=t.bind λv=>(f v).bind h
 |.ret a,f,h=>rfl
 |.load c k,f,h=>by show I.load c _=I.load c _;congr 1;funext v;exact I.bind_assoc (k v) f h
 |.eA c o n k,f,h=>by show I.eA c o n _=I.eA c o n _;congr 1;funext v;exact I.bind_assoc (k v) f h
 |.alloc n i k,f,h=>by show I.alloc n i _=I.alloc n i _;congr 1;funext v;exact I.bind_assoc (k v) f h
 |.cell i k,f,h=>by show I.cell i _=I.cell i _;congr 1;funext v;exact I.bind_assoc (k v) f h
 |.gen k,f,h=>by show I.gen _=I.gen _;congr 1;funext v;exact I.bind_assoc (k v) f h
 |.node r k,f,h=>by show I.node r _=I.node r _;congr 1;funext v;exact I.bind_assoc (k v) f h
theorem Sm.as9[Qc γ]{t:I γ}{u:I α}{f:α->I β}{h:β->I γ}(k:Sm t (u.bind λv=>(f v).bind h) g):Sm t ((u.bind f).bind h) g:=by rw[I.bind_assoc];exact k
variable[Qc β]
theorem Sm.cc{c:Bool}{a b:I β}{x y:I α}{k:α->I β}(h1:c=true->Sm a (x.bind k) g)(h2:c=false->Sm b (y.bind k) g):Sm (bif c then a else b) ((bif c then x else y).bind k) g:=by
 cases c with
 |true=>exact h1 rfl
 |false=>exact h2 rfl
theorem Sm.cn{c:Bool}{a b:I β}{x y:I α}{k:α->I β}(h1:c=true->Sm b (x.bind k) g)(h2:c=false->Sm a (y.bind k) g):Sm (bif !c then a else b) ((bif c then x else y).bind k) g:=by
 cases c with
 |true=>exact h1 rfl
 |false=>exact h2 rfl
theorem Sm.tt{c:Bool}{a b:I β}{u:I β}(hc:c=true)(h:Sm a u g):Sm (bif c then a else b) u g:=by rw[hc];exact h
theorem Sm.ff{c:Bool}{a b:I β}{u:I β}(hc:c=false)(h:Sm b u g):Sm (bif c then a else b) u g:=by rw[hc];exact h
theorem Sm.rt{c:Bool}{x y:I α}{k:α->I β}{t:I β}(hc:c=true)(h:Sm t (x.bind k) g):Sm t ((bif c then x else y).bind k) g:=by rw[hc];exact h
theorem Sm.rf{c:Bool}{x y:I α}{k:α->I β}{t:I β}(hc:c=false)(h:Sm t (y.bind k) g):Sm t ((bif c then x else y).bind k) g:=by rw[hc];exact h
theorem w7{k g0 o e w:Int}{b:fV}(hk:k=2\/k=7\/k=8)(hv:Node.valid {kind:=k,gen:=g0,dC:=o,aK:=e,new:=w}=true)(hi:k=2->g0<=g.gen/\b.1<=11)(hf:k=7->oH g o b)(hd:k=8->jV g o (0,0)/\oH g e (0,0)/\jV g w (0,0)):
  cJ g {kind:=k,gen:=g0,dC:=o,aK:=e,new:=w} b:=by
 refine⟨hv,⟨0,bG 0 k g0 o e w (by omega)⟩,by show 2<=k;omega,by show k<=8;omega,hi,λh=>?_,λh=>?_,λh=>?_,hf,hd⟩
 ·exact absurd (show k=3 from h) (by omega)
 ·exact absurd (show k=5 from h) (by omega)
 ·exact absurd (show k=6 from h) (by omega)
theorem oH.one{r:Int}{b:fV}(h:oH g r b):1<=r:=uA (g:=g) (r:=r) (by have:=h.two;omega)
theorem jV.one{r:Int}{b:fV}(h:jV g r b):1<=r:=uA (by rw[h.1];decide)
theorem Dg.one{r:Int}{b:fV}(h:Dg g r b):1<=r:=uA (by rw[h.1];decide)
theorem JS{p:Int}{b:fV}(h:oH g p b):cJ g {kind:=7,dC:=p} b:=
 w7 (.inr (.inl rfl)) (by have:=h.one;unfold Node.valid;simp[fT,Node.only,bR,mJ,this]) (λh=>by cases h) (λ_=>h) λh=>by cases h
theorem rH{x:Int}{b:fV}(h1:1<=x)(h2:x<=g.gen)(hb:b.1<=11):cJ g {kind:=2,gen:=x} b:=
 w7 (.inl rfl) (by unfold Node.valid;simp[fT,Node.only,bR,mJ,h1]) (λ_=>⟨h2,hb⟩) (λh=>by cases h) λh=>by cases h
theorem TX{o e w:Int}{b:fV}(ho:jV g o (0,0))(he:oH g e (0,0))(hw:jV g w (0,0)):cJ g {kind:=8,dC:=o,aK:=e,new:=w} b:=
 w7 (.inr (.inr rfl)) (by have:=ho.one;have:=he.one;have:=hw.one;unfold Node.valid;simp[fT,Node.only,bR,mJ, *]) (λh=>by cases h) (λh=>by cases h) λ_=>⟨ho,he,hw⟩
theorem Js{b:fV}(hb:b.1<=10)(hb2:b.2<64^b.1):cJ g {kind:=3} b:=
 ⟨by decide+kernel,⟨0,fY 0⟩,by decide,by decide,(λh=>by cases h),λ_=>⟨hb,hb2,λk hk=>by
  have:=pV hk
  unfold aB at this;rw[if_pos (.inr (by unfold Bm.has;simp))]at this;exact absurd this (by decide)⟩,(λh=>by cases h),(λh=>by cases h),(λh=>by cases h),λh=>by cases h⟩
theorem ED.SO{p:Int}{b:fV}(h:ED g p b):(g.node p).bM=false:=by unfold Node.bM;rw[h.1];rfl
abbrev Kp(g:Ga)(b:fV)(k:Int->I β)(k':Int->I β):Prop:=∀g',Ge g g'->GW g'->∀r,Ul g' r b->Sm (k r) (k' r) g'
theorem val_zero{c v:Int}{b:fV}(h:Val g c v (.prev b))(h0:v=0):g.dec (-c):=by
 rcases h with h|h|h
 ·exact h.2
 ·have:=uA (g:=g) (r:=v) (by rw[h.1.1];decide);omega
 ·have:=h.2.1.one;omega
abbrev Ki(g:Ga)(k:Int->I β)(k':Int->I β):Prop:=∀g',Ge g g'->GW g'->∀r,jV g' r (0,0)->Sm (k r) (k' r) g'
theorem Kp.ge{b:fV}{k k':Int->I β}{g':Ga}(h:Kp g b k k')(hg:Ge g g'):Kp g' b k k':=λg2 h2 hw r hr=>h g2 (hg.trans h2) hw r hr
theorem Ki.ge{k k':Int->I β}{g':Ga}(h:Ki g k k')(hg:Ge g g'):Ki g' k k':=λg2 h2 hw r hr=>h g2 (hg.trans h2) hw r hr
theorem FJ{k k':Int->I β}{i m p:Int}{b:fV}(hw:GW g)(hi:jV g i b)(hm:oH g m b)(hp:ED g p b)(hf:(g.node p).dC=g.first (g.node m).prev)(hk:Kp g b k k'):Sm (Dq i m p k) ((EO i m p).bind k') g:=by
 have ho:=(hw.K4 hp).f hp.1
 have hz:Ul g (g.node p).dC b:=by
  rw[hf];exact hw.SQ m b hm (by rw[<- hf];have:=ho.one;omega)
 refine .nl hp.dU (.nl hi.dU (.nr hi.dU (.nr hp.dU (.eA (.main b) (hw.MO hi) ho λg' hg hw' _ ok=>.nr (hp.ge hg).dU ?_))))
 rw[hg.node hp.dU];exact hk g' hg hw' _ (hz.ge hg)
theorem FH{k k':Int->I β}{i m pr:Int}{b:fV}{ok:Bool}(hw:GW g)(hi:jV g i b)(hm:oH g m b)(hpr:pr=(g.node m).prev)(hd:g.dec pr)(hk:Kp g b k k'):Sm (kY pr i m k ok) ((GV i m).bind k') g:=by
 subst hpr
 refine .nr hm.dU (.load (.prev b) (hw.Nl hm) λg' hg hw' v hv=>?_)
 refine Sm.cc (λh=>hk g' hg hw' m ⟨hm.ge hg,by rw[hg.node hm.dU];exact val_zero hv (by simpa using h)⟩) λh=>?_
 have h0:v≠0:=by simpa using h
 have hp:ED g' v b/\(g'.node v).dC=g'.first (g.node m).prev:=by
  rcases hv with hv|hv|⟨_,_,hv⟩
  ·exact absurd hv.1 h0
  ·exact hv
  ·exact absurd (hg.dec _ hd) hv
 exact FJ hw' (hi.ge hg) (hm.ge hg) hp.1 (by rw[hg.node hm.dU];exact hp.2) (hk.ge hg)
theorem EU{k k':Int->I β}{i m p pr:Int}{b:fV}(hw:GW g)(hi:jV g i b)(hm:oH g m b)(hp:oH g p b)(hpr:pr=(g.node m).prev)(hf:p=g.first pr)(hk:Kp g b k k'):Sm (mK pr p false (kY pr i m k)) ((EN i m p).bind k') g:=by
 subst hpr
 refine .nr hm.dU (.alloc b (JS hp) ⟨(λh=>by cases h),(λh=>by cases h),λh=>by cases h⟩ λhg hw'=>?_)
 refine .eA (.prev b) (hg.oA (hw.Nl hm)) ⟨by have:=hp.one;omega,.inr ⟨HY hw rfl,by rw[hg.first hw (hw.Nl hm),<- hf,yE];rfl⟩⟩ λg2 h2 hw2 hd ok=>?_
 have hg2:=hg.trans h2
 exact FH hw2 (hi.ge hg2) (hm.ge hg2) (by rw[hg2.node hm.dU]) (hd ⟨b,rfl⟩ (by rw[hg.first hw (hw.Nl hm)];exact hf)) (hk.ge hg2)
theorem Hi{t:bC}{k k':Int->I β}{v s:Int}(hw:GW g)(ht:g.oA t.root=some .root)(hv:Ed g v)(hk:Ki g k k'):Sm (iD t v s k) ((Mj t v s).bind k') g:=by
 have hd:=(hw.G4 hv).d hv
 unfold iD Mj wR
 refine .nl hv.dU ?_
 generalize (s==1)=c
 cases c with
 |true=>exact .nr hv.dU (.eA .root ht (.inl hd.2.2) λg' hg hw' _ ok=>hk g' hg hw' _ (hd.2.2.ge hg))
 |false=>exact .nr hv.dU (.eA .root ht (.inl hd.1) λg' hg hw' _ ok=>hk g' hg hw' _ (hd.1.ge hg))
theorem UN{v:Int}{c:Int}(h:kB g c v .root)(hc:((g.node v).kind==2)=false):Ed g v:=by
 rcases h with h|h
 ·rw[h.1]at hc;exact absurd hc (by decide)
 ·exact h
theorem VK{v:Int}{c:Int}(h:kB g c v .root)(hc:((g.node v).kind==2)=true):jV g v (0,0):=by
 rcases h with h|h
 ·exact h
 ·rw[show (g.node v).kind=8 from h]at hc;exact absurd hc (by decide)
theorem kB.dU{v c:Int}(h:kB g c v .root):v<=g.count:=h.elim jV.dU Ed.dU
theorem SE{t:bC}{k k':Int->I β}(hw:GW g)(ht:g.oA t.root=some .root)(hk:Ki g k k'):Sm (Zi t k) ((GS t).bind k') g:=by
 refine .load .root ht λg1 h1 hw1 v hv=>?_
 have hv:kB g1 t.root v .root:=hv
 refine .nl hv.dU (.nr hv.dU (Sm.cc (λh=>hk g1 h1 hw1 v (VK hv h)) λh=>?_))
 have hD:=UN hv h
 refine .nr hD.dU (.load .status (hw1.Dt hD) λg2 h2 hw2 s hs=>?_)
 have hD2:=hD.ge h2
 have hk2:=hk.ge (h1.trans h2)
 have ht2:=(h1.trans h2).oA ht
 by_cases h0:s=0
 ·subst h0
  refine .nr hD2.dU ?_
  rw[h2.node hD.dU]
  refine .eA .status (h2.oA (hw1.Dt hD)) (.inr rfl) λg3 h3 hw3 _ ok=>.nr (hD2.ge h3).dU ?_
  rw[(h2.trans h3).node hD.dU]
  exact .load .status ((h2.trans h3).oA (hw1.Dt hD)) λg4 h4 hw4 s' hs'=>Hi hw4 ((h3.trans h4).oA ht2) (hD2.ge (h3.trans h4)) (hk2.ge (h3.trans h4))
 ·refine Sm.tt (by simpa using h0) (Sm.rf (by simpa using h0) ?_)
  exact Hi hw2 ht2 hD2 hk2
theorem Of{t:bC}{k k':Int->I β}{i m:Int}{b:fV}(hw:GW g)(ht:Tk g t)(hi:jV g i b)(hm:oH g m b)(hk:Kp g b k k'):Sm (qB t i m k) ((wQ t i m).bind k') g:=by
 refine .nl hm.dU (.nr hm.dU (.load (.prev b) (hw.Nl hm) λg1 h1 hw1 p hp=>?_))
 refine Sm.cc (λh=>hk g1 h1 hw1 m ⟨hm.ge h1,by rw[h1.node hm.dU];exact val_zero hp (by simpa using h)⟩) λh=>?_
 have h0:p≠0:=by simpa using h
 have hi1:=hi.ge h1
 have hm1:=hm.ge h1
 rcases hp with hp|hp|⟨hf,hp,hd⟩
 ·exact absurd hp.1 h0
 ·obtain⟨hp,hf⟩:=hp
  exact .nl hp.dU (.nr hp.dU (Sm.cn (λh=>absurd (hp.SO.symm.trans h) (by decide)) λ_=>FJ hw1 hi1 hm1 hp (by rw[h1.node hm.dU];exact hf) (hk.ge h1)))
 ·refine .nl hp.dU (.nr hp.dU (Sm.cn (λ_=>?_) λh=>absurd (hp.1.symm.trans h) (by decide)))
  refine Sm.cc (λh=>?_) λh=>?_
  ·exact EU hw1 hi1 hm1 hp (by rw[h1.node hm.dU]) hf (hk.ge h1)
  ·refine Sm.as9 (SE hw1 ((ht.ge h1).root h) λg2 h2 hw2 r hr=>?_)
   have hi2:=hi1.ge h2
   have hm2:=hm1.ge h2
   have hf2:p=g2.first (g.node m).prev:=by rw[h2.first hw1 (h1.oA (hw.Nl hm))];exact hf
   refine .nl hr.dU (.nl hi2.dU (.nr hr.dU (.nr hi2.dU ?_)))
   dsimp only
   generalize ((g2.node r).gen==(g2.node i).gen)=c
   cases c with
   |true=>
    refine .nr hm2.dU ?_
    rw[(h1.trans h2).node hm.dU]
    refine .eA (.prev b) ((h1.trans h2).oA (hw.Nl hm)) ⟨h0,.inl rfl⟩ λg3 h3 hw3 hd3 ok=>?_
    exact FH hw3 (hi2.ge h3) (hm2.ge h3) (by rw[((h1.trans h2).trans h3).node hm.dU]) (hd3 ⟨b,rfl⟩ hf2) (hk.ge ((h1.trans h2).trans h3))
   |false=>exact EU hw2 hi2 hm2 (hp.ge h2) (by rw[(h1.trans h2).node hm.dU]) hf2 (hk.ge (h1.trans h2))
theorem mN{t:bC}{k k':Int->I β}{i:Int}{b:fV}(hw:GW g)(ht:Tk g t)(hi:jV g i b)(hk:Kp g b k k'):Sm (mM t i k) ((oJ t i).bind k') g:=
 .nl hi.dU (.nr hi.dU (.load (.main b) (hw.MO hi) λg1 h1 hw1 m hm=>Of hw1 (ht.ge h1) (hi.ge h1) hm (hk.ge h1)))
abbrev Kb(g:Ga)(k:Bool->I β)(k':Bool->I β):Prop:=∀g',Ge g g'->GW g'->∀c,Sm (k c) (k' c) g'
theorem Kb.ge{k k':Bool->I β}{g':Ga}(h:Kb g k k')(hg:Ge g g'):Kb g' k k':=λg2 h2 hw r=>h g2 (hg.trans h2) hw r
theorem Gh{t:bC}{k k':Bool->I β}{i o n:Int}{b:fV}(hw:GW g)(ht:Tk g t)(hi:jV g i b)(hn:oH g n b)(hk:Kb g k k'):Sm (swapT t i o n k) ((mE t i o n).bind k') g:=by
 refine .nl hi.dU (.nr hi.dU (.eA (.main b) (hw.MO hi) hn λg1 h1 hw1 _ ok=>?_))
 refine Sm.cn (λh=>?_) λh=>hk g1 h1 hw1 false
 exact Sm.as9 (Of hw1 (ht.ge h1) (hi.ge h1) (hn.ge h1) λg2 h2 hw2 r hr=>hk g2 (h1.trans h2) hw2 _)
theorem QJ{t:bC}{k:I β}{k':Unit->I β}{v:Int}{d:Node}(hw:GW g)(ht:Tk g t)(hv:Ed g v)(hd:d=g.node v)(hk:∀g',Ge g g'->GW g'->Sm k (k' ()) g'):Sm (Fm t d k) ((vR t v).bind k') g:=by
 subst hd
 have hD:=(hw.G4 hv).d hv
 refine .nr hv.dU (Sm.as9 (mN hw ht hD.1 λg1 h1 hw1 m hm=>.nr (hv.ge h1).dU ?_))
 rw[h1.node hv.dU]
 refine Sm.cc (λh=>.nr (hv.ge h1).dU ?_) λh=>.nr (hv.ge h1).dU ?_
 ·rw[h1.node hv.dU]
  exact .eA .status (h1.oA (hw.Dt hv)) (.inl rfl) λg2 h2 hw2 _ ok=>hk g2 (h1.trans h2) hw2
 ·rw[h1.node hv.dU]
  exact .eA .status (h1.oA (hw.Dt hv)) (.inr rfl) λg2 h2 hw2 _ ok=>hk g2 (h1.trans h2) hw2
theorem Bk{t:bC}{k k':Int->I β}(hw:GW g)(ht:Tk g t)(hk:Ki g k k'):Sm (uO t k) ((tV t).bind k') g:=by
 cases hro:t.readOnly with
 |true=>
  refine .load .fixed (ht.fixed hro) λg1 h1 hw1 v hv=>?_
  have hv:jV g1 v (0,0):=hv
  exact .nl hv.dU (.nr hv.dU (Sm.cc (λh=>hk g1 h1 hw1 v hv) λh=>absurd h (by rw[hv.1];decide)))
 |false=>
 refine .load .root (ht.root hro) λg1 h1 hw1 v hv=>?_
 have hv:kB g1 t.root v .root:=hv
 refine .nl hv.dU (.nr hv.dU (Sm.cc (λh=>hk g1 h1 hw1 v (VK hv h)) λh=>?_))
 have hD:=UN hv h
 refine .nr hD.dU (.load .status (hw1.Dt hD) λg2 h2 hw2 s hs=>?_)
 have hD2:=hD.ge h2
 have hk2:=hk.ge (h1.trans h2)
 have ht2:=ht.ge (h1.trans h2)
 by_cases h0:s=0
 ·subst h0
  refine Sm.as9 (QJ hw2 ht2 hD2 (by rw[h2.node hD.dU]) λg3 h3 hw3=>.nr (hD2.ge h3).dU ?_)
  rw[(h2.trans h3).node hD.dU]
  exact .load .status ((h2.trans h3).oA (hw1.Dt hD)) λg4 h4 hw4 s' hs'=>Hi hw4 ((ht2.ge (h3.trans h4)).root hro) (hD2.ge (h3.trans h4)) (hk2.ge (h3.trans h4))
 ·refine Sm.tt (by simpa using h0) (Sm.rf (by simpa using h0) ?_)
  exact Hi hw2 (ht2.root hro) hD2 hk2
theorem Iw{t:bC}{k k':Bool->I β}{o e n:Int}(hw:GW g)(ht:Tk g t)(hro:t.readOnly=false)(ho:jV g o (0,0))(he:oH g e (0,0))(hn:jV g n (0,0))(hk:Kb g k k'):Sm (lD t o e n k) ((Dn t o e n).bind k') g:=by
 refine .alloc (0,0) (TX ho he hn) ⟨(λh=>by cases h),(λh=>by cases h),λ_=>rfl⟩ λh1 hw1=>?_
 have hD:Ed (g.alloc {kind:=8,dC:=o,aK:=e,new:=n} 0 (0,0)) (g.nodes.length+3):=IM rfl
 refine .nl hD.dU (.eA .root ((ht.ge h1).root hro) (.inr hD) λg2 h2 hw2 _ ok=>?_)
 refine Sm.cn (λh=>?_) λh=>hk g2 (h1.trans h2) hw2 false
 refine Sm.as9 (QJ hw2 (ht.ge (h1.trans h2)) (hD.ge h2) (h2.node hD.dU).symm λg3 h3 hw3=>.nr (hD.ge (h2.trans h3)).dU ?_)
 rw[(h2.trans h3).node hD.dU]
 refine .load .status ((h2.trans h3).oA (hw1.Dt hD)) λg4 h4 hw4 s hs=>?_
 have:=Hi (s:=s) (k:=λ_=>k (s==1)) (k':=λ_=>k' (s==1)) hw4 ((ht.ge (h1.trans (h2.trans (h3.trans h4)))).root hro) (hD.ge (h2.trans (h3.trans h4))) λg5 h5 hw5 r hr=>hk g5 ((h1.trans (h2.trans (h3.trans h4))).trans h5) hw5 _
 unfold Mj at this
 rw[I.bind_assoc]at this ⊢
 exact this
end Go.Ct
end
section
namespace Go.Ct
def wX(n:Node)(i r:Int)(k:Nat):Int×Bool:=if(k:Int)=i then(r,decide (r>0))else aB n k
def bW(n:Node)(i r:Int):Nat->Nat×List Int
 |0=>(0,[])
 |k+1=>bif (wX n i r k).2 then(Bm.cI (bW n i r k).1 k,(bW n i r k).2++[(wX n i r k).1])else bW n i r k
theorem Ni(n:Node)(i r:Int):∀k,(bW n i r k).1<18446744073709551616/\(bW n i r k).2.length<=k
 |0=>⟨by show (0:Nat)<_;decide,bD _⟩
 |k+1=>by
  obtain⟨h1,h2⟩:=Ni n i r k
  rw[bW]
  cases (wX n i r k).2 with
  |true=>exact⟨Bm.iM _ _ h1,by simp;omega⟩
  |false=>exact⟨h1,by show (bW n i r k).2.length<=k+1;omega⟩
theorem On(n:Node)(i r:Int)(nb:Nat)(bl:List Int)(hl:bl.length=Bm.pop 64 nb)(hat:∀k,k<64->(wX n i r k).2=nb.testBit k/\(nb.testBit k=true->(wX n i r k).1=bl.getD (Bm.pop k nb) 0)):
  ∀k,k<=64->(∀j,(bW n i r k).1.testBit j=(decide (j<k)&&nb.testBit j))/\(bW n i r k).2=bl.take (Bm.pop k nb)
 |0,_=>⟨λj=>by simp[bW],by simp[bW,Bm.pop]⟩
 |k+1,hk=>by
  obtain⟨h1,h2⟩:=On n i r nb bl hl hat k (by omega)
  obtain⟨g1,g2⟩:=hat k (by omega)
  rw[bW,g1,Bm.cZ]
  cases hb:nb.testBit k with
  |true=>
   have hlt:Bm.pop k nb<bl.length:=by
    rw[hl]
    have:=nP (63-k) (k+1) nb
    rw[show k+1+(63-k)=64 by omega,Bm.cZ,hb]at this
    simp at this;omega
   refine⟨λj=>?_,?_⟩
   ·show (Bm.cI (bW n i r k).1 k).testBit j=_
    rw[Bm.gL _ k (by omega),h1]
    by_cases hj:k=j
    ·subst hj;simp[hb]
    ·by_cases hjk:j<k
     ·simp[hj,hjk,show j<k+1 by omega]
     ·simp[hj,hjk,show ¬j<k+1 by omega]
   ·show (bW n i r k).2++[(wX n i r k).1]=_
    rw[h2,g2 hb,show (Bm.pop k nb+true.toNat)=Bm.pop k nb+1 from rfl,List.take_succ_eq_append_getElem hlt,eX,fM hlt];rfl
  |false=>
   refine⟨λj=>?_,?_⟩
   ·show (bW n i r k).1.testBit j=_
    rw[h1]
    by_cases hj:k=j
    ·subst hj;simp[hb]
    ·by_cases hjk:j<k
     ·simp[hjk,show j<k+1 by omega]
     ·simp[hjk,show ¬j<k+1 by omega]
   ·show (bW n i r k).2=_
    rw[h2];rfl
theorem yK{n:Node}{i r:Int}{nb:Nat}{bl:List Int}(hn:nb<18446744073709551616)(hl:bl.length=Bm.pop 64 nb)(hat:∀k,k<64->(wX n i r k).2=nb.testBit k/\(nb.testBit k=true->(wX n i r k).1=bl.getD (Bm.pop k nb) 0)):
  bW n i r 64=(nb,bl):=by
 obtain⟨h1,h2⟩:=On n i r nb bl hl hat 64 (bD _)
 refine Prod.ext ?_ ?_
 ·refine Nat.eq_of_testBit_eq λj=>?_
  rw[h1]
  by_cases hj:j<64
  ·simp[hj]
  ·have:nb.testBit j=false:=Nat.testBit_lt_two_pow (DM hn (by rw[show 18446744073709551616=2^64 from rfl];exact Nat.pow_le_pow_right (by decide) (by omega)))
   simp[hj,this]
 ·rw[h2,<- hl,uZ (bD _)]
theorem lQ{n:Node}(hc:n.lO=true){k:Nat}(hk:k<64):aB n k=if n.aD.testBit k then(n.aA.getD (Bm.pop k n.aD) 0,true)else(0,false):=by
 unfold aB
 rw[Bm.nI _ _ hk,hc]
 have e:Bm.aO n.aD (k:Int)=Bm.pop k n.aD:=by
  unfold Bm.aO Bm.cut
  by_cases h0:k=0
  ·subst h0;simp
  ·rw[if_neg (by omega),if_neg (by omega)];simp
 rw[e]
 cases n.aD.testBit k<;>simp
theorem Vo{b:Nat}{i:Nat}(hi:i<64):Bm.aO b (i:Int)=Bm.pop i b:=by
 unfold Bm.aO Bm.cut
 by_cases h0:i=0
 ·subst h0;simp
 ·rw[if_neg (by omega),if_neg (by omega)];simp
theorem Hr{b:Nat}:∀{i k:Nat},i<=k->Bm.pop i b<=Bm.pop k b:=λ{i k} h=>by
 have:=nP (k-i) i b
 rwa [show i+(k-i)=k by omega]at this
theorem oM{b i k:Nat}(h:b.testBit i=true)(hk:i<k):Bm.pop i b<Bm.pop k b:=by
 have h1:Bm.pop (i+1) b=Bm.pop i b+1:=by rw[Bm.cZ,h];rfl
 have:=Hr (b:=b) (show i+1<=k by omega)
 omega
theorem Ag{n:Node}(hc:n.lO=true):n.aA.length=Bm.pop 64 n.aD:=(hG hc).2
theorem qQ{n:Node}{i r:Int}(hf:n.aD<18446744073709551616)(h:(aB n i).2=true)(hr:1<=r):(aP n i r)=({kind:=3,aD:=(bW n i r 64).1,aA:=(bW n i r 64).2},true):=by
 have hc:n.lO=true:=by
  unfold aB at h;split at h
  ·cases h
  ·rename_i q;simp at q;exact q.1
 have hh:Bm.has n.aD i=true:=by
  unfold aB at h;split at h
  ·cases h
  ·rename_i q;simp at q;exact q.2
 have hi:0<=i/\i<64:=by unfold Bm.has at hh;simp at hh;omega
 obtain⟨j,rfl⟩:=Hp hi.1
 have hj:j<64:=by omega
 have hb:n.aD.testBit j=true:=by rw[<- Bm.nI _ _ hj];exact hh
 have hl:=Ag hc
 have hp:Bm.pop j n.aD<n.aA.length:=by rw[hl];exact oM hb hj
 unfold aP
 rw[if_neg (by simp[hc,hh];omega),Vo hj]
 rw[yK (nb:=n.aD) (bl:=n.aA.take (Bm.pop j n.aD)++r::n.aA.drop (Bm.pop j n.aD+1)) hf (by simp;omega)]
 intro k hk
 unfold wX
 by_cases e:(k:Int)=(j:Int)
 ·have e:k=j:=by omega
  subst e
  rw[if_pos rfl,hb]
  refine⟨by simp;omega,λ_=>?_⟩
  rw[eX,tW (by rw[Hg];omega),Hg,jI (by omega),Nat.sub_self];rfl
 ·rw[if_neg e,lQ hc hk]
  cases hbk:n.aD.testBit k with
  |false=>exact⟨rfl,λh=>by cases h⟩
  |true=>
   refine⟨rfl,λ_=>?_⟩
   show n.aA.getD (Bm.pop k n.aD) 0=_
   rw[eX,eX]
   by_cases hkj:k<j
   ·have:=oM hbk hkj
    rw[xD (by rw[Hg];omega),pJ,if_pos this]
   ·have:=oM hb (show j<k by omega)
    rw[tW (by rw[Hg];omega),Hg,jI (by omega)]
    obtain⟨d,hd⟩:∃d,Bm.pop k n.aD=Bm.pop j n.aD+1+d:=⟨Bm.pop k n.aD-Bm.pop j n.aD-1,by omega⟩
    rw[hd,show Bm.pop j n.aD+1+d-Bm.pop j n.aD=d+1 by omega,Fk,WI]
theorem vB{n:Node}{i r:Int}(hf:n.aD<18446744073709551616)(hc:n.lO=true)(h:(aB n i).2=false)(h0:0<=i)(h1:i<=63)(hr:1<=r):(aS n i r)=({kind:=3,aD:=(bW n i r 64).1,aA:=(bW n i r 64).2},true):=by
 obtain⟨j,rfl⟩:=Hp h0
 have hj:j<64:=by omega
 have hb:n.aD.testBit j=false:=by
  rw[lQ hc hj]at h
  cases hb:n.aD.testBit j with
  |false=>rfl
  |true=>rw[hb]at h;cases h
 have hh:Bm.has n.aD (j:Int)=false:=by rw[Bm.nI _ _ hj];exact hb
 have hl:=Ag hc
 have hpw:=Bm.rQ n.aD j hj
 have hpl:Bm.pop j n.aD<=n.aA.length:=by rw[hl];exact Hr (by omega)
 unfold aS
 rw[if_neg (by simp[hc,hh];omega),Vo hj]
 rw[yK (nb:=Bm.cI n.aD j) (bl:=n.aA.take (Bm.pop j n.aD)++r::n.aA.drop (Bm.pop j n.aD)) (Bm.iM _ _ hf) (by rw[hpw,if_pos ⟨hj,hb⟩];simp;omega)]
 intro k hk
 unfold wX
 rw[Bm.gL _ j hj]
 by_cases e:(k:Int)=(j:Int)
 ·have e:k=j:=by omega
  subst e
  rw[if_pos rfl]
  refine⟨by simp;omega,λ_=>?_⟩
  rw[hpw,if_neg (by omega),eX,tW (by rw[Hg];omega),Hg,jI (by omega),KQ,Nat.sub_self];rfl
 ·rw[if_neg e,lQ hc hk]
  cases hbk:n.aD.testBit k with
  |false=>exact⟨by simp;omega,λh=>by simp at h;omega⟩
  |true=>
   refine⟨by simp,λ_=>?_⟩
   show n.aA.getD (Bm.pop k n.aD) 0=_
   rw[eX,eX,hpw]
   by_cases hkj:k<j
   ·have:=oM hbk hkj
    rw[if_neg (by omega),xD (by rw[Hg];omega),KQ,pJ,if_pos this]
   ·have:=Hr (b:=n.aD) (show j<=k by omega)
    rw[if_pos ⟨by omega,hb⟩,tW (by rw[Hg];omega),Hg,jI (by omega)]
    obtain⟨d,hd⟩:∃d,Bm.pop k n.aD=Bm.pop j n.aD+d:=⟨Bm.pop k n.aD-Bm.pop j n.aD,by omega⟩
    rw[hd,show Bm.pop j n.aD+d+1-Bm.pop j n.aD=d+1 by omega,Fk,WI]
theorem Aw(b x:Nat)(hx:x<64)(hb:b.testBit x=true):∀y,Bm.pop y b=Bm.pop y (Bm.jD b x)+if x<y then 1 else 0
 |0=>by simp[Bm.pop]
 |y+1=>by
  rw[Bm.cZ,Bm.cZ,Aw b x hx hb y,Bm.kW b x hx]
  by_cases h1:x<y
  ·simp[h1,show x<y+1 by omega,show x≠y by omega];omega
  ·by_cases h2:x=y
   ·subst h2;simp[hb]
   ·simp[h1,show ¬x<y+1 by omega,h2]
theorem xV{n:Node}{i:Int}(hf:n.aD<18446744073709551616)(h:(aB n i).2=true):(bL n i)=({kind:=3,aD:=(bW n i 0 64).1,aA:=(bW n i 0 64).2},true):=by
 have hc:n.lO=true:=by
  unfold aB at h;split at h
  ·cases h
  ·rename_i q;simp at q;exact q.1
 have hh:Bm.has n.aD i=true:=by
  unfold aB at h;split at h
  ·cases h
  ·rename_i q;simp at q;exact q.2
 have hi:0<=i/\i<64:=by unfold Bm.has at hh;simp at hh;omega
 obtain⟨j,rfl⟩:=Hp hi.1
 have hj:j<64:=by omega
 have hb:n.aD.testBit j=true:=by rw[<- Bm.nI _ _ hj];exact hh
 have hl:=Ag hc
 have hp:Bm.pop j n.aD<n.aA.length:=by rw[hl];exact oM hb hj
 have hpw:=Aw n.aD j hj hb
 unfold bL
 rw[if_neg (by simp[hc,hh];omega),Vo hj]
 rw[yK (nb:=Bm.jD n.aD j) (bl:=n.aA.take (Bm.pop j n.aD)++n.aA.drop (Bm.pop j n.aD+1)) (Bm.Dz _ _ hf) (by have:=hpw 64;rw[if_pos hj]at this;simp;omega)]
 intro k hk
 unfold wX
 rw[Bm.kW _ j hj]
 by_cases e:(k:Int)=(j:Int)
 ·have e:k=j:=by omega
  subst e
  rw[if_pos rfl]
  exact⟨by simp,λh=>by simp at h⟩
 ·rw[if_neg e,lQ hc hk]
  cases hbk:n.aD.testBit k with
  |false=>exact⟨by simp,λh=>by simp at h⟩
  |true=>
   refine⟨by simp;omega,λ_=>?_⟩
   show n.aA.getD (Bm.pop k n.aD) 0=_
   rw[eX,eX]
   have hk':=hpw k
   by_cases hkj:k<j
   ·have:=oM hbk hkj
    rw[if_neg (by omega)]at hk'
    rw[xD (by rw[Hg];omega),pJ,if_pos (by omega)]
    congr 2
   ·have:=oM hb (show j<k by omega)
    rw[if_pos (by omega)]at hk'
    rw[tW (by rw[Hg];omega),Hg,jI (by omega),WI]
    congr 2;omega
end Go.Ct
namespace Go.Ct
structure VF(n:Node):Prop where
 kind:1<=n.kind/\n.kind<=8
 main:0<=n.main
 prev:0<=n.prev
 status:0<=n.status
 gen:n.kind=2->1<=n.gen
 count:n.kind=3->n.aA.length=Bm.pop 64 n.aD
 branch:n.kind=3->∀k,k<n.aA.length->1<=n.aA.getD k 0
 key:n.kind=4\/n.kind=5->n.key.size<=64
 aF:n.kind=6->2<=n.aF.length
 tC:n.kind=6->aQ n.aF=true
 short:n.kind=6->kS n.aF=true
 dC:n.kind=7\/n.kind=8->1<=n.dC
 desc:n.kind=8->1<=n.aK/\1<=n.new
theorem fJ{n:Node}(h:n.valid=true):VF n:=by
 unfold Node.valid at h
 split at h
 ·cases h
 ·rename_i h0
  simp only[not_or,sX]at h0
  refine⟨by omega,by omega,by omega,by omega,?_,?_,?_,?_,?_,?_,?_,?_,?_⟩
  ·intro hk;rw[if_pos hk]at h;exact dP h
  ·intro hk;rw[if_neg (by omega),if_pos hk]at h;simp at h;exact h.2
  ·intro hk;rw[if_neg (by omega),if_pos hk]at h;simp at h
   intro k hlt
   rw[eX,fM hlt];exact h.1 _ (qR hlt)
  ·intro hk;rw[if_neg (by omega),if_neg (by omega),if_pos hk]at h;exact dP h
  ·intro hk;rw[if_neg (by omega),if_neg (by omega),if_neg (by omega),if_pos hk]at h;simp at h;exact h.1
  ·intro hk;rw[if_neg (by omega),if_neg (by omega),if_neg (by omega),if_pos hk]at h;simp at h;exact h.2.1
  ·intro hk;rw[if_neg (by omega),if_neg (by omega),if_neg (by omega),if_pos hk]at h;simp at h;exact h.2.2
  ·rintro(hk|hk)
   ·rw[if_neg (by omega),if_neg (by omega),if_neg (by omega),if_neg (by omega),if_pos hk]at h;exact dP h
   ·rw[if_neg (by omega),if_neg (by omega),if_neg (by omega),if_neg (by omega),if_neg (by omega),if_pos hk]at h;simp at h;exact h.1
  ·intro hk;rw[if_neg (by omega),if_neg (by omega),if_neg (by omega),if_neg (by omega),if_neg (by omega),if_pos hk]at h;simp at h;exact h.2
theorem NC{n:Node}(h:(n.kind==3)=false):n.lO=false:=by unfold Node.lO;rw[h];rfl
theorem Pb{n:Node}(h:(n.kind==3)=true)(hv:n.valid=true):n.lO=true:=by unfold Node.lO;rw[h,hv];rfl
theorem LW{n:Node}(h:(n.kind==6)=false):n.Kx=false:=by unfold Node.Kx;rw[h];rfl
theorem vZ{n:Node}(h:(n.kind==6)=true)(hv:n.valid=true):n.Kx=true:=by unfold Node.Kx;rw[h,hv];rfl
theorem Tr{n:Node}{i:Int}(h:n.lO=false):aB n i=(0,false):=by unfold aB;rw[if_pos (.inl h)]
theorem Dd{n:Node}{i:Int}(h:Bm.has n.aD i=false):aB n i=(0,false):=by unfold aB;rw[if_pos (.inr h)]
theorem MF{n:Node}{i:Int}(hc:n.lO=true)(h:Bm.has n.aD i=true):aB n i=(n.aA.getD (Bm.aO n.aD i) 0,true):=by unfold aB;rw[if_neg (by simp[hc,h])]
theorem US{n:Node}{i:Int}(hc:n.lO=true)(h:Bm.has n.aD i=true):Bm.aO n.aD i<n.aA.length:=by rw[Ag hc];exact Ij h
structure NF(n:Node):Prop where
 br:n.aA.length<=1000000
 pr:n.aF.length<=1000000000000
 bm:n.aD<18446744073709551616
 hs:n.hash<18446744073709551616
 ks:n.key.size<=64
 v3:n.kind=3->n.valid=true
 v6:n.kind=6->n.valid=true
theorem Node.Fit.nf{L:Nat}{n:Node}(h:n.Fit L)(hL:L<=900000000000):NF n:=⟨h.1.1,by have:=h.1.2.1;omega,h.1.2.2.1,h.1.2.2.2.1,h.2,λhk=>h.1.2.2.2.2.2.2 (.inl hk),λhk=>h.1.2.2.2.2.2.2 (.inr hk)⟩
end Go.Ct
namespace Go.Ct
theorem NM{n:Node}(h:n.lO=false):fF n=(0,false):=by unfold fF;rw[if_pos (.inl h)]
theorem OQ{n:Node}(h:n.aA.length≠1):fF n=(0,false):=by unfold fF;rw[if_pos (.inr h)]
theorem NY{n:Node}(hc:n.lO=true)(h:n.aA.length=1):fF n=(n.aA.getD 0 0,true):=by unfold fF;rw[if_neg (by simp[hc,h])]
theorem VD{n:Node}(h:n.kind≠5):aT n=({},false):=by unfold aT;rw[if_neg h]
theorem NW{n:Node}(h:n.kind=5):aT n=(Yd n,true):=by unfold aT;rw[if_pos h]
theorem LL{n s:Node}{l:Int}(h:(fF n).2=true)(hl:0<l)(hk:s.kind=4):bQ n l s=AV s:=by unfold bQ;rw[if_pos ⟨hl,h,hk⟩]
theorem NO{n s:Node}{l:Int}(h:(fF n).2=false):bQ n l s=n:=by unfold bQ;rw[if_neg (by rw[h];simp)]
theorem OP{n s:Node}{l:Int}(h:¬0<l):bQ n l s=n:=by unfold bQ;rw[if_neg (λx=>h x.1)]
theorem MD{n s:Node}{l:Int}(h:s.kind≠4):bQ n l s=n:=by unfold bQ;rw[if_neg (λx=>h x.2.2)]
end Go.Ct
namespace Go.Ct
def Dr(n:Node)(i r:Int):Node:={kind:=3,aD:=(bW n i r 64).1,aA:=(bW n i r 64).2}
theorem VN{n:Node}{i r:Int}{k bm:Nat}{out:List Int}(he:((k:Int)==i)=true)(hr:decide ((r:Int)>0)=true)(hW:(bm,out)=bW n i r k):(Bm.cI bm (k:Int),out++[r])=bW n i r (k+1):=by
 rw[bW];unfold wX;rw[if_pos (eq_of_beq he),hr,<- hW];rfl
theorem g8{n:Node}{i r:Int}{k bm:Nat}{out:List Int}(he:((k:Int)==i)=true)(hr:decide ((r:Int)>0)=false)(hW:(bm,out)=bW n i r k):(bm,out)=bW n i r (k+1):=by
 rw[bW];unfold wX;rw[if_pos (eq_of_beq he),hr,<- hW];rfl
theorem UQ{n:Node}{i r:Int}{k bm:Nat}{out:List Int}(he:((k:Int)==i)=false)(hr:(aB n (k:Int)).2=true)(hW:(bm,out)=bW n i r k):(Bm.cI bm (k:Int),out++[(aB n (k:Int)).1])=bW n i r (k+1):=by
 rw[bW];unfold wX;rw[if_neg (by simpa using he),hr,<- hW];rfl
theorem ZX{n:Node}{i r:Int}{k bm:Nat}{out:List Int}(he:((k:Int)==i)=false)(hr:(aB n (k:Int)).2=false)(hW:(bm,out)=bW n i r k):(bm,out)=bW n i r (k+1):=by
 rw[bW];unfold wX;rw[if_neg (by simpa using he),hr,<- hW];rfl
theorem DF{n:Node}{i:Int}(h:(aB n i).2=true):n.lO=true/\Bm.has n.aD i=true:=by
 unfold aB at h;split at h
 ·cases h
 ·rename_i q;simpa using q
theorem Kg{n:Node}{i r:Int}(h:n.lO=false\/(aB n i).2=true\/(i<0\/63<i\/r<1)):aS n i r=({},false):=by
 unfold aS;rw[if_pos]
 rcases h with h|h|h
 ·exact .inl h
 ·exact .inr (.inr (.inr (.inr (DF h).2)))
 ·rcases h with h|h|h
  ·exact .inr (.inl h)
  ·exact .inr (.inr (.inl h))
  ·exact .inr (.inr (.inr (.inl h)))
theorem Vv{n:Node}{i:Int}(h:(aB n i).2=false):n.lO=false\/Bm.has n.aD i=false:=by
 unfold aB at h;split at h
 ·assumption
 ·cases h
theorem MJ{n:Node}{i r:Int}(h:(aB n i).2=false\/r<1):aP n i r=({},false):=by
 unfold aP;rw[if_pos]
 rcases h with h|h
 ·rcases Vv h with h|h
  ·exact .inl h
  ·exact .inr (.inr (.inr (.inr h)))
 ·exact .inr (.inr (.inr (.inl h)))
theorem XG{n:Node}{i:Int}(h:(aB n i).2=false):bL n i=({},false):=by
 unfold bL;rw[if_pos]
 rcases Vv h with h|h
 ·exact .inl h
 ·exact .inr (.inr (.inr h))
def FP(n:Node)(key:ByteArray)(v:Nat):Node:={kind:=6,hash:=n.hash,aF:=mC n.aF key v}
theorem GD{n:Node}{key:ByteArray}{v:Nat}(h:n.Kx=false\/64<key.size):grown n key v=({},false):=by unfold grown;rw[if_pos h]
theorem AO{n:Node}{key:ByteArray}{v:Nat}(h:n.Kx=true)(hk:¬64<key.size):grown n key v=(FP n key v,true):=by unfold grown;rw[if_neg (by simp[h];omega)];rfl
end Go.Ct
namespace Go.Ct
def EX(n:Node)(key:ByteArray):Node:={kind:=5,hash:=n.hash,key:=((gX n.aF key).getD 0 ⟨.empty,0⟩).key,value:=((gX n.aF key).getD 0 ⟨.empty,0⟩).value}
def Pm(n:Node)(key:ByteArray):Node:={kind:=6,hash:=n.hash,aF:=gX n.aF key}
theorem j9{n:Node}{key:ByteArray}(h:(bB n.aF key).2=false):gC n key=({},false):=by unfold gC;rw[if_pos (.inr h)]
theorem NK{n:Node}{key:ByteArray}(hi:n.Kx=true)(h:(bB n.aF key).2=true)(hl:(gX n.aF key).length=1):gC n key=(EX n key,true):=by
 unfold gC EX;rw[if_neg (by simp[hi,h])]
 match hp:gX n.aF key,hl with
 |[p],_=>rfl
theorem EE{n:Node}{key:ByteArray}(hi:n.Kx=true)(h:(bB n.aF key).2=true)(hl:(gX n.aF key).length≠1):gC n key=(Pm n key,true):=by
 unfold gC Pm;rw[if_neg (by simp[hi,h])]
 match hp:gX n.aF key,hl with
 |[],_=>rfl
 |[p],hl=>exact absurd rfl hl
 |p::q::l,_=>rfl
end Go.Ct
end
