/- Parts of a proof: Sa1, Sb, Wn, C6, BmPlace, C7, C4. -/
import Derived.Test.YtnhdmcipglnkfaaGreatW21
set_option linter.unusedVariables false
set_option linter.unusedSimpArgs false
set_option maxRecDepth 100000
set_option maxHeartbeats 4000000
section
namespace Go.Ct
variable{α β γ:Type}{g:Ga}
theorem I.bind_assoc:∀(t:I α) (f:α->I β) (h:β->I γ),(t.bind f).bind h=t.bind λv=>(f v).bind h
 |.ret a,f,h=>rfl
 |.load c k,f,h=>by show I.load c _=I.load c _;congr 1;funext v;exact I.bind_assoc (k v) f h
 |.cH c o n k,f,h=>by show I.cH c o n _=I.cH c o n _;congr 1;funext v;exact I.bind_assoc (k v) f h
 |.alloc n i k,f,h=>by show I.alloc n i _=I.alloc n i _;congr 1;funext v;exact I.bind_assoc (k v) f h
 |.cell i k,f,h=>by show I.cell i _=I.cell i _;congr 1;funext v;exact I.bind_assoc (k v) f h
 |.gen k,f,h=>by show I.gen _=I.gen _;congr 1;funext v;exact I.bind_assoc (k v) f h
 |.node r k,f,h=>by show I.node r _=I.node r _;congr 1;funext v;exact I.bind_assoc (k v) f h
theorem Sm.as9[Qc γ]{t:I γ}{u:I α}{f:α->I β}{h:β->I γ}(k:Sm t (u.bind λv=>(f v).bind h) g):Sm t ((u.bind f).bind h) g:=by rw[I.bind_assoc];exact k
variable[Qc β]
theorem Sm.cc{c:Bool}{a b:I β}{x y:I α}{k:α->I β}(h1:c=true->Sm a (x.bind k) g)(h2:c=false->Sm b (y.bind k) g):Sm (bif c then a else b) ((bif c then x else y).bind k) g:=by
 cases c with
 |true=>exact h1 rfl
 |false=>exact h2 rfl
theorem Sm.cn{c:Bool}{a b:I β}{x y:I α}{k:α->I β}(h1:c=true->Sm b (x.bind k) g)(h2:c=false->Sm a (y.bind k) g):Sm (bif !c then a else b) ((bif c then x else y).bind k) g:=by
 cases c with
 |true=>exact h1 rfl
 |false=>exact h2 rfl
theorem Sm.tt{c:Bool}{a b:I β}{u:I β}(hc:c=true)(h:Sm a u g):Sm (bif c then a else b) u g:=by rw[hc];exact h
theorem Sm.ff{c:Bool}{a b:I β}{u:I β}(hc:c=false)(h:Sm b u g):Sm (bif c then a else b) u g:=by rw[hc];exact h
theorem Sm.rt{c:Bool}{x y:I α}{k:α->I β}{t:I β}(hc:c=true)(h:Sm t (x.bind k) g):Sm t ((bif c then x else y).bind k) g:=by rw[hc];exact h
theorem Sm.rf{c:Bool}{x y:I α}{k:α->I β}{t:I β}(hc:c=false)(h:Sm t (y.bind k) g):Sm t ((bif c then x else y).bind k) g:=by rw[hc];exact h
theorem okS{k g0 o e w:Int}{b:eC}(hk:k=2\/k=7\/k=8)(hv:Node.valid {kind:=k,gen:=g0,dO:=o,aS:=e,new:=w}=true)(hi:k=2->g0<=g.gen/\b.1<=11)(hf:k=7->mZ g o b)(hd:k=8->fH g o (0,0)/\mZ g e (0,0)/\fH g w (0,0)):
  bT g {kind:=k,gen:=g0,dO:=o,aS:=e,new:=w} b:=by
 refine⟨hv,⟨0,bP 0 k g0 o e w (by omega)⟩,by show 2<=k;omega,by show k<=8;omega,hi,λh=>?_,λh=>?_,λh=>?_,hf,hd⟩
 ·exact absurd (show k=3 from h) (by omega)
 ·exact absurd (show k=5 from h) (by omega)
 ·exact absurd (show k=6 from h) (by omega)
theorem mZ.one{r:Int}{b:eC}(h:mZ g r b):1<=r:=wD (g:=g) (r:=r) (by have:=h.two;omega)
theorem fH.one{r:Int}{b:eC}(h:fH g r b):1<=r:=wD (by rw[h.1];decide)
theorem Ij.one{r:Int}{b:eC}(h:Ij g r b):1<=r:=wD (by rw[h.1];decide)
theorem Wh{p:Int}{b:eC}(h:mZ g p b):bT g {kind:=7,dO:=p} b:=
 okS (.inr (.inl rfl)) (by have:=h.one;unfold Node.valid;simp[gW,Node.only,bO,pH,this]) (λh=>by cases h) (λ_=>h) λh=>by cases h
theorem nU{x:Int}{b:eC}(h1:1<=x)(h2:x<=g.gen)(hb:b.1<=11):bT g {kind:=2,gen:=x} b:=
 okS (.inl rfl) (by unfold Node.valid;simp[gW,Node.only,bO,pH,h1]) (λ_=>⟨h2,hb⟩) (λh=>by cases h) λh=>by cases h
theorem TR{o e w:Int}{b:eC}(ho:fH g o (0,0))(he:mZ g e (0,0))(hw:fH g w (0,0)):bT g {kind:=8,dO:=o,aS:=e,new:=w} b:=
 okS (.inr (.inr rfl)) (by have:=ho.one;have:=he.one;have:=hw.one;unfold Node.valid;simp[gW,Node.only,bO,pH, *]) (λh=>by cases h) (λh=>by cases h) λ_=>⟨ho,he,hw⟩
theorem Hl{b:eC}(hb:b.1<=10)(TX:b.2<64^b.1):bT g {kind:=3} b:=
 ⟨by decide+kernel,⟨0,iS 0⟩,by decide,by decide,(λh=>by cases h),λ_=>⟨hb,TX,λk hk=>by
  have:=uR hk
  unfold aB at this;rw[if_pos (.inr (by unfold Bm.has;simp))]at this;exact absurd this (by decide)⟩,(λh=>by cases h),(λh=>by cases h),(λh=>by cases h),λh=>by cases h⟩
theorem KM.SE{p:Int}{b:eC}(h:KM g p b):(g.node p).bG=false:=by unfold Node.bG;rw[h.1];rfl
abbrev Kp(g:Ga)(b:eC)(k:Int->I β)(k':Int->I β):Prop:=∀g',Ge g g'->GW g'->∀r,rU g' r b->Sm (k r) (k' r) g'
theorem val_zero{c v:Int}{b:eC}(h:I2 g c v (.prev b))(h0:v=0):g.dec (-c):=by
 rcases h with h|h|h
 ·exact h.2
 ·have:=wD (g:=g) (r:=v) (by rw[h.1.1];decide);omega
 ·have:=h.2.1.one;omega
abbrev Ki(g:Ga)(k:Int->I β)(k':Int->I β):Prop:=∀g',Ge g g'->GW g'->∀r,fH g' r (0,0)->Sm (k r) (k' r) g'
theorem Kp.ge{b:eC}{k k':Int->I β}{g':Ga}(h:Kp g b k k')(hg:Ge g g'):Kp g' b k k':=λg2 h2 hw r hr=>h g2 (hg.trans h2) hw r hr
theorem Ki.ge{k k':Int->I β}{g':Ga}(h:Ki g k k')(hg:Ge g g'):Ki g' k k':=λg2 h2 hw r hr=>h g2 (hg.trans h2) hw r hr
theorem SF{k k':Int->I β}{i m p:Int}{b:eC}(hw:GW g)(hi:fH g i b)(hm:mZ g m b)(hp:KM g p b)(hf:(g.node p).dO=g.first (g.node m).prev)(hk:Kp g b k k'):Sm (Gc i m p k) ((RX i m p).bind k') g:=by
 have ho:=(hw.ofF hp).f hp.1
 have hz:rU g (g.node p).dO b:=by
  rw[hf];exact hw.DL m b hm (by rw[<- hf];have:=ho.one;omega)
 refine .nl hp.bX (.nl hi.bX (.nr hi.bX (.nr hp.bX (.cH (.main b) (hw.fQ hi) ho λg' hg lD _ ok=>.nr (hp.ge hg).bX ?_))))
 rw[hg.node hp.bX];exact hk g' hg lD _ (hz.ge hg)
theorem RG{k k':Int->I β}{i m pr:Int}{b:eC}{ok:Bool}(hw:GW g)(hi:fH g i b)(hm:mZ g m b)(DH:pr=(g.node m).prev)(hd:g.dec pr)(hk:Kp g b k k'):Sm (mI pr i m k ok) ((SM i m).bind k') g:=by
 subst DH
 refine .nr hm.bX (.load (.prev b) (hw.oH hm) λg' hg lD v hv=>?_)
 refine Sm.cc (λh=>hk g' hg lD m ⟨hm.ge hg,by rw[hg.node hm.bX];exact val_zero hv (by simpa using h)⟩) λh=>?_
 have h0:v≠0:=by simpa using h
 have hp:KM g' v b/\(g'.node v).dO=g'.first (g.node m).prev:=by
  rcases hv with hv|hv|⟨_,_,hv⟩
  ·exact absurd hv.1 h0
  ·exact hv
  ·exact absurd (hg.dec _ hd) hv
 exact SF lD (hi.ge hg) (hm.ge hg) hp.1 (by rw[hg.node hm.bX];exact hp.2) (hk.ge hg)
theorem SG{k k':Int->I β}{i m p pr:Int}{b:eC}(hw:GW g)(hi:fH g i b)(hm:mZ g m b)(hp:mZ g p b)(DH:pr=(g.node m).prev)(hf:p=g.first pr)(hk:Kp g b k k'):Sm (oB pr p false (mI pr i m k)) ((QR i m p).bind k') g:=by
 subst DH
 refine .nr hm.bX (.alloc b (Wh hp) ⟨(λh=>by cases h),(λh=>by cases h),λh=>by cases h⟩ λhg lD=>?_)
 refine .cH (.prev b) (hg.dZ (hw.oH hm)) ⟨by have:=hp.one;omega,.inr ⟨Yw hw rfl,by rw[hg.first hw (hw.oH hm),<- hf,eG];rfl⟩⟩ λg2 h2 tU hd ok=>?_
 have xZ:=hg.trans h2
 exact RG tU (hi.ge xZ) (hm.ge xZ) (by rw[xZ.node hm.bX]) (hd ⟨b,rfl⟩ (by rw[hg.first hw (hw.oH hm)];exact hf)) (hk.ge xZ)
theorem Ob{t:aX}{k k':Int->I β}{v s:Int}(hw:GW g)(ht:g.dZ t.root=some .root)(hv:wH g v)(hk:Ki g k k'):Sm (mN t v s k) ((Uq t v s).bind k') g:=by
 have hd:=(hw.ofD hv).d hv
 unfold mN Uq Ad
 refine .nl hv.bX ?_
 generalize (s==1)=c
 cases c with
 |true=>exact .nr hv.bX (.cH .root ht (.inl hd.2.2) λg' hg lD _ ok=>hk g' hg lD _ (hd.2.2.ge hg))
 |false=>exact .nr hv.bX (.cH .root ht (.inl hd.1) λg' hg lD _ ok=>hk g' hg lD _ (hd.1.ge hg))
theorem aC1{v:Int}{c:Int}(h:mT g c v .root)(hc:((g.node v).kind==2)=false):wH g v:=by
 rcases h with h|h
 ·rw[h.1]at hc;exact absurd hc (by decide)
 ·exact h
theorem aBp{v:Int}{c:Int}(h:mT g c v .root)(hc:((g.node v).kind==2)=true):fH g v (0,0):=by
 rcases h with h|h
 ·exact h
 ·rw[show (g.node v).kind=8 from h]at hc;exact absurd hc (by decide)
theorem mT.bX{v c:Int}(h:mT g c v .root):v<=g.count:=h.elim fH.bX wH.bX
theorem W8{t:aX}{k k':Int->I β}(hw:GW g)(ht:g.dZ t.root=some .root)(hk:Ki g k k'):Sm (Vz t k) ((TQ t).bind k') g:=by
 refine .load .root ht λg1 h1 iY v hv=>?_
 have hv:mT g1 t.root v .root:=hv
 refine .nl hv.bX (.nr hv.bX (Sm.cc (λh=>hk g1 h1 iY v (aBp hv h)) λh=>?_))
 have hD:=aC1 hv h
 refine .nr hD.bX (.load .status (iY.uN hD) λg2 h2 tU s hs=>?_)
 have hD2:=hD.ge h2
 have hk2:=hk.ge (h1.trans h2)
 have ht2:=(h1.trans h2).dZ ht
 by_cases h0:s=0
 ·subst h0
  refine .nr hD2.bX ?_
  rw[h2.node hD.bX]
  refine .cH .status (h2.dZ (iY.uN hD)) (.inr rfl) λg3 h3 YZ _ ok=>.nr (hD2.ge h3).bX ?_
  rw[(h2.trans h3).node hD.bX]
  exact .load .status ((h2.trans h3).dZ (iY.uN hD)) λg4 h4 TV s' mD=>Ob TV ((h3.trans h4).dZ ht2) (hD2.ge (h3.trans h4)) (hk2.ge (h3.trans h4))
 ·refine Sm.tt (by simpa using h0) (Sm.rf (by simpa using h0) ?_)
  exact Ob tU ht2 hD2 hk2
theorem Yr{t:aX}{k k':Int->I β}{i m:Int}{b:eC}(hw:GW g)(ht:Tk g t)(hi:fH g i b)(hm:mZ g m b)(hk:Kp g b k k'):Sm (nZ t i m k) ((Av t i m).bind k') g:=by
 refine .nl hm.bX (.nr hm.bX (.load (.prev b) (hw.oH hm) λg1 h1 iY p hp=>?_))
 refine Sm.cc (λh=>hk g1 h1 iY m ⟨hm.ge h1,by rw[h1.node hm.bX];exact val_zero hp (by simpa using h)⟩) λh=>?_
 have h0:p≠0:=by simpa using h
 have Jx:=hi.ge h1
 have CT:=hm.ge h1
 rcases hp with hp|hp|⟨hf,hp,hd⟩
 ·exact absurd hp.1 h0
 ·obtain⟨hp,hf⟩:=hp
  exact .nl hp.bX (.nr hp.bX (Sm.cn (λh=>absurd (hp.SE.symm.trans h) (by decide)) λ_=>SF iY Jx CT hp (by rw[h1.node hm.bX];exact hf) (hk.ge h1)))
 ·refine .nl hp.bX (.nr hp.bX (Sm.cn (λ_=>?_) λh=>absurd (hp.1.symm.trans h) (by decide)))
  refine Sm.cc (λh=>?_) λh=>?_
  ·exact SG iY Jx CT hp (by rw[h1.node hm.bX]) hf (hk.ge h1)
  ·refine Sm.as9 (W8 iY ((ht.ge h1).root h) λg2 h2 tU r hr=>?_)
   have hi2:=Jx.ge h2
   have DF:=CT.ge h2
   have hf2:p=g2.first (g.node m).prev:=by rw[h2.first iY (h1.dZ (hw.oH hm))];exact hf
   refine .nl hr.bX (.nl hi2.bX (.nr hr.bX (.nr hi2.bX ?_)))
   dsimp only
   generalize ((g2.node r).gen==(g2.node i).gen)=c
   cases c with
   |true=>
    refine .nr DF.bX ?_
    rw[(h1.trans h2).node hm.bX]
    refine .cH (.prev b) ((h1.trans h2).dZ (hw.oH hm)) ⟨h0,.inl rfl⟩ λg3 h3 YZ cJ ok=>?_
    exact RG YZ (hi2.ge h3) (DF.ge h3) (by rw[((h1.trans h2).trans h3).node hm.bX]) (cJ ⟨b,rfl⟩ hf2) (hk.ge ((h1.trans h2).trans h3))
   |false=>exact SG tU hi2 DF (hp.ge h2) (by rw[(h1.trans h2).node hm.bX]) hf2 (hk.ge (h1.trans h2))
theorem oV{t:aX}{k k':Int->I β}{i:Int}{b:eC}(hw:GW g)(ht:Tk g t)(hi:fH g i b)(hk:Kp g b k k'):Sm (kT t i k) ((sE t i).bind k') g:=
 .nl hi.bX (.nr hi.bX (.load (.main b) (hw.fQ hi) λg1 h1 iY m hm=>Yr iY (ht.ge h1) (hi.ge h1) hm (hk.ge h1)))
abbrev Kb(g:Ga)(k:Bool->I β)(k':Bool->I β):Prop:=∀g',Ge g g'->GW g'->∀c,Sm (k c) (k' c) g'
theorem Kb.ge{k k':Bool->I β}{g':Ga}(h:Kb g k k')(hg:Ge g g'):Kb g' k k':=λg2 h2 hw r=>h g2 (hg.trans h2) hw r
theorem Mv{t:aX}{k k':Bool->I β}{i o n:Int}{b:eC}(hw:GW g)(ht:Tk g t)(hi:fH g i b)(hn:mZ g n b)(hk:Kb g k k'):Sm (swapT t i o n k) ((pD t i o n).bind k') g:=by
 refine .nl hi.bX (.nr hi.bX (.cH (.main b) (hw.fQ hi) hn λg1 h1 iY _ ok=>?_))
 refine Sm.cn (λh=>?_) λh=>hk g1 h1 iY false
 exact Sm.as9 (Yr iY (ht.ge h1) (hi.ge h1) (hn.ge h1) λg2 h2 tU r hr=>hk g2 (h1.trans h2) tU _)
theorem G6{t:aX}{k:I β}{k':Unit->I β}{v:Int}{d:Node}(hw:GW g)(ht:Tk g t)(hv:wH g v)(hd:d=g.node v)(hk:∀g',Ge g g'->GW g'->Sm k (k' ()) g'):Sm (Vk t d k) ((Bg t v).bind k') g:=by
 subst hd
 have hD:=(hw.ofD hv).d hv
 refine .nr hv.bX (Sm.as9 (oV hw ht hD.1 λg1 h1 iY m hm=>.nr (hv.ge h1).bX ?_))
 rw[h1.node hv.bX]
 refine Sm.cc (λh=>.nr (hv.ge h1).bX ?_) λh=>.nr (hv.ge h1).bX ?_
 ·rw[h1.node hv.bX]
  exact .cH .status (h1.dZ (hw.uN hv)) (.inl rfl) λg2 h2 tU _ ok=>hk g2 (h1.trans h2) tU
 ·rw[h1.node hv.bX]
  exact .cH .status (h1.dZ (hw.uN hv)) (.inr rfl) λg2 h2 tU _ ok=>hk g2 (h1.trans h2) tU
theorem Gz{t:aX}{k k':Int->I β}(hw:GW g)(ht:Tk g t)(hk:Ki g k k'):Sm (uD t k) ((xP t).bind k') g:=by
 cases eR:t.readOnly with
 |true=>
  refine .load .fixed (ht.fixed eR) λg1 h1 iY v hv=>?_
  have hv:fH g1 v (0,0):=hv
  exact .nl hv.bX (.nr hv.bX (Sm.cc (λh=>hk g1 h1 iY v hv) λh=>absurd h (by rw[hv.1];decide)))
 |false=>
 refine .load .root (ht.root eR) λg1 h1 iY v hv=>?_
 have hv:mT g1 t.root v .root:=hv
 refine .nl hv.bX (.nr hv.bX (Sm.cc (λh=>hk g1 h1 iY v (aBp hv h)) λh=>?_))
 have hD:=aC1 hv h
 refine .nr hD.bX (.load .status (iY.uN hD) λg2 h2 tU s hs=>?_)
 have hD2:=hD.ge h2
 have hk2:=hk.ge (h1.trans h2)
 have ht2:=ht.ge (h1.trans h2)
 by_cases h0:s=0
 ·subst h0
  refine Sm.as9 (G6 tU ht2 hD2 (by rw[h2.node hD.bX]) λg3 h3 YZ=>.nr (hD2.ge h3).bX ?_)
  rw[(h2.trans h3).node hD.bX]
  exact .load .status ((h2.trans h3).dZ (iY.uN hD)) λg4 h4 TV s' mD=>Ob TV ((ht2.ge (h3.trans h4)).root eR) (hD2.ge (h3.trans h4)) (hk2.ge (h3.trans h4))
 ·refine Sm.tt (by simpa using h0) (Sm.rf (by simpa using h0) ?_)
  exact Ob tU (ht2.root eR) hD2 hk2
theorem Ow{t:aX}{k k':Bool->I β}{o e n:Int}(hw:GW g)(ht:Tk g t)(eR:t.readOnly=false)(ho:fH g o (0,0))(he:mZ g e (0,0))(hn:fH g n (0,0))(hk:Kb g k k'):Sm (tI t o e n k) ((Iw t o e n).bind k') g:=by
 refine .alloc (0,0) (TR ho he hn) ⟨(λh=>by cases h),(λh=>by cases h),λ_=>rfl⟩ λh1 iY=>?_
 have hD:wH (g.alloc {kind:=8,dO:=o,aS:=e,new:=n} 0 (0,0)) (g.nodes.length+3):=Xm rfl
 refine .nl hD.bX (.cH .root ((ht.ge h1).root eR) (.inr hD) λg2 h2 tU _ ok=>?_)
 refine Sm.cn (λh=>?_) λh=>hk g2 (h1.trans h2) tU false
 refine Sm.as9 (G6 tU (ht.ge (h1.trans h2)) (hD.ge h2) (h2.node hD.bX).symm λg3 h3 YZ=>.nr (hD.ge (h2.trans h3)).bX ?_)
 rw[(h2.trans h3).node hD.bX]
 refine .load .status ((h2.trans h3).dZ (iY.uN hD)) λg4 h4 TV s hs=>?_
 have:=Ob (s:=s) (k:=λ_=>k (s==1)) (k':=λ_=>k' (s==1)) TV ((ht.ge (h1.trans (h2.trans (h3.trans h4)))).root eR) (hD.ge (h2.trans (h3.trans h4))) λg5 h5 hw5 r hr=>hk g5 ((h1.trans (h2.trans (h3.trans h4))).trans h5) hw5 _
 unfold Uq at this
 rw[I.bind_assoc]at this ⊢
 exact this
end Go.Ct
end
section
namespace Go.Ct
variable{g:Ga}
theorem Xj{a b:Nat}:∀j,(∀i,i<j->a.testBit i=b.testBit i)->Bm.pop j a=Bm.pop j b
 |0,_=>by simp[Bm.pop]
 |j+1,h=>by rw[Bm.cQ,Bm.cQ,Xj j λi hi=>h i (by omega),h j (by omega)]
theorem X4{n:Node}{i r:Int}{k:Nat}(h:(yW n i r k).2=true):1<=(yW n i r k).1:=by
 unfold yW at h ⊢
 split at h
 ·rename_i e;rw[if_pos e];have:=dH h;show 1<=r;omega
 ·rename_i e;rw[if_neg e];exact uR h
theorem tC(n:Node)(i r:Int):∀k,k<=64->(∀j,(bW n i r k).1.testBit j=(decide (j<k)&&(yW n i r j).2))/\(bW n i r k).2.length=Bm.pop k (bW n i r k).1/\
  (∀j,j<k->(yW n i r j).2=true->(bW n i r k).2.getD (Bm.pop j (bW n i r k).1) 0=(yW n i r j).1)/\∀x∈(bW n i r k).2,1<=x
 |0,_=>⟨λj=>by simp[bW],by simp[bW,Bm.pop],λj hj=>absurd hj (Nat.not_lt_zero _),λx hx=>by simp[bW]at hx⟩
 |k+1,hk=>by
  obtain⟨h1,h2,h3,h4⟩:=tC n i r k (by omega)
  rw[bW]
  cases hb:(yW n i r k).2 with
  |true=>
   simp only[tV]
   have hbit:∀j,(Bm.cR (bW n i r k).1 k).testBit j=(decide (k=j)||(bW n i r k).1.testBit j):=λj=>by
    rw[Bm.iN _ k (by omega)]
    by_cases hj:k=j<;>simp[hj]
   have aKr:∀j,j<=k->Bm.pop j (Bm.cR (bW n i r k).1 k)=Bm.pop j (bW n i r k).1:=λj hj=>Xj j λi hi=>by rw[hbit];simp[show k≠i by omega]
   refine⟨λj=>?_,?_,λj hj Bx=>?_,λx hx=>?_⟩
   ·rw[hbit,h1]
    by_cases hj:k=j
    ·subst hj;simp[hb]
    ·by_cases Em:j<k
     ·simp[hj,Em,show j<k+1 by omega]
     ·simp[hj,Em,show ¬j<k+1 by omega]
   ·rw[cV,fR,h2,Bm.cQ,aKr k (aW _),hbit];simp
   ·rw[aKr j (by omega)]
    by_cases Em:j=k
    ·subst Em
     rw[<- h2,cK,tN (aW _)];simp
    ·have hlt:Bm.pop j (bW n i r k).1<(bW n i r k).2.length:=by
      rw[h2];exact sJ (by rw[h1];simp[Bx];omega) (by omega)
     rw[cK,vS hlt,<- cK]
     exact h3 j (by omega) Bx
   ·rcases List.mem_append.1 hx with hx|hx
    ·exact h4 x hx
    ·rw[List.mem_singleton.1 hx];exact X4 hb
  |false=>
   simp only[fN]
   refine⟨λj=>?_,?_,λj hj Bx=>?_,h4⟩
   ·rw[h1]
    by_cases hj:k=j
    ·subst hj;simp[hb]
    ·by_cases Em:j<k
     ·simp[Em,show j<k+1 by omega]
     ·simp[Em,show ¬j<k+1 by omega]
   ·rw[h2,Bm.cQ,h1];simp
   ·by_cases Em:j=k
    ·subst Em;rw[hb]at Bx;cases Bx
    ·exact h3 j (by omega) Bx
theorem La(n:Node)(i r:Int):(Ew n i r).valid=true:=by
 obtain⟨h1,h2,h3,h4⟩:=tC n i r 64 (aW _)
 show Node.valid {kind:=3,aC:=(bW n i r 64).1,aA:=(bW n i r 64).2,prev:=0}=true
 rw[SP _ _ 0 (Int.le_refl _)]
 simp only[pM,MY,Gx,Ae]
 exact⟨h4,h2⟩
theorem Xa(n:Node)(i r:Int):(Ew n i r).oT=true:=by
 unfold Node.oT;rw[La];rfl
theorem BI(n:Node)(i r:Int){k:Int}(h:(aB (Ew n i r) k).2=true):∃j:Nat,k=j/\j<64/\(yW n i r j).2=true/\(aB (Ew n i r) k).1=(yW n i r j).1:=by
 obtain⟨h1,h2,h3,h4⟩:=tC n i r 64 (aW _)
 have hh:=(AB h).2
 have hi:0<=k/\k<64:=by unfold Bm.has at hh;simp at hh;omega
 obtain⟨j,rfl⟩:=vL hi.1
 have hj:j<64:=by omega
 have hb:(bW n i r 64).1.testBit j=true:=by rw[<- Bm.nY _ _ hj];exact hh
 rw[h1]at hb
 simp[hj]at hb
 refine⟨j,rfl,hj,hb,?_⟩
 rw[mS (Xa n i r) hj]
 show (if(bW n i r 64).1.testBit j=true then _ else _:Int×Bool).1=_
 rw[if_pos (by rw[h1];simp[hj,hb])]
 exact h3 j hj hb
theorem Qx{n:Node}{i r:Int}{b:eC}(hb:b.1<=10)(TX:b.2<64^b.1)(hc:∀k:Nat,k<64->(yW n i r k).2=true->fH g (yW n i r k).1 (eA b k)\/Ij g (yW n i r k).1 (eA b k)):bT g (Ew n i r) b:=by
 obtain⟨h1,h2,h3,h4⟩:=tC n i r 64 (aW _)
 refine⟨La n i r,⟨0,Xv 0 _ _ (Yk n i r 64).1 h4 h2⟩,by show (2:Int)<=3;decide,by show (3:Int)<=8;decide,(λh=>by cases h),λ_=>⟨hb,TX,λk hk=>?_⟩,(λh=>by cases h),(λh=>by cases h),(λh=>by cases h),λh=>by cases h⟩
 obtain⟨j,rfl,hj,e1,e2⟩:=BI n i r hk
 rw[e2];exact hc j hj e1
theorem Node.Fit.bm{L:Nat}{n:Node}(h:n.Fit L):n.aC<18446744073709551616:=h.1.2.2.1
theorem aD7{n:Node}{i r:Int}{k:Nat}(h:(k:Int)≠i):yW n i r k=aB n k:=by unfold yW;rw[if_neg h]
theorem OV{n:Node}{b:eC}{i r:Int}(hn:bT g n b)(hk:n.kind=3)(hr:r=0\/fH g r (eA b i)\/Ij g r (eA b i)):∀k:Nat,k<64->(yW n i r k).2=true->fH g (yW n i r k).1 (eA b k)\/Ij g (yW n i r k).1 (eA b k):=λk hk2 h=>by
 by_cases e:(k:Int)=i
 ·unfold yW at h ⊢
  rw[if_pos e]at h ⊢
  have:=dH h
  rcases hr with hr|hr
  ·omega
  ·rw[e];exact hr
 ·rw[aD7 e]at h ⊢
  exact(hn.c hk).2.2 k h
theorem qE{n:Node}{b:eC}{i r:Int}(hn:bT g n b)(hk:n.kind=3)(h:(aB n i).2=true)(hr:fH g r (eA b i)\/Ij g r (eA b i)):bT g (aM n i r).1 b/\(aM n i r).2=true/\(aM n i r).1.bG=true:=by
 obtain⟨L,hL⟩:=hn.fit
 rw[nS hL.bm h (hr.elim fH.one Ij.one)]
 exact⟨Qx (hn.c hk).1 (hn.c hk).2.1 (OV hn hk (.inr hr)),rfl,rfl⟩
theorem aDh{n:Node}{b:eC}(hn:bT g n b)(hk:n.kind=3):n.oT=true:=by unfold Node.oT;rw[hk,hn.valid];rfl
theorem zL{n:Node}{b:eC}{i r:Int}(hn:bT g n b)(hk:n.kind=3)(h:(aB n i).2=false)(h0:0<=i)(h1:i<64)(hr:fH g r (eA b i)\/Ij g r (eA b i)):bT g (aO n i r).1 b/\(aO n i r).2=true/\(aO n i r).1.bG=true:=by
 obtain⟨L,hL⟩:=hn.fit
 rw[zB hL.bm (aDh hn hk) h h0 (by omega) (hr.elim fH.one Ij.one)]
 exact⟨Qx (hn.c hk).1 (hn.c hk).2.1 (OV hn hk (.inr hr)),rfl,rfl⟩
theorem MM{n:Node}{b:eC}{i:Int}(hn:bT g n b)(hk:n.kind=3)(h:(aB n i).2=true):bT g (cG n i).1 b/\(cG n i).1.kind=3:=by
 obtain⟨L,hL⟩:=hn.fit
 rw[Cd hL.bm h]
 exact⟨Qx (hn.c hk).1 (hn.c hk).2.1 (OV hn hk (.inl rfl)),rfl⟩
theorem Jh{k:Int}{h v:Nat}{key:ByteArray}{b:eC}(hk:k=4\/k=5)(hh:h<18446744073709551616)(hs:key.size<=64)(ht:k=5->1<=b.1/\h%64^b.1=b.2):bT g {kind:=k,hash:=h,key:=key,value:=v} b:=by
 refine⟨?_,⟨0,kE 0 k h key v (by omega) hh hs⟩,by show 2<=k;omega,by show k<=8;omega,λe=>absurd (show k=2 from e) (by omega),λe=>absurd (show k=3 from e) (by omega),ht,λe=>absurd (show k=6 from e) (by omega),λe=>absurd (show k=7 from e) (by omega),λe=>absurd (show k=8 from e) (by omega)⟩
 unfold Node.valid
 rcases hk with rfl|rfl<;>simp[gW,Node.only,bO,pH,hs]
theorem bT.hash{n:Node}{b:eC}(h:bT g n b):n.hash<18446744073709551616:=by obtain⟨L,hL⟩:=h.fit;exact hL.1.2.2.2.1
theorem bT.key{n:Node}{b:eC}(h:bT g n b):n.key.size<=64:=by obtain⟨L,hL⟩:=h.fit;exact hL.2
theorem LW{b:eC}{i:Int}{h:Nat}(hb:b.2<64^b.1)(e:h%64^(eA b i).1=(eA b i).2):h%64^b.1=b.2:=by
 have e1:h%64^(b.1+1)=b.2+i.toNat*64^b.1:=e
 rw[<- Nat.mod_mod_of_dvd h (Nat.pow_dvd_pow 64 (Nat.le_succ b.1)),e1,Nat.add_mul_mod_self_right,Nat.mod_eq_of_lt hb]
theorem qY{c s:Node}{b:eC}{i l:Int}(hc:bT g c b)(hk:c.kind=3)(hs:s.kind=4->s.hash<18446744073709551616/\s.key.size<=64/\s.hash%64^(eA b i).1=(eA b i).2)(hl:l=(b.1:Int)):bT g (bI c l s) b/\(bI c l s).bG=true:=by
 unfold bI
 split
 ·rename_i h
  obtain⟨s1,s2,s3⟩:=hs h.2.2
  exact⟨Jh (.inr rfl) s1 s2 λ_=>⟨by omega,LW (hc.c hk).2.1 s3⟩,rfl⟩
 ·exact⟨hc,by unfold Node.bG;rw[hk];rfl⟩
theorem Kx{n:Node}{b:eC}(hn:bT g n b)(h:(aP n).2=true):bT g (aP n).1 b/\(aP n).1.kind=4/\(aP n).1.hash%64^b.1=b.2:=by
 unfold aP at h ⊢
 split at h
 ·rename_i hk;rw[if_pos hk];exact⟨Jh (.inl rfl) hn.hash hn.key (λh=>by cases h),rfl,(hn.t hk).2⟩
 ·cases h
theorem Yh{n:Node}(hm:n.bG=true):n.kind=3\/n.kind=5\/n.kind=6:=by unfold Node.bG at hm;simpa[or_assoc]using hm
theorem lP{n:Node}{i:Int}{b:eC}(hm:n.bG=true)(h:i=0\/rU g i b):oD g n i b:=by
 have hk:=Yh hm
 exact⟨λe=>absurd e (by omega),λ_=>h,λe=>absurd e (by omega)⟩
theorem vJ{n:Node}{i:Int}{b:eC}(hk:n.kind=4\/n.kind=7):oD g n i b:=
 ⟨λe=>absurd e (by omega),λe=>absurd (Yh e) (by omega),λe=>absurd e (by omega)⟩
theorem Gi(h:Nat)(l:Int):0<=slice h l/\slice h l<64:=dI h l
theorem dP{h l:Nat}(hl:l<=10):eA (l,h%64^l) (slice h l)=(l+1,h%64^(l+1)):=by
 unfold eA slice
 rw[if_neg (by omega)]
 simp only[Prod.mk.injEq,true_and]
 rw[Qa,Qa,Nat.pow_succ,Nat.mod_mul,Nat.mul_comm (64^l)]
end Go.Ct
end
section
namespace Go.Ct
variable{α β γ:Type}
def xT:Nat->I α->Prop
 |_,.ret _=>True
 |_,.load _ k=>∀v,xT 20 (k v)
 |_,.cH _ _ _ k=>∀v,xT 20 (k v)
 |j,.alloc n _ k=>1<=j/\(∀L,n.Fit L)/\∀v,xT (j-1) (k v)
 |_,.cell _ _=>False
 |_,.gen _=>False
 |j,.node _ k=>∀n,xT j (k n)
theorem xT.mono:∀{t:I α} {i j:Nat},xT i t->i<=j->xT j t
 |.ret _,_,_,_,_=>trivial
 |.load _ _,_,_,h,_=>h
 |.cH _ _ _ _,_,_,h,_=>h
 |.alloc n i k,a,b,h,hab=>⟨kR h.1 hab,h.2.1,λv=>xT.mono (h.2.2 v) (by omega)⟩
 |.node r k,_,_,h,hab=>λn=>xT.mono (h n) hab
theorem xT.head:∀{t:I α} {i j:Nat} {s:St},xT i t->Rm (j+i) s->Rm j (t.head s).1/\∀i',xT i' (t.head s).2
 |.ret _,i,j,s,_,hs=>⟨hs.less (by omega),λ_=>trivial⟩
 |.load _ _,i,j,s,h,hs=>⟨hs.less (by omega),λ_=>h⟩
 |.cH _ _ _ _,i,j,s,h,hs=>⟨hs.less (by omega),λ_=>h⟩
 |.alloc n x k,i,j,s,h,hs=>by
  obtain⟨i,rfl⟩:∃m,i=m+1:=⟨i-1,by have:=h.1;omega⟩
  exact xT.head (t:=k (s.alloc n x).2) (i:=i) (j:=j) (h.2.2 _) (Rm.alloc (j:=j+i) hs (h.2.1 _) x)
 |.node r k,i,j,s,h,hs=>xT.head (t:=k (s.node r)) (h _) hs
theorem xT.bif{c:Bool}{a b:I α}{j:Nat}(ha:xT j a)(hb:xT j b):xT j (bif c then a else b):=by cases c with|true=>exact ha|false=>exact hb
end Go.Ct
namespace Go.Ct
variable{α β γ:Type}
def iZ(Q:Nat->α->Prop):Nat->I α->Prop
 |n,.ret b=>Q n b
 |0,.load _ _=>True
 |n+1,.load _ k=>∀v,iZ Q n (k v)
 |0,.cH _ _ _ _=>True
 |n+1,.cH _ _ _ k=>∀v,iZ Q n (k v)
 |n,.alloc _ _ k=>∀v,iZ Q n (k v)
 |n,.cell _ k=>∀v,iZ Q n (k v)
 |n,.gen k=>∀v,iZ Q n (k v)
 |n,.node _ k=>∀q:Node,q.Fit 100000000001->iZ Q n (k q)
theorem OW{Q:Nat->α->Prop}{n:Nat}{r:Int}{k:Node->I α}(h:∀q:Node,q.Fit 100000000001->iZ Q n (k q)):iZ Q n (.node r k):=by cases n<;>exact h
theorem IP{Q:Nat->α->Prop}{n:Nat}{m:Node}{i:Int}{k:Int->I α}(h:∀v,iZ Q n (k v)):iZ Q n (.alloc m i k):=by cases n<;>exact h
theorem WQ{Q:Nat->α->Prop}{n:Nat}{b:α}(h:Q n b):iZ Q n (.ret b):=by cases n<;>exact h
theorem OZ{Q:Nat->α->Prop}{n:Nat}{c:Int}{k:Int->I α}(h:∀m,m<n->∀v,iZ Q m (k v)):iZ Q n (.load c k):=by
 cases n with
 |zero=>trivial
 |succ n=>exact h n (PO n)
theorem XW{Q:Nat->α->Prop}{n:Nat}{c o x:Int}{k:Bool->I α}(h:∀m,m<n->∀v,iZ Q m (k v)):iZ Q n (.cH c o x k):=by
 cases n with
 |zero=>trivial
 |succ n=>exact h n (PO n)
theorem iZ.less{Q:Nat->α->Prop}(hQ:∀m n b,m<=n->Q n b->Q m b):∀{t:I α} {m n:Nat},m<=n->iZ Q n t->iZ Q m t
 |.ret b,m,n,hm,h=>WQ (hQ m n b hm (by cases n<;>exact h))
 |.load c k,m,n,hm,h=>OZ λj hj v=>by
  obtain⟨n,rfl⟩:∃i,n=i+1:=⟨n-1,by omega⟩
  exact iZ.less hQ (by omega) (h v)
 |.cH c o x k,m,n,hm,h=>XW λj hj v=>by
  obtain⟨n,rfl⟩:∃i,n=i+1:=⟨n-1,by omega⟩
  exact iZ.less hQ (by omega) (h v)
 |.alloc x i k,m,n,hm,h=>IP λv=>iZ.less hQ hm ((by cases n<;>exact h:∀v,iZ Q n (k v)) v)
 |.cell i k,m,n,hm,h=>by
  have h':∀v,iZ Q n (k v):=by cases n<;>exact h
  have h2:∀v,iZ Q m (k v):=λv=>iZ.less hQ hm (h' v)
  cases m<;>exact h2
 |.gen k,m,n,hm,h=>by
  have h':∀v,iZ Q n (k v):=by cases n<;>exact h
  have h2:∀v,iZ Q m (k v):=λv=>iZ.less hQ hm (h' v)
  cases m<;>exact h2
 |.node r k,m,n,hm,h=>OW λq hq=>iZ.less hQ hm ((by cases n<;>exact h:∀q:Node,q.Fit 100000000001->iZ Q n (k q)) q hq)
end Go.Ct
end
section
namespace Go.Ct
variable{α β γ:Type}
structure Place where
 node:Node:={}
 next:Int:=0
structure KS where
 started:Bool:=false
 stack:List Place:=[]
 wait:List bA:=[]
def Place.pos(p:Place):Nat:=Bm.aN p.node.aC p.next
def Place.idx(p:Place):Int:=Bm.at_ p.node.aC (p.pos:Int)
def Place.out(p:Place):Bool:=decide (p.idx<0)||decide ((p.node.aA.length:Int)<=(p.pos:Int))
def Place.branch(p:Place):Int:=p.node.aA.getD p.pos 0
def Place.step(p:Place):Place:=⟨p.node,p.idx+1⟩
def aCu(p:bA):Result:={found:=true,key:=p.key,value:=p.value}
end Go.Ct
namespace Go.Ct
variable{α β γ:Type}
structure V2(n:Nat)(it:KS):Prop where
 fit:∀p∈it.stack,p.node.Fit 100000000001
 deep:it.stack.length+n<=1000000000
 wait:it.wait.length<=200000000003
theorem V2.less{m n:Nat}{it:KS}(h:V2 n it)(hm:m<=n):V2 m it:=⟨h.fit,by have:=h.deep;omega,h.wait⟩
structure o7(n:Nat)(it:KS):Prop where
 ok:V2 n it
 new:it.started=false->it.wait=[]
theorem o7.less{m n:Nat}{it:KS}(h:o7 n it)(hm:m<=n):o7 m it:=⟨h.ok.less hm,h.new⟩
end Go.Ct
end
section
namespace Go.Bm
def aIw(xs:List Nat):Nat->Nat
 |0=>0
 |k+1=>aIw xs k|||2^xs.getD k 0
attribute [irreducible] aIw
end Go.Bm
end
section
namespace Go.Ct
def Place.mu(p:Place):Nat:=64-p.pos
def muL(l:List Place):Nat:=(l.map Place.mu).sum
def KS.mu(w:KS):Nat:=w.wait.length+muL w.stack
end Go.Ct
end
section
namespace Go.Ct
variable{β:Type}
def Yl(key:ByteArray)(x:Node):I Result:=bif bO x.key key then .ret (dN true x.value)else .ret {}
def Xe(t:aX)(key:ByteArray)(h:Nat):Nat->Int->Int->I Result
 |0,_,_=>.ret {}
 |n+1,i,level=>kT t i λr=>.node r λm=>
  bif m.kind==3 then bif !(aB m (slice h level)).2 then .ret {}else .node (aB m (slice h level)).1 λx=>bif x.kind==4 then Yl key x else Xe t key h n (aB m (slice h level)).1 (level+1)
  else bif m.kind==5 then Yl key m else bif m.kind==6 then bif (bN m.aH key).2 then .ret (dN true (bN m.aH key).1)else .ret {}else .ret {}
def RP(c:Call)(n:Nat):I Result:=bif !bR c.key then .ret {err:=1}else uD c.aF λr=>Xe c.aF c.key (aE c.key c.aI) n r 0
def Ci(c:Call)(again:I Result)(i m:Int)(n:Node×Bool)(found:Bool)(v:Nat):I Result:=
 bif !n.2 then .ret {}else .alloc n.1 m λr=>swapT c.aF i m r λok=>bif !ok then again else .ret (dL found v)
def lF(c:Call)(again:I Result)(i m:Int)(n:Node):I Result:=
 bif !cB c (bN n.aH c.key).2 (bN n.aH c.key).1 then .ret (dN (bN n.aH c.key).2 (bN n.aH c.key).1)
 else Ci c again i m (grown n c.key c.value) (bN n.aH c.key).2 (bN n.aH c.key).1
def mL(c:Call)(again:I Result)(h:Nat)(i m:Int)(n:Node)(ix:Int):I Result:=
 bif !cB c false 0 then .ret (dN false 0)else .alloc {kind:=4,hash:=h,key:=c.key,value:=c.value} 0 λx=>Ci c again i m (aO n ix x) false 0
def pK(x:Node)(at_:Int)(h:Nat)(key:ByteArray)(v:Nat)(gen:Int):Nat->(Int->I β)->I β
 |0,k=>.alloc {kind:=6,hash:=h,aH:=gE ⟨x.key,x.value⟩ ⟨key,v⟩} 0 k
 |n+1,k=>bif slice h (11-((n+1:Nat):Int)) != slice x.hash (11-((n+1:Nat):Int))then
   .alloc {kind:=4,hash:=h,key:=key,value:=v} 0 λs=>.alloc (aO (aO {kind:=3} (slice x.hash (11-((n+1:Nat):Int))) at_).1 (slice h (11-((n+1:Nat):Int))) s).1 0 k
  else pK x at_ h key v gen n λm=>.alloc {kind:=2,gen:=gen} m λi=>.alloc (aO {kind:=3} (slice h (11-((n+1:Nat):Int))) i).1 0 k
def uW(at_:Int)(h:Nat)(key:ByteArray)(v:Nat)(level gen:Int)(k:Int->Int->I β):I β:=
 bif decide (level<0)||(decide (level>11)||decide (gen<1))then k 0 2 else .node at_ λx=>
  bif x.kind != 4||(decide (64<key.size)||bO key x.key)then k 0 1 else bif decide ((aJ x.hash h:Int)<level)then k 0 1 else pK x at_ h key v gen (11-level).toNat λr=>k r 0
def gJ(c:Call)(again:I Result)(h:Nat)(i m:Int)(n:Node)(ix b:Int)(x:Node)(level gen:Int):I Result:=
 bif bO x.key c.key then
  bif !cB c true x.value then .ret (dN true x.value)else .alloc {kind:=4,hash:=h,key:=c.key,value:=c.value} 0 λy=>Ci c again i m (aM n ix y) true x.value
 else bif !cB c false 0 then .ret (dN false 0)else uW b h c.key c.value (level+1) gen λs e=>bif e != 0 then .ret {err:=e}else
  .alloc {kind:=2,gen:=gen} s λj=>Ci c again i m (aM n ix j) false 0
def eE(c:Call)(h:Nat)(gen:Int)(again:I Result):Nat->Int->Int->Int->I Result
 |0,_,_,_=>again
 |k+1,parent,i,level=>kT c.aF i λm=>.node m λn=>
  bif n.kind==5 then mP c.aF parent i h (level-1) λ_=>again
  else bif n.kind==6 then lF c again i m n
  else bif n.kind==3 then
   bif !(aB n (slice h level)).2 then mL c again h i m n (slice h level)else .node (aB n (slice h level)).1 λx=>
    bif x.kind==4 then gJ c again h i m n (slice h level) (aB n (slice h level)).1 x level gen
    else bif x.gen != gen then oE c.aF i m (slice h level) λb=>bif b==0 then again else eE c h gen again k i b (level+1)
    else eE c h gen again k i (aB n (slice h level)).1 (level+1)
  else .ret {}
def aY(c:Call)(k:Nat):Nat->I Result
 |0=>.ret {}
 |n+1=>uD c.aF λr=>.node r λa=>eE c (aE c.key c.aI) a.gen (aY c k n) k 0 r 0
def Ul(c:Call)(n:Nat):I Result:=bif !bR c.key||(decide (c.bF<0)||decide (c.bF>3))then .ret {err:=1}else aY c n n
def y'(c:Call)(path:List Int)(h v:Nat):Nat->I Result
 |0=>.ret (dL true v)
 |l+1=>kT c.aF (path.getD (l+1) 0) λm=>.node m λn=>bif n.kind != 5 then .ret (dL true v)else
  mP c.aF (path.getD l 0) (path.getD (l+1) 0) h l λ_=>y' c path h v l
def tA(c:Call)(again:I Result)(path:List Int)(h:Nat)(i m:Int)(n:Node)(v:Nat):I Result:=
 .alloc n m λr=>swapT c.aF i m r λok=>bif !ok then again else y' c path h v (path.length-1)
def Jc(c:Call)(v:Nat):Bool:=!c.only||v==c.expect
def vG(c:Call)(again:I Result)(path:List Int)(h:Nat)(i m:Int)(n:Node):I Result:=
 bif !(bN n.aH c.key).2 then .ret {}else bif !Jc c (bN n.aH c.key).1 then .ret (dN true (bN n.aH c.key).1)
 else bif !(jH n c.key).2 then .ret {}else tA c again path h i m (jH n c.key).1 (bN n.aH c.key).1
def Es(c:Call)(again:I Result)(path:List Int)(h:Nat)(i m:Int)(n:Node)(level:Int)(x:Node):I Result:=
 bif !bO x.key c.key then .ret {}else bif !Jc c x.value then .ret (dN true x.value)
 else bif (iP (cG n (slice h level)).1).2 then .node (iP (cG n (slice h level)).1).1 λq=>tA c again path h i m (bI (cG n (slice h level)).1 level q) x.value
 else tA c again path h i m (bI (cG n (slice h level)).1 level {}) x.value
def fS(c:Call)(h:Nat)(gen:Int)(again:I Result):Nat->List Int->Int->Nat->I Result
 |0,_,_,_=>again
 |k+1,path,i,level=>kT c.aF i λm=>.node m λn=>
  bif n.kind==5 then mP c.aF (bif decide (0<level)then path.getD (level-1) 0 else 0) i h ((level:Int)-1) λ_=>again
  else bif n.kind==6 then vG c again path h i m n
  else bif n.kind==3 then
   bif !(aB n (slice h level)).2 then .ret {}else .node (aB n (slice h level)).1 λx=>
    bif x.kind==4 then Es c again path h i m n level x
    else bif x.gen != gen then oE c.aF i m (slice h level) λb=>bif b==0 then again else fS c h gen again k (path++[b]) b (level+1)
    else fS c h gen again k (path++[(aB n (slice h level)).1]) (aB n (slice h level)).1 (level+1)
  else .ret {}
def eU(c:Call)(k:Nat):Nat->I Result
 |0=>.ret {}
 |n+1=>uD c.aF λr=>.node r λa=>fS c (aE c.key c.aI) a.gen (eU c k n) k [r] r 0
def AU(c:Call)(n:Nat):I Result:=bif !bR c.key then .ret {err:=1}else eU c n n
def jC(c:Call)(n:Nat):I Result:=
 if c.kind=7 then RP c n else if c.kind=8 then Ul c n else if c.kind=9 then AU c n
 else if c.kind=10 then sZ c.aF n else if c.kind=11 then Ag c.aF n else Zi c.aF n
end Go.Ct
end
