/- Parts of a proof: Fe, Ff, Fg, Fh. -/
import Derived.Test.YtnhdmcipglnkfaaGreatW26
set_option linter.unusedVariables false
set_option linter.unusedSimpArgs false
set_option maxRecDepth 100000
set_option maxHeartbeats 4000000
section
namespace Go.Ct
variable{α:Type}{g:Ga}
def Ls[Qc α](t:I α)(g:Ga):Prop:=∃u,Sm t u g
section
variable[Qc α]
theorem Ls.node{r:Int}{k:Node->I α}(h:Ls (.node r k) g):Ls (k (g.node r)) g:=by
 obtain⟨u,h⟩:=h
 generalize hx:I.node r k=t at h
 induction h with
 |nl hr h ih=>injection hx with e1 e2;subst e1 e2;exact⟨_,h⟩
 |nr hr h ih=>exact ih hx
 |_=>cases hx
theorem Ls.load{c:Int}{k:Int->I α}{τ:dD}(h:Ls (.load c k) g)(hc:g.dZ c=some τ){g':Ga}(hg:Ge g g')(hw:GW g'){v:Int}(hv:I2 g' c v τ):Ls (k v) g':=by
 obtain⟨u,h⟩:=h
 generalize hx:I.load c k=t at h
 induction h with
 |nr hr h ih=>exact ih hc hg hx
 |load σ h1 h2 ih=>
  injection hx with e1 e2;subst e1 e2
  obtain rfl:=Lx (hc.symm.trans h1)
  exact⟨_,h2 g' hg hw v hv⟩
 |_=>cases hx
theorem Ls.cH{c o n:Int}{k:Bool->I α}{τ:dD}(h:Ls (.cH c o n k) g)(hc:g.dZ c=some τ):ZE g c o n τ/\∀g',Ge g g'->GW g'->((∃b,τ=.prev b)->o=g.first c->g'.dec c)->∀b,Ls (k b) g':=by
 obtain⟨u,h⟩:=h
 generalize hx:I.cH c o n k=t at h
 induction h with
 |nr hr h ih=>exact ih hc hx
 |cH σ h1 hm h2 ih=>
  injection hx with e1 e2 e3 e4;subst e1 e2 e3 e4
  obtain rfl:=Lx (hc.symm.trans h1)
  exact⟨hm,λg' a b d x=>⟨_,h2 g' a b d x⟩⟩
 |_=>cases hx
theorem Ls.alloc{n:Node}{i:Int}{k:Int->I α}(h:Ls (.alloc n i k) g)(hw:GW g):∃b,bT g n b/\oD g n i b/\Ls (k (g.nodes.length+3)) (g.alloc n i b):=by
 obtain⟨u,h⟩:=h
 generalize hx:I.alloc n i k=t at h
 induction h with
 |nr hr h ih=>exact ih hw hx
 |alloc b h1 h2 h3 ih=>
  injection hx with e1 e2 e3;subst e1 e2 e3
  exact⟨b,h1,h2,_,h3 (Ga.gV hw _ _ b) (pB hw h1 h2)⟩
 |_=>cases hx
theorem Ls.settle{t:aX}{i m:Int}{b:eC}{k:Int->I α}(h:Ls (nZ t i m k) g)(hw:GW g)(hz:rU g m b):Ls (k m) g:=
 (Ls.node h).load (hw.oH hz.m) (Ge.refl hw) hw (v:=0) (.inl ⟨rfl,hz.2⟩)
theorem Ls.read{t:aX}{i:Int}{b:eC}{k:Int->I α}(h:Ls (kT t i k) g)(hw:GW g)(hi:fH g i b){g':Ga}(hg:Ge g g')(lD:GW g'){m:Int}(hz:rU g' m b):Ls (k m) g':=
 ((Ls.node h).load (hw.fQ hi) hg lD (v:=m) hz.m).settle lD hz
theorem Ls.swap{t:aX}{i o n:Int}{b:eC}{k:Bool->I α}(h:Ls (swapT t i o n k) g)(hw:GW g)(hi:fH g i b):mZ g n b/\∀g',Ge g g'->GW g'->rU g' n b->Ls (k true) g':=by
 obtain⟨h1,h2⟩:=(Ls.node h).cH (hw.fQ hi)
 refine⟨h1,λg' hg lD hz=>?_⟩
 have h3:Ls (nZ t i n λm=>k (m==n)) g':=h2 g' hg lD (λe=>by obtain⟨b,e⟩:=e;cases e) true
 have h4:=h3.settle lD hz
 simp only[beq_self_eq_true]at h4
 exact h4
end
def gP(g:Ga)(s s':St):Prop:=∀c τ,g.dZ c=some τ->rd s' c=rd s c
theorem gP.refl(s:St):gP g s s:=λ_ _ _=>rfl
theorem gP.trans{g':Ga}{s s1 s2:St}(hg:Ge g g')(h:gP g s s1)(k:gP g' s1 s2):gP g s s2:=λc τ hc=>(k c τ (hg.dZ hc)).trans (h c τ hc)
theorem gP.load(s:St)(c:Int):gP g s (s.load c).1:=λ_ _ _=>rfl
theorem gP.alloc{s:St}(hT:Tw g s)(n:Node)(i:Int):gP g s (s.alloc n i).1:=λc τ hc=>lK hT hc
theorem gP.ml{l:Nat}{s s':St}(h:gP g s s'):Ml l g s s':=λc b hc _=>h c _ hc
theorem Ml.refl{l:Nat}(s:St):Ml l g s s:=λ_ _ _ _=>rfl
theorem Ml.less{l k:Nat}{s s':St}(h:Ml k g s s')(hl:l<=k):Ml l g s s':=λc b hc hb=>h c b hc (by omega)
def Mo(x:Int)(g:Ga)(s s':St):Prop:=∀c b,g.dZ c=some (.main b)->c≠x->rd s' c=rd s c
theorem Mo.ml{x:Int}{b:eC}{s s':St}(h:Mo x g s s')(hx:g.dZ x=some (.main b)):Ml b.1 g s s':=λc b' hc hl=>h c b' hc λe=>by
 subst e
 have e1:=Lx (hx.symm.trans hc)
 injection e1 with e1
 rw[e1]at hl;omega
variable{Q:α->St->Prop}
structure At(g:Ga)(s:St)(t:aX)(b:eC)(r i m:Int):Prop where
 rt:fH g r (0,0)
 ii:fH g i b
 z:rU g m b
 root:rd s t.root=r
 main:rd s (g.node i).main=m
 gen:(g.node r).gen=(g.node i).gen
theorem At.pP{g':Ga}{s s':St}{t:aX}{b:eC}{r i m:Int}(h:At g s t b r i m)(hw:GW g)(ht:Tk g t)(hg:Ge g g')(hs:gP g s s'):At g' s' t b r i m:=
 ⟨h.rt.ge hg,h.ii.ge hg,h.z.ge hg,by rw[hs _ _ ht];exact h.root,by rw[hg.node h.ii.bX,hs _ _ (hw.fQ h.ii)];exact h.main,by rw[hg.node h.rt.bX,hg.node h.ii.bX];exact h.gen⟩
theorem MR{t:aX}{s:St}{b:eC}{i m:Int}{n j:Nat}{k:Int->I α}(hT:Tw g s)(hi:fH g i b)(hz:rU g m b)(hm:rd s (g.node i).main=m)(H:∀g' s',Ge g g'->Tw g' s'->gP g s s'->s'.aG=s.aG->(k m).Al Q n j s'):(kT t i k).Al Q (n+2) j s:=by
 obtain⟨g1,h1,cY,_⟩:=hT.val (hT.gw.fQ hi)
 obtain⟨g2,h2,gO,_⟩:=cY.val (h1.dZ (hT.gw.oH hz.m))
 refine nT (hT.gC.node i) (Nm (n:=n+1) ?_)
 rw[hm]
 refine nT (cY.gC.node m) ?_
 rw[h1.node hz.bX]
 refine Nm (n:=n) ?_
 rw[iD,LU hT hz]
 exact H g2 _ (h1.trans h2) gO (λ_ _ _=>rfl) rfl
theorem Yn{t:aX}{s:St}{b:eC}{i m:Int}{n j:Nat}{k:Int->I α}(hT:Tw g s)(hi:fH g i b)(hz:rU g m b)(hm:rd s (g.node i).main=m)(H:∀g' s',Ge g g'->Tw g' s'->gP g s s'->(k m).Al Q n j s'):(kT t i k).Al Q (n+2) j s:=
 MR hT hi hz hm λg' s' a b d _=>H g' s' a b d
theorem aEz{t:aX}{s:St}{b:eC}{r i m n:Int}{N j:Nat}{k:Bool->I α}(hT:Tw g s)(ht:g.dZ t.root=some .root)(eR:t.readOnly=false)(hA:At g s t b r i m)(hn:mZ g n b)(hp:rd s (g.node n).prev=m)
  (H:∀g' s',Ge g g'->Tw g' s'->rU g' n b->rd s' (g'.node i).main=n->rd s' t.root=r->Mo (g.node i).main g s s'->s'.aG=s.aG->(k true).Al Q N j s'):(swapT t i m n k).Al Q (N+5) j s:=by
 have hc:=hT.gw.fQ hA.ii
 have hpc:=hT.gw.oH hn
 have hm0:=hA.z.m.one
 obtain⟨g1,h1,cY⟩:=hT.cH (o:=m) (n:=n) hc hn
 have c1:=oX (v:=n) (hT.has hc) hA.main
 have d1:∀c τ,g.dZ c=some τ->(∀b',τ≠.main b')->rd (s.cH (g.node i).main m n).1 c=rd s c:=λc τ Yz h=>nL (.inl (Tw.ne Yz hc (h b)))
 obtain⟨g2,h2,gO,_⟩:=cY.val (h1.dZ hpc)
 obtain⟨g3,h3,tB,_⟩:=gO.val (h2.dZ (h1.dZ ht))
 have a2:=h1.trans h2
 have a3:=a2.trans h3
 have S1:=a3.dZ hpc
 obtain⟨g4,h4,TW⟩:=tB.cH (o:=m) (n:=0) S1 ⟨by omega,.inl rfl⟩
 have c4:=oX (s:=(((s.cH (g.node i).main m n).1.load (g.node n).prev).1.load t.root).1) (o:=m) (v:=0) (tB.has S1) (by rw[iD,iD,d1 _ _ hpc (by intro b' h;cases h)];exact hp)
 obtain⟨g5,h5,hT5,hv5⟩:=TW.val (h4.dZ S1)
 have a5:=(a3.trans h4).trans h5
 have aCh:rd (s.cH (g.node i).main m n).1 t.root=r:=by rw[d1 _ _ ht (by intro b' h;cases h)];exact hA.root
 refine nT (hT.gC.node i) (WE (n:=N+4) ?_)
 rw[c1.2]
 refine nT (cY.gC.node n) ?_
 rw[h1.node hn.bX]
 refine Nm (n:=N+3) ?_
 rw[d1 _ _ hpc (by intro b' h;cases h),hp]
 rw[show (m==0)=false by simp;omega]
 refine nT (gO.gC.node m) ?_
 rw[a2.node hA.z.bX,hA.z.m.1,eR]
 refine Nm (n:=N+2) ?_
 rw[iD,aCh]
 refine nT (tB.gC.node r) ?_
 rw[a3.node hA.rt.bX,hA.rt.1]
 refine nT (tB.gC.node r) (nT (tB.gC.node i) ?_)
 rw[a3.node hA.rt.bX,a3.node hA.ii.bX,hA.gen,show ((g.node i).gen==(g.node i).gen)=true by simp]
 refine WE (n:=N+1) (Nm (n:=N) ?_)
 rw[c4.1]
 have hz5:rU g5 n b:=⟨hn.ge a5,by rw[a5.node hn.bX];exact val_zero hv5 c4.1⟩
 have:=H g5 _ a5 hT5 hz5 (by rw[a5.node hA.ii.bX,iD,nL (.inl (Tw.ne (a3.dZ hc) S1 (by intro h;cases h)))];exact c1.1) (by rw[iD,nL (.inl (Tw.ne (a3.dZ ht) S1 (by intro h;cases h)))];exact aCh)
  (λc b' Yz hl=>by rw[iD,nL (.inl (Tw.ne (a3.dZ Yz) S1 (by intro h;cases h))),iD,iD,nL (.inl hl)]) rfl
 show (k (n==n)).Al Q N j _
 rw[show (n==n)=true by simp]
 exact this
theorem aEy{s:St}(hT:Tw g s){n:Node}{i:Int}{b:eC}(hm:n.bG=true):rd (s.alloc n i).1 ((g.alloc n i b).node (g.nodes.length+3)).prev=i:=by
 have h2:n.kind≠2:=λh2=>by unfold Node.bG at hm;rw[h2]at hm;simp at hm
 have e:((g.alloc n i b).node (g.nodes.length+3)).prev=(g.ty.length:Int)+1:=by rw[eG];unfold Node.stored;rw[if_neg h2,if_pos hm]
 have ec:=mV s n i b
 have et:n.gQ b=some (.prev b):=by unfold Node.gQ;rw[if_neg h2,if_pos hm]
 have el:=hT.gC.len
 rw[e]
 have hh:(s.alloc n i).1.bD ((g.ty.length:Int)+1)=true:=by unfold St.bD;rw[ec,et];simp;omega
 unfold rd St.load
 dsimp only
 rw[if_pos hh,ec,et,cK,tN (by omega),show ((g.ty.length:Int)+1).toNat -1-s.cells.length=0 by omega];rfl
theorem l6{t:aX}{s:St}{b b2:eC}{r i m:Int}{n:Node}{N j:Nat}{k:Bool->I α}(hT:Tw g s)(hk:Tk g t)(eR:t.readOnly=false)(hA:At g s t b r i m)(hN:bT g n b2)(hJ:oD g n m b2)(hM:mZ (g.alloc n m b2) (g.nodes.length+3) b)(hf:cL s->n.Fit (s.aG.length+1))
  (H:∀g' s',Ge (g.alloc n m b2) g'->Tw g' s'->rU g' (g.nodes.length+3) b->rd s' (g'.node i).main=g.nodes.length+3->rd s' t.root=r->Mo (g.node i).main g s s'->s'.aG=s.aG++[n.stored (s.cells.length+1)]->(k true).Al Q N j s'):(I.alloc n m λx=>swapT t i m x k).Al Q (N+5) (j+1) s:=by
 obtain⟨cY,e1,h1,_,_⟩:=gS hT hN hJ
 have hm:n.bG=true:=by have:=hM.1;rw[eG,oK]at this;exact this
 refine Hx (j:=j) hf ?_
 rw[e1]
 have hS:=gP.alloc hT n m
 refine aEz cY ((hk.ge h1).root eR) eR (hA.pP hT.gw hk h1 hS) hM (aEy hT hm) λg' s' a b d e f l q=>H g' s' a b d e f (λc b' hc hx=>(l c b' (h1.dZ hc) (by rw[h1.node hA.ii.bX];exact hx)).trans (hS c _ hc)) (by rw[q];exact iE s n m)
theorem T9{t:aX}{s:St}{b b2:eC}{r i m:Int}{n:Node}{N j:Nat}{k:Bool->I α}(hT:Tw g s)(hk:Tk g t)(eR:t.readOnly=false)(hA:At g s t b r i m)(hN:bT g n b2)(hJ:oD g n m b2)(hM:mZ (g.alloc n m b2) (g.nodes.length+3) b)(hf:cL s->n.Fit (s.aG.length+1))
  (H:∀g' s',Ge (g.alloc n m b2) g'->Tw g' s'->rU g' (g.nodes.length+3) b->rd s' (g'.node i).main=g.nodes.length+3->rd s' t.root=r->Ml b.1 g s s'->(k true).Al Q N j s'):(I.alloc n m λx=>swapT t i m x k).Al Q (N+5) (j+1) s:=
 l6 hT hk eR hA hN hJ hM hf λg' s' a b d e f l _=>H g' s' a b d e f (l.ml (hT.gw.fQ hA.ii))
end Go.Ct
end
section
namespace Go.Ct
variable{g:Ga}{c:Call}
def pS(_:Result)(_:St):Prop:=True
theorem bT.eZ{n:Node}{b:eC}(h:bT g n b){M:Nat}(hp:n.aH.length<=M+2):n.Fit M:=by
 obtain⟨L,hL⟩:=h.fit
 exact⟨⟨hL.1.1,hp,hL.1.2.2⟩,hL.2⟩
theorem F1{n:Node}{i r:Int}(h0:0<=i)(h1:i<64)(hr:1<=r):aB (Ew n i r) i=(r,true):=by
 obtain⟨a1,a2,a3,a4⟩:=tC n i r 64 (aW _)
 obtain⟨j,rfl⟩:=vL h0
 have hj:j<64:=by omega
 have hb:yW n j r j=(r,true):=by unfold yW;rw[if_pos rfl,gM (by omega)]
 have ht:(bW n j r 64).1.testBit j=true:=by rw[a1,hb];simp[hj]
 rw[mS (Xa n j r) hj]
 show (if(bW n j r 64).1.testBit j=true then((bW n j r 64).2.getD (Bm.pop j (bW n j r 64).1) 0,true)else(0,false):Int×Bool)=_
 rw[if_pos ht,a3 j hj (by rw[hb]),hb]
theorem MJ{n:Node}{i r:Int}(hf:n.aC<18446744073709551616)(h:(aB n i).2=true)(hr:1<=r):aB (aM n i r).1 i=(r,true):=by
 rw[nS hf h hr]
 exact F1 (ES h).1 (ES h).2 hr
inductive Wy(g:Ga)(s:St)(t:aX)(h:Nat)(r:Int):Nat->Int->Int->Prop
 |root:fH g r (0,h%64^0)->rd s t.root=r->Wy g s t h r 0 0 r
 |step {l:Nat} {pa i m j:Int}:Wy g s t h r l pa i->rd s (g.node i).main=m->rU g m (l,h%64^l)->(aB (g.node m) (slice h l)).2=true->(aB (g.node m) (slice h l)).1=j->fH g j (l+1,h%64^(l+1))->(g.node j).gen=(g.node r).gen->Wy g s t h r (l+1) i j
theorem U8(h:Nat):((0,h%64^0):eC)=(0,0):=by simp[Nat.mod_one]
structure Wf(g:Ga)(s:St)(t:aX)(h:Nat)(r:Int)(l:Nat)(pa i:Int):Prop where
 ii:fH g i (l,h%64^l)
 gen:(g.node i).gen=(g.node r).gen
 rt:fH g r (0,0)
 root:rd s t.root=r
 pp:l=0\/fH g pa (l-1,h%64^(l-1))
theorem Wy.wf{s:St}{t:aX}{h:Nat}{r pa i:Int}{l:Nat}(w:Wy g s t h r l pa i):Wf g s t h r l pa i:=by
 induction w with
 |root hi hr=>exact⟨hi,rfl,by rw[<- U8 h];exact hi,hr,.inl rfl⟩
 |step w hm hz hl hj hI hg ih=>exact⟨hI,hg,ih.rt,ih.root,.inr ih.ii⟩
theorem Wy.pP{g':Ga}{s s':St}{t:aX}{h:Nat}{r pa i:Int}{l:Nat}(w:Wy g s t h r l pa i)(hw:GW g)(hg:Ge g g')(hr:rd s' t.root=rd s t.root)(hl:Ml l g s s'):Wy g' s' t h r l pa i:=by
 induction w with
 |root hi N1=>exact .root (hi.ge hg) (by rw[hr];exact N1)
 |@step l pa i m j w hm hz hb hj hI wF ih=>
  have wf:=w.wf
  refine .step (m:=m) (ih (hl.less (Nat.le_succ l))) ?_ (hz.ge hg) (by rw[hg.node hz.bX];exact hb) (by rw[hg.node hz.bX];exact hj) (hI.ge hg) (by rw[hg.node hI.bX,hg.node wf.rt.bX];exact wF)
  rw[hg.node wf.ii.bX,hl _ _ (hw.fQ wf.ii) (PO l)];exact hm
theorem Wf.at_{s:St}{t:aX}{h:Nat}{r pa i m:Int}{l:Nat}(w:Wf g s t h r l pa i)(hz:rU g m (l,h%64^l))(hm:rd s (g.node i).main=m):At g s t (l,h%64^l) r i m:=⟨w.rt,w.ii,hz,w.root,hm,w.gen.symm⟩
def Stop(g:Ga)(h l:Nat)(m:Int):Prop:=(aB (g.node m) (slice h l)).2=true->(g.node (aB (g.node m) (slice h l)).1).kind=4
theorem Stop.ge{g':Ga}{h l:Nat}{m:Int}{b:eC}(hs:Stop g h l m)(hw:GW g)(hm:mZ g m b)(hg:Ge g g'):Stop g' h l m:=by
 intro hl
 rw[hg.node hm.bX]at hl ⊢
 have h1:=hs hl
 rw[hg.node (jU (by rw[h1];decide))];exact h1
def Vb(c:Call)(h:Nat)(gen:Int)(again:I Result)(k:Nat)(parent i level m:Int):I Result:=.node m λn=>
  bif n.kind==5 then mP c.aF parent i h (level-1) λ_=>again
  else bif n.kind==6 then lF c again i m n
  else bif n.kind==3 then
   bif !(aB n (slice h level)).2 then mL c again h i m n (slice h level)else .node (aB n (slice h level)).1 λx=>
    bif x.kind==4 then gJ c again h i m n (slice h level) (aB n (slice h level)).1 x level gen
    else bif x.gen != gen then oE c.aF i m (slice h level) λb=>bif b==0 then again else eE c h gen again k i b (level+1)
    else eE c h gen again k i (aB n (slice h level)).1 (level+1)
  else .ret {}
theorem pW(c:Call)(h:Nat)(gen:Int)(again:I Result)(k:Nat)(parent i level:Int):eE c h gen again (k+1) parent i level=kT c.aF i (Vb c h gen again k parent i level):=rfl
section
variable(eR:c.aF.readOnly=false)(kP:c.key.size<=64)
include eR kP
theorem IM{s:St}{r pa i:Int}{l:Nat}(hw:GW g)(ht:Tk g c.aF)(w:Wf g s c.aF (aE c.key c.aI) r l pa i)(k n kk:Nat):Ls (eE c (aE c.key c.aI) (g.node r).gen (aY c kk n) k pa i l) g:=by
 obtain⟨a1,a2⟩:=NJ hw w.rt
 exact⟨_,Sl (K:=λ|some r=>.ret r|none=>Jf c kk n) eR (eS _ _) kP a1 k l pa i g hw ht w.ii w.pp a2 ⟨λg' h' lD r hr=>.ret _ _ (q0 hr),λg' h' lD=>Pm eR kP n g' lD (ht.ge h')⟩⟩
end
theorem BH{again:I Result}{s:St}{b:eC}{r i m:Int}{n:Node×Bool}{f:Bool}{v:Nat}(hT:Tw g s)(hk:Tk g c.aF)(eR:c.aF.readOnly=false)(hA:At g s c.aF b r i m)(hL:Ls (Ci c again i m n f v) g)(hf:∀b,bT g n.1 b->cL s->n.1.Fit (s.aG.length+1)):(Ci c again i m n f v).Al pS 5 1 s:=by
 obtain⟨n1,n2⟩:=n
 cases n2 with
 |false=>exact trivial
 |true=>
  have hL:Ls (I.alloc n1 m λx=>swapT c.aF i m x λok=>bif !ok then again else .ret (dL f v)) g:=hL
  obtain⟨b2,hN,hJ,sR⟩:=hL.alloc hT.gw
  obtain⟨hM,_⟩:=sR.swap (pB hT.gw hN hJ) (hA.ii.ge (Ga.gV hT.gw n1 m b2))
  exact T9 (N:=0) (j:=0) (k:=λok=>bif !ok then again else .ret (dL f v)) hT hk eR hA hN hJ hM (hf b2 hN) λg' s' _ _ _ _ _ _=>trivial
theorem oN(n:Node)(i r:Int):(aM n i r).1.aH=[]:=by
 unfold aM;repeat' split
 all_goals rfl
theorem sY(n:Node)(i r:Int):(aO n i r).1.aH=[]:=by
 unfold aO;repeat' split
 all_goals rfl
theorem aB0{x:Node}{at_:Int}{h v:Nat}{key:ByteArray}{gen:Int}{N j:Nat}{s0:St}:∀(n:Nat) (k:Int->I Result) (g:Ga) (s:St),Tw g s->Ls (pK x at_ h key v gen n k) g->(∀g' s' r,Ge g g'->Tw g' s'->gP g s s'->Ls (k r) g'->(k r).Al pS N j s')->(pK x at_ h key v gen n k).Al pS N (j+2+2*n) s
 |0,k,g,s,hT,hL,H=>by
  obtain⟨b,hN,hJ,sR⟩:=Ls.alloc hL hT.gw
  obtain⟨cY,e1,h1,_,_⟩:=gS hT hN hJ
  refine Hx (j:=j+1) (λ_=>hN.eZ (by show (gE _ _).length<=_;unfold gE;split<;>(simp only[Hd,List.length_nil];omega))) ?_
  rw[e1]
  exact Al.mono (H _ _ _ h1 cY (gP.alloc hT _ _) sR) (aW _) (by omega)
 |n+1,k,g,s,hT,hL,H=>by
  rw[pK]at hL ⊢
  cases hs:slice h (11-((n+1:Nat):Int)) != slice x.hash (11-((n+1:Nat):Int))with
  |true=>
   rw[hs]at hL
   obtain⟨b,hN,hJ,sR⟩:=Ls.alloc hL hT.gw
   obtain⟨cY,e1,h1,_,_⟩:=gS hT hN hJ
   obtain⟨b2,YJ,hJ2,Yy⟩:=Ls.alloc sR cY.gw
   obtain⟨gO,e2,h2,_,_⟩:=gS cY YJ hJ2
   rw[show j+2+2*(n+1)=(j+2+2*n+1)+1 by omega]
   refine Hx (j:=j+2+2*n+1) (λ_=>hN.eZ (bZ _)) ?_
   rw[e1]
   refine Hx (j:=j+2+2*n) (λ_=>YJ.eZ (by rw[sY];exact bZ _)) ?_
   rw[e2]
   exact Al.mono (H _ _ _ (h1.trans h2) gO ((gP.alloc hT _ _).trans h1 (gP.alloc cY _ _)) Yy) (aW _) (by omega)
  |false=>
   rw[hs]at hL
   show (pK x at_ h key v gen n _).Al pS N _ s
   rw[show j+2+2*(n+1)=(j+2)+2+2*n by omega]
   refine aB0 (s0:=s0) n _ g s hT hL λg1 s1 r h1 cY Hz Hy=>?_
   obtain⟨b,hN,hJ,sR⟩:=Ls.alloc Hy cY.gw
   obtain⟨gO,e2,h2,_,_⟩:=gS cY hN hJ
   obtain⟨b2,YJ,hJ2,Yy⟩:=Ls.alloc sR gO.gw
   obtain⟨tB,e3,h3,_,_⟩:=gS gO YJ hJ2
   refine Hx (j:=j+1) (λ_=>hN.eZ (bZ _)) ?_
   rw[e2]
   refine Hx (j:=j) (λ_=>YJ.eZ (by rw[sY];exact bZ _)) ?_
   rw[e3]
   exact H _ _ _ ((h1.trans h2).trans h3) tB ((Hz.trans h1 (gP.alloc cY _ _)).trans (h1.trans h2) (gP.alloc gO _ _)) Yy
end Go.Ct
end
section
namespace Go.Ct
variable{g:Ga}{c:Call}
theorem SN(l:Nat):((l+1:Nat):Int)-1=(l:Int):=by omega
theorem j9{t:aX}{s:St}{r pp pa pm i m:Int}{h l N j:Nat}{k:Bool->I Result}(hT:Tw g s)(hk:Tk g t)(eR:t.readOnly=false)(w:Wy g s t h r l pp pa)(hpm:rd s (g.node pa).main=pm)(hz:rU g pm (l,h%64^l))(hl:(aB (g.node pm) (slice h l)).2=true)(hi:(aB (g.node pm) (slice h l)).1=i)
  (hI:fH g i (l+1,h%64^(l+1))) (hm:rd s (g.node i).main=m) (hzm:rU g m (l+1,h%64^(l+1))) (h5:(g.node m).kind=5)
  (H:∀g' s' x,Ge g g'->Tw g' s'->Wy g' s' t h r l pp pa->rd s' (g'.node pa).main=x->rU g' x (l,h%64^l)->Stop g' h l x->(k true).Al pS N j s'):(mP t pa i h l k).Al pS (N+9) (j+2) s:=by
 have wf:=w.wf
 have oO:=lX hl
 have wG:=((hT.gw.ofM hz.m).c oO).1
 have ed:=dP (h:=h) (l:=l) wG
 refine Yn (n:=N+7) hT wf.ii hz hpm λg1 s1 h1 cY Hz=>?_
 refine nT (cY.gC.node pm) ?_
 rw[h1.node hz.bX,hl,hi,show (i != i)=false by simp]
 refine Yn (n:=N+5) (b:=(l+1,h%64^(l+1))) cY (hI.ge h1) (hzm.ge h1) (by rw[h1.node hI.bX,Hz _ _ (hT.gw.fQ hI)];exact hm) λg2 s2 h2 gO Ln=>?_
 have a2:=h1.trans h2
 have b2:=Hz.trans h1 Ln
 refine nT (gO.gC.node m) ?_
 have hu:(aP (g2.node m)).2=true:=by rw[a2.node hzm.bX];unfold aP;rw[if_pos h5]
 rw[hu]
 obtain⟨u1,u2,u3⟩:=Kx (gO.gw.ofM (hzm.ge a2).m) hu
 refine nT (gO.gC.node pm) ?_
 rw[a2.node hz.bX]
 obtain⟨tB,e3,h3,_,_⟩:=gS gO (i:=0) u1 (vJ (.inl u2))
 refine Hx (j:=j+1) (λ_=>u1.eZ (by unfold aP;split<;>exact bZ _)) ?_
 rw[e3]
 have hSx:=Af (g:=g2) (n:=(aP (g2.node m)).1) (i:=0) (b:=(l+1,h%64^(l+1))) (b':=(l+1,h%64^(l+1))) u2 u3
 have a3:=a2.trans h3
 have b3:=b2.trans a2 (gP.alloc gO (aP (g2.node m)).1 0)
 have hn3:=(tB.gw.ofM (hz.ge a3).m)
 have en3:(g2.alloc (aP (g2.node m)).1 0 (l+1,h%64^(l+1))).node pm=g.node pm:=a3.node hz.bX
 rw[en3]at hn3
 obtain⟨p1,p2,p3⟩:=qE (r:=(g2.nodes.length:Int)+3) hn3 oO hl (.inr (by rw[ed];exact hSx))
 obtain⟨Lf,hLf⟩:=hn3.fit
 have hbu:=nS (n:=g.node pm) (i:=slice h l) (r:=(g2.nodes.length:Int)+3) hLf.bm hl (by omega)
 obtain⟨q1,q2⟩:=qY (i:=slice h l) (l:=(l:Int)) p1 (by rw[hbu]) (s:=(aP (g2.node m)).1) (λ_=>⟨u1.hash,u1.key,by rw[ed];exact u3⟩) rfl
 show (bif !(aM (g.node pm) (slice h l) _).2 then k false else _:I Result).Al pS _ _ _
 rw[p2]
 have hA:=(wf.at_ hz hpm).pP hT.gw hk a3 b3
 refine T9 (j:=j) tB (hk.ge a3) eR hA q1 (lP q2 (.inr (hz.ge a3))) (fW tB.gw q2) (λ_=>q1.eZ (by
  unfold bI;split
  ·exact bZ _
  ·rw[oN];exact bZ _)) λg' s' a4 TW hz4 hm4 hr4 hl4=>?_
 have a5:=Ga.gV tB.gw (bI (aM (g.node pm) (slice h l) ((g2.nodes.length:Int)+3)).1 l (aP (g2.node m)).1) pm (l,h%64^l)
 have aa:=a3.trans (a5.trans a4)
 refine H g' s' _ aa TW (w.pP hT.gw aa (by rw[hr4,wf.root]) (b3.ml.trans a3 hl4)) ?_ hz4 ?_
 ·rw[aa.node wf.ii.bX];rw[(a3.trans (a5.trans a4)).node wf.ii.bX]at hm4;exact hm4
 ·intro hb
  have en:g'.node ((g2.alloc (aP (g2.node m)).1 0 (l+1,h%64^(l+1))).nodes.length+3)=(bI (aM (g.node pm) (slice h l) ((g2.nodes.length:Int)+3)).1 l (aP (g2.node m)).1).stored ((g2.alloc (aP (g2.node m)).1 0 (l+1,h%64^(l+1))).ty.length+1):=by
   rw[a4.node (fW tB.gw q2:mZ _ _ (l,h%64^l)).bX,eG]
  rw[en,kI q1.valid (by omega)]at hb ⊢
  have hc:bI (aM (g.node pm) (slice h l) ((g2.nodes.length:Int)+3)).1 l (aP (g2.node m)).1=(aM (g.node pm) (slice h l) ((g2.nodes.length:Int)+3)).1:=by
   unfold bI at hb ⊢
   split
   ·rename_i hq
    rw[if_pos hq]at hb
    have:=lX hb
    exact absurd this (by show ¬((5:Int)=3);decide)
   ·rfl
  rw[hc,MJ hLf.bm hl (by omega)]
  have hS':=(hSx.ge (a5.trans a4)).1
  exact hS'
theorem k7{t:aX}{s:St}{r pa i m:Int}{h l N j:Nat}{k:Int->I Result}(hT:Tw g s)(hk:Tk g t)(eR:t.readOnly=false)(w:Wy g s t h r l pa i)(hm:rd s (g.node i).main=m)(hz:rU g m (l,h%64^l))(hl:(aB (g.node m) (slice h l)).2=true)(hI:fH g (aB (g.node m) (slice h l)).1 (l+1,h%64^(l+1)))
  (H:∀g' s' x,Ge g g'->Tw g' s'->Wy g' s' t h r (l+1) i x->(k x).Al pS N j s'):(oE t i m (slice h l) k).Al pS (N+15) (j+3) s:=by
 have wf:=w.wf
 have oO:=lX hl
 have wG:=((hT.gw.ofM hz.m).c oO).1
 have ed:=dP (h:=h) (l:=l) wG
 refine nT (hT.gC.node m) ?_
 rw[hl]
 refine yH (n:=N+5) (j:=j+2) hT hk hI λg1 s1 m2 h1 cY Ud DF hR1 YF=>?_
 have w1:Wy g1 s1 t h r l pa i:=w.pP hT.gw h1 (hR1.i (by rw[wf.root];exact wf.rt)) (YF.less (Nat.le_succ l))
 have Da:=w1.wf
 have CT:rd s1 (g1.node i).main=m:=by rw[h1.node wf.ii.bX,YF _ _ (hT.gw.fQ wf.ii) (PO l)];exact hm
 refine nT (cY.gC.node i) ?_
 have wF:=NJ cY.gw Da.ii
 have hN:=nU (g:=g1) (x:=(g1.node i).gen) (b:=(l+1,h%64^(l+1))) wF.1 wF.2 (by show l+1<=11;omega)
 have hJ:oD g1 {kind:=2,gen:=(g1.node i).gen} m2 (l+1,h%64^(l+1)):=⟨λ_=>Ud.m,(λh=>by cases h),λh=>by cases h⟩
 obtain⟨gO,e2,h2,_,_⟩:=gS cY hN hJ
 refine Hx (j:=j+1) (λ_=>hN.eZ (bZ _)) ?_
 rw[e2]
 have a2:=h1.trans h2
 have ZK:=mX cY.gw (n:={kind:=2,gen:=(g1.node i).gen}) (i:=m2) (b:=(l+1,h%64^(l+1))) rfl
 refine nT (gO.gC.node m) ?_
 rw[a2.node hz.bX]
 have hn2:=gO.gw.ofM (hz.ge a2).m
 rw[a2.node hz.bX]at hn2
 obtain⟨p1,p2,p3⟩:=qE (r:=(g1.nodes.length:Int)+3) hn2 oO hl (.inl (by rw[ed];exact ZK))
 obtain⟨Lf,hLf⟩:=hn2.fit
 rw[p2]
 have Ln:=gP.alloc cY {kind:=2,gen:=(g1.node i).gen} m2
 have hA:=(Da.at_ (hz.ge h1) CT).pP cY.gw (hk.ge h1) h2 Ln
 refine T9 (j:=j) gO (hk.ge a2) eR hA p1 (lP p3 (.inr (hz.ge a2))) (fW gO.gw p3) (λ_=>p1.eZ (by rw[oN];exact bZ _)) λg' s' a3 tB hz3 hm3 hr3 hl3=>?_
 have a4:=Ga.gV gO.gw (aM (g.node m) (slice h l) ((g1.nodes.length:Int)+3)).1 m (l,h%64^l)
 have ab:=a4.trans a3
 have hI3:=ZK.ge ab
 have w3:Wy g' s' t h r l pa i:=w1.pP cY.gw (h2.trans ab) (by rw[hr3,Da.root]) (Ln.ml.trans h2 hl3)
 have eN:g'.node ((g1.alloc {kind:=2,gen:=(g1.node i).gen} m2 (l+1,h%64^(l+1))).nodes.length+3)=(aM (g.node m) (slice h l) ((g1.nodes.length:Int)+3)).1.stored ((g1.alloc {kind:=2,gen:=(g1.node i).gen} m2 (l+1,h%64^(l+1))).ty.length+1):=by
  rw[a3.node (fW gO.gw p3:mZ _ _ (l,h%64^l)).bX,eG]
 have bl:=MJ (n:=g.node m) (i:=slice h l) (r:=(g1.nodes.length:Int)+3) hLf.bm hl (by omega)
 refine H g' s' _ ((a2.trans ab)) tB (.step w3 hm3 hz3 (by rw[eN,kI p1.valid (by omega),bl]) (by rw[eN,kI p1.valid (by omega),bl]) hI3 ?_)
 rw[ab.node ZK.bX,eG]
 show (g1.node i).gen=(g'.node r).gen
 rw[(h2.trans ab).node Da.rt.bX,Da.gen]
def TA(c:Call)(l:Nat):Prop:=∀(g:Ga) (s:St) (r pa i m:Int) (kk n:Nat),Tw g s->Tk g c.aF->Wy g s c.aF (aE c.key c.aI) r l pa i->rd s (g.node i).main=m->rU g m (l,aE c.key c.aI%64^l)->Stop g (aE c.key c.aI) l m->12<=kk->(aY c kk n).Al pS (45*(l+1)) (60*(l+1)) s
theorem aJx{s:St}{r pa i:Int}{l n kk N j:Nat}(hT:Tw g s)(hk:Tk g c.aF)(w:Wy g s c.aF (aE c.key c.aI) r l pa i)(hl:l<=kk)(P:∀g' s',Ge g g'->Tw g' s'->gP g s s'->(eE c (aE c.key c.aI) (g.node r).gen (aY c kk n) (kk-l) pa i l).Al pS N j s'):
  ∀g' s',Ge g g'->Tw g' s'->gP g s s'->(eE c (aE c.key c.aI) (g.node r).gen (aY c kk n) kk 0 r 0).Al pS (N+2*l) j s':=by
 induction w generalizing N with
 |root hi hr=>exact P
 |@step l pa i m x w hm hz hb hx hI wF ih=>
  have wf:=w.wf
  have oO:=lX hb
  intro g' s' a b d
  refine Al.mono (ih (N:=N+2) (by omega) (λg1 s1 h1 cY Hz=>?_) g' s' a b d) (by omega) (aW _)
  rw[show kk-l=(kk-(l+1))+1 by omega,pW]
  refine Yn (b:=(l,aE c.key c.aI%64^l)) cY (wf.ii.ge h1) (hz.ge h1) (by rw[h1.node wf.ii.bX,Hz _ _ (hT.gw.fQ wf.ii)];exact hm) λg2 s2 h2 gO Ln=>?_
  have a2:=h1.trans h2
  refine nT (gO.gC.node m) ?_
  rw[a2.node hz.bX]
  show (bif (g.node m).kind==5 then _ else bif (g.node m).kind==6 then _ else bif (g.node m).kind==3 then _ else _:I Result).Al pS N j s2
  rw[show ((g.node m).kind==5)=false by rw[oO];rfl,show ((g.node m).kind==6)=false by rw[oO];rfl,show ((g.node m).kind==3)=true by rw[oO];rfl]
  simp only[tV,fN]
  rw[hb,hx]
  show (I.node x _).Al pS N j s2
  refine nT (gO.gC.node x) ?_
  rw[a2.node hI.bX,show ((g.node x).kind==4)=false by rw[hI.1];rfl,wF,show ((g.node r).gen != (g.node r).gen)=false by simp]
  simp only[fN]
  have:=P g2 s2 a2 gO (Hz.trans h1 Ln)
  rw[show (((l+1:Nat):Int))=(l:Int)+1 by omega]at this
  exact this
section
variable(eR:c.aF.readOnly=false)(kP:c.key.size<=64)
include eR kP
theorem aBd{s:St}{r pa i m:Int}{l n kk k:Nat}(IH:∀l',l'<l->TA c l')(hT:Tw g s)(hk:Tk g c.aF)(w:Wy g s c.aF (aE c.key c.aI) r l pa i)(hm:rd s (g.node i).main=m)(hz:rU g m (l,aE c.key c.aI%64^l))(hs:Stop g (aE c.key c.aI) l m)(Bz:12<=kk):
  (Vb c (aE c.key c.aI) (g.node r).gen (aY c kk n) k pa i l m).Al pS (45*l+20) (60*l+40) s:=by
 have wf:=w.wf
 have hA:=wf.at_ hz hm
 have hL:Ls (Vb c (aE c.key c.aI) (g.node r).gen (aY c kk n) k pa i l m) g:=
  Ls.read (by have:=IM eR kP hT.gw hk wf (k+1) n kk;rw[pW]at this;exact this) hT.gw wf.ii (Ge.refl hT.gw) hT.gw hz
 have hL:=Ls.node hL
 refine nT (hT.gC.node m) ?_
 rcases nW hz.m with h3|h5|h6
 ·rw[show ((g.node m).kind==5)=false by rw[h3];rfl,show ((g.node m).kind==6)=false by rw[h3];rfl,show ((g.node m).kind==3)=true by rw[h3];rfl]at hL ⊢
  simp only[tV,fN]at hL ⊢
  cases hb:(aB (g.node m) (slice (aE c.key c.aI) l)).2 with
  |false=>
   rw[hb]at hL
   have hL:Ls (mL c (aY c kk n) (aE c.key c.aI) i m (g.node m) (slice (aE c.key c.aI) l)) g:=hL
   show (mL c (aY c kk n) (aE c.key c.aI) i m (g.node m) (slice (aE c.key c.aI) l)).Al pS _ _ s
   unfold mL at hL ⊢
   cases hp:cB c false 0 with
   |false=>exact trivial
   |true=>
    rw[hp]at hL
    obtain⟨b,hN,hJ,sR⟩:=Ls.alloc hL hT.gw
    obtain⟨cY,e1,h1,_,_⟩:=gS hT hN hJ
    refine Al.mono (Hx (j:=1) (n:=5) (λ_=>hN.eZ (bZ _)) ?_) (by omega) (by omega)
    rw[e1]
    exact BH cY (hk.ge h1) eR (hA.pP hT.gw hk h1 (gP.alloc hT _ _)) sR λb hb _=>hb.eZ (by rw[sY];exact bZ _)
  |true=>
   rw[hb]at hL
   have hL:=Ls.node hL
   refine nT (hT.gC.node _) ?_
   have h4:=hs hb
   rw[show ((g.node (aB (g.node m) (slice (aE c.key c.aI) l)).1).kind==4)=true by rw[h4];rfl]at hL ⊢
   simp only[tV]at hL ⊢
   generalize (aB (g.node m) (slice (aE c.key c.aI) l)).1=at_ at *
   unfold gJ at hL ⊢
   cases hq:bO (g.node at_).key c.key with
   |true=>
    rw[hq]at hL
    simp only[tV]at hL ⊢
    cases hp:cB c true (g.node at_).value with
    |false=>exact trivial
    |true=>
     rw[hp]at hL
     obtain⟨b,hN,hJ,sR⟩:=Ls.alloc hL hT.gw
     obtain⟨cY,e1,h1,_,_⟩:=gS hT hN hJ
     refine Al.mono (Hx (j:=1) (n:=5) (λ_=>hN.eZ (bZ _)) ?_) (by omega) (by omega)
     rw[e1]
     exact BH cY (hk.ge h1) eR (hA.pP hT.gw hk h1 (gP.alloc hT _ _)) sR λb hb _=>hb.eZ (by rw[oN];exact bZ _)
   |false=>
    rw[hq]at hL
    simp only[fN]at hL ⊢
    cases hp:cB c false 0 with
    |false=>exact trivial
    |true=>
     rw[hp]at hL
     simp only[xX,fN]at hL ⊢
     unfold uW at hL ⊢
     cases hc1:decide ((l:Int)+1<0)||(decide ((l:Int)+1>11)||decide ((g.node r).gen<1))with
     |true=>exact trivial
     |false=>
      rw[hc1]at hL
      simp only[fN]at hL ⊢
      have hL:=Ls.node hL
      refine nT (hT.gC.node _) ?_
      cases Nv:(g.node at_).kind != 4||(decide (64<c.key.size)||bO c.key (g.node at_).key)with
      |true=>exact trivial
      |false=>
       rw[Nv]at hL
       simp only[fN]at hL ⊢
       cases S1:decide ((aJ (g.node at_).hash (aE c.key c.aI):Int)<(l:Int)+1)with
       |true=>exact trivial
       |false=>
        rw[S1]at hL
        simp only[fN]at hL ⊢
        refine Al.mono (aB0 (N:=5) (j:=2) (s0:=s) _ _ g s hT hL λg1 s1 x h1 cY Hz Hy=>?_) (by omega) (by omega)
        obtain⟨b,hN,hJ,sR⟩:=Ls.alloc Hy cY.gw
        obtain⟨gO,e2,h2,_,_⟩:=gS cY hN hJ
        show (I.alloc {kind:=2,gen:=(g.node r).gen} x _).Al pS 5 2 s1
        refine Hx (j:=1) (λ_=>hN.eZ (bZ _)) ?_
        rw[e2]
        exact BH gO (hk.ge (h1.trans h2)) eR (hA.pP hT.gw hk (h1.trans h2) (Hz.trans h1 (gP.alloc cY _ _))) sR λb hb _=>hb.eZ (by rw[oN];exact bZ _)
 ·have h1l:1<=l:=((hT.gw.ofM hz.m).t h5).1
  rw[show ((g.node m).kind==5)=true by rw[h5];rfl]
  show (mP c.aF pa i (aE c.key c.aI) ((l:Int)-1) λ_=>aY c kk n).Al pS _ _ s
  obtain⟨l',rfl⟩:∃l',l=l'+1:=⟨l-1,by omega⟩
  rw[SN]
  cases w with
  |step w0 hpm hzp hlb hj hI wF=>
   exact Al.mono (j9 (N:=45*(l'+1)) (j:=60*(l'+1)) hT hk eR w0 hpm hzp hlb hj hI hm hz h5 λg' s' x a b d e f i=>IH l' (by omega) g' s' r _ _ x kk n b (hk.ge a) d e f i Bz) (by omega) (by omega)
 ·rw[show ((g.node m).kind==5)=false by rw[h6];rfl,show ((g.node m).kind==6)=true by rw[h6];rfl]at hL ⊢
  simp only[tV,fN]at hL ⊢
  unfold lF at hL ⊢
  cases hp:cB c (bN (g.node m).aH c.key).2 (bN (g.node m).aH c.key).1 with
  |false=>exact trivial
  |true=>
   rw[hp]at hL
   refine Al.mono (BH hT hk eR hA hL λb _ hf=>?_) (by omega) (by omega)
   have:=hf.node m
   rw[hT.gC.node]at this
   exact vH this _ _
theorem aDt:∀l,TA c l:=by
 intro l
 induction l using Nat.strongRecOn with
 |ind l IH=>
  intro g s r pa i m kk n hT hk w hm hz hs Bz
  have wf:=w.wf
  cases n with
  |zero=>exact trivial
  |succ n=>
  have TT:l<=11:=((hT.gw.RJ wf.ii).i wf.ii.1).2
  obtain⟨g1,h1,cY,_⟩:=hT.val (hk.root eR)
  show (uD c.aF λr=>.node r λa=>eE c (aE c.key c.aI) a.gen (aY c kk n) kk 0 r 0).Al pS (45*(l+1)) (60*(l+1)) s
  refine Al.mono (n:=(45*l+22)+2*l+1) (i:=60*l+40) (Nm (nT (cY.gC.node _) ?_)) (by omega) (by omega)
  rw[wf.root,h1.node wf.rt.bX,wf.rt.1]
  refine nT (cY.gC.node r) ?_
  have w1:=w.pP (s':=(s.load c.aF.root).1) hT.gw h1 rfl (Bc _ _)
  have hd:=aJx (n:=n) (kk:=kk) (N:=45*l+22) (j:=60*l+40) cY (hk.ge h1) w1 (by omega) (λg2 s2 h2 gO Ln=>?_) g1 _ (Ge.refl cY.gw) cY (gP.refl _)
  ·exact hd
  ·have a2:=h1.trans h2
   have Da:=w1.wf
   have CT:rd (s.load c.aF.root).1 (g1.node i).main=m:=by rw[h1.node wf.ii.bX];exact hm
   have w2:=w1.pP cY.gw h2 (Ln _ _ ((hk.ge h1).root eR)) Ln.ml
   have wf2:=w2.wf
   obtain⟨k,hk1⟩:∃k,kk-l=k+1:=⟨kk-l-1,by omega⟩
   rw[hk1,pW]
   refine Yn (n:=45*l+20) gO wf2.ii (hz.ge a2) (by rw[h2.node Da.ii.bX,Ln _ _ (cY.gw.fQ Da.ii)];exact CT) λg3 s3 h3 tB hS3=>?_
   have w3:=w2.pP gO.gw h3 (hS3 _ _ ((hk.ge a2).root eR)) hS3.ml
   have a3:=a2.trans h3
   have:=aBd eR kP (k:=k) (kk:=kk) (n:=n) IH tB (hk.ge a3) w3 (by rw[h3.node wf2.ii.bX,hS3 _ _ (gO.gw.fQ wf2.ii),h2.node Da.ii.bX,Ln _ _ (cY.gw.fQ Da.ii)];exact CT) (hz.ge a3) (hs.ge hT.gw hz.m a3) Bz
   rw[(h2.trans h3).node Da.rt.bX]at this
   exact this
end
end Go.Ct
end
section
namespace Go.Ct
variable{g:Ga}{c:Call}
section
variable(eR:c.aF.readOnly=false)(kP:c.key.size<=64)
include eR kP
theorem MF:∀(d l k:Nat) (g:Ga) (s:St) (r pa i:Int) (kk n:Nat),l+d=12->d<=k->12<=kk->Tw g s->Tk g c.aF->Wy g s c.aF (aE c.key c.aI) r l pa i->(eE c (aE c.key c.aI) (g.node r).gen (aY c kk n) k pa i l).Al pS (560+30*d) (840+10*d) s
 |0,l,k,g,s,r,pa,i,kk,n,hd,hk,Bz,hT,ht,w=>by
  have:=((hT.gw.RJ w.wf.ii).i w.wf.ii.1).2
  exact absurd (show l<=11 from this) (by omega)
 |d+1,l,0,g,s,r,pa,i,kk,n,hd,hk,Bz,hT,ht,w=>absurd hk (by omega)
 |d+1,l,k+1,g,s,r,pa,i,kk,n,hd,hk,Bz,hT,ht,w=>by
  have wf:=w.wf
  rw[pW]
  refine Al.mono (yH (n:=560+30*d+20) (j:=840+10*d+5) hT ht wf.ii λg1 s1 m h1 cY hz hm hR hl=>?_) (by omega) (by omega)
  have w1:=w.pP hT.gw h1 (hR.i (by rw[wf.root];exact wf.rt)) hl
  have Da:=w1.wf
  have vD:=ht.ge h1
  have er:=h1.node wf.rt.bX
  by_cases hs:Stop g1 (aE c.key c.aI) l m
  ·have:=aBd eR kP (k:=k) (kk:=kk) (n:=n) (λl' _=>aDt eR kP l') cY vD w1 hm hz hs Bz
   rw[er]at this
   exact Al.mono this (by omega) (by omega)
  ·have hb:(aB (g1.node m) (slice (aE c.key c.aI) l)).2=true:=by
    cases hq:(aB (g1.node m) (slice (aE c.key c.aI) l)).2 with
    |true=>rfl
    |false=>exact absurd (λh=>by rw[hq]at h;cases h) hs
   have h4:(g1.node (aB (g1.node m) (slice (aE c.key c.aI) l)).1).kind≠4:=λh=>hs λ_=>h
   have oO:=lX hb
   have hn1:=cY.gw.ofM hz.m
   have wG:=(hn1.c oO).1
   have ed:=dP (h:=aE c.key c.aI) (l:=l) wG
   have hI:fH g1 (aB (g1.node m) (slice (aE c.key c.aI) l)).1 (l+1,aE c.key c.aI%64^(l+1)):=by
    rcases(hn1.c oO).2.2 _ hb with h|h
    ·rw[ed]at h;exact h
    ·exact absurd h.1 h4
   refine nT (cY.gC.node m) ?_
   show (bif (g1.node m).kind==5 then _ else bif (g1.node m).kind==6 then _ else bif (g1.node m).kind==3 then _ else _:I Result).Al pS _ _ s1
   rw[show ((g1.node m).kind==5)=false by rw[oO];rfl,show ((g1.node m).kind==6)=false by rw[oO];rfl,show ((g1.node m).kind==3)=true by rw[oO];rfl]
   simp only[tV,fN]
   rw[hb]
   show (I.node _ _).Al pS _ _ s1
   refine nT (cY.gC.node _) ?_
   rw[show ((g1.node (aB (g1.node m) (slice (aE c.key c.aI) l)).1).kind==4)=false by rw[hI.1];rfl]
   simp only[fN]
   cases hg:(g1.node (aB (g1.node m) (slice (aE c.key c.aI) l)).1).gen != (g.node r).gen with
   |false=>
    simp only[fN]
    have xY:(g1.node (aB (g1.node m) (slice (aE c.key c.aI) l)).1).gen=(g1.node r).gen:=by rw[er];simpa using hg
    have:=MF d (l+1) k g1 s1 r i _ kk n (by omega) (by omega) Bz cY vD (.step w1 hm hz hb rfl hI xY)
    rw[er,show (((l+1:Nat):Int))=(l:Int)+1 by omega]at this
    exact Al.mono this (by omega) (by omega)
   |true=>
    simp only[tV]
    refine Al.mono (k7 (N:=560+30*d) (j:=840+10*d) cY vD eR w1 hm hz hb hI λg2 s2 x h2 gO w2=>?_) (by omega) (by omega)
    have hx1:=w2.wf.ii.one
    rw[show (x==0)=false by simp;omega]
    have:=MF d (l+1) k g2 s2 r i x kk n (by omega) (by omega) Bz gO (vD.ge h2) w2
    rw[h2.node Da.rt.bX,er,show (((l+1:Nat):Int))=(l:Int)+1 by omega]at this
    exact this
theorem aO3{s:St}{kk n:Nat}(Bz:12<=kk)(hT:Tw g s)(ht:Tk g c.aF):(aY c kk (n+1)).Al pS 935 961 s:=by
 show (uD c.aF λr=>.node r λa=>eE c (aE c.key c.aI) a.gen (aY c kk n) kk 0 r 0).Al pS 935 961 s
 refine FX (n:=920) (j:=960) hT ht λg1 s1 r h1 cY hr hq=>nT (cY.gC.node r) ?_
 exact MF eR kP 12 0 kk g1 s1 r 0 r kk n rfl Bz Bz cY (ht.ge h1) (.root (by rw[U8];exact hr) hq)
end
theorem aIh{s:St}(eR:c.aF.readOnly=false)(hT:Tw g s)(ht:Tk g c.aF):(Ul c FU).Al pS 935 961 s:=by
 unfold Ul
 cases hv:!bR c.key||(decide (c.bF<0)||decide (c.bF>3))with
 |true=>exact trivial
 |false=>
  have kP:c.key.size<=64:=by
   have:bR c.key=true:=by simp at hv;exact hv.1
   unfold bR at this;simpa using this
  have e:aY c FU FU=aY c FU (99999999+1):=rfl
  simp only[fN]
  rw[e]
  exact aO3 eR kP (by decide) hT ht
end Go.Ct
end
