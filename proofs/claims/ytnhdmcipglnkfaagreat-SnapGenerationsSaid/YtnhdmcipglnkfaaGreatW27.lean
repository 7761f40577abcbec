/- Parts of a proof: Fe, Ff, Fg, Fh. -/
import Derived.Test.YtnhdmcipglnkfaaGreatW26
set_option linter.unusedVariables false
set_option linter.unusedSimpArgs false
set_option maxRecDepth 100000
set_option maxHeartbeats 4000000
section
namespace Go.Ct
variable{α:Type}{g:Ga}
def Ls[Qc α](t:I α)(g:Ga):Prop:=∃u,Sm t u g
section
variable[Qc α]
theorem Ls.node{r:Int}{k:Node->I α}(h:Ls (.node r k) g):Ls (k (g.node r)) g:=by
 obtain⟨u,h⟩:=h
 generalize hx:I.node r k=t at h
 induction h with
 |nl hr h ih=>injection hx with e1 e2;subst e1 e2;exact⟨_,h⟩
 |nr hr h ih=>exact ih hx
 |_=>cases hx
theorem Ls.load{c:Int}{k:Int->I α}{τ:eY}(h:Ls (.load c k) g)(hc:g.oA c=some τ){g':Ga}(hg:Ge g g')(hw:GW g'){v:Int}(hv:YP g' c v τ):Ls (k v) g':=by
 obtain⟨u,h⟩:=h
 generalize hx:I.load c k=t at h
 induction h with
 |nr hr h ih=>exact ih hc hg hx
 |load σ h1 h2 ih=>
  injection hx with e1 e2;subst e1 e2
  obtain rfl:=Pe (hc.symm.trans h1)
  exact⟨_,h2 g' hg hw v hv⟩
 |_=>cases hx
theorem Ls.eA{c o n:Int}{k:Bool->I α}{τ:eY}(h:Ls (.eA c o n k) g)(hc:g.oA c=some τ):YI g c o n τ/\∀g',Ge g g'->GW g'->((∃b,τ=.prev b)->o=g.first c->g'.dec c)->∀b,Ls (k b) g':=by
 obtain⟨u,h⟩:=h
 generalize hx:I.eA c o n k=t at h
 induction h with
 |nr hr h ih=>exact ih hc hx
 |eA σ h1 hm h2 ih=>
  injection hx with e1 e2 e3 e4;subst e1 e2 e3 e4
  obtain rfl:=Pe (hc.symm.trans h1)
  exact⟨hm,λg' a b d x=>⟨_,h2 g' a b d x⟩⟩
 |_=>cases hx
theorem Ls.alloc{n:Node}{i:Int}{k:Int->I α}(h:Ls (.alloc n i k) g)(hw:GW g):∃b,cJ g n b/\Tb g n i b/\Ls (k (g.nodes.length+3)) (g.alloc n i b):=by
 obtain⟨u,h⟩:=h
 generalize hx:I.alloc n i k=t at h
 induction h with
 |nr hr h ih=>exact ih hw hx
 |alloc b h1 h2 h3 ih=>
  injection hx with e1 e2 e3;subst e1 e2 e3
  exact⟨b,h1,h2,_,h3 (Ga.rM hw _ _ b) (eX hw h1 h2)⟩
 |_=>cases hx
theorem Ls.settle{t:bC}{i m:Int}{b:fV}{k:Int->I α}(h:Ls (qB t i m k) g)(hw:GW g)(hz:tS g m b):Ls (k m) g:=
 (Ls.node h).load (hw.Nl hz.m) (Ge.refl hw) hw (v:=0) (.inl ⟨rfl,hz.2⟩)
theorem Ls.read{t:bC}{i:Int}{b:fV}{k:Int->I α}(h:Ls (mM t i k) g)(hw:GW g)(hi:jV g i b){g':Ga}(hg:Ge g g')(hw':GW g'){m:Int}(hz:tS g' m b):Ls (k m) g':=
 ((Ls.node h).load (hw.MO hi) hg hw' (v:=m) hz.m).settle hw' hz
theorem Ls.swap{t:bC}{i o n:Int}{b:fV}{k:Bool->I α}(h:Ls (swapT t i o n k) g)(hw:GW g)(hi:jV g i b):oH g n b/\∀g',Ge g g'->GW g'->tS g' n b->Ls (k true) g':=by
 obtain⟨h1,h2⟩:=(Ls.node h).eA (hw.MO hi)
 refine⟨h1,λg' hg hw' hz=>?_⟩
 have h3:Ls (qB t i n λm=>k (m==n)) g':=h2 g' hg hw' (λe=>by obtain⟨b,e⟩:=e;cases e) true
 have h4:=h3.settle hw' hz
 simp only[beq_self_eq_true]at h4
 exact h4
end
def Mc(g:Ga)(s s':St):Prop:=∀c τ,g.oA c=some τ->rd s' c=rd s c
theorem Mc.refl(s:St):Mc g s s:=λ_ _ _=>rfl
theorem Mc.trans{g':Ga}{s s1 s2:St}(hg:Ge g g')(h:Mc g s s1)(k:Mc g' s1 s2):Mc g s s2:=λc τ hc=>(k c τ (hg.oA hc)).trans (h c τ hc)
theorem Mc.load(s:St)(c:Int):Mc g s (s.load c).1:=λ_ _ _=>rfl
theorem Mc.alloc{s:St}(hT:Tw g s)(n:Node)(i:Int):Mc g s (s.alloc n i).1:=λc τ hc=>mG hT hc
theorem Mc.ml{l:Nat}{s s':St}(h:Mc g s s'):Ml l g s s':=λc b hc _=>h c _ hc
theorem Ml.refl{l:Nat}(s:St):Ml l g s s:=λ_ _ _ _=>rfl
theorem Ml.less{l k:Nat}{s s':St}(h:Ml k g s s')(hl:l<=k):Ml l g s s':=λc b hc hb=>h c b hc (by omega)
def Mo(x:Int)(g:Ga)(s s':St):Prop:=∀c b,g.oA c=some (.main b)->c≠x->rd s' c=rd s c
theorem Mo.ml{x:Int}{b:fV}{s s':St}(h:Mo x g s s')(hx:g.oA x=some (.main b)):Ml b.1 g s s':=λc b' hc hl=>h c b' hc λe=>by
 subst e
 have e1:=Pe (hx.symm.trans hc)
 injection e1 with e1
 rw[e1]at hl;omega
variable{Q:α->St->Prop}
structure At(g:Ga)(s:St)(t:bC)(b:fV)(r i m:Int):Prop where
 rt:jV g r (0,0)
 ii:jV g i b
 z:tS g m b
 root:rd s t.root=r
 main:rd s (g.node i).main=m
 gen:(g.node r).gen=(g.node i).gen
theorem At.m6{g':Ga}{s s':St}{t:bC}{b:fV}{r i m:Int}(h:At g s t b r i m)(hw:GW g)(ht:Tk g t)(hg:Ge g g')(hs:Mc g s s'):At g' s' t b r i m:=
 ⟨h.rt.ge hg,h.ii.ge hg,h.z.ge hg,by rw[hs _ _ ht];exact h.root,by rw[hg.node h.ii.dU,hs _ _ (hw.MO h.ii)];exact h.main,by rw[hg.node h.rt.dU,hg.node h.ii.dU];exact h.gen⟩
theorem X3{t:bC}{s:St}{b:fV}{i m:Int}{n j:Nat}{k:Int->I α}(hT:Tw g s)(hi:jV g i b)(hz:tS g m b)(hm:rd s (g.node i).main=m)(H:∀g' s',Ge g g'->Tw g' s'->Mc g s s'->s'.aG=s.aG->(k m).Al Q n j s'):(mM t i k).Al Q (n+2) j s:=by
 obtain⟨g1,h1,hT1,_⟩:=hT.val (hT.gw.MO hi)
 obtain⟨g2,h2,hT2,_⟩:=hT1.val (h1.oA (hT.gw.Nl hz.m))
 refine oW (hT.PI.node i) (Vn (n:=n+1) ?_)
 rw[hm]
 refine oW (hT1.PI.node m) ?_
 rw[h1.node hz.dU]
 refine Vn (n:=n) ?_
 rw[hB,DO hT hz]
 exact H g2 _ (h1.trans h2) hT2 (λ_ _ _=>rfl) rfl
theorem BC{t:bC}{s:St}{b:fV}{i m:Int}{n j:Nat}{k:Int->I α}(hT:Tw g s)(hi:jV g i b)(hz:tS g m b)(hm:rd s (g.node i).main=m)(H:∀g' s',Ge g g'->Tw g' s'->Mc g s s'->(k m).Al Q n j s'):(mM t i k).Al Q (n+2) j s:=
 X3 hT hi hz hm λg' s' a b d _=>H g' s' a b d
theorem W7{t:bC}{s:St}{b:fV}{r i m n:Int}{N j:Nat}{k:Bool->I α}(hT:Tw g s)(ht:g.oA t.root=some .root)(hro:t.readOnly=false)(hA:At g s t b r i m)(hn:oH g n b)(hp:rd s (g.node n).prev=m)
  (H:∀g' s',Ge g g'->Tw g' s'->tS g' n b->rd s' (g'.node i).main=n->rd s' t.root=r->Mo (g.node i).main g s s'->s'.aG=s.aG->(k true).Al Q N j s'):(swapT t i m n k).Al Q (N+5) j s:=by
 have hc:=hT.gw.MO hA.ii
 have hpc:=hT.gw.Nl hn
 have hm0:=hA.z.m.one
 obtain⟨g1,h1,hT1⟩:=hT.eA (o:=m) (n:=n) hc hn
 have c1:=oP (v:=n) (hT.has hc) hA.main
 have d1:∀c τ,g.oA c=some τ->(∀b',τ≠.main b')->rd (s.eA (g.node i).main m n).1 c=rd s c:=λc τ hc' h=>nR (.inl (Tw.ne hc' hc (h b)))
 obtain⟨g2,h2,hT2,_⟩:=hT1.val (h1.oA hpc)
 obtain⟨g3,h3,hT3,_⟩:=hT2.val (h2.oA (h1.oA ht))
 have a2:=h1.trans h2
 have a3:=a2.trans h3
 have hc3:=a3.oA hpc
 obtain⟨g4,h4,hT4⟩:=hT3.eA (o:=m) (n:=0) hc3 ⟨by omega,.inl rfl⟩
 have c4:=oP (s:=(((s.eA (g.node i).main m n).1.load (g.node n).prev).1.load t.root).1) (o:=m) (v:=0) (hT3.has hc3) (by rw[hB,hB,d1 _ _ hpc (by intro b' h;cases h)];exact hp)
 obtain⟨g5,h5,hT5,hv5⟩:=hT4.val (h4.oA hc3)
 have a5:=(a3.trans h4).trans h5
 have hroot:rd (s.eA (g.node i).main m n).1 t.root=r:=by rw[d1 _ _ ht (by intro b' h;cases h)];exact hA.root
 refine oW (hT.PI.node i) (XB (n:=N+4) ?_)
 rw[c1.2]
 refine oW (hT1.PI.node n) ?_
 rw[h1.node hn.dU]
 refine Vn (n:=N+3) ?_
 rw[d1 _ _ hpc (by intro b' h;cases h),hp]
 rw[show (m==0)=false by simp;omega]
 refine oW (hT2.PI.node m) ?_
 rw[a2.node hA.z.dU,hA.z.m.1,hro]
 refine Vn (n:=N+2) ?_
 rw[hB,hroot]
 refine oW (hT3.PI.node r) ?_
 rw[a3.node hA.rt.dU,hA.rt.1]
 refine oW (hT3.PI.node r) (oW (hT3.PI.node i) ?_)
 rw[a3.node hA.rt.dU,a3.node hA.ii.dU,hA.gen,show ((g.node i).gen==(g.node i).gen)=true by simp]
 refine XB (n:=N+1) (Vn (n:=N) ?_)
 rw[c4.1]
 have hz5:tS g5 n b:=⟨hn.ge a5,by rw[a5.node hn.dU];exact val_zero hv5 c4.1⟩
 have:=H g5 _ a5 hT5 hz5 (by rw[a5.node hA.ii.dU,hB,nR (.inl (Tw.ne (a3.oA hc) hc3 (by intro h;cases h)))];exact c1.1) (by rw[hB,nR (.inl (Tw.ne (a3.oA ht) hc3 (by intro h;cases h)))];exact hroot)
  (λc b' hc' hl=>by rw[hB,nR (.inl (Tw.ne (a3.oA hc') hc3 (by intro h;cases h))),hB,hB,nR (.inl hl)]) rfl
 show (k (n==n)).Al Q N j _
 rw[show (n==n)=true by simp]
 exact this
theorem X4{s:St}(hT:Tw g s){n:Node}{i:Int}{b:fV}(hm:n.bM=true):rd (s.alloc n i).1 ((g.alloc n i b).node (g.nodes.length+3)).prev=i:=by
 have h2:n.kind≠2:=λh2=>by unfold Node.bM at hm;rw[h2]at hm;simp at hm
 have e:((g.alloc n i b).node (g.nodes.length+3)).prev=(g.ty.length:Int)+1:=by rw[yE];unfold Node.stored;rw[if_neg h2,if_pos hm]
 have ec:=Es s n i b
 have et:n.iA b=some (.prev b):=by unfold Node.iA;rw[if_neg h2,if_pos hm]
 have el:=hT.PI.len
 rw[e]
 have hh:(s.alloc n i).1.cA ((g.ty.length:Int)+1)=true:=by unfold St.cA;rw[ec,et];simp;omega
 unfold rd St.load
 dsimp only
 rw[if_pos hh,ec,et,dI,tW (by omega),show ((g.ty.length:Int)+1).toNat -1-s.cells.length=0 by omega];rfl
theorem U'{t:bC}{s:St}{b b2:fV}{r i m:Int}{n:Node}{N j:Nat}{k:Bool->I α}(hT:Tw g s)(hk:Tk g t)(hro:t.readOnly=false)(hA:At g s t b r i m)(hN:cJ g n b2)(hJ:Tb g n m b2)(hM:oH (g.alloc n m b2) (g.nodes.length+3) b)(hf:eK s->n.Fit (s.aG.length+1))
  (H:∀g' s',Ge (g.alloc n m b2) g'->Tw g' s'->tS g' (g.nodes.length+3) b->rd s' (g'.node i).main=g.nodes.length+3->rd s' t.root=r->Mo (g.node i).main g s s'->s'.aG=s.aG++[n.stored (s.cells.length+1)]->(k true).Al Q N j s'):(I.alloc n m λx=>swapT t i m x k).Al Q (N+5) (j+1) s:=by
 obtain⟨hT1,e1,h1,_,_⟩:=kU hT hN hJ
 have hm:n.bM=true:=by have:=hM.1;rw[yE,pW]at this;exact this
 refine Yw (j:=j) hf ?_
 rw[e1]
 have hS:=Mc.alloc hT n m
 refine W7 hT1 ((hk.ge h1).root hro) hro (hA.m6 hT.gw hk h1 hS) hM (X4 hT hm) λg' s' a b d e f l q=>H g' s' a b d e f (λc b' hc hx=>(l c b' (h1.oA hc) (by rw[h1.node hA.ii.dU];exact hx)).trans (hS c _ hc)) (by rw[q];exact pN s n m)
theorem S1{t:bC}{s:St}{b b2:fV}{r i m:Int}{n:Node}{N j:Nat}{k:Bool->I α}(hT:Tw g s)(hk:Tk g t)(hro:t.readOnly=false)(hA:At g s t b r i m)(hN:cJ g n b2)(hJ:Tb g n m b2)(hM:oH (g.alloc n m b2) (g.nodes.length+3) b)(hf:eK s->n.Fit (s.aG.length+1))
  (H:∀g' s',Ge (g.alloc n m b2) g'->Tw g' s'->tS g' (g.nodes.length+3) b->rd s' (g'.node i).main=g.nodes.length+3->rd s' t.root=r->Ml b.1 g s s'->(k true).Al Q N j s'):(I.alloc n m λx=>swapT t i m x k).Al Q (N+5) (j+1) s:=
 U' hT hk hro hA hN hJ hM hf λg' s' a b d e f l _=>H g' s' a b d e f (l.ml (hT.gw.MO hA.ii))
end Go.Ct
end
section
namespace Go.Ct
variable{g:Ga}{c:Call}
def oS(_:Result)(_:St):Prop:=True
theorem cJ.fD{n:Node}{b:fV}(h:cJ g n b){M:Nat}(hp:n.aF.length<=M+2):n.Fit M:=by
 obtain⟨L,hL⟩:=h.fit
 exact⟨⟨hL.1.1,hp,hL.1.2.2⟩,hL.2⟩
theorem H9{n:Node}{i r:Int}(h0:0<=i)(h1:i<64)(hr:1<=r):aB (Dr n i r) i=(r,true):=by
 obtain⟨a1,a2,a3,a4⟩:=tI n i r 64 (JV _)
 obtain⟨j,rfl⟩:=BO h0
 have hj:j<64:=by omega
 have hb:wX n j r j=(r,true):=by unfold wX;rw[if_pos rfl,mI (by omega)]
 have ht:(bW n j r 64).1.testBit j=true:=by rw[a1,hb];simp[hj]
 rw[lQ (KE n j r) hj]
 show (if(bW n j r 64).1.testBit j=true then((bW n j r 64).2.getD (Bm.pop j (bW n j r 64).1) 0,true)else(0,false):Int×Bool)=_
 rw[if_pos ht,a3 j hj (by rw[hb]),hb]
theorem ZR{n:Node}{i r:Int}(hf:n.aD<18446744073709551616)(h:(aB n i).2=true)(hr:1<=r):aB (aP n i r).1 i=(r,true):=by
 rw[qQ hf h hr]
 exact H9 (KB h).1 (KB h).2 hr
inductive Wy(g:Ga)(s:St)(t:bC)(h:Nat)(r:Int):Nat->Int->Int->Prop
 |root:jV g r (0,h%64^0)->rd s t.root=r->Wy g s t h r 0 0 r
 |step {l:Nat} {pa i m j:Int}:Wy g s t h r l pa i->rd s (g.node i).main=m->tS g m (l,h%64^l)->(aB (g.node m) (slice h l)).2=true->(aB (g.node m) (slice h l)).1=j->jV g j (l+1,h%64^(l+1))->(g.node j).gen=(g.node r).gen->Wy g s t h r (l+1) i j
theorem i6(h:Nat):((0,h%64^0):fV)=(0,0):=by simp[Nat.mod_one]
structure Wf(g:Ga)(s:St)(t:bC)(h:Nat)(r:Int)(l:Nat)(pa i:Int):Prop where
 ii:jV g i (l,h%64^l)
 gen:(g.node i).gen=(g.node r).gen
 rt:jV g r (0,0)
 root:rd s t.root=r
 pp:l=0\/jV g pa (l-1,h%64^(l-1))
theorem Wy.wf{s:St}{t:bC}{h:Nat}{r pa i:Int}{l:Nat}(w:Wy g s t h r l pa i):Wf g s t h r l pa i:=by
 induction w with
 |root hi hr=>exact⟨hi,rfl,by rw[<- i6 h];exact hi,hr,.inl rfl⟩
 |step w hm hz hl hj hI hg ih=>exact⟨hI,hg,ih.rt,ih.root,.inr ih.ii⟩
theorem Wy.m6{g':Ga}{s s':St}{t:bC}{h:Nat}{r pa i:Int}{l:Nat}(w:Wy g s t h r l pa i)(hw:GW g)(hg:Ge g g')(hr:rd s' t.root=rd s t.root)(hl:Ml l g s s'):Wy g' s' t h r l pa i:=by
 induction w with
 |root hi hr'=>exact .root (hi.ge hg) (by rw[hr];exact hr')
 |@step l pa i m j w hm hz hb hj hI hgen ih=>
  have wf:=w.wf
  refine .step (m:=m) (ih (hl.less (Nat.le_succ l))) ?_ (hz.ge hg) (by rw[hg.node hz.dU];exact hb) (by rw[hg.node hz.dU];exact hj) (hI.ge hg) (by rw[hg.node hI.dU,hg.node wf.rt.dU];exact hgen)
  rw[hg.node wf.ii.dU,hl _ _ (hw.MO wf.ii) (Nat.lt_succ_self l)];exact hm
theorem Wf.at_{s:St}{t:bC}{h:Nat}{r pa i m:Int}{l:Nat}(w:Wf g s t h r l pa i)(hz:tS g m (l,h%64^l))(hm:rd s (g.node i).main=m):At g s t (l,h%64^l) r i m:=⟨w.rt,w.ii,hz,w.root,hm,w.gen.symm⟩
def Stop(g:Ga)(h l:Nat)(m:Int):Prop:=(aB (g.node m) (slice h l)).2=true->(g.node (aB (g.node m) (slice h l)).1).kind=4
theorem Stop.ge{g':Ga}{h l:Nat}{m:Int}{b:fV}(hs:Stop g h l m)(hw:GW g)(hm:oH g m b)(hg:Ge g g'):Stop g' h l m:=by
 intro hl
 rw[hg.node hm.dU]at hl ⊢
 have h1:=hs hl
 rw[hg.node (kI (by rw[h1];decide))];exact h1
def Vb(c:Call)(h:Nat)(gen:Int)(again:I Result)(k:Nat)(parent i level m:Int):I Result:=.node m λn=>
  bif n.kind==5 then qW c.aE parent i h (level-1) λ_=>again
  else bif n.kind==6 then mO c again i m n
  else bif n.kind==3 then
   bif !(aB n (slice h level)).2 then qY c again h i m n (slice h level)else .node (aB n (slice h level)).1 λx=>
    bif x.kind==4 then hX c again h i m n (slice h level) (aB n (slice h level)).1 x level gen
    else bif x.gen != gen then pD c.aE i m (slice h level) λb=>bif b==0 then again else gA c h gen again k i b (level+1)
    else gA c h gen again k i (aB n (slice h level)).1 (level+1)
  else .ret {}
theorem vL(c:Call)(h:Nat)(gen:Int)(again:I Result)(k:Nat)(parent i level:Int):gA c h gen again (k+1) parent i level=mM c.aE i (Vb c h gen again k parent i level):=rfl
section
variable(hro:c.aE.readOnly=false)(hkey:c.key.size<=64)
include hro hkey
theorem s6{s:St}{r pa i:Int}{l:Nat}(hw:GW g)(ht:Tk g c.aE)(w:Wf g s c.aE (aH c.key c.aI) r l pa i)(k n kk:Nat):Ls (gA c (aH c.key c.aI) (g.node r).gen (bO c kk n) k pa i l) g:=by
 obtain⟨a1,a2⟩:=ZH hw w.rt
 exact⟨_,Xu (K:=λ|some r=>.ret r|none=>yN c kk n) hro (eI _ _) hkey a1 k l pa i g hw ht w.ii w.pp a2 ⟨λg' h' hw' r hr=>.ret _ _ (q0 hr),λg' h' hw'=>Ur hro hkey n g' hw' (ht.ge h')⟩⟩
end
theorem FK{again:I Result}{s:St}{b:fV}{r i m:Int}{n:Node×Bool}{f:Bool}{v:Nat}(hT:Tw g s)(hk:Tk g c.aE)(hro:c.aE.readOnly=false)(hA:At g s c.aE b r i m)(hL:Ls (Ol c again i m n f v) g)(hf:∀b,cJ g n.1 b->eK s->n.1.Fit (s.aG.length+1)):(Ol c again i m n f v).Al oS 5 1 s:=by
 obtain⟨n1,n2⟩:=n
 cases n2 with
 |false=>exact trivial
 |true=>
  have hL:Ls (I.alloc n1 m λx=>swapT c.aE i m x λok=>bif !ok then again else .ret (dL f v)) g:=hL
  obtain⟨b2,hN,hJ,hL2⟩:=hL.alloc hT.gw
  obtain⟨hM,_⟩:=hL2.swap (eX hT.gw hN hJ) (hA.ii.ge (Ga.rM hT.gw n1 m b2))
  exact S1 (N:=0) (j:=0) (k:=λok=>bif !ok then again else .ret (dL f v)) hT hk hro hA hN hJ hM (hf b2 hN) λg' s' _ _ _ _ _ _=>trivial
theorem nO(n:Node)(i r:Int):(aP n i r).1.aF=[]:=by
 unfold aP;repeat' split
 all_goals rfl
theorem vC(n:Node)(i r:Int):(aS n i r).1.aF=[]:=by
 unfold aS;repeat' split
 all_goals rfl
theorem V3{x:Node}{at_:Int}{h v:Nat}{key:ByteArray}{gen:Int}{N j:Nat}{s0:St}:∀(n:Nat) (k:Int->I Result) (g:Ga) (s:St),Tw g s->Ls (uY x at_ h key v gen n k) g->(∀g' s' r,Ge g g'->Tw g' s'->Mc g s s'->Ls (k r) g'->(k r).Al oS N j s')->(uY x at_ h key v gen n k).Al oS N (j+2+2*n) s
 |0,k,g,s,hT,hL,H=>by
  obtain⟨b,hN,hJ,hL2⟩:=Ls.alloc hL hT.gw
  obtain⟨hT1,e1,h1,_,_⟩:=kU hT hN hJ
  refine Yw (j:=j+1) (λ_=>hN.fD (by show (gG _ _).length<=_;unfold gG;split<;>(simp only[QR,List.length_nil];omega))) ?_
  rw[e1]
  exact Al.mono (H _ _ _ h1 hT1 (Mc.alloc hT _ _) hL2) (JV _) (by omega)
 |n+1,k,g,s,hT,hL,H=>by
  rw[uY]at hL ⊢
  cases hs:slice h (11-((n+1:Nat):Int)) != slice x.hash (11-((n+1:Nat):Int))with
  |true=>
   rw[hs]at hL
   obtain⟨b,hN,hJ,hL2⟩:=Ls.alloc hL hT.gw
   obtain⟨hT1,e1,h1,_,_⟩:=kU hT hN hJ
   obtain⟨b2,hN2,hJ2,hL3⟩:=Ls.alloc hL2 hT1.gw
   obtain⟨hT2,e2,h2,_,_⟩:=kU hT1 hN2 hJ2
   rw[show j+2+2*(n+1)=(j+2+2*n+1)+1 by omega]
   refine Yw (j:=j+2+2*n+1) (λ_=>hN.fD (dF _)) ?_
   rw[e1]
   refine Yw (j:=j+2+2*n) (λ_=>hN2.fD (by rw[vC];exact dF _)) ?_
   rw[e2]
   exact Al.mono (H _ _ _ (h1.trans h2) hT2 ((Mc.alloc hT _ _).trans h1 (Mc.alloc hT1 _ _)) hL3) (JV _) (by omega)
  |false=>
   rw[hs]at hL
   show (uY x at_ h key v gen n _).Al oS N _ s
   rw[show j+2+2*(n+1)=(j+2)+2+2*n by omega]
   refine V3 (s0:=s0) n _ g s hT hL λg1 s1 r h1 hT1 hS1 hL1=>?_
   obtain⟨b,hN,hJ,hL2⟩:=Ls.alloc hL1 hT1.gw
   obtain⟨hT2,e2,h2,_,_⟩:=kU hT1 hN hJ
   obtain⟨b2,hN2,hJ2,hL3⟩:=Ls.alloc hL2 hT2.gw
   obtain⟨hT3,e3,h3,_,_⟩:=kU hT2 hN2 hJ2
   refine Yw (j:=j+1) (λ_=>hN.fD (dF _)) ?_
   rw[e2]
   refine Yw (j:=j) (λ_=>hN2.fD (by rw[vC];exact dF _)) ?_
   rw[e3]
   exact H _ _ _ ((h1.trans h2).trans h3) hT3 ((hS1.trans h1 (Mc.alloc hT1 _ _)).trans (h1.trans h2) (Mc.alloc hT2 _ _)) hL3
end Go.Ct
end
section
namespace Go.Ct
variable{g:Ga}{c:Call}
theorem Qf(l:Nat):((l+1:Nat):Int)-1=(l:Int):=by omega
theorem ZS{t:bC}{s:St}{r pp pa pm i m:Int}{h l N j:Nat}{k:Bool->I Result}(hT:Tw g s)(hk:Tk g t)(hro:t.readOnly=false)(w:Wy g s t h r l pp pa)(hpm:rd s (g.node pa).main=pm)(hz:tS g pm (l,h%64^l))(hl:(aB (g.node pm) (slice h l)).2=true)(hi:(aB (g.node pm) (slice h l)).1=i)
  (hI:jV g i (l+1,h%64^(l+1))) (hm:rd s (g.node i).main=m) (hzm:tS g m (l+1,h%64^(l+1))) (h5:(g.node m).kind=5)
  (H:∀g' s' x,Ge g g'->Tw g' s'->Wy g' s' t h r l pp pa->rd s' (g'.node pa).main=x->tS g' x (l,h%64^l)->Stop g' h l x->(k true).Al oS N j s'):(qW t pa i h l k).Al oS (N+9) (j+2) s:=by
 have wf:=w.wf
 have hk3:=Ai hl
 have hl10:=((hT.gw.ofM hz.m).c hk3).1
 have ed:=fP (h:=h) (l:=l) hl10
 refine BC (n:=N+7) hT wf.ii hz hpm λg1 s1 h1 hT1 hS1=>?_
 refine oW (hT1.PI.node pm) ?_
 rw[h1.node hz.dU,hl,hi,show (i != i)=false by simp]
 refine BC (n:=N+5) (b:=(l+1,h%64^(l+1))) hT1 (hI.ge h1) (hzm.ge h1) (by rw[h1.node hI.dU,hS1 _ _ (hT.gw.MO hI)];exact hm) λg2 s2 h2 hT2 hS2=>?_
 have a2:=h1.trans h2
 have b2:=hS1.trans h1 hS2
 refine oW (hT2.PI.node m) ?_
 have hu:(aT (g2.node m)).2=true:=by rw[a2.node hzm.dU];unfold aT;rw[if_pos h5]
 rw[hu]
 obtain⟨u1,u2,u3⟩:=Zb (hT2.gw.ofM (hzm.ge a2).m) hu
 refine oW (hT2.PI.node pm) ?_
 rw[a2.node hz.dU]
 obtain⟨hT3,e3,h3,_,_⟩:=kU hT2 (i:=0) u1 (wH (.inl u2))
 refine Yw (j:=j+1) (λ_=>u1.fD (by unfold aT;split<;>exact dF _)) ?_
 rw[e3]
 have hSx:=Cs (g:=g2) (n:=(aT (g2.node m)).1) (i:=0) (b:=(l+1,h%64^(l+1))) (b':=(l+1,h%64^(l+1))) u2 u3
 have a3:=a2.trans h3
 have b3:=b2.trans a2 (Mc.alloc hT2 (aT (g2.node m)).1 0)
 have hn3:=(hT3.gw.ofM (hz.ge a3).m)
 have en3:(g2.alloc (aT (g2.node m)).1 0 (l+1,h%64^(l+1))).node pm=g.node pm:=a3.node hz.dU
 rw[en3]at hn3
 obtain⟨p1,p2,p3⟩:=yY (r:=(g2.nodes.length:Int)+3) hn3 hk3 hl (.inr (by rw[ed];exact hSx))
 obtain⟨Lf,hLf⟩:=hn3.fit
 have hbu:=qQ (n:=g.node pm) (i:=slice h l) (r:=(g2.nodes.length:Int)+3) hLf.bm hl (by omega)
 obtain⟨q1,q2⟩:=qO (i:=slice h l) (l:=(l:Int)) p1 (by rw[hbu]) (s:=(aT (g2.node m)).1) (λ_=>⟨u1.hash,u1.key,by rw[ed];exact u3⟩) rfl
 show (bif !(aP (g.node pm) (slice h l) _).2 then k false else _:I Result).Al oS _ _ _
 rw[p2]
 have hA:=(wf.at_ hz hpm).m6 hT.gw hk a3 b3
 refine S1 (j:=j) hT3 (hk.ge a3) hro hA q1 (mZ q2 (.inr (hz.ge a3))) (kQ hT3.gw q2) (λ_=>q1.fD (by
  unfold bQ;split
  ·exact dF _
  ·rw[nO];exact dF _)) λg' s' a4 hT4 hz4 hm4 hr4 hl4=>?_
 have a5:=Ga.rM hT3.gw (bQ (aP (g.node pm) (slice h l) ((g2.nodes.length:Int)+3)).1 l (aT (g2.node m)).1) pm (l,h%64^l)
 have aa:=a3.trans (a5.trans a4)
 refine H g' s' _ aa hT4 (w.m6 hT.gw aa (by rw[hr4,wf.root]) (b3.ml.trans a3 hl4)) ?_ hz4 ?_
 ·rw[aa.node wf.ii.dU];rw[(a3.trans (a5.trans a4)).node wf.ii.dU]at hm4;exact hm4
 ·intro hb
  have en:g'.node ((g2.alloc (aT (g2.node m)).1 0 (l+1,h%64^(l+1))).nodes.length+3)=(bQ (aP (g.node pm) (slice h l) ((g2.nodes.length:Int)+3)).1 l (aT (g2.node m)).1).stored ((g2.alloc (aT (g2.node m)).1 0 (l+1,h%64^(l+1))).ty.length+1):=by
   rw[a4.node (kQ hT3.gw q2:oH _ _ (l,h%64^l)).dU,yE]
  rw[en,Jj q1.valid (by omega)]at hb ⊢
  have hc:bQ (aP (g.node pm) (slice h l) ((g2.nodes.length:Int)+3)).1 l (aT (g2.node m)).1=(aP (g.node pm) (slice h l) ((g2.nodes.length:Int)+3)).1:=by
   unfold bQ at hb ⊢
   split
   ·rename_i hq
    rw[if_pos hq]at hb
    have:=Ai hb
    exact absurd this (by show ¬((5:Int)=3);decide)
   ·rfl
  rw[hc,ZR hLf.bm hl (by omega)]
  have hS':=(hSx.ge (a5.trans a4)).1
  exact hS'
theorem G8{t:bC}{s:St}{r pa i m:Int}{h l N j:Nat}{k:Int->I Result}(hT:Tw g s)(hk:Tk g t)(hro:t.readOnly=false)(w:Wy g s t h r l pa i)(hm:rd s (g.node i).main=m)(hz:tS g m (l,h%64^l))(hl:(aB (g.node m) (slice h l)).2=true)(hI:jV g (aB (g.node m) (slice h l)).1 (l+1,h%64^(l+1)))
  (H:∀g' s' x,Ge g g'->Tw g' s'->Wy g' s' t h r (l+1) i x->(k x).Al oS N j s'):(pD t i m (slice h l) k).Al oS (N+15) (j+3) s:=by
 have wf:=w.wf
 have hk3:=Ai hl
 have hl10:=((hT.gw.ofM hz.m).c hk3).1
 have ed:=fP (h:=h) (l:=l) hl10
 refine oW (hT.PI.node m) ?_
 rw[hl]
 refine Au (n:=N+5) (j:=j+2) hT hk hI λg1 s1 m2 h1 hT1 hz2 hm2 hR1 hl1=>?_
 have w1:Wy g1 s1 t h r l pa i:=w.m6 hT.gw h1 (hR1.i (by rw[wf.root];exact wf.rt)) (hl1.less (Nat.le_succ l))
 have wf1:=w1.wf
 have hm1:rd s1 (g1.node i).main=m:=by rw[h1.node wf.ii.dU,hl1 _ _ (hT.gw.MO wf.ii) (Nat.lt_succ_self l)];exact hm
 refine oW (hT1.PI.node i) ?_
 have hgen:=ZH hT1.gw wf1.ii
 have hN:=rH (g:=g1) (x:=(g1.node i).gen) (b:=(l+1,h%64^(l+1))) hgen.1 hgen.2 (by show l+1<=11;omega)
 have hJ:Tb g1 {kind:=2,gen:=(g1.node i).gen} m2 (l+1,h%64^(l+1)):=⟨λ_=>hz2.m,(λh=>by cases h),λh=>by cases h⟩
 obtain⟨hT2,e2,h2,_,_⟩:=kU hT1 hN hJ
 refine Yw (j:=j+1) (λ_=>hN.fD (dF _)) ?_
 rw[e2]
 have a2:=h1.trans h2
 have hI2:=oU hT1.gw (n:={kind:=2,gen:=(g1.node i).gen}) (i:=m2) (b:=(l+1,h%64^(l+1))) rfl
 refine oW (hT2.PI.node m) ?_
 rw[a2.node hz.dU]
 have hn2:=hT2.gw.ofM (hz.ge a2).m
 rw[a2.node hz.dU]at hn2
 obtain⟨p1,p2,p3⟩:=yY (r:=(g1.nodes.length:Int)+3) hn2 hk3 hl (.inl (by rw[ed];exact hI2))
 obtain⟨Lf,hLf⟩:=hn2.fit
 rw[p2]
 have hS2:=Mc.alloc hT1 {kind:=2,gen:=(g1.node i).gen} m2
 have hA:=(wf1.at_ (hz.ge h1) hm1).m6 hT1.gw (hk.ge h1) h2 hS2
 refine S1 (j:=j) hT2 (hk.ge a2) hro hA p1 (mZ p3 (.inr (hz.ge a2))) (kQ hT2.gw p3) (λ_=>p1.fD (by rw[nO];exact dF _)) λg' s' a3 hT3 hz3 hm3 hr3 hl3=>?_
 have a4:=Ga.rM hT2.gw (aP (g.node m) (slice h l) ((g1.nodes.length:Int)+3)).1 m (l,h%64^l)
 have ab:=a4.trans a3
 have hI3:=hI2.ge ab
 have w3:Wy g' s' t h r l pa i:=w1.m6 hT1.gw (h2.trans ab) (by rw[hr3,wf1.root]) (hS2.ml.trans h2 hl3)
 have eN:g'.node ((g1.alloc {kind:=2,gen:=(g1.node i).gen} m2 (l+1,h%64^(l+1))).nodes.length+3)=(aP (g.node m) (slice h l) ((g1.nodes.length:Int)+3)).1.stored ((g1.alloc {kind:=2,gen:=(g1.node i).gen} m2 (l+1,h%64^(l+1))).ty.length+1):=by
  rw[a3.node (kQ hT2.gw p3:oH _ _ (l,h%64^l)).dU,yE]
 have bl:=ZR (n:=g.node m) (i:=slice h l) (r:=(g1.nodes.length:Int)+3) hLf.bm hl (by omega)
 refine H g' s' _ ((a2.trans ab)) hT3 (.step w3 hm3 hz3 (by rw[eN,Jj p1.valid (by omega),bl]) (by rw[eN,Jj p1.valid (by omega),bl]) hI3 ?_)
 rw[ab.node hI2.dU,yE]
 show (g1.node i).gen=(g'.node r).gen
 rw[(h2.trans ab).node wf1.rt.dU,wf1.gen]
def TA(c:Call)(l:Nat):Prop:=∀(g:Ga) (s:St) (r pa i m:Int) (kk n:Nat),Tw g s->Tk g c.aE->Wy g s c.aE (aH c.key c.aI) r l pa i->rd s (g.node i).main=m->tS g m (l,aH c.key c.aI%64^l)->Stop g (aH c.key c.aI) l m->12<=kk->(bO c kk n).Al oS (45*(l+1)) (60*(l+1)) s
theorem aA0{s:St}{r pa i:Int}{l n kk N j:Nat}(hT:Tw g s)(hk:Tk g c.aE)(w:Wy g s c.aE (aH c.key c.aI) r l pa i)(hl:l<=kk)(P:∀g' s',Ge g g'->Tw g' s'->Mc g s s'->(gA c (aH c.key c.aI) (g.node r).gen (bO c kk n) (kk-l) pa i l).Al oS N j s'):
  ∀g' s',Ge g g'->Tw g' s'->Mc g s s'->(gA c (aH c.key c.aI) (g.node r).gen (bO c kk n) kk 0 r 0).Al oS (N+2*l) j s':=by
 induction w generalizing N with
 |root hi hr=>exact P
 |@step l pa i m x w hm hz hb hx hI hgen ih=>
  have wf:=w.wf
  have hk3:=Ai hb
  intro g' s' a b d
  refine Al.mono (ih (N:=N+2) (by omega) (λg1 s1 h1 hT1 hS1=>?_) g' s' a b d) (by omega) (JV _)
  rw[show kk-l=(kk-(l+1))+1 by omega,vL]
  refine BC (b:=(l,aH c.key c.aI%64^l)) hT1 (wf.ii.ge h1) (hz.ge h1) (by rw[h1.node wf.ii.dU,hS1 _ _ (hT.gw.MO wf.ii)];exact hm) λg2 s2 h2 hT2 hS2=>?_
  have a2:=h1.trans h2
  refine oW (hT2.PI.node m) ?_
  rw[a2.node hz.dU]
  show (bif (g.node m).kind==5 then _ else bif (g.node m).kind==6 then _ else bif (g.node m).kind==3 then _ else _:I Result).Al oS N j s2
  rw[show ((g.node m).kind==5)=false by rw[hk3];rfl,show ((g.node m).kind==6)=false by rw[hk3];rfl,show ((g.node m).kind==3)=true by rw[hk3];rfl]
  simp only[xM,pJ]
  rw[hb,hx]
  show (I.node x _).Al oS N j s2
  refine oW (hT2.PI.node x) ?_
  rw[a2.node hI.dU,show ((g.node x).kind==4)=false by rw[hI.1];rfl,hgen,show ((g.node r).gen != (g.node r).gen)=false by simp]
  simp only[pJ]
  have:=P g2 s2 a2 hT2 (hS1.trans h1 hS2)
  rw[show (((l+1:Nat):Int))=(l:Int)+1 by omega]at this
  exact this
section
variable(hro:c.aE.readOnly=false)(hkey:c.key.size<=64)
include hro hkey
theorem U6{s:St}{r pa i m:Int}{l n kk k:Nat}(IH:∀l',l'<l->TA c l')(hT:Tw g s)(hk:Tk g c.aE)(w:Wy g s c.aE (aH c.key c.aI) r l pa i)(hm:rd s (g.node i).main=m)(hz:tS g m (l,aH c.key c.aI%64^l))(hs:Stop g (aH c.key c.aI) l m)(hkk:12<=kk):
  (Vb c (aH c.key c.aI) (g.node r).gen (bO c kk n) k pa i l m).Al oS (45*l+20) (60*l+40) s:=by
 have wf:=w.wf
 have hA:=wf.at_ hz hm
 have hL:Ls (Vb c (aH c.key c.aI) (g.node r).gen (bO c kk n) k pa i l m) g:=
  Ls.read (by have:=s6 hro hkey hT.gw hk wf (k+1) n kk;rw[vL]at this;exact this) hT.gw wf.ii (Ge.refl hT.gw) hT.gw hz
 have hL:=Ls.node hL
 refine oW (hT.PI.node m) ?_
 rcases sH hz.m with h3|h5|h6
 ·rw[show ((g.node m).kind==5)=false by rw[h3];rfl,show ((g.node m).kind==6)=false by rw[h3];rfl,show ((g.node m).kind==3)=true by rw[h3];rfl]at hL ⊢
  simp only[xM,pJ]at hL ⊢
  cases hb:(aB (g.node m) (slice (aH c.key c.aI) l)).2 with
  |false=>
   rw[hb]at hL
   have hL:Ls (qY c (bO c kk n) (aH c.key c.aI) i m (g.node m) (slice (aH c.key c.aI) l)) g:=hL
   show (qY c (bO c kk n) (aH c.key c.aI) i m (g.node m) (slice (aH c.key c.aI) l)).Al oS _ _ s
   unfold qY at hL ⊢
   cases hp:cS c false 0 with
   |false=>exact trivial
   |true=>
    rw[hp]at hL
    obtain⟨b,hN,hJ,hL2⟩:=Ls.alloc hL hT.gw
    obtain⟨hT1,e1,h1,_,_⟩:=kU hT hN hJ
    refine Al.mono (Yw (j:=1) (n:=5) (λ_=>hN.fD (dF _)) ?_) (by omega) (by omega)
    rw[e1]
    exact FK hT1 (hk.ge h1) hro (hA.m6 hT.gw hk h1 (Mc.alloc hT _ _)) hL2 λb hb _=>hb.fD (by rw[vC];exact dF _)
  |true=>
   rw[hb]at hL
   have hL:=Ls.node hL
   refine oW (hT.PI.node _) ?_
   have h4:=hs hb
   rw[show ((g.node (aB (g.node m) (slice (aH c.key c.aI) l)).1).kind==4)=true by rw[h4];rfl]at hL ⊢
   simp only[xM]at hL ⊢
   generalize (aB (g.node m) (slice (aH c.key c.aI) l)).1=at_ at *
   unfold hX at hL ⊢
   cases hq:bR (g.node at_).key c.key with
   |true=>
    rw[hq]at hL
    simp only[xM]at hL ⊢
    cases hp:cS c true (g.node at_).value with
    |false=>exact trivial
    |true=>
     rw[hp]at hL
     obtain⟨b,hN,hJ,hL2⟩:=Ls.alloc hL hT.gw
     obtain⟨hT1,e1,h1,_,_⟩:=kU hT hN hJ
     refine Al.mono (Yw (j:=1) (n:=5) (λ_=>hN.fD (dF _)) ?_) (by omega) (by omega)
     rw[e1]
     exact FK hT1 (hk.ge h1) hro (hA.m6 hT.gw hk h1 (Mc.alloc hT _ _)) hL2 λb hb _=>hb.fD (by rw[nO];exact dF _)
   |false=>
    rw[hq]at hL
    simp only[pJ]at hL ⊢
    cases hp:cS c false 0 with
    |false=>exact trivial
    |true=>
     rw[hp]at hL
     simp only[zT,pJ]at hL ⊢
     unfold vJ at hL ⊢
     cases hc1:decide ((l:Int)+1<0)||(decide ((l:Int)+1>11)||decide ((g.node r).gen<1))with
     |true=>exact trivial
     |false=>
      rw[hc1]at hL
      simp only[pJ]at hL ⊢
      have hL:=Ls.node hL
      refine oW (hT.PI.node _) ?_
      cases hc2:(g.node at_).kind != 4||(decide (64<c.key.size)||bR c.key (g.node at_).key)with
      |true=>exact trivial
      |false=>
       rw[hc2]at hL
       simp only[pJ]at hL ⊢
       cases hc3:decide ((aJ (g.node at_).hash (aH c.key c.aI):Int)<(l:Int)+1)with
       |true=>exact trivial
       |false=>
        rw[hc3]at hL
        simp only[pJ]at hL ⊢
        refine Al.mono (V3 (N:=5) (j:=2) (s0:=s) _ _ g s hT hL λg1 s1 x h1 hT1 hS1 hL1=>?_) (by omega) (by omega)
        obtain⟨b,hN,hJ,hL2⟩:=Ls.alloc hL1 hT1.gw
        obtain⟨hT2,e2,h2,_,_⟩:=kU hT1 hN hJ
        show (I.alloc {kind:=2,gen:=(g.node r).gen} x _).Al oS 5 2 s1
        refine Yw (j:=1) (λ_=>hN.fD (dF _)) ?_
        rw[e2]
        exact FK hT2 (hk.ge (h1.trans h2)) hro (hA.m6 hT.gw hk (h1.trans h2) (hS1.trans h1 (Mc.alloc hT1 _ _))) hL2 λb hb _=>hb.fD (by rw[nO];exact dF _)
 ·have h1l:1<=l:=((hT.gw.ofM hz.m).t h5).1
  rw[show ((g.node m).kind==5)=true by rw[h5];rfl]
  show (qW c.aE pa i (aH c.key c.aI) ((l:Int)-1) λ_=>bO c kk n).Al oS _ _ s
  obtain⟨l',rfl⟩:∃l',l=l'+1:=⟨l-1,by omega⟩
  rw[Qf]
  cases w with
  |step w0 hpm hzp hlb hj hI hgen=>
   exact Al.mono (ZS (N:=45*(l'+1)) (j:=60*(l'+1)) hT hk hro w0 hpm hzp hlb hj hI hm hz h5 λg' s' x a b d e f i=>IH l' (by omega) g' s' r _ _ x kk n b (hk.ge a) d e f i hkk) (by omega) (by omega)
 ·rw[show ((g.node m).kind==5)=false by rw[h6];rfl,show ((g.node m).kind==6)=true by rw[h6];rfl]at hL ⊢
  simp only[xM,pJ]at hL ⊢
  unfold mO at hL ⊢
  cases hp:cS c (bB (g.node m).aF c.key).2 (bB (g.node m).aF c.key).1 with
  |false=>exact trivial
  |true=>
   rw[hp]at hL
   refine Al.mono (FK hT hk hro hA hL λb _ hf=>?_) (by omega) (by omega)
   have:=hf.node m
   rw[hT.PI.node]at this
   exact Ch this _ _
theorem X2:∀l,TA c l:=by
 intro l
 induction l using Nat.strongRecOn with
 |ind l IH=>
  intro g s r pa i m kk n hT hk w hm hz hs hkk
  have wf:=w.wf
  cases n with
  |zero=>exact trivial
  |succ n=>
  have h11:l<=11:=((hT.gw.YW wf.ii).i wf.ii.1).2
  obtain⟨g1,h1,hT1,_⟩:=hT.val (hk.root hro)
  show (uO c.aE λr=>.node r λa=>gA c (aH c.key c.aI) a.gen (bO c kk n) kk 0 r 0).Al oS (45*(l+1)) (60*(l+1)) s
  refine Al.mono (n:=(45*l+22)+2*l+1) (i:=60*l+40) (Vn (oW (hT1.PI.node _) ?_)) (by omega) (by omega)
  rw[wf.root,h1.node wf.rt.dU,wf.rt.1]
  refine oW (hT1.PI.node r) ?_
  have w1:=w.m6 (s':=(s.load c.aE.root).1) hT.gw h1 rfl (Et _ _)
  have hd:=aA0 (n:=n) (kk:=kk) (N:=45*l+22) (j:=60*l+40) hT1 (hk.ge h1) w1 (by omega) (λg2 s2 h2 hT2 hS2=>?_) g1 _ (Ge.refl hT1.gw) hT1 (Mc.refl _)
  ·exact hd
  ·have a2:=h1.trans h2
   have wf1:=w1.wf
   have hm1:rd (s.load c.aE.root).1 (g1.node i).main=m:=by rw[h1.node wf.ii.dU];exact hm
   have w2:=w1.m6 hT1.gw h2 (hS2 _ _ ((hk.ge h1).root hro)) hS2.ml
   have wf2:=w2.wf
   obtain⟨k,hk1⟩:∃k,kk-l=k+1:=⟨kk-l-1,by omega⟩
   rw[hk1,vL]
   refine BC (n:=45*l+20) hT2 wf2.ii (hz.ge a2) (by rw[h2.node wf1.ii.dU,hS2 _ _ (hT1.gw.MO wf1.ii)];exact hm1) λg3 s3 h3 hT3 hS3=>?_
   have w3:=w2.m6 hT2.gw h3 (hS3 _ _ ((hk.ge a2).root hro)) hS3.ml
   have a3:=a2.trans h3
   have:=U6 hro hkey (k:=k) (kk:=kk) (n:=n) IH hT3 (hk.ge a3) w3 (by rw[h3.node wf2.ii.dU,hS3 _ _ (hT2.gw.MO wf2.ii),h2.node wf1.ii.dU,hS2 _ _ (hT1.gw.MO wf1.ii)];exact hm1) (hz.ge a3) (hs.ge hT.gw hz.m a3) hkk
   rw[(h2.trans h3).node wf1.rt.dU]at this
   exact this
end
end Go.Ct
end
section
namespace Go.Ct
variable{g:Ga}{c:Call}
section
variable(hro:c.aE.readOnly=false)(hkey:c.key.size<=64)
include hro hkey
theorem PC:∀(d l k:Nat) (g:Ga) (s:St) (r pa i:Int) (kk n:Nat),l+d=12->d<=k->12<=kk->Tw g s->Tk g c.aE->Wy g s c.aE (aH c.key c.aI) r l pa i->(gA c (aH c.key c.aI) (g.node r).gen (bO c kk n) k pa i l).Al oS (560+30*d) (840+10*d) s
 |0,l,k,g,s,r,pa,i,kk,n,hd,hk,hkk,hT,ht,w=>by
  have:=((hT.gw.YW w.wf.ii).i w.wf.ii.1).2
  exact absurd (show l<=11 from this) (by omega)
 |d+1,l,0,g,s,r,pa,i,kk,n,hd,hk,hkk,hT,ht,w=>absurd hk (by omega)
 |d+1,l,k+1,g,s,r,pa,i,kk,n,hd,hk,hkk,hT,ht,w=>by
  have wf:=w.wf
  rw[vL]
  refine Al.mono (Au (n:=560+30*d+20) (j:=840+10*d+5) hT ht wf.ii λg1 s1 m h1 hT1 hz hm hR hl=>?_) (by omega) (by omega)
  have w1:=w.m6 hT.gw h1 (hR.i (by rw[wf.root];exact wf.rt)) hl
  have wf1:=w1.wf
  have ht1:=ht.ge h1
  have er:=h1.node wf.rt.dU
  by_cases hs:Stop g1 (aH c.key c.aI) l m
  ·have:=U6 hro hkey (k:=k) (kk:=kk) (n:=n) (λl' _=>X2 hro hkey l') hT1 ht1 w1 hm hz hs hkk
   rw[er]at this
   exact Al.mono this (by omega) (by omega)
  ·have hb:(aB (g1.node m) (slice (aH c.key c.aI) l)).2=true:=by
    cases hq:(aB (g1.node m) (slice (aH c.key c.aI) l)).2 with
    |true=>rfl
    |false=>exact absurd (λh=>by rw[hq]at h;cases h) hs
   have h4:(g1.node (aB (g1.node m) (slice (aH c.key c.aI) l)).1).kind≠4:=λh=>hs λ_=>h
   have hk3:=Ai hb
   have hn1:=hT1.gw.ofM hz.m
   have hl10:=(hn1.c hk3).1
   have ed:=fP (h:=aH c.key c.aI) (l:=l) hl10
   have hI:jV g1 (aB (g1.node m) (slice (aH c.key c.aI) l)).1 (l+1,aH c.key c.aI%64^(l+1)):=by
    rcases(hn1.c hk3).2.2 _ hb with h|h
    ·rw[ed]at h;exact h
    ·exact absurd h.1 h4
   refine oW (hT1.PI.node m) ?_
   show (bif (g1.node m).kind==5 then _ else bif (g1.node m).kind==6 then _ else bif (g1.node m).kind==3 then _ else _:I Result).Al oS _ _ s1
   rw[show ((g1.node m).kind==5)=false by rw[hk3];rfl,show ((g1.node m).kind==6)=false by rw[hk3];rfl,show ((g1.node m).kind==3)=true by rw[hk3];rfl]
   simp only[xM,pJ]
   rw[hb]
   show (I.node _ _).Al oS _ _ s1
   refine oW (hT1.PI.node _) ?_
   rw[show ((g1.node (aB (g1.node m) (slice (aH c.key c.aI) l)).1).kind==4)=false by rw[hI.1];rfl]
   simp only[pJ]
   cases hg:(g1.node (aB (g1.node m) (slice (aH c.key c.aI) l)).1).gen != (g.node r).gen with
   |false=>
    simp only[pJ]
    have hge:(g1.node (aB (g1.node m) (slice (aH c.key c.aI) l)).1).gen=(g1.node r).gen:=by rw[er];simpa using hg
    have:=PC d (l+1) k g1 s1 r i _ kk n (by omega) (by omega) hkk hT1 ht1 (.step w1 hm hz hb rfl hI hge)
    rw[er,show (((l+1:Nat):Int))=(l:Int)+1 by omega]at this
    exact Al.mono this (by omega) (by omega)
   |true=>
    simp only[xM]
    refine Al.mono (G8 (N:=560+30*d) (j:=840+10*d) hT1 ht1 hro w1 hm hz hb hI λg2 s2 x h2 hT2 w2=>?_) (by omega) (by omega)
    have hx1:=w2.wf.ii.one
    rw[show (x==0)=false by simp;omega]
    have:=PC d (l+1) k g2 s2 r i x kk n (by omega) (by omega) hkk hT2 (ht1.ge h2) w2
    rw[h2.node wf1.rt.dU,er,show (((l+1:Nat):Int))=(l:Int)+1 by omega]at this
    exact this
theorem E'{s:St}{kk n:Nat}(hkk:12<=kk)(hT:Tw g s)(ht:Tk g c.aE):(bO c kk (n+1)).Al oS 935 961 s:=by
 show (uO c.aE λr=>.node r λa=>gA c (aH c.key c.aI) a.gen (bO c kk n) kk 0 r 0).Al oS 935 961 s
 refine AZ (n:=920) (j:=960) hT ht λg1 s1 r h1 hT1 hr hq=>oW (hT1.PI.node r) ?_
 exact PC hro hkey 12 0 kk g1 s1 r 0 r kk n rfl hkk hkk hT1 (ht.ge h1) (.root (by rw[i6];exact hr) hq)
end
theorem aAo{s:St}(hro:c.aE.readOnly=false)(hT:Tw g s)(ht:Tk g c.aE):(RN c FU).Al oS 935 961 s:=by
 unfold RN
 cases hv:!bU c.key||(decide (c.bF<0)||decide (c.bF>3))with
 |true=>exact trivial
 |false=>
  have hkey:c.key.size<=64:=by
   have:bU c.key=true:=by simp at hv;exact hv.1
   unfold bU at this;simpa using this
  have e:bO c FU FU=bO c FU (99999999+1):=rfl
  simp only[pJ]
  rw[e]
  exact E' hro hkey (by decide) hT ht
end Go.Ct
end
