/- Parts of a proof: C4, Sa2, Sa3, Rs. -/
import Derived.Test.YtnhdmcipglnkfaaGreatW22
set_option linter.unusedVariables false
set_option linter.unusedSimpArgs false
set_option maxRecDepth 100000
set_option maxHeartbeats 4000000
section
namespace Go.Ct
variable{β:Type}
def vO(key:ByteArray)(x:Node):I Result:=bif bR x.key key then .ret (cC true x.value)else .ret {}
def pG(t:bC)(key:ByteArray)(h:Nat):Nat->Int->Int->I Result
 |0,_,_=>.ret {}
 |n+1,i,level=>mM t i λr=>.node r λm=>
  bif m.kind==3 then bif !(aB m (slice h level)).2 then .ret {}else .node (aB m (slice h level)).1 λx=>bif x.kind==4 then vO key x else pG t key h n (aB m (slice h level)).1 (level+1)
  else bif m.kind==5 then vO key m else bif m.kind==6 then bif (bB m.aF key).2 then .ret (cC true (bB m.aF key).1)else .ret {}else .ret {}
def FN(c:Call)(n:Nat):I Result:=bif !bU c.key then .ret {err:=1}else uO c.aE λr=>pG c.aE c.key (aH c.key c.aI) n r 0
def Ol(c:Call)(again:I Result)(i m:Int)(n:Node×Bool)(found:Bool)(v:Nat):I Result:=
 bif !n.2 then .ret {}else .alloc n.1 m λr=>swapT c.aE i m r λok=>bif !ok then again else .ret (dL found v)
def mO(c:Call)(again:I Result)(i m:Int)(n:Node):I Result:=
 bif !cS c (bB n.aF c.key).2 (bB n.aF c.key).1 then .ret (cC (bB n.aF c.key).2 (bB n.aF c.key).1)
 else Ol c again i m (grown n c.key c.value) (bB n.aF c.key).2 (bB n.aF c.key).1
def qY(c:Call)(again:I Result)(h:Nat)(i m:Int)(n:Node)(ix:Int):I Result:=
 bif !cS c false 0 then .ret (cC false 0)else .alloc {kind:=4,hash:=h,key:=c.key,value:=c.value} 0 λx=>Ol c again i m (aS n ix x) false 0
def uY(x:Node)(at_:Int)(h:Nat)(key:ByteArray)(v:Nat)(gen:Int):Nat->(Int->I β)->I β
 |0,k=>.alloc {kind:=6,hash:=h,aF:=gG ⟨x.key,x.value⟩ ⟨key,v⟩} 0 k
 |n+1,k=>bif slice h (11-((n+1:Nat):Int)) != slice x.hash (11-((n+1:Nat):Int))then
   .alloc {kind:=4,hash:=h,key:=key,value:=v} 0 λs=>.alloc (aS (aS {kind:=3} (slice x.hash (11-((n+1:Nat):Int))) at_).1 (slice h (11-((n+1:Nat):Int))) s).1 0 k
  else uY x at_ h key v gen n λm=>.alloc {kind:=2,gen:=gen} m λi=>.alloc (aS {kind:=3} (slice h (11-((n+1:Nat):Int))) i).1 0 k
def vJ(at_:Int)(h:Nat)(key:ByteArray)(v:Nat)(level gen:Int)(k:Int->Int->I β):I β:=
 bif decide (level<0)||(decide (level>11)||decide (gen<1))then k 0 2 else .node at_ λx=>
  bif x.kind != 4||(decide (64<key.size)||bR key x.key)then k 0 1 else bif decide ((aJ x.hash h:Int)<level)then k 0 1 else uY x at_ h key v gen (11-level).toNat λr=>k r 0
def hX(c:Call)(again:I Result)(h:Nat)(i m:Int)(n:Node)(ix b:Int)(x:Node)(level gen:Int):I Result:=
 bif bR x.key c.key then
  bif !cS c true x.value then .ret (cC true x.value)else .alloc {kind:=4,hash:=h,key:=c.key,value:=c.value} 0 λy=>Ol c again i m (aP n ix y) true x.value
 else bif !cS c false 0 then .ret (cC false 0)else vJ b h c.key c.value (level+1) gen λs e=>bif e != 0 then .ret {err:=e}else
  .alloc {kind:=2,gen:=gen} s λj=>Ol c again i m (aP n ix j) false 0
def gA(c:Call)(h:Nat)(gen:Int)(again:I Result):Nat->Int->Int->Int->I Result
 |0,_,_,_=>again
 |k+1,parent,i,level=>mM c.aE i λm=>.node m λn=>
  bif n.kind==5 then qW c.aE parent i h (level-1) λ_=>again
  else bif n.kind==6 then mO c again i m n
  else bif n.kind==3 then
   bif !(aB n (slice h level)).2 then qY c again h i m n (slice h level)else .node (aB n (slice h level)).1 λx=>
    bif x.kind==4 then hX c again h i m n (slice h level) (aB n (slice h level)).1 x level gen
    else bif x.gen != gen then pD c.aE i m (slice h level) λb=>bif b==0 then again else gA c h gen again k i b (level+1)
    else gA c h gen again k i (aB n (slice h level)).1 (level+1)
  else .ret {}
def bO(c:Call)(k:Nat):Nat->I Result
 |0=>.ret {}
 |n+1=>uO c.aE λr=>.node r λa=>gA c (aH c.key c.aI) a.gen (bO c k n) k 0 r 0
def RN(c:Call)(n:Nat):I Result:=bif !bU c.key||(decide (c.bF<0)||decide (c.bF>3))then .ret {err:=1}else bO c n n
def YV(c:Call)(path:List Int)(h v:Nat):Nat->I Result
 |0=>.ret (dL true v)
 |l+1=>mM c.aE (path.getD (l+1) 0) λm=>.node m λn=>bif n.kind != 5 then .ret (dL true v)else
  qW c.aE (path.getD l 0) (path.getD (l+1) 0) h l λ_=>YV c path h v l
def wM(c:Call)(again:I Result)(path:List Int)(h:Nat)(i m:Int)(n:Node)(v:Nat):I Result:=
 .alloc n m λr=>swapT c.aE i m r λok=>bif !ok then again else YV c path h v (path.length-1)
def Qj(c:Call)(v:Nat):Bool:=!c.only||v==c.expect
def vA(c:Call)(again:I Result)(path:List Int)(h:Nat)(i m:Int)(n:Node):I Result:=
 bif !(bB n.aF c.key).2 then .ret {}else bif !Qj c (bB n.aF c.key).1 then .ret (cC true (bB n.aF c.key).1)
 else bif !(gC n c.key).2 then .ret {}else wM c again path h i m (gC n c.key).1 (bB n.aF c.key).1
def Pp(c:Call)(again:I Result)(path:List Int)(h:Nat)(i m:Int)(n:Node)(level:Int)(x:Node):I Result:=
 bif !bR x.key c.key then .ret {}else bif !Qj c x.value then .ret (cC true x.value)
 else bif (fF (bL n (slice h level)).1).2 then .node (fF (bL n (slice h level)).1).1 λq=>wM c again path h i m (bQ (bL n (slice h level)).1 level q) x.value
 else wM c again path h i m (bQ (bL n (slice h level)).1 level {}) x.value
def pM(c:Call)(h:Nat)(gen:Int)(again:I Result):Nat->List Int->Int->Nat->I Result
 |0,_,_,_=>again
 |k+1,path,i,level=>mM c.aE i λm=>.node m λn=>
  bif n.kind==5 then qW c.aE (bif decide (0<level)then path.getD (level-1) 0 else 0) i h ((level:Int)-1) λ_=>again
  else bif n.kind==6 then vA c again path h i m n
  else bif n.kind==3 then
   bif !(aB n (slice h level)).2 then .ret {}else .node (aB n (slice h level)).1 λx=>
    bif x.kind==4 then Pp c again path h i m n level x
    else bif x.gen != gen then pD c.aE i m (slice h level) λb=>bif b==0 then again else pM c h gen again k (path++[b]) b (level+1)
    else pM c h gen again k (path++[(aB n (slice h level)).1]) (aB n (slice h level)).1 (level+1)
  else .ret {}
def yQ(c:Call)(k:Nat):Nat->I Result
 |0=>.ret {}
 |n+1=>uO c.aE λr=>.node r λa=>pM c (aH c.key c.aI) a.gen (yQ c k n) k [r] r 0
def SP(c:Call)(n:Nat):I Result:=bif !bU c.key then .ret {err:=1}else yQ c n n
def mS(c:Call)(n:Nat):I Result:=
 if c.kind=7 then FN c n else if c.kind=8 then RN c n else if c.kind=9 then SP c n
 else if c.kind=10 then Cg c.aE n else if c.kind=11 then Qg c.aE n else if c.kind=14 then RE c.aE n (Mz n)else iT c.aE n
end Go.Ct
end
section
namespace Go.Ct
variable{β:Type}{g:Ga}[Qc β]
theorem q0{r:Result}(h:r.aE={}):Qc.q g r:=.inl (by rw[h];exact JA 0)
theorem yD{g g':Ga}(h:Ge g g'):g.gen<=g'.gen:=h.gen
theorem Za{t:bC}(hro:t.readOnly=false):∀(n:Nat) (g:Ga),GW g->Tk g t->Sm (iT t n) (vK t n) g
 |0,g,hw,ht=>.ret _ g (q0 rfl)
 |n+1,g,hw,ht=>Bk hw ht λg1 h1 hw1 r hr=>mN hw1 (ht.ge h1) hr λg2 h2 hw2 m hm=>.alloc (0,0) (Js (by decide) (by decide)) ⟨(λh=>by cases h),(λ_=>.inl rfl),λh=>by cases h⟩ λh3 hw3=>
  .gen λh4 hw4=>.alloc (0,0) (rH (by omega) (by show _<=((_+1:Nat):Int);omega) (by decide)) ⟨λ_=>(kQ hw2 rfl).ge h4,(λh=>by cases h),λh=>by cases h⟩ λh5 hw5=>by
   have hg:=h3.trans (h4.trans h5)
   refine Iw hw5 (ht.ge (h1.trans (h2.trans hg))) hro (hr.ge (h2.trans hg)) (hm.m.ge hg) (oU hw4 rfl) λg6 h6 hw6 ok=>?_
   cases ok with
   |true=>exact .ret _ _ (q0 rfl)
   |false=>exact Za hro n g6 hw6 (ht.ge (h1.trans (h2.trans (hg.trans h6))))
theorem Ce{m:Int}(hw:GW g)(hm:oH g m (0,0)):Sm (Bt m) (wK m) g:=
 .gen λh1 hw1=>.alloc (0,0) (rH (by omega) (by show _<=((_+1:Nat):Int);omega) (by decide)) ⟨λ_=>hm.ge h1,(λh=>by cases h),λh=>by cases h⟩ λh2 hw2=>.cell .root (.inl rfl) (oU hw1 rfl) λh3 hw3=>.ret _ _ (.inr (Xy _ _ _))
theorem Ou{r:Int}(hw:GW g)(hr:jV g r (0,0)):Sm (Gd r) (Oo r) g:=.cell .fixed (.inr rfl) hr λh3 hw3=>.ret _ _ (.inr (Xy _ _ _))
theorem Cb{t:bC}(hro:t.readOnly=false)(fz:Bool):∀(n:Nat) (g:Ga),GW g->Tk g t->Sm (Gb t (λr m=>bif fz then Gd r else Bt m) n) (Xl t fz n) g
 |0,g,hw,ht=>.ret _ g (q0 rfl)
 |n+1,g,hw,ht=>Bk hw ht λg1 h1 hw1 r hr=>mN hw1 (ht.ge h1) hr λg2 h2 hw2 m hm=>
  .gen λh4 hw4=>.alloc (0,0) (rH (by omega) (by show _<=((_+1:Nat):Int);omega) (by decide)) ⟨λ_=>hm.m.ge h4,(λh=>by cases h),λh=>by cases h⟩ λh5 hw5=>by
   have hg:=h4.trans h5
   refine Iw hw5 (ht.ge (h1.trans (h2.trans hg))) hro (hr.ge (h2.trans hg)) (hm.m.ge hg) (oU hw4 rfl) λg6 h6 hw6 ok=>?_
   cases ok with
   |true=>
    cases fz with
    |true=>exact Ou hw6 (hr.ge (h2.trans (hg.trans h6)))
    |false=>exact Ce hw6 (hm.ge (hg.trans h6))
   |false=>exact Cb hro fz n g6 hw6 (ht.ge (h1.trans (h2.trans (hg.trans h6))))
theorem Xh{c:Call}(n:Nat)(hw:GW g)(ht:Tk g c.aE):Sm (Cg c.aE n) (iL c.aE false n) g:=by
 unfold Cg iL
 cases hro:c.aE.readOnly with
 |true=>exact .load .fixed (ht.fixed hro) λg1 h1 hw1 r hr=>mN hw1 (ht.ge h1) hr λg2 h2 hw2 m hm=>Ce hw2 hm
 |false=>exact Cb hro false n g hw ht
theorem II{c:Call}(n:Nat)(hw:GW g)(ht:Tk g c.aE):Sm (Qg c.aE n) (iL c.aE true n) g:=by
 unfold Qg iL
 cases hro:c.aE.readOnly with
 |true=>exact .load .fixed (ht.fixed hro) λg1 h1 hw1 r hr=>Ou hw1 hr
 |false=>exact Cb hro true n g hw ht
abbrev Kj(g:Ga)(b:fV)(k k':Int->I β):Prop:=∀g',Ge g g'->GW g'->∀r,(r=0\/jV g' r b)->Sm (k r) (k' r) g'
theorem KB{n:Node}{i:Int}(h:(aB n i).2=true):0<=i/\i<64:=by
 have hh:=(DF h).2
 unfold Bm.has at hh;simp at hh;omega
theorem Ai{n:Node}{i:Int}(h:(aB n i).2=true):n.kind=3:=(ND (DF h).1).1
theorem OX{t:bC}{k k':Int->I β}{i c ix:Int}{b:fV}(hw:GW g)(ht:Tk g t)(hi:jV g i b)(hc:tS g c b)(hl:(aB (g.node c) ix).2=true)(hb:jV g (aB (g.node c) ix).1 (dO b ix))(hk:Kj g (dO b ix) k k'):Sm (pD t i c ix k) ((Hx t i c ix).bind k') g:=by
 have hkc:=Ai hl
 have hn:=hw.ofM hc.m
 refine .nl hc.dU (.nr hc.dU (Sm.ff (by rw[hl];rfl) (Sm.as9 (mN hw ht hb λg1 h1 hw1 m hm=>?_))))
 have hi1:=hi.ge h1
 have hc1:=hc.ge h1
 have hgen:=(hw1.YW hi1).i hi1.1
 have hv:=(hw1.YW hi1).valid
 have h1g:1<=(g1.node i).gen:=(fJ hv).gen hi1.1
 refine .nl hi1.dU (.nr hi1.dU (.alloc (dO b ix) (rH h1g hgen.1 (by have:=(hn.c hkc).1;show b.1+1<=11;omega)) ⟨λ_=>hm,(λh=>by cases h),λh=>by cases h⟩ λh2 hw2=>?_))
 have hI:=oU hw1 (n:={kind:=2,gen:=(g1.node i).gen}) (i:=m) (b:=dO b ix) rfl
 have hc2:=hc1.ge h2
 have e2:(g1.alloc {kind:=2,gen:=(g1.node i).gen} m (dO b ix)).node c=g.node c:=(h1.trans h2).node hc.dU
 obtain⟨u1,u2,u3⟩:=yY (hw2.ofM hc2.m) (by rw[e2];exact hkc) (by rw[e2];exact hl) (.inl hI)
 refine .nl hc2.dU (Sm.ff (by rw[u2];rfl) ?_)
 unfold nU
 refine .nr hc2.dU (.alloc b u1 (mZ u3 (.inr hc2)) λh3 hw3=>?_)
 have hg:=h1.trans (h2.trans h3)
 refine Sm.as9 (u:=mE t i c _) (Gh hw3 (ht.ge hg) (hi.ge hg) (kQ hw2 u3) λg4 h4 hw4 ok=>?_)
 cases ok with
 |true=>exact hk g4 (hg.trans h4) hw4 _ (.inr (hI.ge (h3.trans h4)))
 |false=>exact hk g4 (hg.trans h4) hw4 0 (.inl rfl)
theorem Jz{t:bC}{k k':Bool->I β}{i c:Int}{h:Nat}{l:Int}{b:fV}(hw:GW g)(ht:Tk g t)(hi:jV g i b)(hl:l=(b.1:Int))(hc:jV g c (dO b (slice h l))\/∀g',Ge g g'->GW g'->∀m,oH g' m b->(aB (g'.node m) (slice h l)).1≠c\/(aB (g'.node m) (slice h l)).2=false)(hk:Kb g k k'):Sm (qW t i c h l k) ((yF t i c h l).bind k') g:=by
 refine Sm.as9 (mN hw ht hi λg1 h1 hw1 m hm=>?_)
 refine .nl hm.dU (.nr hm.dU ?_)
 dsimp only
 cases hl1:(aB (g1.node m) (slice h l)).2 with
 |false=>exact hk g1 h1 hw1 false
 |true=>
  cases hl2:(aB (g1.node m) (slice h l)).1 != c with
  |true=>exact hk g1 h1 hw1 false
  |false=>
   have e1:(aB (g1.node m) (slice h l)).1=c:=by simpa using hl2
   rcases hc with hc|hc
   ·refine Sm.as9 (mN hw1 (ht.ge h1) (hc.ge h1) λg2 h2 hw2 q hq=>?_)
    refine .nl hq.dU (.nr hq.dU ?_)
    dsimp only
    cases hu:(aT (g2.node q)).2 with
    |false=>exact hk g2 (h1.trans h2) hw2 false
    |true=>
     obtain⟨u1,u2,u3⟩:=Zb (hw2.ofM hq.m) hu
     have hm2:=hm.ge h2
     have ek:(g2.node m).kind=3:=by rw[h2.node hm.dU];exact Ai hl1
     refine .nl hm2.dU (.alloc (dO b (slice h l)) u1 (wH (.inl u2)) λh3 hw3=>?_)
     have hS:=Cs (g:=g2) (b:=dO b (slice h l)) (b':=dO b (slice h l)) (i:=0) u2 u3
     have hm3:=hm2.ge h3
     refine .nr hm3.dU ?_
     rw[h3.node hm2.dU]
     obtain⟨p1,p2,p3⟩:=yY ((hw2.ofM hm2.m).ge h3) ek (by rw[h2.node hm.dU];exact hl1) (.inr hS)
     obtain⟨q1,q2⟩:=qO (i:=slice h l) p1 (by
      have:=qQ (n:=g2.node m) (i:=slice h l) (r:=g2.nodes.length+3) (by obtain⟨L,hL⟩:=(hw2.ofM hm2.m).fit;exact hL.bm) (by rw[h2.node hm.dU];exact hl1) (by omega)
      rw[this]) (s:=(aT (g2.node q)).1) (λ_=>⟨u1.hash,u1.key,u3⟩) hl
     refine Sm.ff (by rw[p2];rfl) (.alloc b q1 (mZ q2 (.inr hm3)) λh4 hw4=>?_)
     have hg:=h1.trans (h2.trans (h3.trans h4))
     exact Gh hw4 (ht.ge hg) (hi.ge hg) (kQ hw3 q2) (hk.ge hg)
   ·rcases hc g1 h1 hw1 m hm with hc|hc
    ·exact absurd e1 hc
    ·rw[hl1]at hc;cases hc
theorem Zl{l:List bN}{key:ByteArray}(h:(bB l key).2=false):(bB l key).1=0:=by
 unfold bB at h ⊢
 split
 ·rename_i q;rw[if_pos q]at h;cases h
 ·rfl
theorem ES{key:ByteArray}{x:Node}{u v:I Result}(hu:u=bif bR x.key key then .ret (cC true x.value)else .ret (cC false 0)):Sm (vO key x) u g:=by
 subst hu
 unfold vO
 cases bR x.key key with
 |true=>exact .ret _ g (q0 rfl)
 |false=>exact .ret _ g (q0 rfl)
theorem GG{t:bC}{key:ByteArray}{h:Nat}:∀(n:Nat) (i level:Int) (b:fV) (g:Ga),GW g->Tk g t->jV g i b->Sm (pG t key h n i level) (Mp t key h n i level) g
 |0,i,level,b,g,hw,ht,hi=>.ret _ g (q0 rfl)
 |n+1,i,level,b,g,hw,ht,hi=>mN hw ht hi λg1 h1 hw1 r hr=>by
  refine .nl hr.dU (.nr hr.dU ?_)
  have hn:=hw1.ofM hr.m
  rcases sH hr.m with hk|hk|hk
  ·refine Sm.tt (by rw[hk];rfl) ?_
   rw[show ((g1.node r).kind==5)=false by rw[hk];rfl,show ((g1.node r).kind==6)=false by rw[hk];rfl]
   cases hl:(aB (g1.node r) (slice h level)).2 with
   |false=>exact .ret _ g1 (q0 rfl)
   |true=>
    have hb:=(hn.c hk).2.2 _ hl
    rcases hb with hb|hb
    ·refine .nl hb.dU (.nr hb.dU ?_)
     rw[show ((g1.node (aB (g1.node r) (slice h level)).1).kind==4)=false by rw[hb.1];rfl]
     exact GG n _ _ _ g1 hw1 (ht.ge h1) hb
    ·refine .nl hb.dU (.nr hb.dU ?_)
     rw[show ((g1.node (aB (g1.node r) (slice h level)).1).kind==4)=true by rw[hb.1];rfl]
     exact ES (v:=.ret {}) rfl
  ·refine Sm.ff (by rw[hk];rfl) (Sm.tt (by rw[hk];rfl) ?_)
   rw[show ((g1.node r).kind==5)=true by rw[hk];rfl]
   exact ES (v:=.ret {}) rfl
  ·refine Sm.ff (by rw[hk];rfl) (Sm.ff (by rw[hk];rfl) (Sm.tt (by rw[hk];rfl) ?_))
   rw[show ((g1.node r).kind==5)=false by rw[hk];rfl,show ((g1.node r).kind==6)=true by rw[hk];rfl]
   cases hp:(bB (g1.node r).aF key).2 with
   |true=>exact .ret _ g1 (q0 rfl)
   |false=>rw[Zl hp];exact .ret _ g1 (q0 rfl)
theorem UD{c:Call}(n:Nat)(hw:GW g)(ht:Tk g c.aE):Sm (uO c.aE λr=>pG c.aE c.key (aH c.key c.aI) n r 0) (tH c n) g:=
 Bk hw ht λg1 h1 hw1 r hr=>GG n r 0 _ g1 hw1 (ht.ge h1) hr
end Go.Ct
end
section
namespace Go.Ct
variable{β:Type}{g:Ga}
theorem wT{h j:Nat}(hj:j<=10):slice h j=((h/64^j%64:Nat):Int):=by
 unfold slice;rw[if_neg (by omega),GY]
theorem Dm(h k:Nat):∀n l j,l<=j->j<jJ h k n l->slice h j=slice k j
 |0,l,j,h1,h2=>by unfold jJ at h2;omega
 |n+1,l,j,h1,h2=>by
  unfold jJ at h2
  split at h2
  ·rename_i e
   by_cases hj:j=l
   ·subst hj;first|exact e|exact(by simpa using e)
   ·exact Dm h k n (l+1) j (by omega) h2
  ·omega
theorem Hl{a b:Nat}:∀c:Nat,c<=11->(∀j:Nat,j<c->slice a j=slice b j)->a%64^c=b%64^c
 |0,_,_=>by simp[Nat.mod_one]
 |c+1,hc,h=>by
  have e:=h c (by omega)
  rw[wT (by omega),wT (by omega)]at e
  have e:a/64^c%64=b/64^c%64:=by omega
  rw[Nat.pow_succ,Nat.mod_mul,Nat.mod_mul,e,Hl c (by omega) λj hj=>h j (by omega)]
theorem DG{a b c:Nat}(h:a%64^c=b%64^c)(hc:c<=11):∀j:Nat,j<c->slice a j=slice b j:=λj hj=>by
 rw[wT (by omega),wT (by omega)]
 have e:a%64^(j+1)=b%64^(j+1):=by
  rw[<- Nat.mod_mod_of_dvd a (Nat.pow_dvd_pow 64 (show j+1<=c by omega)),<- Nat.mod_mod_of_dvd b (Nat.pow_dvd_pow 64 (show j+1<=c by omega)),h]
 rw[Nat.pow_succ]at e
 rw[<- Nat.mod_mul_right_div_self,<- Nat.mod_mul_right_div_self,e]
theorem Nq{a b c:Nat}(h:a%64^c=b%64^c)(hc:c<=11):c<=aJ a b:=by
 obtain⟨h1,h2⟩:=lV a b 11 0
 unfold aJ
 rcases yM (jJ a b 11 0) c with h3|h3
 ·exact absurd (DG h hc _ h3) (h2 (by omega))
 ·exact h3
def Qv(h:Nat)(gen:Int):Nat->Int->(Int->I β)->Int->I β
 |0,_,k,m=>k m
 |j+1,lv,k,m=>.alloc {kind:=2,gen:=gen} m λi=>.alloc (aS {kind:=3} (slice h lv) i).1 0 λm'=>Qv h gen j (lv-1) k m'
def OW(x:Node)(at_:Int)(h:Nat)(key:ByteArray)(v:Nat)(c:Nat)(k:Int->I β):I β:=
 if 11<=c then .alloc {kind:=6,hash:=h,aF:=gG ⟨x.key,x.value⟩ ⟨key,v⟩} 0 k
 else .alloc {kind:=4,hash:=h,key:=key,value:=v} 0 λs=>.alloc (aS (aS {kind:=3} (slice x.hash c) at_).1 (slice h c) s).1 0 k
theorem Mt(h:Nat)(gen:Int)(k:Int->I β):∀(j:Nat) (lv m:Int),Qv h gen (j+1) lv k m=Qv h gen j lv (λm=>.alloc {kind:=2,gen:=gen} m λi=>.alloc (aS {kind:=3} (slice h (lv-j)) i).1 0 k) m
 |0,lv,m=>by simp[Qv]
 |j+1,lv,m=>by
  rw[Qv,Qv]
  congr 1;funext i;congr 1;funext m'
  rw[Mt h gen k j (lv-1) m']
  rw[show lv-1-(j:Int)=lv-((j+1:Nat):Int) by omega]
theorem Wi(x:Node)(at_:Int)(h:Nat)(key:ByteArray)(v:Nat)(gen:Int):∀(n:Nat) (k:Int->I β),n<=11->11-n<=aJ x.hash h->
  uY x at_ h key v gen n k=OW x at_ h key v (aJ x.hash h) λm=>Qv h gen (aJ x.hash h-(11-n)) ((aJ x.hash h:Int)-1) k m
 |0,k,hn,hc=>by
  have h1:=(lV x.hash h 11 0).1
  have h2:aJ x.hash h=11:=by unfold aJ at *;omega
  rw[h2];rfl
 |n+1,k,hn,hc=>by
  have h1:=(lV x.hash h 11 0).1
  have h2:=(lV x.hash h 11 0).2
  have h3:=Dm x.hash h 11 0
  have hc':aJ x.hash h=jJ x.hash h 11 0:=rfl
  have eL:(11:Int)-((n+1:Nat):Int)=((11-(n+1):Nat):Int):=by omega
  rw[uY,eL]
  by_cases hs:slice h ((11-(n+1):Nat):Int)=slice x.hash ((11-(n+1):Nat):Int)
  ·rw[show (slice h ((11-(n+1):Nat):Int) != slice x.hash ((11-(n+1):Nat):Int))=false by rw[hs];exact bne_self_eq_false _]
   have hlt:11-n<=aJ x.hash h:=by
    rcases yM (aJ x.hash h) (11-n)with q|q
    ·have e:aJ x.hash h=11-(n+1):=by omega
     have:=h2 (by omega)
     rw[<- hc',e]at this
     exact absurd hs.symm this
    ·exact q
   show uY x at_ h key v gen n _=_
   rw[Wi x at_ h key v gen n _ (by omega) hlt]
   congr 1;funext m
   rw[show aJ x.hash h-(11-(n+1))=(aJ x.hash h-(11-n))+1 by omega,Mt]
   congr 1;funext m
   rw[show (aJ x.hash h:Int)-1-((aJ x.hash h-(11-n):Nat):Int)=((11-(n+1):Nat):Int) by omega]
  ·rw[show (slice h ((11-(n+1):Nat):Int) != slice x.hash ((11-(n+1):Nat):Int))=true from bne_iff_ne.2 hs]
   have e:aJ x.hash h=11-(n+1):=by
    rcases yM (11-(n+1)) (aJ x.hash h)with q|q
    ·exact absurd (h3 _ (dF _) q).symm hs
    ·omega
   rw[e,Nat.sub_self]
   unfold OW
   rw[if_neg (by omega)]
   rfl
def Md(h:Nat)(gen:Int):Nat->Int->Int->List (Node×Int)
 |0,_,_=>[]
 |j+1,lv,t=>({kind:=2,gen:=gen},t)::({kind:=3,aD:=Bm.cI 0 (slice h lv),aA:=[t+1]},0)::Md h gen j (lv-1) (t+2)
theorem yR(h:Nat)(gen f:Int):∀(j:Nat) (k:Int) (l:List (Node×Int)),eZ h gen f k j l=l++Md h gen j (k-1) (f+l.length-1)
 |0,k,l=>by simp[eZ,Md]
 |j+1,k,l=>by
  rw[eZ,yR h gen f j (k-1),Md,Co]
  congr 1
  rw[cO,List.cons_append,List.cons_append,Xb,show f+(((l.length+[(({kind:=2,gen:=gen}:Node),f+(l.length:Int)-1),({kind:=3,aD:=Bm.cI 0 (slice h (k-1)),aA:=[f+(l.length:Int)-1+1]},0)].length:Nat):Int))-1=f+l.length-1+2 by simp;omega]
theorem CA(x:Node)(at_:Int)(h:Nat)(key:ByteArray)(v lv:Nat)(gen:Int):nM x at_ h key v lv gen=
  if 11<=aJ x.hash h then .alloc {kind:=6,hash:=h,aF:=gG ⟨x.key,x.value⟩ ⟨key,v⟩} 0 λf=>gR (Md h gen (11-lv) 10 f) f
  else .alloc {kind:=4,hash:=h,key:=key,value:=v} 0 λf=>.alloc (fX (slice x.hash (aJ x.hash h)) at_ (slice h (aJ x.hash h)) f) 0 λr=>gR (Md h gen (aJ x.hash h-lv) ((aJ x.hash h:Int)-1) (f+1)) r:=by
 have hd:∀f,bT x at_ h key v lv gen f=if 11<=aJ x.hash h then({kind:=6,hash:=h,aF:=gG ⟨x.key,x.value⟩ ⟨key,v⟩},0)::Md h gen (11-lv) 10 f
   else({kind:=4,hash:=h,key:=key,value:=v},0)::(fX (slice x.hash (aJ x.hash h)) at_ (slice h (aJ x.hash h)) f,0)::Md h gen (aJ x.hash h-lv) ((aJ x.hash h:Int)-1) (f+1):=λf=>by
  unfold bT
  dsimp only
  split
  ·rw[yR,List.singleton_append,show ((11:Int)-(lv:Int)).toNat=11-lv by omega]
   congr 2
   show f+((1:Nat):Int)-1=f;omega
  ·rw[yR,List.cons_append,List.cons_append,Xb,show ((aJ x.hash h:Int)-(lv:Int)).toNat=aJ x.hash h-lv by omega]
   congr 3
   show f+((2:Nat):Int)-1=f+1;omega
 by_cases hc:11<=aJ x.hash h
 ·have e0:=hd 0
  rw[if_pos hc]at e0
  unfold nM
  rw[e0,if_pos hc]
  show I.alloc _ _ _=I.alloc _ _ _
  congr 1;funext f
  rw[hd f,if_pos hc];rfl
 ·have e0:=hd 0
  rw[if_neg hc]at e0
  unfold nM
  rw[e0,if_neg hc]
  show I.alloc _ _ _=I.alloc _ _ _
  congr 1;funext f
  rw[hd f,if_neg hc];rfl
theorem RU(i:Int):Bm.has 0 i=false:=by unfold Bm.has;simp
theorem OB(i:Int):aB {kind:=3} i=(0,false):=Dd (RU i)
theorem Ao{i r:Int}(h0:0<=i)(h1:i<64)(hr:1<=r):aS {kind:=3} i r=({kind:=3,aD:=Bm.cI 0 i,aA:=[r]},true):=by
 unfold aS
 rw[if_neg (by rw[show Node.lO {kind:=3}=true by decide+kernel];simp[RU];omega)]
 simp
theorem ok_one{b:fV}{i r:Int}(hb:b.1<=10)(hb2:b.2<64^b.1)(h0:0<=i)(h1:i<64)(hr:jV g r (dO b i)\/Dg g r (dO b i)):cJ g (aS {kind:=3} i r).1 b:=
 (uC (Js hb hb2) rfl (by rw[OB]) h0 h1 hr).1
variable[Qc β]
theorem cY(g:Ga)(n:Node)(i:Int)(b:fV):(g.alloc n i b).nodes.length=g.nodes.length+1:=by rw[iQ,cO];rfl
abbrev Km(g:Ga)(b:fV)(k:Int->I β)(k':Int->I β):Prop:=∀g',Ge g g'->GW g'->∀r,oH g' r b->Sm (k r) (k' r) g'
theorem Km.ge{b:fV}{k k':Int->I β}{g':Ga}(h:Km g b k k')(hg:Ge g g'):Km g' b k k':=λg2 h2 hw r hr=>h g2 (hg.trans h2) hw r hr
theorem BA{k k':Int->I β}{h:Nat}{gen:Int}(hg1:1<=gen):∀(j q:Nat) (g:Ga) (m:Int),GW g->j<=q->q<=11->gen<=g.gen->m=g.nodes.length+2->oH g m (q,h%64^q)->Km g (q-j,h%64^(q-j)) k k'->
  Sm (Qv h gen j ((q:Int)-1) k m) ((gR (Md h gen j ((q:Int)-1) m) m).bind k') g
 |0,q,g,m,hw,hj,hq,hg,hm,hM,hk=>hk g (Ge.refl hw) hw m hM
 |j+1,0,g,m,hw,hj,hq,hg,hm,hM,hk=>absurd hj (by omega)
 |j+1,q+1,g,m,hw,hj,hq,hg,hm,hM,hk=>by
  have el:((q+1:Nat):Int)-1=(q:Int):=by omega
  rw[el]
  have es:=zR h q
  have ed:=fP (h:=h) (l:=q) (by omega)
  refine .alloc (q+1,h%64^(q+1)) (rH hg1 hg hq) ⟨λ_=>hM,(λh=>by cases h),λh=>by cases h⟩ λh1 hw1=>?_
  have hI:=oU hw (n:={kind:=2,gen:=gen}) (i:=m) (b:=(q+1,h%64^(q+1))) rfl
  have hlen:(g.alloc {kind:=2,gen:=gen} m (q+1,h%64^(q+1))).nodes.length=g.nodes.length+1:=by rw[iQ,cO];rfl
  have hC:cJ (g.alloc {kind:=2,gen:=gen} m (q+1,h%64^(q+1))) (aS {kind:=3} (slice h q) (g.nodes.length+3)).1 (q,h%64^q):=
   ok_one (by show q<=10;omega) (Nat.mod_lt _ (Nat.pow_pos (by decide))) es.1 es.2 (.inl (by rw[ed];exact hI))
  have ep:=Ao (i:=slice h q) (r:=g.nodes.length+3) es.1 es.2 (by omega)
  rw[ep]at hC
  have et:m+1=(g.nodes.length:Int)+3:=by omega
  show Sm (.alloc (aS {kind:=3} (slice h q) (g.nodes.length+3)).1 0 _) (.alloc {kind:=3,aD:=Bm.cI 0 (slice h q),aA:=[m+1]} 0 _) _
  rw[ep,et]
  refine .alloc (q,h%64^q) hC (mZ rfl (.inl rfl)) λh2 hw2=>?_
  have hM2:=kQ hw1 (n:={kind:=3,aD:=Bm.cI 0 (slice h q),aA:=[(g.nodes.length:Int)+3]}) (i:=0) (b:=(q,h%64^q)) rfl
  have e2:m+2=((g.alloc {kind:=2,gen:=gen} m (q+1,h%64^(q+1))).nodes.length:Int)+3:=by rw[hlen];omega
  rw[e2]
  refine BA hg1 j q _ _ hw2 (by omega) (by omega) (by have:=(h1.trans h2).gen;omega) (by simp only[cY];omega) hM2 ?_
  rw[show q+1-(j+1)=q-j by omega]at hk
  exact hk.ge (h1.trans h2)
theorem j0{i a k b:Int}(h0:0<=i)(h1:i<64)(k0:0<=k)(k1:k<64)(hne:i≠k)(ha:1<=a)(hb:1<=b):(aS (aS {kind:=3} i a).1 k b).1=fX i a k b/\(aB (aS {kind:=3} i a).1 k).2=false:=by
 rw[Ao h0 h1 ha]
 have hv:Node.valid {kind:=3,aD:=Bm.cI 0 i,aA:=[a]}=true:=(FL 0 i a h0 h1 ha).1.2.2.2.2.2.2 (.inl rfl)
 have hC:Node.lO {kind:=3,aD:=Bm.cI 0 i,aA:=[a]}=true:=by unfold Node.lO;rw[hv];rfl
 have hh:=Uu h0 h1 k0 k1 hne
 refine⟨?_,by rw[Dd hh]⟩
 unfold aS fX
 rw[if_neg (by rw[hC];simp[hh];omega)]
 obtain⟨i,rfl⟩:=BO h0
 obtain⟨k,rfl⟩:=BO k0
 have hp:Bm.aO (Bm.cI 0 (i:Int)) (k:Int)=if i<k then 1 else 0:=by
  rw[Gr (by omega)]
  have hbit:∀j,(Bm.cI 0 (i:Int)).testBit j=decide (i=j):=λj=>by
   rw[Bm.gL _ i (by omega)];by_cases e:i=j<;>simp[e]
  have hz:∀m,m<=i->Bm.pop m (Bm.cI 0 (i:Int))=0:=λm=>by
   induction m with
   |zero=>intro _;simp[Bm.pop]
   |succ m ih=>intro hm;rw[Bm.cZ,ih (by omega),hbit];simp[show i≠m by omega]
  have ho:∀m,i<m->Bm.pop m (Bm.cI 0 (i:Int))=1:=λm=>by
   induction m with
   |zero=>intro h;omega
   |succ m ih=>
    intro hm
    rw[Bm.cZ,hbit]
    by_cases e:i=m
    ·subst e;rw[hz i (JV _)];simp
    ·rw[ih (by omega)];simp[e]
  split
  ·exact ho k (by assumption)
  ·exact hz k (by omega)
 rw[hp]
 by_cases e:i<k
 ·rw[if_pos e,if_neg (by omega)];simp
 ·rw[if_neg e,if_pos (by omega)];simp
theorem Pj{h:Nat}{l:List bN}{b:fV}(hh:h<18446744073709551616)(h0:2<=l.length)(h2:aQ l=true)(h3:∀q∈l,q.key.size<=64)(hb:b.1=11/\h%64^b.1=b.2):cJ g {kind:=6,hash:=h,aF:=l} b:=by
 have hf:=Yz l.length h l hh h0 (by omega) h2 h3
 exact⟨hf.1.2.2.2.2.2.2 (.inr rfl),⟨_,hf⟩,by show (2:Int)<=6;decide,by show (6:Int)<=8;decide,(λh=>by cases h),(λh=>by cases h),(λh=>by cases h),λ_=>hb,(λh=>by cases h),λh=>by cases h⟩
theorem SA{k k':Int->I β}{x:Node}{at_:Int}{h v lv:Nat}{key:ByteArray}{gen:Int}(hw:GW g)(hx:x=g.node at_)(hs:Dg g at_ (lv,h%64^lv))(hlv:lv<=11)(hh:h<18446744073709551616)(hkey:key.size<=64)(hne:bR x.key key=false)(hg1:1<=gen)(hg:gen<=g.gen)
  (hk:Km g (lv,h%64^lv) k k'):Sm (uY x at_ h key v gen (11-lv) k) ((nM x at_ h key v lv gen).bind k') g:=by
 have hxh:x.hash%64^lv=h%64^lv:=by rw[hx];exact hs.2
 have hcg:=Nq hxh hlv
 have hcl:=(lV x.hash h 11 0).1
 have hcn:=(lV x.hash h 11 0).2
 have hce:aJ x.hash h=jJ x.hash h 11 0:=rfl
 have hkx:x.key.size<=64:=by rw[hx];exact(hw.D2 hs).key
 rw[Wi x at_ h key v gen (11-lv) k (by omega) (by omega),CA,show 11-(11-lv)=lv by omega]
 unfold OW
 by_cases hc:11<=aJ x.hash h
 ·have e11:aJ x.hash h=11:=by omega
  rw[if_pos hc,if_pos hc,e11]
  have hlen:(gG ⟨x.key,x.value⟩ ⟨key,v⟩).length=2:=by unfold gG;split<;>rfl
  refine .alloc (11,h%64^11) (Pj hh (by omega) (uX _ _ hne) (λq hq=>?_) ⟨rfl,rfl⟩) (mZ rfl (.inl rfl)) λh1 hw1=>?_
  ·unfold gG at hq
   split at hq<;>simp at hq<;>rcases hq with rfl|rfl<;>assumption
  ·refine BA hg1 (11-lv) 11 _ _ hw1 (by omega) (by omega) (by have:=h1.gen;omega) (by simp only[cY];omega) (kQ hw rfl) ?_
   rw[show 11-(11-lv)=lv by omega]
   exact hk.ge h1
 ·rw[if_neg hc,if_neg hc]
  generalize hC:aJ x.hash h=c at *
  have hne2:slice x.hash c≠slice h c:=by rw[hce];exact hcn (by omega)
  have hagree:x.hash%64^c=h%64^c:=Hl c (by omega) λj hj=>Dm x.hash h 11 0 j (dF _) (by rw[<- hce];exact hj)
  have s1:=zR x.hash c
  have s2:=zR h c
  refine .alloc (0,0) (Bz (.inl rfl) hh hkey (λh=>by cases h)) (wH (.inl rfl)) λh1 hw1=>?_
  have hS:=Cs (g:=g) (n:={kind:=4,hash:=h,key:=key,value:=v}) (i:=0) (b:=(c+1,h%64^(c+1))) (b':=(0,0)) rfl rfl
  have hat:Dg (g.alloc {kind:=4,hash:=h,key:=key,value:=v} 0 (0,0)) at_ (dO (c,h%64^c) (slice x.hash c)):=by
   have hs1:=hs.ge h1
   refine⟨hs1.1,?_⟩
   rw[<- hagree,fP (by omega)]
   rw[h1.node hs.dU,<- hx]
  obtain⟨p1,p2⟩:=j0 (b:=(g.nodes.length:Int)+3) s1.1 s1.2 s2.1 s2.2 hne2 hs.one (by omega)
  have o1:cJ (g.alloc {kind:=4,hash:=h,key:=key,value:=v} 0 (0,0)) (aS {kind:=3} (slice x.hash c) at_).1 (c,h%64^c):=ok_one (by show c<=10;omega) (Nat.mod_lt _ (Nat.pow_pos (by decide))) s1.1 s1.2 (.inr hat)
  obtain⟨o2,_,o3⟩:=uC (i:=slice h c) (r:=(g.nodes.length:Int)+3) o1 (by rw[Ao s1.1 s1.2 hs.one]) p2 s2.1 s2.2 (.inr (by rw[fP (by omega)];exact hS))
  show Sm (.alloc (aS (aS {kind:=3} (slice x.hash c) at_).1 (slice h c) (g.nodes.length+3)).1 0 _) (.alloc (fX (slice x.hash c) at_ (slice h c) (g.nodes.length+3)) 0 _) _
  rw[p1]at o2 o3 ⊢
  refine .alloc (c,h%64^c) o2 (mZ o3 (.inl rfl)) λh2 hw2=>?_
  have e:(g.nodes.length:Int)+3+1=((g.alloc {kind:=4,hash:=h,key:=key,value:=v} 0 (0,0)).nodes.length:Int)+3:=by simp only[cY];omega
  show Sm (Qv h gen (c-lv) ((c:Int)-1) k _) ((gR (Md h gen (c-lv) ((c:Int)-1) ((g.nodes.length:Int)+3+1)) _).bind k') _
  rw[e]
  refine BA hg1 (c-lv) c _ _ hw2 (by omega) (by omega) (by have:=(h1.trans h2).gen;omega) (by simp only[cY];omega) (kQ hw1 o3) ?_
  rw[show c-(c-lv)=lv by omega]
  exact hk.ge (h1.trans h2)
end Go.Ct
end
section
namespace Go.Ct
def X.of(c:Call)(x:X):X:={e:={x.e with call:=c},s:=x.s}
theorem X.of_eq{c:Call}{y:X}(h:y.e.call=c):∃z:X,y=z.of c:=⟨y,by subst h;rfl⟩
variable{x y:X}
theorem Jl{a:Int}{o:Option Int}(h:dY a x=(y,o)):y.e.call=x.e.call:=by
 unfold dY nD rX jR at h;repeat' split at h
 all_goals (cases h;rfl)
theorem JH{a b d:Int}{o:Option Bool}(h:iB a b d x=(y,o)):y.e.call=x.e.call:=by
 unfold iB nD rX jR at h;repeat' split at h
 all_goals (cases h;rfl)
theorem El{n:Node}{i:Int}{o:Option Int}(h:dB n i x=(y,o)):y.e.call=x.e.call:=by
 unfold dB at h;repeat' split at h
 all_goals (cases h;rfl)
theorem La{i:Int}{o:Option Int}(h:fE i x=(y,o)):y.e.call=x.e.call:=by
 unfold fE at h;repeat' split at h
 all_goals (cases h;rfl)
theorem Pa{o:Option Int}(h:iH x=(y,o)):y.e.call=x.e.call:=by
 unfold iH at h;repeat' split at h
 all_goals (cases h;rfl)
theorem sF{α β:Type}{r:X×Option α}{f:α->X->X×Option β}{o:Option β}(hr:∀z o,r=(z,o)->z.e.call=x.e.call)(hf:∀v z o,f v z=(y,o)->y.e.call=z.e.call)(h:iP r f=(y,o)):y.e.call=x.e.call:=by
 obtain⟨z,p⟩:=r
 cases p with
 |none=>cases h;exact hr _ _ rfl
 |some v=>exact(hf v z o h).trans (hr _ _ rfl)
theorem lZ{α:Type}:∀{t:I α} {x y:X} {o:Option α},aX t x=(y,o)->y.e.call=x.e.call
 |.ret a,x,y,o,h=>by unfold aX at h;split at h<;>(cases h;rfl)
 |.load c k,x,y,o,h=>sF (λ_ _=>Jl) (λv z o h=>lZ h) h
 |.eA c a n k,x,y,o,h=>sF (λ_ _=>JH) (λv z o h=>lZ h) h
 |.alloc n i k,x,y,o,h=>sF (λ_ _=>El) (λv z o h=>lZ h) h
 |.cell i k,x,y,o,h=>sF (λ_ _=>La) (λv z o h=>lZ h) h
 |.gen k,x,y,o,h=>sF (λ_ _=>Pa) (λv z o h=>lZ h) h
 |.node r k,x,y,o,h=>by unfold aX at h;exact lZ h
variable{c:Call}
theorem J2{a v:Int}(q:dY a (x.of c)=out y v):∃z,y=X.of c z:=X.of_eq (Jl q)
theorem Lg{n:Node}{i v:Int}(q:dB n i (x.of c)=out y v):∃z,y=X.of c z:=X.of_eq (El q)
theorem F5{i v:Int}(q:fE i (x.of c)=out y v):∃z,y=X.of c z:=X.of_eq (La q)
theorem G5{v:Int}(q:iH (x.of c)=out y v):∃z,y=X.of c z:=X.of_eq (Pa q)
theorem mB{α:Type}{t:I α}{v:α}(q:aX t (x.of c)=out y v):∃z,y=X.of c z:=X.of_eq (lZ q)
end Go.Ct
end
