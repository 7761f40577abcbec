/- Parts of a proof: Sa7, Sa6, Wp. -/
import Derived.Test.YtnhdmcipglnkfaaGreatW24
set_option linter.unusedVariables false
set_option linter.unusedSimpArgs false
set_option maxRecDepth 100000
set_option maxHeartbeats 4000000
section
namespace Go.Ct
variable{α β:Type}{g:Ga}
theorem JC{b i:Nat}:∀d,(∀j:Nat,i<=j->j<i+d->b.testBit j=false)->Bm.pop (i+d) b=Bm.pop i b
 |0,h=>rfl
 |d+1,h=>by
  rw[<- Nat.add_assoc,Bm.cZ,h (i+d) (by omega) (by omega),JC d λj h1 h2=>h j h1 (by omega)];rfl
theorem UR{k:Int}(h0:0<=k)(h1:k<=64):Bm.cut k=k.toNat:=by
 unfold Bm.cut;split
 ·omega
 ·split<;>omega
theorem M7{b:Nat}{j:Nat}(hj:j<64)(h:Bm.has b (j:Int)=false):b.testBit j=false:=by
 unfold Bm.has at h
 rw[mI (show (j:Int)<64 by omega)]at h
 simpa using h
theorem H3{b:Nat}{j:Int}(h:Bm.has b j=true):0<=j/\j<64/\b.testBit j.toNat=true:=by
 unfold Bm.has at h
 simpa using h
theorem Sy{b:Nat}{k i:Int}(h0:0<=k)(hki:k<=i)(hi:i<=64)(hn:∀j,k<=j->j<i->Bm.has b j=false):Bm.aO b k=Bm.pop i.toNat b:=by
 unfold Bm.aO
 rw[UR h0 (by omega)]
 have:=JC (b:=b) (i:=k.toNat) (i.toNat-k.toNat) λj h1 h2=>M7 (by omega) (hn j (by omega) (by omega))
 rw[<- this];congr 1;omega
theorem P1{b:Nat}{k:Int}(h0:0<=k)(h1:k<=64)(hn:∀j,k<=j->j<64->Bm.has b j=false):Bm.at_ b ((Bm.aO b k:Nat):Int)=-1:=by
 rw[Sy h0 h1 (JA _) hn]
 unfold Bm.at_
 rw[if_neg]
 have:=Bm.yA 64 b
 unfold Bm.indices
 rw[this]
 show ¬(_/\((Bm.pop 64 b:Nat):Int)<_)
 omega
theorem S7{b:Nat}{k i:Int}(h0:0<=k)(hki:k<=i)(hh:Bm.has b i=true)(hn:∀j,k<=j->j<i->Bm.has b j=false):Bm.at_ b ((Bm.aO b k:Nat):Int)=i:=by
 obtain⟨i0,i1,it⟩:=H3 hh
 rw[Sy h0 hki (by omega) hn]
 have hm:i.toNat∈Bm.indices b:=(Bm.Gl 64 b _).2 ⟨by omega,it⟩
 obtain⟨p,hp,e⟩:=List.getElem_of_mem hm
 have:=Bm.HM b p hp
 rw[e]at this
 rw[this]
 unfold Bm.at_
 rw[if_pos ⟨by omega,by omega⟩,dI,show (p:Int).toNat=p by omega,fM hp,e]
 simp only[Option.getD_some];omega
inductive Wt{α β:Type}(R:α->β->Prop):List α->List β->Prop
 |nil:Wt R [] []
 |cons {a:α} {b:β} {l:List α} {m:List β}:R a b->Wt R l m->Wt R (a::l) (b::m)
theorem Wt.imp{α β:Type}{R S:α->β->Prop}(hi:∀a b,R a b->S a b):∀{l:List α} {m:List β},Wt R l m->Wt S l m
 |_,_,.nil=>.nil
 |_,_,.cons h t=>.cons (hi _ _ h) (t.imp hi)
structure TZ(g:Ga)(p:Place)(f:Int×Int):Prop where
 node:p.node=g.node f.1
 main:∃b,oH g f.1 b
 c:(g.node f.1).kind=3
 next:p.next=f.2
 lo:0<=f.2
 hi:f.2<=64
theorem TZ.dU{p:Place}{f:Int×Int}(h:TZ g p f):f.1<=g.count:=by obtain⟨b,h⟩:=h.main;exact h.dU
theorem TZ.ge{g':Ga}{p:Place}{f:Int×Int}(h:TZ g p f)(k:Ge g g'):TZ g' p f:=by
 have e:=k.node h.dU
 obtain⟨b,hb⟩:=h.main
 exact⟨by rw[e];exact h.node,⟨b,hb.ge k⟩,by rw[e];exact h.c,h.next,h.lo,h.hi⟩
structure TT(g:Ga)(it:pX)(w:Wk):Prop where
 st:it.started=w.started
 stack:Wt (TZ g) it.stack w.stack
 wait:it.wait=w.wait
 new:it.started=false->it.wait=[]
theorem TT.ge{g':Ga}{it:pX}{w:Wk}(h:TT g it w)(k:Ge g g'):TT g' it w:=⟨h.st,h.stack.imp λ_ _ h=>TZ.ge h k,h.wait,h.new⟩
theorem ZW{st:Bool}{g:Ga}{l:List Place}{fs:List (Int×Int)}(h:Wt (TZ g) l fs):TT g ⟨true,l,[]⟩ ⟨true,fs,[]⟩:=⟨rfl,h,rfl,λ_=>rfl⟩
theorem TT.meet{l:List Place}{fs:List (Int×Int)}(h:Wt (TZ g) l fs){m:Int}{b:fV}(hm:oH g m b):TT g (pX.meet ⟨true,l,[]⟩ (g.node m)) (Wk.meet ⟨true,fs,[]⟩ m (g.node m)):=by
 unfold pX.meet Wk.meet
 rcases sH hm with h3|h5|h6
 ·rw[show ((g.node m).kind==3)=true by rw[h3];rfl]
  exact⟨rfl,.cons ⟨rfl,⟨b,hm⟩,h3,rfl,JA 0,(by show (0:Int)<=64;decide)⟩ h,rfl,λ_=>rfl⟩
 ·rw[show ((g.node m).kind==3)=false by rw[h5];rfl,show ((g.node m).kind==5)=true by rw[h5];rfl]
  exact⟨rfl,h,rfl,λh=>by cases h⟩
 ·rw[show ((g.node m).kind==3)=false by rw[h6];rfl,show ((g.node m).kind==5)=false by rw[h6];rfl,show ((g.node m).kind==6)=true by rw[h6];rfl]
  exact⟨rfl,h,rfl,λh=>by cases h⟩
def Kn[Qc β](g:Ga)(k:Result×pX->I β)(k':Nx->I β):Prop:=∀g',Ge g g'->GW g'->∀it w r p ok,TT g' it w->(ok=true/\r=OL p\/ok=false/\r={})->Sm (k (r,it)) (k' ⟨w,p,ok⟩) g'
theorem Kn.ge[Qc β]{g':Ga}{k:Result×pX->I β}{k':Nx->I β}(h:Kn g k k')(hg:Ge g g'):Kn g' k k':=λg2 h2=>h g2 (hg.trans h2)
def Ke[Qc β](g:Ga)(K:pX->I (Result×pX))(K':Wk->I Nx)(k:Result×pX->I β)(k':Nx->I β):Prop:=∀g',Ge g g'->GW g'->∀it w,TT g' it w->it.started=true->Sm ((K it).bind k) ((K' w).bind k') g'
theorem Ke.ge[Qc β]{g':Ga}{K:pX->I (Result×pX)}{K':Wk->I Nx}{k:Result×pX->I β}{k':Nx->I β}(h:Ke g K K' k k')(hg:Ge g g'):Ke g' K K' k k':=λg2 h2=>h g2 (hg.trans h2)
theorem U0(l:List Place)(q:Node):(pX.meet ⟨true,l,[]⟩ q).started=true:=by
 unfold pX.meet
 cases (q.kind==3)<;>cases (q.kind==5)<;>cases (q.kind==6)<;>rfl
theorem JG[Qc β]{t:bC}{K:pX->I (Result×pX)}{K':Wk->I Nx}{k:Result×pX->I β}{k':Nx->I β}{i:Int}{b:fV}{l:List Place}{fs:List (Int×Int)}(hw:GW g)(ht:Tk g t)(hi:jV g i b)(h:Wt (TZ g) l fs)(hK:Ke g K K' k k'):
  Sm ((mM t i λm=>.node m λq=>K (pX.meet ⟨true,l,[]⟩ q)).bind k) (((wS t ⟨true,fs,[]⟩ i).bind K').bind k') g:=by
 rw[NU]
 unfold wS
 rw[I.bind_assoc,I.bind_assoc]
 refine mN hw ht hi λg1 h1 hw1 m hm=>?_
 exact .nl hm.dU (.nr hm.dU (hK g1 h1 hw1 _ _ (TT.meet (h.imp λ_ _ h=>TZ.ge h h1) hm.m) (U0 _ _)))
theorem T6[Qc β]{t:bC}{K:pX->I (Result×pX)}{K':Wk->I Nx}{k:Result×pX->I β}{k':Nx->I β}(hw:GW g)(ht:Tk g t)(hK:Ke g K K' k k')(hk:Kn g k k'){l:List Place}{fs:List (Int×Int)}(h:Wt (TZ g) l fs):
  Sm ((TY t true K l).bind k) ((TC t true K' fs).bind k') g:=by
 induction h with
 |nil=>exact hk g (Ge.refl hw) hw _ _ _ _ _ (ZW (st:=true) .nil) (.inr ⟨rfl,rfl⟩)
 |@cons p f l fs hp hl ih=>
  obtain⟨b,hm⟩:=hp.main
  have hn:=hw.ofM hm
  have hC:(g.node f.1).lO=true:=by unfold Node.lO;rw[hp.c,hn.valid];rfl
  show Sm ((bif p.out then TY t true K l else _).bind k) _ g
  refine .nr hp.dU ?_
  have epos:p.pos=Bm.aO (g.node f.1).aD f.2:=by unfold Place.pos;rw[hp.node,hp.next]
  have eidx:p.idx=Bm.at_ (g.node f.1).aD ((Bm.aO (g.node f.1).aD f.2:Nat):Int):=by unfold Place.idx;rw[epos,hp.node]
  rcases YO (b:=(g.node f.1).aD) hp.lo hp.hi with⟨h1,h2⟩|⟨h1,h2,h3,h4⟩
  ·have ho:p.out=true:=by unfold Place.out;rw[eidx,P1 hp.lo hp.hi h2];rfl
   rw[ho]
   dsimp only
   rw[show (eQ (g.node f.1).aD f.2==64)=true by rw[h1];rfl]
   exact ih
  ·have ei:p.idx=eQ (g.node f.1).aD f.2:=by rw[eidx];exact S7 hp.lo h1 h3 h4
   have ep:p.pos=Bm.aO (g.node f.1).aD (eQ (g.node f.1).aD f.2):=by
    rw[epos,Sy hp.lo h1 (by omega) h4];unfold Bm.aO;rw[UR (by have:=hp.lo;omega) (by omega)]
   have hlt:=US hC h3
   have ho:p.out=false:=by
    unfold Place.out
    rw[ei,ep,hp.node]
    have:=hp.lo
    rw[Bool.or_eq_false_iff]
    exact⟨Ab (by omega),Ab (by omega)⟩
   have hy:=MF hC h3
   have eb:p.branch=(aB (g.node f.1) (eQ (g.node f.1).aD f.2)).1:=by
    unfold Place.branch;rw[ep,hp.node,hy]
   have hs:TZ g p.step (f.1,eQ (g.node f.1).aD f.2+1):=⟨hp.node,hp.main,hp.c,by show p.idx+1=_;rw[ei],by show 0<=_;have:=hp.lo;omega,by show _<=(64:Int);omega⟩
   rw[ho]
   dsimp only
   rw[show (eQ (g.node f.1).aD f.2==64)=false from beq_eq_false_iff_ne.2 (by omega)]
   show Sm (.node p.branch _) (.node (aB (g.node f.1) (eQ (g.node f.1).aD f.2)).1 _) g
   rw[eb]
   generalize hx:eQ (g.node f.1).aD f.2=x at *
   rcases(hn.c hp.c).2.2 x (by rw[hy])with hb|hb
   ·refine .nl hb.dU (.nr hb.dU ?_)
    dsimp only
    rw[show ((g.node (aB (g.node f.1) x).1).kind==4)=false by rw[hb.1];rfl]
    exact JG hw ht hb (.cons hs hl) hK
   ·refine .nl hb.dU (.nr hb.dU ?_)
    dsimp only
    rw[show ((g.node (aB (g.node f.1) x).1).kind==4)=true by rw[hb.1];rfl]
    exact hk g (Ge.refl hw) hw _ _ _ _ _ (ZW (st:=true) (.cons hs hl)) (.inl ⟨rfl,rfl⟩)
theorem TP[Qc β]{t:bC}{K:pX->I (Result×pX)}{K':Wk->I Nx}{k:Result×pX->I β}{k':Nx->I β}{it:pX}{w:Wk}(hw:GW g)(ht:Tk g t)(hK:Ke g K K' k k')(hk:Kn g k k')(h:TT g it w)(hs:it.started=true):Sm ((L5 t K it).bind k) ((Nn t K' w).bind k') g:=by
 obtain⟨st,l,wt⟩:=it
 obtain⟨st',fs,wt'⟩:=w
 obtain rfl:st=true:=hs
 obtain rfl:true=st':=h.st
 obtain rfl:wt=wt':=h.wait
 cases wt with
 |nil=>exact T6 hw ht hK hk h.stack
 |cons p ps=>exact hk g (Ge.refl hw) hw _ _ _ _ _ ⟨rfl,h.stack,rfl,λh=>by cases h⟩ (.inl ⟨rfl,rfl⟩)
theorem Lk[Qc β]{t:bC}{k:Result×pX->I β}{k':Nx->I β}:∀(n:Nat) (g:Ga),GW g->Tk g t->Kn g k k'->∀it w,TT g it w->it.started=true->Sm ((Ow t n it).bind k) ((iS t n w).bind k') g
 |0,g,hw,ht,hk,it,w,h,hs=>TP hw ht (λg' hg hw' it w h hs=>hk g' hg hw' _ _ _ _ _ h (.inr ⟨rfl,rfl⟩)) hk h hs
 |n+1,g,hw,ht,hk,it,w,h,hs=>TP hw ht (λg' hg hw' it w h hs=>Lk n g' hw' (ht.ge hg) (hk.ge hg) it w h hs) hk h hs
theorem O9[Qc β]{t:bC}{k:Result×pX->I β}{k':Nx->I β}{n:Nat}{it:pX}{w:Wk}(hw:GW g)(ht:Tk g t)(hro:t.readOnly=true)(hk:Kn g k k')(h:TT g it w):Sm ((J7 t n it).bind k) ((Il t n w).bind k') g:=by
 unfold J7 Il
 rw[hro]
 cases hs:it.started with
 |true=>
  rw[show w.started=true from h.st.symm.trans hs]
  exact Lk n g hw ht hk it w h hs
 |false=>
  rw[show w.started=false from h.st.symm.trans hs]
  refine .load .fixed (ht.fixed hro) λg1 h1 hw1 v hv=>?_
  have hwt:=h.new hs
  have hwt':w.wait=[]:=h.wait▸hwt
  rw[hwt,hwt']
  exact JG hw1 (ht.ge h1) (show jV g1 v (0,0)from hv) (h.stack.imp λ_ _ h=>TZ.ge h h1) λg2 h2 hw2 it w h hs=>Lk n g2 hw2 (ht.ge (h1.trans h2)) (hk.ge (h1.trans h2)) it w h hs
theorem IK{t:bC}{n:Nat}(hro:t.readOnly=true):∀(c:Nat) (k:Int) (g:Ga) (it:pX) (w:Wk),GW g->Tk g t->TT g it w->Sm (PE t n c k it) (zY t n c k w) g
 |0,k,g,it,w,hw,ht,h=>.ret _ g (q0 rfl)
 |c+1,k,g,it,w,hw,ht,h=>O9 hw ht hro (λg' hg hw' it' w' r p ok h' hr=>by
  rcases hr with⟨rfl,rfl⟩|⟨rfl,rfl⟩
  ·exact IK hro c (wr (k+1)) g' it' w' hw' (ht.ge hg) h'
  ·exact .ret _ g' (q0 rfl)) h
theorem S4:TT g {} {}:=⟨rfl,.nil,rfl,λ_=>rfl⟩
theorem S8{t:bC}{n c:Nat}(hw:GW g)(ht:Tk g t)(hro:t.readOnly=true):Sm (RE t n c) (zY t n c 0 {}) g:=by
 unfold RE;rw[hro];exact IK hro c 0 g {} {} hw ht S4
end Go.Ct
end
section
namespace Go.Ct
variable{g:Ga}{c:Call}{again:I Result}
theorem KR{n:Node}{b:fV}{key:ByteArray}(hn:cJ g n b)(hk:n.kind=6)(hf:(bB n.aF key).2=true):cJ g (gC n key).1 b/\(gC n key).2=true/\(gC n key).1.bM=true:=by
 have hL:=NQ hn hk
 have vf:=fJ hn.valid
 have hp:=vf.kG hk
 have h2:=vf.aF hk
 have hs:=(jF _).1 (vf.short hk)
 have hl:=Dp n.aF key hp
 by_cases h1:(gX n.aF key).length=1
 ·rw[NK hL hf h1]
  have hm:(gX n.aF key).getD 0 ⟨.empty,0⟩∈gX n.aF key:=by
   rw[dI,fM (by omega)];exact wU (by omega)
  exact⟨Bz (.inr rfl) hn.hash (hs _ (Df _ _ _ hm)) λ_=>⟨by have:=(hn.l hk).1;omega,(hn.l hk).2⟩,rfl,rfl⟩
 ·rw[EE hL hf h1]
  exact⟨Pj hn.hash (by omega) (zV _ _ hp) (λq hq=>hs q (Df _ _ _ hq)) (hn.l hk),rfl,rfl⟩
theorem Yh{b:Nat}:∀n,(∀k,k<n->b.testBit k=false)->Bm.pop n b=0
 |0,_=>by simp[Bm.pop]
 |n+1,h=>by rw[Bm.cZ,Yh n λk hk=>h k (by omega),h n (by omega)];rfl
theorem TL{n:Node}(h:(fF n).2=true):∃k,(aB n k).2=true/\(aB n k).1=(fF n).1:=by
 unfold fF at h ⊢
 split at h
 ·cases h
 ·rename_i q
  rw[if_neg q]
  simp only[not_or,sX,Classical.not_not]at q
  have hl:=Ag q.1
  have hex:∃k,k<64/\n.aD.testBit k=true:=by
   refine Classical.byContradiction λhno=>?_
   have:=Yh (b:=n.aD) 64 λk hk=>by
    cases hb:n.aD.testBit k with
    |true=>exact absurd ⟨k,hk,hb⟩ hno
    |false=>rfl
   omega
  obtain⟨k,hk,hb⟩:=hex
  have hp:=oM hb hk
  refine⟨k,?_,?_⟩
  ·rw[lQ q.1 hk,if_pos hb]
  ·rw[lQ q.1 hk,if_pos hb,show Bm.pop k n.aD=0 by omega]
structure Kd(g:Ga)(c:Call)(path:List Int)(h:Nat)(again:I Result)(k':Result×Int->I Result):Prop where
 fin:∀g',Ge g g'->GW g'->∀r:Result,r.count=0->r.aE={}->Sm (.ret r) (k' (r,1)) g'
 AS:∀g',Ge g g'->GW g'->∀r,Sm again (k' (r,0)) g'
 up:∀g',Ge g g'->GW g'->∀v,Sm (YV c path h v (path.length-1)) (k' (dL true v,1)) g'
theorem Kd.ge{path:List Int}{h:Nat}{k':Result×Int->I Result}{g':Ga}(hk:Kd g c path h again k')(hg:Ge g g'):Kd g' c path h again k':=⟨λg2 h2=>hk.fin g2 (hg.trans h2),λg2 h2=>hk.AS g2 (hg.trans h2),λg2 h2=>hk.up g2 (hg.trans h2)⟩
variable{path:List Int}{h:Nat}{k':Result×Int->I Result}
theorem uR{i m:Int}{n:Node}{v:Nat}{b:fV}(hw:GW g)(ht:Tk g c.aE)(hi:jV g i b)(hm:tS g m b)(hn:cJ g n b/\n.bM=true)(hk:Kd g c path h again k'):
  Sm (wM c again path h i m n v) ((I.alloc n m λr=>(mE c.aE i m r).bind (kJ true v)).bind k') g:=by
 refine .alloc b hn.1 (mZ hn.2 (.inr hm)) λh1 hw1=>?_
 refine Sm.as9 (u:=mE c.aE i m _) (Gh hw1 (ht.ge h1) (hi.ge h1) (kQ hw hn.2) λg2 h2 hw2 ok=>?_)
 cases ok with
 |true=>exact hk.up g2 (h1.trans h2) hw2 _
 |false=>exact hk.AS g2 (h1.trans h2) hw2 _
theorem Oy(c:Call)(v:Nat):(!Qj c v)=(c.only&&v != c.expect):=by
 unfold Qj bne
 cases c.only<;>cases (v==c.expect)<;>rfl
theorem Zj{i m:Int}{level:Int}{b:fV}(hw:GW g)(ht:Tk g c.aE)(hi:jV g i b)(hm:tS g m b)(hk6:(g.node m).kind=6)(hk:Kd g c path h again k'):
  Sm (vA c again path h i m (g.node m)) ((kT c i m h level).bind k') g:=by
 unfold vA kT
 refine .nr hm.dU ?_
 dsimp only
 rw[show ((g.node m).kind==6)=true by rw[hk6];rfl,Oy]
 cases hf:(bB (g.node m).aF c.key).2 with
 |false=>rw[Zl hf];exact hk.fin g (Ge.refl hw) hw _ rfl rfl
 |true=>
  cases ho:(c.only&&(bB (g.node m).aF c.key).1 != c.expect)with
  |true=>exact hk.fin g (Ge.refl hw) hw _ rfl rfl
  |false=>
   obtain⟨o1,o2,o3⟩:=KR (hw.ofM hm.m) hk6 hf
   refine Sm.ff rfl (Sm.ff rfl (Sm.ff (by rw[o2];rfl) ?_))
   exact uR hw ht hi hm ⟨o1,o3⟩ hk
theorem ZP(g:Ga):g.node 0={}:=by rw[pZ,if_pos (.inl (by decide))]
theorem HJ{i m:Int}{l:Nat}(hw:GW g)(ht:Tk g c.aE)(hi:jV g i (l,h%64^l))(hm:tS g m (l,h%64^l))(hl:(aB (g.node m) (slice h l)).2=true)(hs:Dg g (aB (g.node m) (slice h l)).1 (dO (l,h%64^l) (slice h l)))(hk:Kd g c path h again k'):
  Sm (Pp c again path h i m (g.node m) l (g.node (aB (g.node m) (slice h l)).1)) ((kT c i m h l).bind k') g:=by
 have hk3:=Ai hl
 have hn:=hw.ofM hm.m
 obtain⟨r1,r2⟩:=BH (i:=slice h l) hn hk3 hl
 unfold Pp kT
 refine .nr hm.dU ?_
 dsimp only
 rw[show ((g.node m).kind==6)=false by rw[hk3];rfl]
 refine .nr hs.dU ?_
 dsimp only
 rw[hl,show ((g.node (aB (g.node m) (slice h l)).1).kind==2)=false by rw[hs.1];rfl,Oy]
 cases hq:bR (g.node (aB (g.node m) (slice h l)).1).key c.key with
 |false=>exact hk.fin g (Ge.refl hw) hw _ rfl rfl
 |true=>
  cases ho:(c.only&&(g.node (aB (g.node m) (slice h l)).1).value != c.expect)with
  |true=>exact hk.fin g (Ge.refl hw) hw _ rfl rfl
  |false=>
   refine Sm.ff rfl (Sm.ff rfl ?_)
   show Sm _ ((I.node (fF (bL (g.node m) (slice h l)).1).1 λq=>.alloc (bQ (bL (g.node m) (slice h l)).1 l q) m λr=>(mE c.aE i m r).bind (kJ true (g.node (aB (g.node m) (slice h l)).1).value)).bind k') g
   cases hsl:(fF (bL (g.node m) (slice h l)).1).2 with
   |true=>
    obtain⟨k,k1,k2⟩:=TL hsl
    have hb:=(r1.c r2).2.2 k k1
    rw[k2]at hb
    have hin:=hb.elim jV.dU Dg.dU
    refine .nl hin (.nr hin ?_)
    refine uR hw ht hi hm (qO (i:=k) r1 r2 (λh4=>?_) rfl) hk
    rcases hb with hb|hb
    ·rw[hb.1]at h4;cases h4
    ·exact⟨(hw.D2 hb).hash,(hw.D2 hb).key,hb.2⟩
   |false=>
    have hz:(fF (bL (g.node m) (slice h l)).1).1=0:=by
     unfold fF at hsl ⊢
     split
     ·rfl
     ·rename_i q;rw[if_neg q]at hsl;cases hsl
    rw[hz]
    refine .nr (Tn g) ?_
    dsimp only
    rw[ZP]
    exact uR hw ht hi hm (qO (i:=0) r1 r2 (λh4=>by cases h4) rfl) hk
theorem UP{v:Nat}{K':Unit->I Result}:∀(l:Nat) (g:Ga),GW g->Tk g c.aE->l<=11->(∀j,j<=l->jV g (path.getD j 0) (j,h%64^j))->(∀g',Ge g g'->GW g'->Sm (.ret (dL true v)) (K' ()) g')->Sm (YV c path h v l) ((QP c.aE path h l).bind K') g
 |0,g,hw,ht,hl,hp,hk=>hk g (Ge.refl hw) hw
 |l+1,g,hw,ht,hl,hp,hk=>by
  refine Sm.as9 (mN hw ht (hp (l+1) (JV _)) λg1 h1 hw1 m hm=>.nl hm.dU (.nr hm.dU ?_))
  refine Sm.cc (λ_=>hk g1 h1 hw1) λ_=>?_
  refine Sm.as9 (Jz (b:=(l,h%64^l)) hw1 (ht.ge h1) ((hp l (by omega)).ge h1) rfl (.inl ?_) λg2 h2 hw2 ok=>?_)
  ·rw[fP (by omega)];exact(hp (l+1) (JV _)).ge h1
  ·exact UP l g2 hw2 (ht.ge (h1.trans h2)) (by omega) (λj hj=>(hp j (by omega)).ge (h1.trans h2)) λg' h' hw'=>hk g' ((h1.trans h2).trans h') hw'
def Path(g:Ga)(path:List Int)(h l:Nat):Prop:=path.length=l+1/\∀j,j<=l->jV g (path.getD j 0) (j,h%64^j)
theorem Path.ge{g':Ga}{l:Nat}(hp:Path g path h l)(hg:Ge g g'):Path g' path h l:=⟨hp.1,λj hj=>(hp.2 j hj).ge hg⟩
theorem Path.snoc{l:Nat}{b:Int}(hp:Path g path h l)(hb:jV g b (l+1,h%64^(l+1))):Path g (path++[b]) h (l+1):=by
 refine⟨by rw[cO,hp.1];rfl,λj hj=>?_⟩
 by_cases e:j=l+1
 ·subst e
  rw[dI,tW (by rw[hp.1];exact JV _),hp.1];simpa using hb
 ·rw[dI,xD (by rw[hp.1];omega),<- dI];exact hp.2 j (by omega)
variable{K:Option Result->I Result}
theorem Bd{gen:Int}(hro:c.aE.readOnly=false)(hg1:1<=gen):∀(n l:Nat) (path:List Int) (i:Int) (g:Ga),GW g->Tk g c.aE->Path g path h l->path.getD l 0=i->gen<=g.gen->Kv g again K->
  Sm (pM c h gen again n path i l) ((sY c h gen n path i l).bind K) g
 |0,l,path,i,g,hw,ht,hp,he,hg,hk=>hk.AS g (Ge.refl hw) hw
 |n+1,l,path,i,g,hw,ht,hp,he,hg,hk=>by
  have hi:jV g i (l,h%64^l):=by rw[<- he];exact hp.2 l (JV _)
  refine Sm.as9 (mN hw ht hi λg1 h1 hw1 m hm=>?_)
  refine .nl hm.dU (.nr hm.dU ?_)
  dsimp only
  have hn:=hw1.ofM hm.m
  have hi1:=hi.ge h1
  have ht1:=ht.ge h1
  have hp1:=hp.ge h1
  have hl11:l<=11:=((hw1.YW hi1).i hi1.1).2
  have hkl:∀(F:Int->I (Option Result)),Kd g1 c path h again λr=>(bif r.2==1 then bif r.1.count==1 then(QP c.aE path h (path.length-1)).bind λ_=>I.ret (some r.1)else .ret (some r.1)else bif r.2==0 then .ret none else(qS c.aE i m (slice h l) gen).bind F).bind K:=λF=>by
   refine⟨λg' h' hw' r hr ht0=>?_,λg' h' hw' r=>hk.AS g' (h1.trans h') hw',λg' h' hw' v=>?_⟩
   ·show Sm (.ret r) ((bif r.count==1 then(QP c.aE path h (path.length-1)).bind λ_=>I.ret (some r)else .ret (some r)).bind K) g'
    rw[hr];exact hk.fin g' (h1.trans h') hw' r ht0
   ·show Sm _ (((QP c.aE path h (path.length-1)).bind λ_=>I.ret (some (dL true v))).bind K) g'
    rw[show path.length-1=l by rw[hp.1];omega]
    exact Sm.as9 (UP l g' hw' (ht1.ge h') hl11 (λj hj=>(hp1.2 j hj).ge h') λg2 h2 hw2=>hk.fin g2 ((h1.trans h').trans h2) hw2 _ rfl)
  rcases sH hm.m with hk3|hk5|hk6
  ·rw[show ((g1.node m).kind==5)=false by rw[hk3];rfl,show ((g1.node m).kind==6)=false by rw[hk3];rfl,show ((g1.node m).kind==3)=true by rw[hk3];rfl]
   simp only[pJ,xM]
   rw[I.bind_assoc]
   cases hl:(aB (g1.node m) (slice h l)).2 with
   |false=>
    have hz:(aB (g1.node m) (slice h l)).1=0:=by
     rcases Vv hl with q|q
     ·rw[Tr q]
     ·rw[Dd q]
    unfold kT
    refine .nr hm.dU ?_
    dsimp only
    rw[show ((g1.node m).kind==6)=false by rw[hk3];rfl,hl,hz]
    refine .nr (Tn g1) ?_
    exact(hkl λb=>bif b==0 then .ret none else sY c h gen n (path++[b]) b ((l:Int)+1)).fin g1 (Ge.refl hw1) hw1 _ rfl rfl
   |true=>
    refine Sm.ff rfl ?_
    rcases(hn.c hk3).2.2 _ hl with hb|hb
    ·refine .nl hb.dU (Sm.ff (by rw[hb.1];rfl) ?_)
     have hl10:=(hn.c hk3).1
     have ed:=fP (h:=h) (l:=l) hl10
     unfold kT
     refine .nr hm.dU ?_
     dsimp only
     rw[show ((g1.node m).kind==6)=false by rw[hk3];rfl]
     refine .nr hb.dU ?_
     dsimp only
     rw[hl,show ((g1.node (aB (g1.node m) (slice h l)).1).kind==2)=true by rw[hb.1];rfl]
     show Sm _ (((qS c.aE i m (slice h l) gen).bind λb=>bif b==0 then .ret none else sY c h gen n (path++[b]) b ((l:Int)+1)).bind K) g1
     rw[I.bind_assoc]
     refine LG (kp:=λb=>pM c h gen again n (path++[b]) b (l+1)) hw1 ht1 hi1 hm hl hb (λg' h' hw' r hr=>?_) λg' h' hw'=>hk.AS g' (h1.trans h') hw'
     rw[show (r==0)=false from beq_eq_false_iff_ne.2 (by have:=hr.one;omega)]
     rw[ed]at hr
     refine Bd hro hg1 n (l+1) (path++[r]) r g' hw' (ht1.ge h') ((hp1.ge h').snoc hr) ?_ (by have:=(h1.trans h').gen;omega) (hk.ge (h1.trans h'))
     rw[dI,tW (by rw[hp.1];exact JV _),hp.1];simp
    ·refine .nl hb.dU (Sm.tt (by rw[hb.1];rfl) ?_)
     exact HJ hw1 ht1 hi1 hm hl hb (hkl _)
  ·have h1l:1<=l:=(hn.t hk5).1
   rw[show ((g1.node m).kind==5)=true by rw[hk5];rfl,show decide (0<l)=true from mI (by omega)]
   simp only[xM]
   obtain⟨l',rfl⟩:∃l',l=l'+1:=⟨l-1,by omega⟩
   rw[show ((l'+1:Nat):Int)-1=(l':Int) by omega,GY]
   exact Sm.as9 (Jz (b:=(l',h%64^l')) hw1 ht1 (hp1.2 l' (by omega)) rfl (.inl (by rw[fP (by omega)];exact hi1)) λg' h' hw' ok=>hk.AS g' (h1.trans h') hw')
  ·rw[show ((g1.node m).kind==5)=false by rw[hk6];rfl,show ((g1.node m).kind==6)=true by rw[hk6];rfl]
   simp only[pJ,xM]
   rw[I.bind_assoc]
   exact Zj hw1 ht1 hi1 hm hk6 (hkl _)
theorem Bg{k:Nat}(hro:c.aE.readOnly=false):∀(n:Nat) (g:Ga),GW g->Tk g c.aE->Sm (yQ c k n) (pE c k n) g
 |0,g,hw,ht=>.ret _ g (q0 rfl)
 |n+1,g,hw,ht=>by
  rw[zL]
  refine Bk hw ht λg1 h1 hw1 r hr=>.nl hr.dU (.nr hr.dU ?_)
  obtain⟨a1,a2⟩:=ZH hw1 hr
  have hP:Path g1 [r] (aH c.key c.aI) 0:=⟨rfl,λj hj=>by
   obtain rfl:j=0:=by omega
   simpa[Nat.mod_one]using hr⟩
  exact Bd hro a1 k 0 [r] r g1 hw1 (ht.ge h1) hP rfl a2 ⟨λg' h' hw' r hr=>.ret _ _ (q0 hr),λg' h' hw'=>Bg hro n g' hw' (ht.ge (h1.trans h'))⟩
structure kZ(g:Ga)(c:Call):Prop where
 lo:7<=c.kind
 hi:c.kind<=12\/c.kind=14
 aE:Tk g c.aE
 ro:c.kind=8\/c.kind=9\/c.kind=12->c.aE.readOnly=false
theorem kZ.ge{g':Ga}(h:kZ g c)(k:Ge g g'):kZ g' c:=⟨h.lo,h.hi,h.aE.ge k,h.ro⟩
theorem Xi{c:Call}(h:c.kind=8):refused c=bif !bU c.key||(decide (c.bF<0)||decide (c.bF>3))then 1 else 0:=by
 have e:refused c=bif bU c.key&&decide (0<=c.bF)&&decide (c.bF<=3)then 0 else 1:=by unfold refused;rw[h];rfl
 have e0:decide (c.bF<0)=!decide (0<=c.bF):=by rw[<- decide_not];exact decide_eq_decide.2 (by omega)
 have e3:decide (c.bF>3)=!decide (c.bF<=3):=by rw[<- decide_not];exact decide_eq_decide.2 (by omega)
 rw[e,e0,e3]
 cases bU c.key<;>cases decide (0<=c.bF)<;>cases decide (c.bF<=3)<;>rfl
theorem IC{c:Call}(h:c.kind=7\/c.kind=9):refused c=bif bU c.key then 0 else 1:=by
 unfold refused;rcases h with h|h<;>rw[h]<;>rfl
theorem DH{c:Call}(h:c.kind=10\/c.kind=11\/c.kind=12):refused c=0:=by
 unfold refused;rcases h with h|h|h<;>rw[h]<;>rfl
theorem Zr{c:Call}(h:c.kind=14):refused c=bif c.aE.readOnly then 0 else 7:=by unfold refused;rw[h];rfl
theorem SB{n:Nat}(hw:GW g)(h:kZ g c):Sm (mS c n) (bY c n) g:=by
 have hlo:=h.lo
 have hhi:=h.hi
 unfold mS
 by_cases hr:refused c=0
 ·by_cases h7:c.kind=7
  ·rw[if_pos h7,FR hr h7]
   have hk:=vW hr (.inl h7)
   refine Sm.ff (by rw[show bU c.key=true from mI hk];rfl) (UD n hw h.aE)
  rw[if_neg h7]
  by_cases h8:c.kind=8
  ·rw[if_pos h8,EF hr h8]
   have hk:=vW hr (.inr (.inl h8))
   have hv:bU c.key=true:=mI hk
   rw[Xi h8]at hr
   cases hb:(!bU c.key||(decide (c.bF<0)||decide (c.bF>3)))with
   |true=>rw[hb]at hr;cases hr
   |false=>exact Sm.ff hb (Ur (h.ro (.inl h8)) hk n g hw h.aE)
  rw[if_neg h8]
  by_cases h9:c.kind=9
  ·rw[if_pos h9,ER hr h9]
   have hk:=vW hr (.inr (.inr h9))
   exact Sm.ff (by rw[show bU c.key=true from mI hk];rfl) (Bg (h.ro (.inr (.inl h9))) n g hw h.aE)
  rw[if_neg h9]
  by_cases h10:c.kind=10
  ·rw[if_pos h10,Xo hr h10];exact Xh n hw h.aE
  rw[if_neg h10]
  by_cases h11:c.kind=11
  ·rw[if_pos h11,HF hr h11];exact II n hw h.aE
  rw[if_neg h11]
  by_cases h14:c.kind=14
  ·rw[if_pos h14,JI hr h14]
   exact S8 hw h.aE (by rw[Zr h14]at hr;cases hro:c.aE.readOnly with
    |true=>rfl
    |false=>rw[hro]at hr;cases hr)
  rw[if_neg h14,Uk hr (by omega)]
  exact Za (h.ro (.inr (.inr (by omega)))) n g hw h.aE
 ·rw[EJ hr]
  by_cases h79:c.kind=7\/c.kind=9
  ·rw[IC h79]at hr ⊢
   cases hv:bU c.key with
   |true=>rw[hv]at hr;exact absurd rfl hr
   |false=>
    rcases h79 with h|h
    ·rw[if_pos h];exact Sm.tt (by rw[hv];rfl) (.ret _ g (q0 rfl))
    ·rw[if_neg (by omega),if_neg (by omega),if_pos h];exact Sm.tt (by rw[hv];rfl) (.ret _ g (q0 rfl))
  ·by_cases h8:c.kind=8
   ·rw[Xi h8]at hr ⊢
    rw[if_neg (by omega),if_pos h8]
    cases hb:(!bU c.key||(decide (c.bF<0)||decide (c.bF>3)))with
    |true=>exact Sm.tt hb (.ret _ g (q0 rfl))
    |false=>rw[hb]at hr;exact absurd rfl hr
   ·by_cases h14:c.kind=14
    ·rw[Zr h14]at hr ⊢
     rw[if_neg (by omega),if_neg (by omega),if_neg (by omega),if_neg (by omega),if_neg (by omega),if_pos h14]
     unfold RE
     cases hro:c.aE.readOnly with
     |true=>rw[hro]at hr;exact absurd rfl hr
     |false=>exact .ret _ g (q0 rfl)
    ·exact absurd (DH (by omega)) hr
end Go.Ct
end
section
namespace Go.Ct
variable{g:Ga}
def X.wt(x:X):Nat:=x.e.eG.length+2*x.e.made.length+x.e.cells.length+x.e.dG.length
def Ju(x y:X):Prop:=y.s.size+x.wt<=x.s.size+y.wt
theorem Ju.refl(x:X):Ju x x:=JV _
theorem Ju.trans{x y z:X}(h:Ju x y)(k:Ju y z):Ju x z:=by unfold Ju at *;omega
theorem Sc(s:St)(i:Int):(s.aV i).1.size=s.size+1:=by unfold St.aV St.size;simp;omega
theorem Vf(s:St):s.bS.1.size=s.size+1:=by unfold St.bS St.size;simp;omega
theorem JU{c:Int}{x y:X}{o:Option Int}(h:dY c x=(y,o)):Ju x y:=by
 unfold dY nD rX jR at h;repeat' split at h
 all_goals (cases h;unfold Ju X.wt;try dsimp only)
 all_goals first
  |exact JV _
  |(rw[cO,CG];have:=(St.Cp x.s c).1;omega)
theorem MZ{c a n:Int}{x y:X}{o:Option Bool}(h:iB c a n x=(y,o)):Ju x y:=by
 unfold iB nD rX jR at h;repeat' split at h
 all_goals (cases h;unfold Ju X.wt;try dsimp only)
 all_goals first
  |exact JV _
  |(rw[cO,CG];have:=(St.Bu x.s c a n).1;omega)
theorem CY{n:Node}{i:Int}{x y:X}{o:Option Int}(h:dB n i x=(y,o)):Ju x y:=by
 unfold dB at h;repeat' split at h
 all_goals (cases h;unfold Ju X.wt;try dsimp only)
 all_goals first
  |exact JV _
  |(rw[cO,CG];have:=(St.lP x.s n i).1;omega)
theorem IQ{i:Int}{x y:X}{o:Option Int}(h:fE i x=(y,o)):Ju x y:=by
 unfold fE at h;repeat' split at h
 all_goals (cases h;unfold Ju X.wt;try dsimp only)
 all_goals first
  |exact JV _
  |(rw[cO,CG];have:=Sc x.s i;omega)
theorem PH{x y:X}{o:Option Int}(h:iH x=(y,o)):Ju x y:=by
 unfold iH at h;repeat' split at h
 all_goals (cases h;unfold Ju X.wt;try dsimp only)
 all_goals first
  |exact JV _
  |(rw[cO,CG];have:=Vf x.s;omega)
theorem uF{α β:Type}{r:X×Option α}{f:α->X->X×Option β}{x y:X}{o:Option β}(hr:∀z o,r=(z,o)->Ju x z)(hf:∀v z o,f v z=(y,o)->Ju z y)(h:iP r f=(y,o)):Ju x y:=by
 obtain⟨z,p⟩:=r
 cases p with
 |none=>cases h;exact hr _ _ rfl
 |some v=>exact(hr _ _ rfl).trans (hf v z o h)
theorem pO{α:Type}:∀{t:I α} {x y:X} {o:Option α},aX t x=(y,o)->Ju x y
 |.ret a,x,y,o,h=>by unfold aX at h;split at h<;>(cases h;exact Ju.refl _)
 |.load c k,x,y,o,h=>uF (λ_ _=>JU) (λv z o h=>pO h) h
 |.eA c a n k,x,y,o,h=>uF (λ_ _=>MZ) (λv z o h=>pO h) h
 |.alloc n i k,x,y,o,h=>uF (λ_ _=>CY) (λv z o h=>pO h) h
 |.cell i k,x,y,o,h=>uF (λ_ _=>IQ) (λv z o h=>pO h) h
 |.gen k,x,y,o,h=>uF (λ_ _=>PH) (λv z o h=>pO h) h
 |.node r k,x,y,o,h=>by unfold aX at h;exact pO h
theorem wC(T:I Result)(free:Nat)(x:X):(bX T free x).s.size+x.wt<=x.s.size+(bX T free x).wt:=by
 have h:=pO (t:=T) (x:=cD free x) (y:=(aX T (cD free x)).1) (o:=(aX T (cD free x)).2) rfl
 have e:(cD free x).wt=x.wt/\(cD free x).s=x.s:=⟨rfl,rfl⟩
 unfold Ju at h
 rw[e.1,e.2]at h
 unfold bX JT
 split<;>exact h
theorem Hu(T:I Result)(free:Nat)(x:X):(bX T free x).e.call=x.e.call:=by
 have h:=lZ (t:=T) (x:=cD free x) (y:=(aX T (cD free x)).1) (o:=(aX T (cD free x)).2) rfl
 unfold bX JT
 split<;>exact h
def FU:Nat:=100000000
def Cx:Nat:=2000000
structure Er(g:Ga)(e:Ex)(u u':I Result):Prop where
 ok:kZ g e.call
 aI:e.call.aI<18446744073709551616
 key:e.call.key.size<=9223372036854775807
 sh:Sh u u' g
 rest:Rest (bY e.call FU) u' g e
 made:∀r∈e.made,1<=r/\r<=200000000000
 RZ:e.eG.length<=Cx
theorem Er.ge{g':Ga}{e:Ex}{u u':I Result}(h:Er g e u u')(hw:GW g)(k:Ge g g'):Er g' e u u':=⟨h.ok.ge k,h.aI,h.key,h.sh.ge k hw,h.rest.ge k,h.made,h.RZ⟩
theorem nZ.WL{s:St}(h:nZ g s)(hf:eK s):PG g:=by unfold PG;rw[<- h.nodes];exact hf
theorem Sk{c:Call}(hk:c.kind=8)(h:refused c=0):c.key.size<=64:=vW h (.inr (.inl hk))
theorem Er.MK{e:Ex}{u u':I Result}(h:Er g e u u')(hf:PG g):e.made.length+e.cells.length+e.dG.length<=60+99*e.eG.length:=
 (HQ e.call FU Sk).rp hf h.rest.rp λr hr=>(h.made r hr).1
theorem Er.result{e:Ex}{u u':I Result}(h:Er g e u u')(hd:e.done=true):e.result.aE.root<=0\/Tk g e.result.aE:=by
 have hu:u'.ended.isSome=true:=by rw[<- h.rest.done];exact hd
 have hs:=h.sh
 have hr:=h.rest.A6
 cases hs with
 |ret a _ hq=>rw[hr a rfl];exact hq
 |load τ h1 h2=>cases hu
 |eA τ h1 hm h2=>cases hu
def room:Nat:=90000000000
theorem Er.ready{e:Ex}{s:St}{u u':I Result}(h:Er g e u u')(ht:nZ g s)(hf:eK s)(hs:s.size<=room):Ok 60 (cD 1 ⟨e,s⟩)/\(cD 1 ⟨e,s⟩).left<FU:=by
 have hu:=h.MK (ht.WL hf)
 have hm:=h.RZ
 unfold Cx at hm
 unfold room at hs
 have hl:(cD 1 ⟨e,s⟩).left=e.eG.length+1:=rfl
 have hz:(cD 1 ⟨e,s⟩).size=s.size+e.eG.length+e.made.length+e.cells.length+e.dG.length:=rfl
 refine⟨⟨hf,.inr ?_,?_,dF _,dF _,dF _,dF _,h.made,by show 1<=10;decide⟩,by rw[hl];unfold FU;omega⟩
 ·rw[hl,hz];unfold cN;omega
 ·rw[hz];unfold cN;omega
theorem Er.step{e:Ex}{s:St}{u u':I Result}(h:Er g e u u')(hw:GW g)(ht:nZ g s)(hf:eK s)(hd:e.done=false)(hn:e.eG.length<Cx)(hok:Ok 50 (bX (bY e.call FU) 1 ⟨e,s⟩)):
  ∃g' v v',u.step s=((bX (bY e.call FU) 1 ⟨e,s⟩).s,v)/\Ge g g'/\GW g'/\nZ g' (bX (bY e.call FU) 1 ⟨e,s⟩).s/\eK (bX (bY e.call FU) 1 ⟨e,s⟩).s/\Er g' (bX (bY e.call FU) 1 ⟨e,s⟩).e v v'/\
   (bX (bY e.call FU) 1 ⟨e,s⟩).e.eG.length=e.eG.length+1/\(bX (bY e.call FU) 1 ⟨e,s⟩).s.size+(X.mk e s).wt<=s.size+(199*(e.eG.length+1)+120)/\(bX (bY e.call FU) 1 ⟨e,s⟩).wt<=199*(e.eG.length+1)+120/\∀P:Ga->I Result->Prop,P8 P->P g u->P g' v:=by
 obtain⟨g',v,v',h1,h2,h3,h4,h5,h6,⟨a,h7⟩,hP⟩:=h.rest.step (x:=⟨e,s⟩) h.sh hw ht hd
 have hc:=Hu (bY e.call FU) 1 ⟨e,s⟩
 have hlen:(bX (bY e.call FU) 1 ⟨e,s⟩).e.eG.length=e.eG.length+1:=by rw[h7,cO];rfl
 have hE:Er g' (bX (bY e.call FU) 1 ⟨e,s⟩).e v v':=⟨by rw[hc];exact h.ok.ge h2,by rw[hc];exact h.aI,by rw[hc];exact h.key,h5,by rw[hc];exact h6,hok.made,by rw[hlen];exact hn⟩
 have hu:=hE.MK (h4.WL hok.fit)
 have hb:=wC (bY e.call FU) 1 ⟨e,s⟩
 have hes:(X.mk e s).s.size=s.size:=rfl
 have hwt:(bX (bY e.call FU) 1 ⟨e,s⟩).wt<=199*(e.eG.length+1)+120:=by unfold X.wt;omega
 exact⟨g',v,v',h1,h2,h3,h4,hok.fit,hE,hlen,by omega,hwt,hP⟩
theorem gW{c:Call}{s:St}(hf:eK s)(hs:s.size<=room):Ok 60 (cD 0 ⟨{call:=c},s⟩)/\(cD 0 ⟨{call:=c},s⟩).left<FU:=by
 unfold room at hs
 have hz:(cD 0 ⟨{call:=c},s⟩).size=s.size:=rfl
 have hl:(cD 0 ⟨{call:=c},s⟩).left=0:=rfl
 refine⟨⟨hf,.inr ?_,?_,dF _,dF _,dF _,dF _,(λr hr=>by cases hr),by show 0<=10;decide⟩,by rw[hl];unfold FU;omega⟩
 ·rw[hl,hz];unfold cN;omega
 ·rw[hz];unfold cN;omega
theorem Er.start{c:Call}{s:St}(hw:GW g)(ht:nZ g s)(hf:eK s)(hc:kZ g c)(hm:c.aI<18446744073709551616)(hk:c.key.size<=9223372036854775807)(hok:Ok 50 (bX (bY c FU) 0 ⟨{call:=c},s⟩)):
  ∃g' u u',(mS c FU).head s=((bX (bY c FU) 0 ⟨{call:=c},s⟩).s,u)/\Ge g g'/\GW g'/\nZ g' (bX (bY c FU) 0 ⟨{call:=c},s⟩).s/\eK (bX (bY c FU) 0 ⟨{call:=c},s⟩).s/\Er g' (bX (bY c FU) 0 ⟨{call:=c},s⟩).e u u'/\
   (bX (bY c FU) 0 ⟨{call:=c},s⟩).e.eG=[]/\(bX (bY c FU) 0 ⟨{call:=c},s⟩).s.size<=s.size+120/\(bX (bY c FU) 0 ⟨{call:=c},s⟩).wt<=120/\(bX (bY c FU) 0 ⟨{call:=c},s⟩).e.call=c/\∀P:Ga->I Result->Prop,P8 P->P g (mS c FU)->P g' u:=by
 obtain⟨g',u,u',h1,h2,h3,h4,h5,h6,h7,hP⟩:=Rest.start (SB (n:=FU) hw hc) hw (x:=⟨{call:=c},s⟩) ht rfl rfl rfl rfl rfl
 have hcc:=Hu (bY c FU) 0 ⟨{call:=c},s⟩
 have hE:Er g' (bX (bY c FU) 0 ⟨{call:=c},s⟩).e u u':=⟨by rw[hcc];exact hc.ge h2,by rw[hcc];exact hm,by rw[hcc];exact hk,h5,by rw[hcc];exact h6,hok.made,by rw[h7];exact dF _⟩
 have hu:=hE.MK (h4.WL hok.fit)
 have hb:=wC (bY c FU) 0 ⟨{call:=c},s⟩
 rw[h7]at hu
 have hwt:(bX (bY c FU) 0 ⟨{call:=c},s⟩).wt<=120:=by unfold X.wt;rw[h7];simp at hu ⊢;omega
 refine⟨g',u,u',h1,h2,h3,h4,hok.fit,hE,h7,?_,hwt,hcc,hP⟩
 have:(X.mk {call:=c} s).wt=0:=rfl
 rw[this]at hb
 show _<=(X.mk {call:=c} s).s.size+120
 omega
end Go.Ct
end
