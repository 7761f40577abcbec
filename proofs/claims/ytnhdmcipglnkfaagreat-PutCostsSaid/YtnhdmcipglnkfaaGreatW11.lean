/- Parts of a proof: Rk, C2, Ayc, C3. -/
import Derived.Test.YtnhdmcipglnkfaaGreatW10
import Derived.Test.YtnhdmcipglnkfaaGreatW08
set_option linter.unusedVariables false
set_option linter.unusedSimpArgs false
set_option maxRecDepth 100000
set_option maxHeartbeats 4000000
section
namespace Go.Ct
def out{α:Type}(y:X)(v:α):X×Option α:=(y,if y.e.aD=true then none else some v)
theorem kO{α:Type}{y:X}{v:α}(h:y.e.aD=false):out y v=(y,some v):=by unfold out;rw[if_neg (by rw[h];decide)]
theorem lM{α:Type}{y:X}{v:α}(h:y.e.aD=true):out y v=(y,none):=by unfold out;rw[if_pos h]
theorem rS{α:Type}{t:I α}{y:X}{v:α}(h:y.e.aD=true):bC t y=out y v:=by rw[cU h,lM h]
theorem rR{α:Type}{y:X}{v:α}:bC (.ret v) y=out y v:=by unfold bC out;split<;>rfl
theorem Ai{α β:Type}{r:X×Option α}{f:α->X->X×Option β}{y:X}{v:α}{o:X×Option β}(q:r=out y v)(hf:y.e.aD=true->f v y=(y,none))(h:f v y=o):kS r f=o:=by
 rw[q]
 cases hs:y.e.aD with
 |true=>rw[lM hs,<- h,hf hs];rfl
 |false=>rw[kO hs];exact h
theorem rL{α:Type}{c:Int}{k:Int->I α}{x y:X}{v:Int}{o:X×Option α}(q:eK c x=out y v)(h:bC (k v) y=o):bC (.load c k) x=o:=Ai q (λhs=>cU hs) h
theorem rC{α:Type}{c o' n:Int}{k:Bool->I α}{x y:X}{v:Bool}{o:X×Option α}(q:jT c o' n x=out y v)(h:bC (k v) y=o):bC (.cH c o' n k) x=o:=Ai q (λhs=>cU hs) h
theorem rA{α:Type}{n:Node}{i:Int}{k:Int->I α}{x y:X}{v:Int}{o:X×Option α}(q:dE n i x=out y v)(h:bC (k v) y=o):bC (.alloc n i k) x=o:=Ai q (λhs=>cU hs) h
theorem rE{α:Type}{i:Int}{k:Int->I α}{x y:X}{v:Int}{o:X×Option α}(q:fU i x=out y v)(h:bC (k v) y=o):bC (.cell i k) x=o:=Ai q (λhs=>cU hs) h
theorem rG{α:Type}{k:Int->I α}{x y:X}{v:Int}{o:X×Option α}(q:kN x=out y v)(h:bC (k v) y=o):bC (.gen k) x=o:=Ai q (λhs=>cU hs) h
theorem rB{α β:Type}{t:I α}{f:α->I β}{x y:X}{v:α}{o:X×Option β}(q:bC t x=out y v)(h:bC (f v) y=o):bC (t.bind f) x=o:=by
 rw[kJ];exact Ai q (λhs=>cU hs) h
theorem rN{α:Type}{r:Int}{k:Node->I α}{x:X}{o:X×Option α}(h:bC (k (x.node r)) x=o):bC (.node r k) x=o:=h
theorem rT{α:Type}{c:Bool}{a b:I α}{x:X}{o:X×Option α}(hc:c=true)(h:bC a x=o):bC (bif c then a else b) x=o:=by rw[hc];exact h
theorem rF{α:Type}{c:Bool}{a b:I α}{x:X}{o:X×Option α}(hc:c=false)(h:bC b x=o):bC (bif c then a else b) x=o:=by rw[hc];exact h
def X.left(x:X):Nat:=x.e.eV.length-x.e.a+x.e.free
def X.size(x:X):Nat:=x.s.size+x.e.eV.length+x.e.made.length+x.e.cells.length+x.e.dU.length
def cW:Nat:=100000000000
def cL(s:St):Prop:=∀n∈s.aG,n.Fit s.aG.length
structure Ok(j:Nat)(x:X):Prop where
 fit:cL x.s
 room:x.e.aD=true\/x.size+1000*x.left+10*j<=cW
 Cn:x.size<=cW
 a:x.e.a<=x.e.eV.length
 m:x.e.m<=x.e.made.length
 c:x.e.c<=x.e.cells.length
 g:x.e.g<=x.e.dU.length
 made:∀r∈x.e.made,1<=r/\r<=200000000000
 free:x.e.free<=10
theorem Ok.less{j k:Nat}{x:X}(h:Ok j x)(hk:k<=j):Ok k x:={h with room:=h.room.imp id λh=>by omega}
theorem Ok.stop{j k:Nat}{x:X}(h:Ok j x)(hs:x.e.aD=true):Ok k x:={h with room:=.inl hs}
theorem cL.node{s:St}(h:cL s)(r:Int):(s.node r).Fit s.aG.length:=by
 unfold St.node
 split
 ·exact rD _
 ·split
  ·exact bP _ 1 0 0 0 0
  ·by_cases hr:r.toNat-3<s.aG.length
   ·rw[cK,fV hr];exact h _ (uY hr)
   ·rw[cK,List.getElem?_eq_none (by omega)];exact rD _
theorem St.Bi(s:St)(c:Int):(s.load c).1.size=s.size+1/\(s.load c).1.aG=s.aG:=⟨by simp only[St.load,St.size];omega,rfl⟩
theorem St.zX(s:St)(c o n:Int):(s.cH c o n).1.size=s.size+1/\(s.cH c o n).1.aG=s.aG:=by
 refine⟨?_,rfl⟩
 simp only[St.cH,St.size]
 split<;>(try rw[tS])<;>omega
theorem St.mM(s:St)(n:Node)(i:Int):(s.alloc n i).1.size<=s.size+2/\s.size<=(s.alloc n i).1.size/\(s.alloc n i).1.aG.length=s.aG.length+1:=by
 simp only[St.alloc,St.aT,St.size]
 split<;>simp<;>omega
theorem Qh{L:Nat}{n:Node}(h:n.Fit L)(c:Int)(hc:0<=c):
  (if n.kind==2 then{n.bare with main:=c}else if n.bG then{n.bare with prev:=c}else if n.kind==8 then{n.bare with status:=c}else n.bare:Node).Fit L:=by
 obtain⟨⟨h1,h2,h3,h4,h5,h6,h7⟩,h8⟩:=h
 by_cases k2:n.kind=2
 ·rw[if_pos (by simp[k2])]
  exact⟨⟨h1,h2,h3,h4,h5,h6,λhk=>absurd hk (by show ¬(n.kind=3\/n.kind=6);omega)⟩,h8⟩
 ·rw[if_neg (by simp[k2])]
  by_cases km:n.bG=true
  ·rw[if_pos km]
   exact⟨⟨h1,h2,h3,h4,h5,h6,λhk=>Dp n c hc hk (h7 hk)⟩,h8⟩
  ·rw[if_neg km]
   have aLk:¬(n.kind=3\/n.kind=6):=λhk=>km (by unfold Node.bG;rcases hk with hk|hk<;>simp[hk])
   split
   ·exact⟨⟨h1,h2,h3,h4,h5,h6,λhk=>absurd hk aLk⟩,h8⟩
   ·exact⟨⟨h1,h2,h3,h4,h5,h6,λhk=>absurd hk aLk⟩,h8⟩
theorem cL.alloc{s:St}(h:cL s){n:Node}(hn:n.Fit (s.aG.length+1))(i:Int):cL (s.alloc n i).1:=by
 intro m hm
 have hl:=(St.mM s n i).2.2
 rw[hl]
 have hd:(s.alloc n i).1.aG=s.aG++[(if n.kind==2 then{n.bare with main:=(s.cells.length:Int)+1}else if n.bG then{n.bare with prev:=(s.cells.length:Int)+1}else if n.kind==8 then{n.bare with status:=(s.cells.length:Int)+1}else n.bare:Node)]:=by
  simp only[St.alloc,St.aT];split<;>rfl
 rw[hd,He,Ur]at hm
 rcases hm with hm|rfl
 ·exact(h m hm).mono (by omega)
 ·exact Qh hn _ (by omega)
theorem St.oF(s:St)(n:Node)(i:Int):1<=(s.alloc n i).2:=by simp only[St.alloc];omega
theorem Nk{j:Nat}{c:Int}{x y:X}{v:Int}(h:Ok j x)(q:eK c x=out y v):Ok (j+99) y/\y.s.aG=x.s.aG/\(y.e.aD=false->y.left<x.left/\x.e.aD=false)/\(x.e.aD=true->y=x):=by
 have q1:=congrArg Prod.fst q
 simp only[out]at q1
 subst q1
 obtain⟨h1,h2,h3,h4,h5,h6,h7,h8,h9⟩:=h
 unfold eK
 split
 ·rename_i hs
  exact⟨⟨h1,.inl hs,h3,h4,h5,h6,h7,h8,h9⟩,rfl,(λh=>by first|(rw[hs]at h;cases h)|cases h),λ_=>rfl⟩
 ·rename_i hs
  have hr:=h2.resolve_left hs
  unfold X.size X.left at hr
  split
  ·rename_i ha
   refine⟨⟨h1,.inr ?_,h3,ha,h5,h6,h7,h8,h9⟩,rfl,λ_=>⟨?_,by simpa using hs⟩,λh=>absurd h hs⟩
   ·unfold X.size X.left qO;dsimp only;omega
   ·unfold X.left qO;dsimp only;omega
  ·split
   ·exact⟨⟨h1,.inl rfl,h3,h4,h5,h6,h7,h8,h9⟩,rfl,(λh=>by cases h),λh=>absurd h hs⟩
   ·obtain⟨e1,e2⟩:=St.Bi x.s c
    refine⟨⟨by unfold mB cL;dsimp only;rw[e2];exact h1,.inr ?_,?_,?_,h5,h6,h7,h8,?_⟩,e2,λ_=>⟨?_,by simpa using hs⟩,λh=>absurd h hs⟩
    ·unfold X.size X.left mB;dsimp only;rw[e1,cV,fR];omega
    ·unfold X.size mB;dsimp only;rw[e1,cV,fR];unfold cW at *;omega
    ·unfold mB;dsimp only;rw[cV,fR];omega
    ·unfold mB;dsimp only;omega
    ·unfold X.left mB;dsimp only;rw[cV,fR];omega
theorem PK{j:Nat}{c o n:Int}{x y:X}{v:Bool}(h:Ok j x)(q:jT c o n x=out y v):Ok (j+99) y/\y.s.aG=x.s.aG/\(y.e.aD=false->y.left<x.left/\x.e.aD=false)/\(x.e.aD=true->y=x):=by
 have q1:=congrArg Prod.fst q
 simp only[out]at q1
 subst q1
 obtain⟨h1,h2,h3,h4,h5,h6,h7,h8,h9⟩:=h
 unfold jT
 split
 ·rename_i hs
  exact⟨⟨h1,.inl hs,h3,h4,h5,h6,h7,h8,h9⟩,rfl,(λh=>by first|(rw[hs]at h;cases h)|cases h),λ_=>rfl⟩
 ·rename_i hs
  have hr:=h2.resolve_left hs
  unfold X.size X.left at hr
  split
  ·rename_i ha
   refine⟨⟨h1,.inr ?_,h3,ha,h5,h6,h7,h8,h9⟩,rfl,λ_=>⟨?_,by simpa using hs⟩,λh=>absurd h hs⟩
   ·unfold X.size X.left qO;dsimp only;omega
   ·unfold X.left qO;dsimp only;omega
  ·split
   ·exact⟨⟨h1,.inl rfl,h3,h4,h5,h6,h7,h8,h9⟩,rfl,(λh=>by cases h),λh=>absurd h hs⟩
   ·obtain⟨e1,e2⟩:=St.zX x.s c o n
    refine⟨⟨by unfold mB cL;dsimp only;rw[e2];exact h1,.inr ?_,?_,?_,h5,h6,h7,h8,?_⟩,e2,λ_=>⟨?_,by simpa using hs⟩,λh=>absurd h hs⟩
    ·unfold X.size X.left mB;dsimp only;rw[e1,cV,fR];omega
    ·unfold X.size mB;dsimp only;rw[e1,cV,fR];unfold cW at *;omega
    ·unfold mB;dsimp only;rw[cV,fR];omega
    ·unfold mB;dsimp only;omega
    ·unfold X.left mB;dsimp only;rw[cV,fR];omega
theorem Oe{j:Nat}{n:Node}{i:Int}{x y:X}{v:Int}(h:Ok (j+1) x)(hn:n.Fit (x.s.aG.length+1))(q:dE n i x=out y v):Ok j y/\x.s.aG.length<=y.s.aG.length/\(y.e.aD=false->1<=v)/\y.e.aD=x.e.aD/\y.left=x.left/\(x.e.aD=true->y=x):=by
 have q1:=congrArg Prod.fst q
 have q2:=congrArg Prod.snd q
 simp only[out]at q1 q2
 rw[q1.symm]at q2
 subst q1
 obtain⟨h1,h2,h3,h4,h5,h6,h7,h8,h9⟩:=h
 unfold dE at q2 ⊢
 split
 ·rename_i hs
  exact⟨⟨h1,.inl hs,h3,h4,h5,h6,h7,h8,h9⟩,aW _,(λh=>by first|(rw[hs]at h;cases h)|cases h),rfl,rfl,λ_=>rfl⟩
 ·rename_i hs
  rw[if_neg hs]at q2
  have hr:=h2.resolve_left hs
  unfold X.size X.left at hr
  split
  ·rename_i hm
   rw[if_pos hm]at q2
   obtain⟨e1,e2,e3⟩:=St.mM x.s n i
   have mD:x.e.aD=false:=by simpa using hs
   refine⟨⟨h1.alloc hn i,.inr ?_,?_,h4,?_,h6,h7,?_,h9⟩,by dsimp only;omega,λ_=>?_,rfl,rfl,λh=>absurd h hs⟩
   ·unfold X.size X.left;dsimp only;rw[cV,fR];omega
   ·unfold X.size;dsimp only;rw[cV,fR];unfold cW at *;omega
   ·dsimp only;rw[cV,fR];omega
   ·intro r nN
    dsimp only at nN
    rw[He,Ur]at nN
    rcases nN with nN|rfl
    ·exact h8 r nN
    ·refine⟨St.oF _ _ _,?_⟩
     show (x.s.aG.length:Int)+3<=_
     unfold St.size cW at hr;omega
   ·dsimp only at q2
    rw[if_neg (by rw[mD];decide)]at q2
    injection q2 with q2
    rw[<- q2];exact St.oF _ _ _
  ·rename_i hm
   rw[if_neg hm]at q2
   have mD:x.e.aD=false:=by simpa using hs
   refine⟨⟨h1,.inr ?_,h3,h4,?_,h6,h7,h8,h9⟩,aW _,λ_=>?_,rfl,rfl,λh=>absurd h hs⟩
   ·unfold X.size X.left;dsimp only;omega
   ·dsimp only;omega
   ·dsimp only at q2
    rw[if_neg (by rw[mD];decide)]at q2
    injection q2 with q2
    rw[<- q2]
    refine(h8 _ ?_).1
    rw[cK,fV (by omega)]
    exact uY _
theorem RW{j:Nat}{i:Int}{x y:X}{v:Int}(h:Ok (j+1) x)(q:fU i x=out y v):Ok j y/\y.s.aG=x.s.aG/\y.e.aD=x.e.aD/\y.left=x.left/\(x.e.aD=true->y=x):=by
 have q1:=congrArg Prod.fst q
 simp only[out]at q1
 subst q1
 obtain⟨h1,h2,h3,h4,h5,h6,h7,h8,h9⟩:=h
 unfold fU
 split
 ·rename_i hs
  exact⟨⟨h1,.inl hs,h3,h4,h5,h6,h7,h8,h9⟩,rfl,rfl,rfl,λ_=>rfl⟩
 ·rename_i hs
  have hr:=h2.resolve_left hs
  unfold X.size X.left at hr
  split
  ·refine⟨⟨h1,.inr ?_,?_,h4,h5,?_,h7,h8,h9⟩,rfl,rfl,rfl,λh=>absurd h hs⟩
   ·unfold X.size X.left St.aT St.size at *;dsimp only;rw[cV,cV,fR,fR];omega
   ·unfold X.size St.aT St.size at *;dsimp only;rw[cV,cV,fR,fR];unfold cW at *;omega
   ·dsimp only;rw[cV,fR];omega
  ·refine⟨⟨h1,.inr ?_,h3,h4,h5,?_,h7,h8,h9⟩,rfl,rfl,rfl,λh=>absurd h hs⟩
   ·unfold X.size X.left;dsimp only;omega
   ·dsimp only;omega
theorem B2{j:Nat}{x y:X}{v:Int}(h:Ok (j+1) x)(q:kN x=out y v):Ok j y/\y.s.aG=x.s.aG/\y.e.aD=x.e.aD/\y.left=x.left/\(x.e.aD=true->y=x):=by
 have q1:=congrArg Prod.fst q
 simp only[out]at q1
 subst q1
 obtain⟨h1,h2,h3,h4,h5,h6,h7,h8,h9⟩:=h
 unfold kN
 split
 ·rename_i hs
  exact⟨⟨h1,.inl hs,h3,h4,h5,h6,h7,h8,h9⟩,rfl,rfl,rfl,λ_=>rfl⟩
 ·rename_i hs
  have hr:=h2.resolve_left hs
  unfold X.size X.left at hr
  split
  ·refine⟨⟨h1,.inr ?_,?_,h4,h5,h6,?_,h8,h9⟩,rfl,rfl,rfl,λh=>absurd h hs⟩
   ·unfold X.size X.left St.bL St.size at *;dsimp only;rw[cV,fR];omega
   ·unfold X.size St.bL St.size at *;dsimp only;rw[cV,fR];unfold cW at *;omega
   ·dsimp only;rw[cV,fR];omega
  ·refine⟨⟨h1,.inr ?_,h3,h4,h5,h6,?_,h8,h9⟩,rfl,rfl,rfl,λh=>absurd h hs⟩
   ·unfold X.size X.left;dsimp only;omega
   ·dsimp only;omega
def iF{α:Type}:I α->Nat->Nat->(Nat->Nat->α->Prop)->Prop
 |.ret a,j,L,Q=>Q j L a
 |.load c k,j,L,Q=>∀v,iF (k v) (j+99) L Q
 |.cH c o n k,j,L,Q=>∀v,iF (k v) (j+99) L Q
 |.alloc n i k,j,L,Q=>1<=j/\n.Fit (L+1)/\∀r,1<=r->iF (k r) (j-1) L Q
 |.cell i k,j,L,Q=>1<=j/\∀r,iF (k r) (j-1) L Q
 |.gen k,j,L,Q=>1<=j/\∀r,iF (k r) (j-1) L Q
 |.node r k,j,L,Q=>∀L' n,L<=L'->n.Fit L'->iF (k n) j L' Q
theorem iF.mono{α:Type}:∀{t:I α} {j j' L L':Nat} {Q Q':Nat->Nat->α->Prop},iF t j L Q->j<=j'->L<=L'->(∀i i' M M' a,i<=i'->M<=M'->Q i M a->Q' i' M' a)->iF t j' L' Q'
 |.ret a,j,j',L,L',Q,Q',h,hj,hL,hQ=>hQ _ _ _ _ _ hj hL h
 |.load c k,j,j',L,L',Q,Q',h,hj,hL,hQ=>λv=>iF.mono (h v) (by omega) hL hQ
 |.cH c o n k,j,j',L,L',Q,Q',h,hj,hL,hQ=>λv=>iF.mono (h v) (by omega) hL hQ
 |.alloc n i k,j,j',L,L',Q,Q',h,hj,hL,hQ=>⟨kR h.1 hj,h.2.1.mono (by omega),λr hr=>iF.mono (h.2.2 r hr) (by omega) hL hQ⟩
 |.cell i k,j,j',L,L',Q,Q',h,hj,hL,hQ=>⟨kR h.1 hj,λr=>iF.mono (h.2 r) (by omega) hL hQ⟩
 |.gen k,j,j',L,L',Q,Q',h,hj,hL,hQ=>⟨kR h.1 hj,λr=>iF.mono (h.2 r) (by omega) hL hQ⟩
 |.node r k,j,j',L,L',Q,Q',h,hj,hL,hQ=>λM n hM hn=>iF.mono (h M n (kR hL hM) hn) hj (aW _) hQ
theorem iF.bind{α β:Type}:∀{t:I α} {f:α->I β} {j L:Nat} {Q:Nat->Nat->β->Prop},iF t j L (λj L a=>iF (f a) j L Q)->iF (t.bind f) j L Q
 |.ret a,f,j,L,Q,h=>h
 |.load c k,f,j,L,Q,h=>λv=>iF.bind (h v)
 |.cH c o n k,f,j,L,Q,h=>λv=>iF.bind (h v)
 |.alloc n i k,f,j,L,Q,h=>⟨h.1,h.2.1,λr hr=>iF.bind (h.2.2 r hr)⟩
 |.cell i k,f,j,L,Q,h=>⟨h.1,λr=>iF.bind (h.2 r)⟩
 |.gen k,f,j,L,Q,h=>⟨h.1,λr=>iF.bind (h.2 r)⟩
 |.node r k,f,j,L,Q,h=>λM n hM hn=>iF.bind (h M n hM hn)
theorem iF.bif{α:Type}{c:Bool}{a b:I α}{j L:Nat}{Q:Nat->Nat->α->Prop}(ha:c=true->iF a j L Q)(hb:c=false->iF b j L Q):iF (bif c then a else b) j L Q:=by
 cases c with
 |true=>exact ha rfl
 |false=>exact hb rfl
theorem Dc{c:Int}{x z:X}{o:Option Int}(h:eK c x=(z,o)):z.left<=x.left:=by
 unfold eK at h
 split at h
 ·cases h;exact aW _
 ·split at h
  ·cases h;unfold X.left qO;dsimp only;omega
  ·split at h
   ·cases h;exact aW _
   ·cases h;unfold X.left mB;dsimp only;rw[cV,fR];omega
theorem Yc{c a n:Int}{x z:X}{o:Option Bool}(h:jT c a n x=(z,o)):z.left<=x.left:=by
 unfold jT at h
 split at h
 ·cases h;exact aW _
 ·split at h
  ·cases h;unfold X.left qO;dsimp only;omega
  ·split at h
   ·cases h;exact aW _
   ·cases h;unfold X.left mB;dsimp only;rw[cV,fR];omega
theorem iF.ok{α:Type}:∀{t:I α} {j L:Nat} {Q:Nat->Nat->α->Prop} {x y:X} {v:α},iF t j L Q->Ok j x->L<=x.s.aG.length->bC t x=out y v->Ok 0 y/\(y.e.aD=false->∃j' L',Q j' L' v/\Ok j' y/\L'<=y.s.aG.length)/\x.s.aG.length<=y.s.aG.length/\(x.e.aD=true->y=x)/\y.left<=x.left:=by
 intro t
 induction t with
 |ret a=>
  intro j L Q x y v h hx hL q
  rw[rR (v:=a)]at q
  have q1:x=y:=congrArg Prod.fst q
  subst q1
  refine⟨hx.less (bZ _),λhs=>?_,aW _,λ_=>rfl,aW _⟩
  have q2:=congrArg Prod.snd q
  simp only[out,hs]at q2
  simp at q2
  subst q2
  exact⟨j,L,h,hx,hL⟩
 |load c k ih=>
  intro j L Q x y v h hx hL q
  cases hs:x.e.aD with
  |true=>
   rw[cU hs]at q
   have q1:x=y:=congrArg Prod.fst q
   subst q1
   exact⟨hx.less (bZ _),(λh=>by first|(rw[hs]at h;cases h)|cases h),aW _,λ_=>rfl,aW _⟩
  |false=>
   rw[run_load]at q
   obtain⟨z,o,hz⟩:∃z o,eK c x=(z,o):=⟨_,_,rfl⟩
   cases o with
   |none=>
    have oP:=DV hz
    have Tx:eK c x=out z 0:=by rw[hz,lM oP]
    rw[hz]at q
    have q1:z=y:=congrArg Prod.fst q
    subst q1
    obtain⟨k1,k2,_,k4⟩:=Nk hx Tx
    refine⟨k1.less (bZ _),(λh=>by rw[oP]at h;cases h),by rw[k2];exact aW _,(λh=>by first|(rw[hs]at h;cases h)|cases h),Dc hz⟩
   |some u=>
    have KL:=IC hz
    have Tx:eK c x=out z u:=by rw[hz,kO KL]
    rw[hz]at q
    obtain⟨k1,k2,k3,_⟩:=Nk hx Tx
    obtain⟨g1,g2,g3,g4,g5⟩:=ih u (h u) k1 (by rw[k2];exact hL) q
    exact⟨g1,g2,by rw[k2]at g3;exact g3,(λh=>by first|(rw[hs]at h;cases h)|cases h),by have:=(k3 KL).1;omega⟩
 |cH c o n k ih=>
  intro j L Q x y v h hx hL q
  cases hs:x.e.aD with
  |true=>
   rw[cU hs]at q
   have q1:x=y:=congrArg Prod.fst q
   subst q1
   exact⟨hx.less (bZ _),(λh=>by first|(rw[hs]at h;cases h)|cases h),aW _,λ_=>rfl,aW _⟩
  |false=>
   rw[My]at q
   obtain⟨z,w,hz⟩:∃z w,jT c o n x=(z,w):=⟨_,_,rfl⟩
   cases w with
   |none=>
    have oP:=Z6 hz
    have Tx:jT c o n x=out z false:=by rw[hz,lM oP]
    rw[hz]at q
    have q1:z=y:=congrArg Prod.fst q
    subst q1
    obtain⟨k1,k2,_,k4⟩:=PK hx Tx
    refine⟨k1.less (bZ _),(λh=>by rw[oP]at h;cases h),by rw[k2];exact aW _,(λh=>by first|(rw[hs]at h;cases h)|cases h),Yc hz⟩
   |some u=>
    have KL:=Z1 hz
    have Tx:jT c o n x=out z u:=by rw[hz,kO KL]
    rw[hz]at q
    obtain⟨k1,k2,k3,_⟩:=PK hx Tx
    obtain⟨g1,g2,g3,g4,g5⟩:=ih u (h u) k1 (by rw[k2];exact hL) q
    exact⟨g1,g2,by rw[k2]at g3;exact g3,(λh=>by first|(rw[hs]at h;cases h)|cases h),by have:=(k3 KL).1;omega⟩
 |alloc n i k ih=>
  intro j L Q x y v h hx hL q
  cases hs:x.e.aD with
  |true=>
   rw[cU hs]at q
   have q1:x=y:=congrArg Prod.fst q
   subst q1
   exact⟨hx.less (bZ _),(λh=>by first|(rw[hs]at h;cases h)|cases h),aW _,λ_=>rfl,aW _⟩
  |false=>
   rw[Iu]at q
   obtain⟨z,o,hz⟩:∃z o,dE n i x=(z,o):=⟨_,_,rfl⟩
   cases o with
   |none=>obtain⟨rfl,oP⟩:=XT hz;rw[hs]at oP;cases oP
   |some u=>
    have KL:=WV hz
    have Tx:dE n i x=out z u:=by rw[hz,kO KL]
    rw[hz]at q
    obtain⟨k1,k2,k3,k4,k5,_⟩:=Oe (j:=j-1) (hx.less (by have:=h.1;omega)) (h.2.1.mono (by omega)) Tx
    obtain⟨g1,g2,g3,g4,g5⟩:=ih u (h.2.2 u (k3 KL)) k1 (by omega) q
    exact⟨g1,g2,by omega,(λh=>by first|(rw[hs]at h;cases h)|cases h),by omega⟩
 |cell i k ih=>
  intro j L Q x y v h hx hL q
  cases hs:x.e.aD with
  |true=>
   rw[cU hs]at q
   have q1:x=y:=congrArg Prod.fst q
   subst q1
   exact⟨hx.less (bZ _),(λh=>by first|(rw[hs]at h;cases h)|cases h),aW _,λ_=>rfl,aW _⟩
  |false=>
   rw[Sw]at q
   obtain⟨z,o,hz⟩:∃z o,fU i x=(z,o):=⟨_,_,rfl⟩
   cases o with
   |none=>obtain⟨rfl,oP⟩:=J7 hz;rw[hs]at oP;cases oP
   |some u=>
    have KL:=B8 hz
    have Tx:fU i x=out z u:=by rw[hz,kO KL]
    rw[hz]at q
    obtain⟨k1,k2,k3,k4,_⟩:=RW (j:=j-1) (hx.less (by have:=h.1;omega)) Tx
    obtain⟨g1,g2,g3,g4,g5⟩:=ih u (h.2 u) k1 (by rw[k2];exact hL) q
    exact⟨g1,g2,by rw[k2]at g3;exact g3,(λh=>by first|(rw[hs]at h;cases h)|cases h),by omega⟩
 |gen k ih=>
  intro j L Q x y v h hx hL q
  cases hs:x.e.aD with
  |true=>
   rw[cU hs]at q
   have q1:x=y:=congrArg Prod.fst q
   subst q1
   exact⟨hx.less (bZ _),(λh=>by first|(rw[hs]at h;cases h)|cases h),aW _,λ_=>rfl,aW _⟩
  |false=>
   rw[AS]at q
   obtain⟨z,o,hz⟩:∃z o,kN x=(z,o):=⟨_,_,rfl⟩
   cases o with
   |none=>obtain⟨rfl,oP⟩:=U3 hz;rw[hs]at oP;cases oP
   |some u=>
    have KL:=Y3 hz
    have Tx:kN x=out z u:=by rw[hz,kO KL]
    rw[hz]at q
    obtain⟨k1,k2,k3,k4,_⟩:=B2 (j:=j-1) (hx.less (by have:=h.1;omega)) Tx
    obtain⟨g1,g2,g3,g4,g5⟩:=ih u (h.2 u) k1 (by rw[k2];exact hL) q
    exact⟨g1,g2,by rw[k2]at g3;exact g3,(λh=>by first|(rw[hs]at h;cases h)|cases h),by omega⟩
 |node r k ih=>
  intro j L Q x y v h hx hL q
  exact ih (x.node r) (h x.s.aG.length _ hL (hx.fit.node r)) hx (aW _) q
def lZ{α:Type}(a b:Nat)(t:I α)(Q:α->Prop:=λ_=>True):Prop:=∀j L,a<=j->iF t j L λj' L' v=>b<=j'/\L<=L'/\Q v
abbrev Good{α:Type}(a:Nat)(t:I α)(Q:α->Prop:=λ_=>True):Prop:=lZ a 60 t Q
theorem lZ.ok{α:Type}{a b:Nat}{t:I α}{Q:α->Prop}{x y:X}{v:α}(h:lZ a b t Q)(hx:Ok a x)(q:bC t x=out y v):Ok b y/\(y.e.aD=false->Q v)/\y.left<=x.left/\(x.e.aD=true->y=x):=by
 obtain⟨h1,h2,h3,h4,h5⟩:=(h a _ (aW _)).ok hx (aW _) q
 refine⟨?_,λhs=>?_,h5,h4⟩
 ·cases hs:y.e.aD with
  |true=>exact h1.stop hs
  |false=>obtain⟨j',L',hq,hk,_⟩:=h2 hs;exact hk.less hq.1
 ·obtain⟨j',L',hq,_⟩:=h2 hs;exact hq.2.2
end Go.Ct
end
section
namespace Go.Ct
variable{β:Type}
def Gc(i m p:Int)(k:Int->I β):I β:=.node p λb=>.node i λa=>.cH a.main m b.dO λ_=>k b.dO
def oB(prev p:Int)(commit:Bool)(k:Bool->I β):I β:=bif commit then .cH prev p 0 k else .alloc {kind:=7,dO:=p} 0 λf=>.cH prev p f k
def mN(t:aX)(v s:Int)(k:Int->I β):I β:=.node v λd=>bif s==1 then .cH t.root v d.new λ_=>k d.new else .cH t.root v d.dO λ_=>k d.dO
def Vz(t:aX)(k:Int->I β):I β:=
 .load t.root λv=>.node v λd=>bif d.kind==2 then k v else
  .load d.status λs=>bif s != 0 then mN t v s k else .cH d.status 0 2 λ_=>.load d.status λs=>mN t v s k
def mI(prev i m:Int)(k:Int->I β)(_:Bool):I β:=.load prev λp=>bif p==0 then k m else Gc i m p k
def nZ(t:aX)(i m:Int)(k:Int->I β):I β:=
 .node m λn=>.load n.prev λp=>bif p==0 then k m else .node p λb=>bif !b.bG then Gc i m p k else
  bif t.readOnly then oB n.prev p false (mI n.prev i m k)else Vz t λr=>.node r λa=>.node i λb=>oB n.prev p (a.gen==b.gen) (mI n.prev i m k)
def kT(t:aX)(i:Int)(k:Int->I β):I β:=.node i λn=>.load n.main λm=>nZ t i m k
def swapT(t:aX)(i dO n:Int)(k:Bool->I β):I β:=.node i λa=>.cH a.main dO n λok=>bif !ok then k false else nZ t i n λm=>k (m==n)
def Vk(t:aX)(d:Node)(k:I β):I β:=kT t d.dO λm=>bif m==d.aS then .cH d.status 0 1 λ_=>k else .cH d.status 0 2 λ_=>k
def uD(t:aX)(k:Int->I β):I β:=
 .load t.root λv=>.node v λd=>bif d.kind==2 then k v else
  .load d.status λs=>bif s != 0 then mN t v s k else Vk t d (.load d.status λs=>mN t v s k)
def tI(t:aX)(dO aS new:Int)(k:Bool->I β):I β:=
 .alloc {kind:=8,dO:=dO,aS:=aS,new:=new} 0 λv=>.node v λd=>.cH t.root dO v λok=>bif !ok then k false else
  Vk t d (.load d.status λs=>mN t v s λ_=>k (s==1))
def Zi(t:aX):Nat->I Result
 |0=>.ret {}
 |n+1=>uD t λr=>kT t r λm=>.alloc {kind:=3} 0 λc=>.gen λg=>.alloc {kind:=2,gen:=g} c λi=>tI t r m i λok=>bif !ok then Zi t n else .ret {found:=true}
def Ey(t:aX)(k:Int->Int->I Result):Nat->I Result
 |0=>.ret {}
 |n+1=>uD t λr=>kT t r λm=>.gen λg=>.alloc {kind:=2,gen:=g} m λi=>tI t r m i λok=>bif !ok then Ey t k n else k r m
def wJ(m:Int):I Result:=.gen λg=>.alloc {kind:=2,gen:=g} m λi=>.cell i λc=>.ret {found:=true,aF:={root:=c}}
def Eu(r:Int):I Result:=.cell r λc=>.ret {found:=true,aF:={root:=c,readOnly:=true}}
def sZ(t:aX)(n:Nat):I Result:=bif t.readOnly then .load t.root λr=>kT t r wJ else Ey t (λ_ m=>wJ m) n
def Ag(t:aX)(n:Nat):I Result:=bif t.readOnly then .load t.root Eu else Ey t (λr _=>Eu r) n
def oE(t:aX)(i c index:Int)(k:Int->I β):I β:=
 .node c λn=>bif !(aB n index).2 then k 0 else kT t (aB n index).1 λm=>.node i λa=>.alloc {kind:=2,gen:=a.gen} m λj=>
  .node c λn=>bif !(aM n index j).2 then k 0 else .alloc (aM n index j).1 c λr=>swapT t i c r λok=>bif !ok then k 0 else k j
def mP(t:aX)(parent child:Int)(h:Nat)(level:Int)(k:Bool->I β):I β:=
 kT t parent λm=>.node m λn=>bif !(aB n (slice h level)).2 then k false else bif (aB n (slice h level)).1 != child then k false else
  kT t child λq=>.node q λb=>bif !(aP b).2 then k false else
   .node m λn=>.alloc (aP b).1 0 λs=>bif !(aM n (slice h level) s).2 then k false else .alloc (bI (aM n (slice h level) s).1 level (aP b).1) m λr=>swapT t parent m r k
end Go.Ct
end
section
namespace Go.Q9
open Go.Proofs.Tryz
open Go.E
end Go.Q9
end
section
namespace Go.Ct
structure Rm(j:Nat)(s:St):Prop where
 fit:cL s
 room:s.size+10*j<=cW
theorem Rm.less{j k:Nat}{s:St}(h:Rm j s)(hk:k<=j):Rm k s:=⟨h.fit,by have:=h.room;omega⟩
theorem Rm.Cn{j:Nat}{s:St}(h:Rm j s):s.size<=100000000000:=by have:=h.room;unfold cW at this;omega
theorem Rm.node{j:Nat}{s:St}(h:Rm j s)(r:Int):(s.node r).Fit s.aG.length:=h.fit.node r
theorem Rm.alloc{j:Nat}{s:St}(h:Rm (j+1) s){n:Node}(hn:n.Fit (s.aG.length+1))(i:Int):Rm j (s.alloc n i).1:=⟨h.fit.alloc hn i,by have:=(St.mM s n i).1;have:=h.room;omega⟩
theorem Rm.cell{j:Nat}{s:St}(h:Rm (j+1) s)(i:Int):Rm j (s.aT i).1:=⟨h.fit,by have:=h.room;unfold St.size at this;unfold St.aT St.size;simp;omega⟩
theorem Rm.gen{j:Nat}{s:St}(h:Rm (j+1) s):Rm j s.bL.1:=⟨h.fit,by have:=h.room;unfold St.size at this;unfold St.bL St.size;simp;omega⟩
end Go.Ct
namespace Go.Q9
open Go.Proofs.Tryz
open Go.RowKit Go.E
variable{B w:World}{L:List As}
def arL(b:Nat)(s:Ct.St)(q:Mq):List As:=
 [bl b [.slice q.pn q.zs.length q.cn,.slice q.pc s.cells.length q.cc,↑(s.gen:Int),↑(s.acc:Int)] 105,
  aV 53 14 (.slice q.pn q.zs.length q.cn) q.zs.length (q.zs.flatMap bY),aV 44 1 (.slice q.pc s.cells.length q.cc) s.cells.length (s.cells.map (Value.int .i64)),bH q.zs]
def yD(b:Nat)(s:Ct.St):As:=ex λq:Mq=>se (pu (q.zs.map Prod.fst=s.aG)::arL b s q)
def MI(t:TypeId)(x:Value)(name:String)(f:FuncId)(r:Value)(w:World):Prop:=(method 383 t x name).run prog w=.ok (f,r) w
theorem AL{t:TypeId}{x r:Value}{name:String}{f:FuncId}(en:nH prog f)(h:MI t x name f r w):Inv prog (.iface t x) name w f r:=λargs=>by
 unfold MI at h
 simp only[callMethod,Sem.run_bind,run_program,Result.andThen_ok]
 rw[show prog.types.size+Made.depth=383 from by kernel_rfl,h]
 exact en _ _
def ZD(ab:Nat):Value:=.pointer (some ⟨ab,0,none⟩)
structure OP(t:TypeId)(x:Value)(ab:Nat)(w:World):Prop where
 node:MI t x "Node" 48 (ZD ab) w
 alloc:MI t x "Alloc" 319 (ZD ab) w
 cell:MI t x "NewCell" 322 (ZD ab) w
 gen:MI t x "NewGen" 323 (ZD ab) w
 load:MI t x "Load" 321 (ZD ab) w
 cH:MI t x "CAS" 320 (ZD ab) w
structure aBw(d:Nat)(t:TypeId)(x:Value)(ab:Nat)(w:World):Prop where
 node:∀f,d≤f→(method f t x "Node").run prog w=.ok (48,ZD ab) w
 alloc:∀f,d≤f→(method f t x "Alloc").run prog w=.ok (319,ZD ab) w
 cell:∀f,d≤f→(method f t x "NewCell").run prog w=.ok (322,ZD ab) w
 gen:∀f,d≤f→(method f t x "NewGen").run prog w=.ok (323,ZD ab) w
structure fX where
 t:TypeId
 x:Value
 ab:Nat
 X:List As
 d:Nat
 hd:d<=383
 aOf:∀{w:World} {O R:Nat->Prop},(se X).p w O R->aBw d t x ab w
class Full(S:fX):Prop where
 na:∀w:World,(nilAhead 383 S.t S.x "Alloc").run prog w=.ok (some false) w
def fX.v(S:fX):Value:=.iface S.t S.x
def fX.a(S:fX)(s:Ct.St):As:=se [yD S.ab s,se S.X]
theorem fX.TM(S:fX){s:Ct.St}(h:SH B w L)(m:At L (S.a s)):aBw S.d S.t S.x S.ab w:=by
 obtain⟨O,R,Os,Rs,h1,_⟩:=h.at_ m
 exact S.aOf (h1 1 _ rfl)
theorem fX.sN(S:fX){s:Ct.St}(h:SH B w L)(m:At L (S.a s)):Inv prog S.v "Node" w 48 ↑S.ab:=AL eF ((S.TM h m).node _ S.hd)
theorem fX.sA(S:fX){s:Ct.St}(h:SH B w L)(m:At L (S.a s)):Inv prog S.v "Alloc" w 319 ↑S.ab:=AL eF ((S.TM h m).alloc _ S.hd)
theorem fX.sC(S:fX){s:Ct.St}(h:SH B w L)(m:At L (S.a s)):Inv prog S.v "NewCell" w 322 ↑S.ab:=AL eF ((S.TM h m).cell _ S.hd)
theorem fX.sG(S:fX){s:Ct.St}(h:SH B w L)(m:At L (S.a s)):Inv prog S.v "NewGen" w 323 ↑S.ab:=AL eF ((S.TM h m).gen _ S.hd)
end Go.Q9
namespace Go.E
open Go.Q9
variable{B w:World}{L:List As}
theorem SH.ao{b:Nat}{s:Ct.St}(h:SH B w (yD b s::L)):∃q:Mq,q.zs.map Prod.fst=s.aG/\SH B w (arL b s q++L):=by
 obtain⟨q,h⟩:=SH.ex (f:=λq:Mq=>Go.E.se (Go.E.pu (q.zs.map Prod.fst=s.aG)::arL b s q)) h
 exact⟨q,(SH.se h).pu⟩
theorem SH.ai{b:Nat}{s:Ct.St}(q:Mq)(hq:q.zs.map Prod.fst=s.aG)(h:SH B w (arL b s q++L)):SH B w (yD b s::L):=
 SH.bX (f:=λq:Mq=>Go.E.se (Go.E.pu (q.zs.map Prod.fst=s.aG)::arL b s q)) q (SH.is (l:=_::_) (SH.ip hq h))
theorem SH.so{S:fX}{s:Ct.St}(h:SH B w (S.a s::L)):SH B w (yD S.ab s::Go.E.se S.X::L):=SH.se (l:=[_,_]) h
theorem SH.si{S:fX}{s:Ct.St}(h:SH B w (yD S.ab s::Go.E.se S.X::L)):SH B w (S.a s::L):=SH.is (l:=[_,_]) h
end Go.E
namespace Go.Q9
open Go.Proofs.Tryz
open Go.E
variable{β:Type}
def mA(S:fX)(F:β->Cc->As)(n:Nat):Ct.I β->Cc->As:=cZ prog S.a (Ct.Rm 100) F n
def gY{α:Type}(S:fX)(F:β->Cc->As)(n j:Nat)(args:α->List Value)(k:α->Ct.I β)(v:Fv):As:=fE prog S.a (Ct.Rm j) (mA S F n) args k v
def CP(S:fX)(F:β->Cc->As)(n:Nat)(B:World)(t:Ct.I β)(s:Ct.St)(L:List As):Ending->World->Prop:=CPg (mA S F n) S.a B t s L
end Go.Q9
end
