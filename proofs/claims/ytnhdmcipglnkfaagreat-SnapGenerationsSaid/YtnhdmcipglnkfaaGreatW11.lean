/- Parts of a proof: Rk, C2, Ayc, C3. -/
import Derived.Test.YtnhdmcipglnkfaaGreatW10
import Derived.Test.YtnhdmcipglnkfaaGreatW08
set_option linter.unusedVariables false
set_option linter.unusedSimpArgs false
set_option maxRecDepth 100000
set_option maxHeartbeats 4000000
section
namespace Go.Ct
def out{α:Type}(y:X)(v:α):X×Option α:=(y,if y.e.aC=true then none else some v)
theorem iK{α:Type}{y:X}{v:α}(h:y.e.aC=false):out y v=(y,some v):=by unfold out;rw[if_neg (by rw[h];decide)]
theorem iX{α:Type}{y:X}{v:α}(h:y.e.aC=true):out y v=(y,none):=by unfold out;rw[if_pos h]
theorem rS{α:Type}{t:I α}{y:X}{v:α}(h:y.e.aC=true):aX t y=out y v:=by rw[cP h,iX h]
theorem rR{α:Type}{y:X}{v:α}:aX (.ret v) y=out y v:=by unfold aX out;split<;>rfl
theorem wJ{α β:Type}{r:X×Option α}{f:α->X->X×Option β}{y:X}{v:α}{o:X×Option β}(q:r=out y v)(hf:y.e.aC=true->f v y=(y,none))(h:f v y=o):iP r f=o:=by
 rw[q]
 cases hs:y.e.aC with
 |true=>rw[iX hs,<- h,hf hs];rfl
 |false=>rw[iK hs];exact h
theorem rL{α:Type}{c:Int}{k:Int->I α}{x y:X}{v:Int}{o:X×Option α}(q:dY c x=out y v)(h:aX (k v) y=o):aX (.load c k) x=o:=wJ q (λhs=>cP hs) h
theorem rC{α:Type}{c o' n:Int}{k:Bool->I α}{x y:X}{v:Bool}{o:X×Option α}(q:iB c o' n x=out y v)(h:aX (k v) y=o):aX (.eA c o' n k) x=o:=wJ q (λhs=>cP hs) h
theorem rA{α:Type}{n:Node}{i:Int}{k:Int->I α}{x y:X}{v:Int}{o:X×Option α}(q:dB n i x=out y v)(h:aX (k v) y=o):aX (.alloc n i k) x=o:=wJ q (λhs=>cP hs) h
theorem rE{α:Type}{i:Int}{k:Int->I α}{x y:X}{v:Int}{o:X×Option α}(q:fE i x=out y v)(h:aX (k v) y=o):aX (.cell i k) x=o:=wJ q (λhs=>cP hs) h
theorem rG{α:Type}{k:Int->I α}{x y:X}{v:Int}{o:X×Option α}(q:iH x=out y v)(h:aX (k v) y=o):aX (.gen k) x=o:=wJ q (λhs=>cP hs) h
theorem rB{α β:Type}{t:I α}{f:α->I β}{x y:X}{v:α}{o:X×Option β}(q:aX t x=out y v)(h:aX (f v) y=o):aX (t.bind f) x=o:=by
 rw[iJ];exact wJ q (λhs=>cP hs) h
theorem rN{α:Type}{r:Int}{k:Node->I α}{x:X}{o:X×Option α}(h:aX (k (x.node r)) x=o):aX (.node r k) x=o:=h
theorem rT{α:Type}{c:Bool}{a b:I α}{x:X}{o:X×Option α}(hc:c=true)(h:aX a x=o):aX (bif c then a else b) x=o:=by rw[hc];exact h
theorem rF{α:Type}{c:Bool}{a b:I α}{x:X}{o:X×Option α}(hc:c=false)(h:aX b x=o):aX (bif c then a else b) x=o:=by rw[hc];exact h
def X.left(x:X):Nat:=x.e.eG.length-x.e.a+x.e.free
def X.size(x:X):Nat:=x.s.size+x.e.eG.length+x.e.made.length+x.e.cells.length+x.e.dG.length
def cN:Nat:=100000000000
def eK(s:St):Prop:=∀n∈s.aG,n.Fit s.aG.length
structure Ok(j:Nat)(x:X):Prop where
 fit:eK x.s
 room:x.e.aC=true\/x.size+1000*x.left+10*j<=cN
 zP:x.size<=cN
 a:x.e.a<=x.e.eG.length
 m:x.e.m<=x.e.made.length
 c:x.e.c<=x.e.cells.length
 g:x.e.g<=x.e.dG.length
 made:∀r∈x.e.made,1<=r/\r<=200000000000
 free:x.e.free<=10
theorem Ok.less{j k:Nat}{x:X}(h:Ok j x)(hk:k<=j):Ok k x:={h with room:=h.room.imp id λh=>by omega}
theorem Ok.stop{j k:Nat}{x:X}(h:Ok j x)(hs:x.e.aC=true):Ok k x:={h with room:=.inl hs}
theorem eK.node{s:St}(h:eK s)(r:Int):(s.node r).Fit s.aG.length:=by
 unfold St.node
 split
 ·exact nT _
 ·split
  ·exact bG _ 1 0 0 0 0
  ·by_cases hr:r.toNat-3<s.aG.length
   ·rw[dI,fM hr];exact h _ (wU hr)
   ·rw[dI,List.getElem?_eq_none (by omega)];exact nT _
theorem St.Cp(s:St)(c:Int):(s.load c).1.size=s.size+1/\(s.load c).1.aG=s.aG:=⟨by simp only[St.load,St.size];omega,rfl⟩
theorem St.Bu(s:St)(c o n:Int):(s.eA c o n).1.size=s.size+1/\(s.eA c o n).1.aG=s.aG:=by
 refine⟨?_,rfl⟩
 simp only[St.eA,St.size]
 split<;>(try rw[uZ])<;>omega
theorem St.lP(s:St)(n:Node)(i:Int):(s.alloc n i).1.size<=s.size+2/\s.size<=(s.alloc n i).1.size/\(s.alloc n i).1.aG.length=s.aG.length+1:=by
 simp only[St.alloc,St.aV,St.size]
 split<;>simp<;>omega
theorem Ie{L:Nat}{n:Node}(h:n.Fit L)(c:Int)(hc:0<=c):
  (if n.kind==2 then{n.bare with main:=c}else if n.bM then{n.bare with prev:=c}else if n.kind==8 then{n.bare with status:=c}else n.bare:Node).Fit L:=by
 obtain⟨⟨h1,h2,h3,h4,h5,h6,h7⟩,h8⟩:=h
 by_cases k2:n.kind=2
 ·rw[if_pos (by simp[k2])]
  exact⟨⟨h1,h2,h3,h4,h5,h6,λhk=>absurd hk (by show ¬(n.kind=3\/n.kind=6);omega)⟩,h8⟩
 ·rw[if_neg (by simp[k2])]
  by_cases km:n.bM=true
  ·rw[if_pos km]
   exact⟨⟨h1,h2,h3,h4,h5,h6,λhk=>yJ n c hc hk (h7 hk)⟩,h8⟩
  ·rw[if_neg km]
   have hk36:¬(n.kind=3\/n.kind=6):=λhk=>km (by unfold Node.bM;rcases hk with hk|hk<;>simp[hk])
   split
   ·exact⟨⟨h1,h2,h3,h4,h5,h6,λhk=>absurd hk hk36⟩,h8⟩
   ·exact⟨⟨h1,h2,h3,h4,h5,h6,λhk=>absurd hk hk36⟩,h8⟩
theorem eK.alloc{s:St}(h:eK s){n:Node}(hn:n.Fit (s.aG.length+1))(i:Int):eK (s.alloc n i).1:=by
 intro m hm
 have hl:=(St.lP s n i).2.2
 rw[hl]
 have hd:(s.alloc n i).1.aG=s.aG++[(if n.kind==2 then{n.bare with main:=(s.cells.length:Int)+1}else if n.bM then{n.bare with prev:=(s.cells.length:Int)+1}else if n.kind==8 then{n.bare with status:=(s.cells.length:Int)+1}else n.bare:Node)]:=by
  simp only[St.alloc,St.aV];split<;>rfl
 rw[hd,tX,cE]at hm
 rcases hm with hm|rfl
 ·exact(h m hm).mono (by omega)
 ·exact Ie hn _ (by omega)
theorem St.lY(s:St)(n:Node)(i:Int):1<=(s.alloc n i).2:=by simp only[St.alloc];omega
theorem Gm{j:Nat}{c:Int}{x y:X}{v:Int}(h:Ok j x)(q:dY c x=out y v):Ok (j+99) y/\y.s.aG=x.s.aG/\(y.e.aC=false->y.left<x.left/\x.e.aC=false)/\(x.e.aC=true->y=x):=by
 have q1:=congrArg Prod.fst q
 simp only[out]at q1
 subst q1
 obtain⟨h1,h2,h3,h4,h5,h6,h7,h8,h9⟩:=h
 unfold dY
 split
 ·rename_i hs
  exact⟨⟨h1,.inl hs,h3,h4,h5,h6,h7,h8,h9⟩,rfl,(λh=>by first|(rw[hs]at h;cases h)|cases h),λ_=>rfl⟩
 ·rename_i hs
  have hr:=h2.resolve_left hs
  unfold X.size X.left at hr
  split
  ·rename_i ha
   refine⟨⟨h1,.inr ?_,h3,ha,h5,h6,h7,h8,h9⟩,rfl,λ_=>⟨?_,by simpa using hs⟩,λh=>absurd h hs⟩
   ·unfold X.size X.left nD;dsimp only;omega
   ·unfold X.left nD;dsimp only;omega
  ·split
   ·exact⟨⟨h1,.inl rfl,h3,h4,h5,h6,h7,h8,h9⟩,rfl,(λh=>by cases h),λh=>absurd h hs⟩
   ·obtain⟨e1,e2⟩:=St.Cp x.s c
    refine⟨⟨by unfold jR eK;dsimp only;rw[e2];exact h1,.inr ?_,?_,?_,h5,h6,h7,h8,?_⟩,e2,λ_=>⟨?_,by simpa using hs⟩,λh=>absurd h hs⟩
    ·unfold X.size X.left jR;dsimp only;rw[e1,cO,CG];omega
    ·unfold X.size jR;dsimp only;rw[e1,cO,CG];unfold cN at *;omega
    ·unfold jR;dsimp only;rw[cO,CG];omega
    ·unfold jR;dsimp only;omega
    ·unfold X.left jR;dsimp only;rw[cO,CG];omega
theorem DS{j:Nat}{c o n:Int}{x y:X}{v:Bool}(h:Ok j x)(q:iB c o n x=out y v):Ok (j+99) y/\y.s.aG=x.s.aG/\(y.e.aC=false->y.left<x.left/\x.e.aC=false)/\(x.e.aC=true->y=x):=by
 have q1:=congrArg Prod.fst q
 simp only[out]at q1
 subst q1
 obtain⟨h1,h2,h3,h4,h5,h6,h7,h8,h9⟩:=h
 unfold iB
 split
 ·rename_i hs
  exact⟨⟨h1,.inl hs,h3,h4,h5,h6,h7,h8,h9⟩,rfl,(λh=>by first|(rw[hs]at h;cases h)|cases h),λ_=>rfl⟩
 ·rename_i hs
  have hr:=h2.resolve_left hs
  unfold X.size X.left at hr
  split
  ·rename_i ha
   refine⟨⟨h1,.inr ?_,h3,ha,h5,h6,h7,h8,h9⟩,rfl,λ_=>⟨?_,by simpa using hs⟩,λh=>absurd h hs⟩
   ·unfold X.size X.left nD;dsimp only;omega
   ·unfold X.left nD;dsimp only;omega
  ·split
   ·exact⟨⟨h1,.inl rfl,h3,h4,h5,h6,h7,h8,h9⟩,rfl,(λh=>by cases h),λh=>absurd h hs⟩
   ·obtain⟨e1,e2⟩:=St.Bu x.s c o n
    refine⟨⟨by unfold jR eK;dsimp only;rw[e2];exact h1,.inr ?_,?_,?_,h5,h6,h7,h8,?_⟩,e2,λ_=>⟨?_,by simpa using hs⟩,λh=>absurd h hs⟩
    ·unfold X.size X.left jR;dsimp only;rw[e1,cO,CG];omega
    ·unfold X.size jR;dsimp only;rw[e1,cO,CG];unfold cN at *;omega
    ·unfold jR;dsimp only;rw[cO,CG];omega
    ·unfold jR;dsimp only;omega
    ·unfold X.left jR;dsimp only;rw[cO,CG];omega
theorem Kz{j:Nat}{n:Node}{i:Int}{x y:X}{v:Int}(h:Ok (j+1) x)(hn:n.Fit (x.s.aG.length+1))(q:dB n i x=out y v):Ok j y/\x.s.aG.length<=y.s.aG.length/\(y.e.aC=false->1<=v)/\y.e.aC=x.e.aC/\y.left=x.left/\(x.e.aC=true->y=x):=by
 have q1:=congrArg Prod.fst q
 have q2:=congrArg Prod.snd q
 simp only[out]at q1 q2
 rw[q1.symm]at q2
 subst q1
 obtain⟨h1,h2,h3,h4,h5,h6,h7,h8,h9⟩:=h
 unfold dB at q2 ⊢
 split
 ·rename_i hs
  exact⟨⟨h1,.inl hs,h3,h4,h5,h6,h7,h8,h9⟩,JV _,(λh=>by first|(rw[hs]at h;cases h)|cases h),rfl,rfl,λ_=>rfl⟩
 ·rename_i hs
  rw[if_neg hs]at q2
  have hr:=h2.resolve_left hs
  unfold X.size X.left at hr
  split
  ·rename_i hm
   rw[if_pos hm]at q2
   obtain⟨e1,e2,e3⟩:=St.lP x.s n i
   have hs':x.e.aC=false:=by simpa using hs
   refine⟨⟨h1.alloc hn i,.inr ?_,?_,h4,?_,h6,h7,?_,h9⟩,by dsimp only;omega,λ_=>?_,rfl,rfl,λh=>absurd h hs⟩
   ·unfold X.size X.left;dsimp only;rw[cO,CG];omega
   ·unfold X.size;dsimp only;rw[cO,CG];unfold cN at *;omega
   ·dsimp only;rw[cO,CG];omega
   ·intro r hm'
    dsimp only at hm'
    rw[tX,cE]at hm'
    rcases hm' with hm'|rfl
    ·exact h8 r hm'
    ·refine⟨St.lY _ _ _,?_⟩
     show (x.s.aG.length:Int)+3<=_
     unfold St.size cN at hr;omega
   ·dsimp only at q2
    rw[if_neg (by rw[hs'];decide)]at q2
    injection q2 with q2
    rw[<- q2];exact St.lY _ _ _
  ·rename_i hm
   rw[if_neg hm]at q2
   have hs':x.e.aC=false:=by simpa using hs
   refine⟨⟨h1,.inr ?_,h3,h4,?_,h6,h7,h8,h9⟩,JV _,λ_=>?_,rfl,rfl,λh=>absurd h hs⟩
   ·unfold X.size X.left;dsimp only;omega
   ·dsimp only;omega
   ·dsimp only at q2
    rw[if_neg (by rw[hs'];decide)]at q2
    injection q2 with q2
    rw[<- q2]
    refine(h8 _ ?_).1
    rw[dI,fM (by omega)]
    exact wU _
theorem FQ{j:Nat}{i:Int}{x y:X}{v:Int}(h:Ok (j+1) x)(q:fE i x=out y v):Ok j y/\y.s.aG=x.s.aG/\y.e.aC=x.e.aC/\y.left=x.left/\(x.e.aC=true->y=x):=by
 have q1:=congrArg Prod.fst q
 simp only[out]at q1
 subst q1
 obtain⟨h1,h2,h3,h4,h5,h6,h7,h8,h9⟩:=h
 unfold fE
 split
 ·rename_i hs
  exact⟨⟨h1,.inl hs,h3,h4,h5,h6,h7,h8,h9⟩,rfl,rfl,rfl,λ_=>rfl⟩
 ·rename_i hs
  have hr:=h2.resolve_left hs
  unfold X.size X.left at hr
  split
  ·refine⟨⟨h1,.inr ?_,?_,h4,h5,?_,h7,h8,h9⟩,rfl,rfl,rfl,λh=>absurd h hs⟩
   ·unfold X.size X.left St.aV St.size at *;dsimp only;rw[cO,cO,CG,CG];omega
   ·unfold X.size St.aV St.size at *;dsimp only;rw[cO,cO,CG,CG];unfold cN at *;omega
   ·dsimp only;rw[cO,CG];omega
  ·refine⟨⟨h1,.inr ?_,h3,h4,h5,?_,h7,h8,h9⟩,rfl,rfl,rfl,λh=>absurd h hs⟩
   ·unfold X.size X.left;dsimp only;omega
   ·dsimp only;omega
theorem QL{j:Nat}{x y:X}{v:Int}(h:Ok (j+1) x)(q:iH x=out y v):Ok j y/\y.s.aG=x.s.aG/\y.e.aC=x.e.aC/\y.left=x.left/\(x.e.aC=true->y=x):=by
 have q1:=congrArg Prod.fst q
 simp only[out]at q1
 subst q1
 obtain⟨h1,h2,h3,h4,h5,h6,h7,h8,h9⟩:=h
 unfold iH
 split
 ·rename_i hs
  exact⟨⟨h1,.inl hs,h3,h4,h5,h6,h7,h8,h9⟩,rfl,rfl,rfl,λ_=>rfl⟩
 ·rename_i hs
  have hr:=h2.resolve_left hs
  unfold X.size X.left at hr
  split
  ·refine⟨⟨h1,.inr ?_,?_,h4,h5,h6,?_,h8,h9⟩,rfl,rfl,rfl,λh=>absurd h hs⟩
   ·unfold X.size X.left St.bS St.size at *;dsimp only;rw[cO,CG];omega
   ·unfold X.size St.bS St.size at *;dsimp only;rw[cO,CG];unfold cN at *;omega
   ·dsimp only;rw[cO,CG];omega
  ·refine⟨⟨h1,.inr ?_,h3,h4,h5,h6,?_,h8,h9⟩,rfl,rfl,rfl,λh=>absurd h hs⟩
   ·unfold X.size X.left;dsimp only;omega
   ·dsimp only;omega
def gD{α:Type}:I α->Nat->Nat->(Nat->Nat->α->Prop)->Prop
 |.ret a,j,L,Q=>Q j L a
 |.load c k,j,L,Q=>∀v,gD (k v) (j+99) L Q
 |.eA c o n k,j,L,Q=>∀v,gD (k v) (j+99) L Q
 |.alloc n i k,j,L,Q=>1<=j/\n.Fit (L+1)/\∀r,1<=r->gD (k r) (j-1) L Q
 |.cell i k,j,L,Q=>1<=j/\∀r,gD (k r) (j-1) L Q
 |.gen k,j,L,Q=>1<=j/\∀r,gD (k r) (j-1) L Q
 |.node r k,j,L,Q=>∀L' n,L<=L'->n.Fit L'->gD (k n) j L' Q
theorem gD.mono{α:Type}:∀{t:I α} {j j' L L':Nat} {Q Q':Nat->Nat->α->Prop},gD t j L Q->j<=j'->L<=L'->(∀i i' M M' a,i<=i'->M<=M'->Q i M a->Q' i' M' a)->gD t j' L' Q'
 |.ret a,j,j',L,L',Q,Q',h,hj,hL,hQ=>hQ _ _ _ _ _ hj hL h
 |.load c k,j,j',L,L',Q,Q',h,hj,hL,hQ=>λv=>gD.mono (h v) (by omega) hL hQ
 |.eA c o n k,j,j',L,L',Q,Q',h,hj,hL,hQ=>λv=>gD.mono (h v) (by omega) hL hQ
 |.alloc n i k,j,j',L,L',Q,Q',h,hj,hL,hQ=>⟨lK h.1 hj,h.2.1.mono (by omega),λr hr=>gD.mono (h.2.2 r hr) (by omega) hL hQ⟩
 |.cell i k,j,j',L,L',Q,Q',h,hj,hL,hQ=>⟨lK h.1 hj,λr=>gD.mono (h.2 r) (by omega) hL hQ⟩
 |.gen k,j,j',L,L',Q,Q',h,hj,hL,hQ=>⟨lK h.1 hj,λr=>gD.mono (h.2 r) (by omega) hL hQ⟩
 |.node r k,j,j',L,L',Q,Q',h,hj,hL,hQ=>λM n hM hn=>gD.mono (h M n (lK hL hM) hn) hj (JV _) hQ
theorem gD.bind{α β:Type}:∀{t:I α} {f:α->I β} {j L:Nat} {Q:Nat->Nat->β->Prop},gD t j L (λj L a=>gD (f a) j L Q)->gD (t.bind f) j L Q
 |.ret a,f,j,L,Q,h=>h
 |.load c k,f,j,L,Q,h=>λv=>gD.bind (h v)
 |.eA c o n k,f,j,L,Q,h=>λv=>gD.bind (h v)
 |.alloc n i k,f,j,L,Q,h=>⟨h.1,h.2.1,λr hr=>gD.bind (h.2.2 r hr)⟩
 |.cell i k,f,j,L,Q,h=>⟨h.1,λr=>gD.bind (h.2 r)⟩
 |.gen k,f,j,L,Q,h=>⟨h.1,λr=>gD.bind (h.2 r)⟩
 |.node r k,f,j,L,Q,h=>λM n hM hn=>gD.bind (h M n hM hn)
theorem gD.bif{α:Type}{c:Bool}{a b:I α}{j L:Nat}{Q:Nat->Nat->α->Prop}(ha:c=true->gD a j L Q)(hb:c=false->gD b j L Q):gD (bif c then a else b) j L Q:=by
 cases c with
 |true=>exact ha rfl
 |false=>exact hb rfl
theorem yX{c:Int}{x z:X}{o:Option Int}(h:dY c x=(z,o)):z.left<=x.left:=by
 unfold dY at h
 split at h
 ·cases h;exact JV _
 ·split at h
  ·cases h;unfold X.left nD;dsimp only;omega
  ·split at h
   ·cases h;exact JV _
   ·cases h;unfold X.left jR;dsimp only;rw[cO,CG];omega
theorem AJ{c a n:Int}{x z:X}{o:Option Bool}(h:iB c a n x=(z,o)):z.left<=x.left:=by
 unfold iB at h
 split at h
 ·cases h;exact JV _
 ·split at h
  ·cases h;unfold X.left nD;dsimp only;omega
  ·split at h
   ·cases h;exact JV _
   ·cases h;unfold X.left jR;dsimp only;rw[cO,CG];omega
theorem gD.ok{α:Type}:∀{t:I α} {j L:Nat} {Q:Nat->Nat->α->Prop} {x y:X} {v:α},gD t j L Q->Ok j x->L<=x.s.aG.length->aX t x=out y v->Ok 0 y/\(y.e.aC=false->∃j' L',Q j' L' v/\Ok j' y/\L'<=y.s.aG.length)/\x.s.aG.length<=y.s.aG.length/\(x.e.aC=true->y=x)/\y.left<=x.left:=by
 intro t
 induction t with
 |ret a=>
  intro j L Q x y v h hx hL q
  rw[rR (v:=a)]at q
  have q1:x=y:=congrArg Prod.fst q
  subst q1
  refine⟨hx.less (dF _),λhs=>?_,JV _,λ_=>rfl,JV _⟩
  have q2:=congrArg Prod.snd q
  simp only[out,hs]at q2
  simp at q2
  subst q2
  exact⟨j,L,h,hx,hL⟩
 |load c k ih=>
  intro j L Q x y v h hx hL q
  cases hs:x.e.aC with
  |true=>
   rw[cP hs]at q
   have q1:x=y:=congrArg Prod.fst q
   subst q1
   exact⟨hx.less (dF _),(λh=>by first|(rw[hs]at h;cases h)|cases h),JV _,λ_=>rfl,JV _⟩
  |false=>
   rw[run_load]at q
   obtain⟨z,o,hz⟩:∃z o,dY c x=(z,o):=⟨_,_,rfl⟩
   cases o with
   |none=>
    have hst:=Wg hz
    have hz':dY c x=out z 0:=by rw[hz,iX hst]
    rw[hz]at q
    have q1:z=y:=congrArg Prod.fst q
    subst q1
    obtain⟨k1,k2,_,k4⟩:=Gm hx hz'
    refine⟨k1.less (dF _),(λh=>by rw[hst]at h;cases h),by rw[k2];exact JV _,(λh=>by first|(rw[hs]at h;cases h)|cases h),yX hz⟩
   |some u=>
    have hns:=Uf hz
    have hz':dY c x=out z u:=by rw[hz,iK hns]
    rw[hz]at q
    obtain⟨k1,k2,k3,_⟩:=Gm hx hz'
    obtain⟨g1,g2,g3,g4,g5⟩:=ih u (h u) k1 (by rw[k2];exact hL) q
    exact⟨g1,g2,by rw[k2]at g3;exact g3,(λh=>by first|(rw[hs]at h;cases h)|cases h),by have:=(k3 hns).1;omega⟩
 |eA c o n k ih=>
  intro j L Q x y v h hx hL q
  cases hs:x.e.aC with
  |true=>
   rw[cP hs]at q
   have q1:x=y:=congrArg Prod.fst q
   subst q1
   exact⟨hx.less (dF _),(λh=>by first|(rw[hs]at h;cases h)|cases h),JV _,λ_=>rfl,JV _⟩
  |false=>
   rw[Gk]at q
   obtain⟨z,w,hz⟩:∃z w,iB c o n x=(z,w):=⟨_,_,rfl⟩
   cases w with
   |none=>
    have hst:=SM hz
    have hz':iB c o n x=out z false:=by rw[hz,iX hst]
    rw[hz]at q
    have q1:z=y:=congrArg Prod.fst q
    subst q1
    obtain⟨k1,k2,_,k4⟩:=DS hx hz'
    refine⟨k1.less (dF _),(λh=>by rw[hst]at h;cases h),by rw[k2];exact JV _,(λh=>by first|(rw[hs]at h;cases h)|cases h),AJ hz⟩
   |some u=>
    have hns:=TH hz
    have hz':iB c o n x=out z u:=by rw[hz,iK hns]
    rw[hz]at q
    obtain⟨k1,k2,k3,_⟩:=DS hx hz'
    obtain⟨g1,g2,g3,g4,g5⟩:=ih u (h u) k1 (by rw[k2];exact hL) q
    exact⟨g1,g2,by rw[k2]at g3;exact g3,(λh=>by first|(rw[hs]at h;cases h)|cases h),by have:=(k3 hns).1;omega⟩
 |alloc n i k ih=>
  intro j L Q x y v h hx hL q
  cases hs:x.e.aC with
  |true=>
   rw[cP hs]at q
   have q1:x=y:=congrArg Prod.fst q
   subst q1
   exact⟨hx.less (dF _),(λh=>by first|(rw[hs]at h;cases h)|cases h),JV _,λ_=>rfl,JV _⟩
  |false=>
   rw[Db]at q
   obtain⟨z,o,hz⟩:∃z o,dB n i x=(z,o):=⟨_,_,rfl⟩
   cases o with
   |none=>obtain⟨rfl,hst⟩:=IV hz;rw[hs]at hst;cases hst
   |some u=>
    have hns:=IF hz
    have hz':dB n i x=out z u:=by rw[hz,iK hns]
    rw[hz]at q
    obtain⟨k1,k2,k3,k4,k5,_⟩:=Kz (j:=j-1) (hx.less (by have:=h.1;omega)) (h.2.1.mono (by omega)) hz'
    obtain⟨g1,g2,g3,g4,g5⟩:=ih u (h.2.2 u (k3 hns)) k1 (by omega) q
    exact⟨g1,g2,by omega,(λh=>by first|(rw[hs]at h;cases h)|cases h),by omega⟩
 |cell i k ih=>
  intro j L Q x y v h hx hL q
  cases hs:x.e.aC with
  |true=>
   rw[cP hs]at q
   have q1:x=y:=congrArg Prod.fst q
   subst q1
   exact⟨hx.less (dF _),(λh=>by first|(rw[hs]at h;cases h)|cases h),JV _,λ_=>rfl,JV _⟩
  |false=>
   rw[Ip]at q
   obtain⟨z,o,hz⟩:∃z o,fE i x=(z,o):=⟨_,_,rfl⟩
   cases o with
   |none=>obtain⟨rfl,hst⟩:=OE hz;rw[hs]at hst;cases hst
   |some u=>
    have hns:=MQ hz
    have hz':fE i x=out z u:=by rw[hz,iK hns]
    rw[hz]at q
    obtain⟨k1,k2,k3,k4,_⟩:=FQ (j:=j-1) (hx.less (by have:=h.1;omega)) hz'
    obtain⟨g1,g2,g3,g4,g5⟩:=ih u (h.2 u) k1 (by rw[k2];exact hL) q
    exact⟨g1,g2,by rw[k2]at g3;exact g3,(λh=>by first|(rw[hs]at h;cases h)|cases h),by omega⟩
 |gen k ih=>
  intro j L Q x y v h hx hL q
  cases hs:x.e.aC with
  |true=>
   rw[cP hs]at q
   have q1:x=y:=congrArg Prod.fst q
   subst q1
   exact⟨hx.less (dF _),(λh=>by first|(rw[hs]at h;cases h)|cases h),JV _,λ_=>rfl,JV _⟩
  |false=>
   rw[Tq]at q
   obtain⟨z,o,hz⟩:∃z o,iH x=(z,o):=⟨_,_,rfl⟩
   cases o with
   |none=>obtain⟨rfl,hst⟩:=TI hz;rw[hs]at hst;cases hst
   |some u=>
    have hns:=UA hz
    have hz':iH x=out z u:=by rw[hz,iK hns]
    rw[hz]at q
    obtain⟨k1,k2,k3,k4,_⟩:=QL (j:=j-1) (hx.less (by have:=h.1;omega)) hz'
    obtain⟨g1,g2,g3,g4,g5⟩:=ih u (h.2 u) k1 (by rw[k2];exact hL) q
    exact⟨g1,g2,by rw[k2]at g3;exact g3,(λh=>by first|(rw[hs]at h;cases h)|cases h),by omega⟩
 |node r k ih=>
  intro j L Q x y v h hx hL q
  exact ih (x.node r) (h x.s.aG.length _ hL (hx.fit.node r)) hx (JV _) q
def jN{α:Type}(a b:Nat)(t:I α)(Q:α->Prop:=λ_=>True):Prop:=∀j L,a<=j->gD t j L λj' L' v=>b<=j'/\L<=L'/\Q v
abbrev Good{α:Type}(a:Nat)(t:I α)(Q:α->Prop:=λ_=>True):Prop:=jN a 60 t Q
theorem jN.ok{α:Type}{a b:Nat}{t:I α}{Q:α->Prop}{x y:X}{v:α}(h:jN a b t Q)(hx:Ok a x)(q:aX t x=out y v):Ok b y/\(y.e.aC=false->Q v)/\y.left<=x.left/\(x.e.aC=true->y=x):=by
 obtain⟨h1,h2,h3,h4,h5⟩:=(h a _ (JV _)).ok hx (JV _) q
 refine⟨?_,λhs=>?_,h5,h4⟩
 ·cases hs:y.e.aC with
  |true=>exact h1.stop hs
  |false=>obtain⟨j',L',hq,hk,_⟩:=h2 hs;exact hk.less hq.1
 ·obtain⟨j',L',hq,_⟩:=h2 hs;exact hq.2.2
end Go.Ct
end
section
namespace Go.Ct
variable{β:Type}
def Dq(i m p:Int)(k:Int->I β):I β:=.node p λb=>.node i λa=>.eA a.main m b.dC λ_=>k b.dC
def mK(prev p:Int)(commit:Bool)(k:Bool->I β):I β:=bif commit then .eA prev p 0 k else .alloc {kind:=7,dC:=p} 0 λf=>.eA prev p f k
def iD(t:bC)(v s:Int)(k:Int->I β):I β:=.node v λd=>bif s==1 then .eA t.root v d.new λ_=>k d.new else .eA t.root v d.dC λ_=>k d.dC
def Zi(t:bC)(k:Int->I β):I β:=
 .load t.root λv=>.node v λd=>bif d.kind==2 then k v else
  .load d.status λs=>bif s != 0 then iD t v s k else .eA d.status 0 2 λ_=>.load d.status λs=>iD t v s k
def kY(prev i m:Int)(k:Int->I β)(_:Bool):I β:=.load prev λp=>bif p==0 then k m else Dq i m p k
def qB(t:bC)(i m:Int)(k:Int->I β):I β:=
 .node m λn=>.load n.prev λp=>bif p==0 then k m else .node p λb=>bif !b.bM then Dq i m p k else
  bif t.readOnly then mK n.prev p false (kY n.prev i m k)else Zi t λr=>.node r λa=>.node i λb=>mK n.prev p (a.gen==b.gen) (kY n.prev i m k)
def mM(t:bC)(i:Int)(k:Int->I β):I β:=.node i λn=>.load n.main λm=>qB t i m k
def swapT(t:bC)(i dC n:Int)(k:Bool->I β):I β:=.node i λa=>.eA a.main dC n λok=>bif !ok then k false else qB t i n λm=>k (m==n)
def Gu(t:bC)(d:Node)(k:I β):I β:=mM t d.dC λm=>bif m==d.aK then .eA d.status 0 1 λ_=>k else .eA d.status 0 2 λ_=>k
def uO(t:bC)(k:Int->I β):I β:=
 .load t.root λv=>.node v λd=>bif d.kind==2 then k v else
  .load d.status λs=>bif s != 0 then iD t v s k else Gu t d (.load d.status λs=>iD t v s k)
def lD(t:bC)(dC aK new:Int)(k:Bool->I β):I β:=
 .alloc {kind:=8,dC:=dC,aK:=aK,new:=new} 0 λv=>.node v λd=>.eA t.root dC v λok=>bif !ok then k false else
  Gu t d (.load d.status λs=>iD t v s λ_=>k (s==1))
def iT(t:bC):Nat->I Result
 |0=>.ret {}
 |n+1=>uO t λr=>mM t r λm=>.alloc {kind:=3} 0 λc=>.gen λg=>.alloc {kind:=2,gen:=g} c λi=>lD t r m i λok=>bif !ok then iT t n else .ret {found:=true}
def Gb(t:bC)(k:Int->Int->I Result):Nat->I Result
 |0=>.ret {}
 |n+1=>uO t λr=>mM t r λm=>.gen λg=>.alloc {kind:=2,gen:=g} m λi=>lD t r m i λok=>bif !ok then Gb t k n else k r m
def Bt(m:Int):I Result:=.gen λg=>.alloc {kind:=2,gen:=g} m λi=>.cell i λc=>.ret {found:=true,aE:={root:=c}}
def Gd(r:Int):I Result:=.cell r λc=>.ret {found:=true,aE:={root:=c,readOnly:=true}}
def Cg(t:bC)(n:Nat):I Result:=bif t.readOnly then .load t.root λr=>mM t r Bt else Gb t (λ_ m=>Bt m) n
def Qg(t:bC)(n:Nat):I Result:=bif t.readOnly then .load t.root Gd else Gb t (λr _=>Gd r) n
def pD(t:bC)(i c index:Int)(k:Int->I β):I β:=
 .node c λn=>bif !(aB n index).2 then k 0 else mM t (aB n index).1 λm=>.node i λa=>.alloc {kind:=2,gen:=a.gen} m λj=>
  .node c λn=>bif !(aP n index j).2 then k 0 else .alloc (aP n index j).1 c λr=>swapT t i c r λok=>bif !ok then k 0 else k j
def qW(t:bC)(parent child:Int)(h:Nat)(level:Int)(k:Bool->I β):I β:=
 mM t parent λm=>.node m λn=>bif !(aB n (slice h level)).2 then k false else bif (aB n (slice h level)).1 != child then k false else
  mM t child λq=>.node q λb=>bif !(aT b).2 then k false else
   .node m λn=>.alloc (aT b).1 0 λs=>bif !(aP n (slice h level) s).2 then k false else .alloc (bQ (aP n (slice h level) s).1 level (aT b).1) m λr=>swapT t parent m r k
end Go.Ct
end
section
namespace Go.Q9
open Go.Proofs.Tryz
open Go.E
end Go.Q9
end
section
namespace Go.Ct
structure Rm(j:Nat)(s:St):Prop where
 fit:eK s
 room:s.size+10*j<=cN
theorem Rm.less{j k:Nat}{s:St}(h:Rm j s)(hk:k<=j):Rm k s:=⟨h.fit,by have:=h.room;omega⟩
theorem Rm.zP{j:Nat}{s:St}(h:Rm j s):s.size<=100000000000:=by have:=h.room;unfold cN at this;omega
theorem Rm.node{j:Nat}{s:St}(h:Rm j s)(r:Int):(s.node r).Fit s.aG.length:=h.fit.node r
theorem Rm.alloc{j:Nat}{s:St}(h:Rm (j+1) s){n:Node}(hn:n.Fit (s.aG.length+1))(i:Int):Rm j (s.alloc n i).1:=⟨h.fit.alloc hn i,by have:=(St.lP s n i).1;have:=h.room;omega⟩
theorem Rm.cell{j:Nat}{s:St}(h:Rm (j+1) s)(i:Int):Rm j (s.aV i).1:=⟨h.fit,by have:=h.room;unfold St.size at this;unfold St.aV St.size;simp;omega⟩
theorem Rm.gen{j:Nat}{s:St}(h:Rm (j+1) s):Rm j s.bS.1:=⟨h.fit,by have:=h.room;unfold St.size at this;unfold St.bS St.size;simp;omega⟩
end Go.Ct
namespace Go.Q9
open Go.Proofs.Tryz
open Go.RowKit Go.E
variable{B w:World}{L:List As}
def VA(b:Nat)(s:Ct.St)(q:Mq):List As:=
 [bl b [.slice q.pn q.zs.length q.cn,.slice q.pc s.cells.length q.cc,↑(s.gen:Int),↑(s.acc:Int)] 105,
  aU 53 14 (.slice q.pn q.zs.length q.cn) q.zs.length (q.zs.flatMap cB),aU 44 1 (.slice q.pc s.cells.length q.cc) s.cells.length (s.cells.map (Value.int .i64)),bE q.zs]
def wW(b:Nat)(s:Ct.St):As:=ex λq:Mq=>se (pu (q.zs.map Prod.fst=s.aG)::VA b s q)
def MI(t:TypeId)(x:Value)(name:String)(f:FuncId)(r:Value)(w:World):Prop:=(method 383 t x name).run prog w=.ok (f,r) w
theorem Sa{t:TypeId}{x r:Value}{name:String}{f:FuncId}(en:lA prog f)(h:MI t x name f r w):Inv prog (.iface t x) name w f r:=λargs=>by
 unfold MI at h
 simp only[callMethod,Sem.run_bind,run_program,Result.andThen_ok]
 rw[show prog.types.size+Made.depth=383 from by kernel_rfl,h]
 exact en _ _
def QQ(ab:Nat):Value:=.pointer (some ⟨ab,0,none⟩)
structure Rl(t:TypeId)(x:Value)(ab:Nat)(w:World):Prop where
 node:MI t x "Node" 48 (QQ ab) w
 alloc:MI t x "Alloc" 319 (QQ ab) w
 cell:MI t x "NewCell" 322 (QQ ab) w
 gen:MI t x "NewGen" 323 (QQ ab) w
 load:MI t x "Load" 321 (QQ ab) w
 eA:MI t x "CAS" 320 (QQ ab) w
structure V0(d:Nat)(t:TypeId)(x:Value)(ab:Nat)(w:World):Prop where
 node:∀f,d≤f→(method f t x "Node").run prog w=.ok (48,QQ ab) w
 alloc:∀f,d≤f→(method f t x "Alloc").run prog w=.ok (319,QQ ab) w
 cell:∀f,d≤f→(method f t x "NewCell").run prog w=.ok (322,QQ ab) w
 gen:∀f,d≤f→(method f t x "NewGen").run prog w=.ok (323,QQ ab) w
structure dN where
 t:TypeId
 x:Value
 ab:Nat
 X:List As
 d:Nat
 hd:d<=383
 A9:∀{w:World} {O R:Nat->Prop},(se X).p w O R->V0 d t x ab w
class Full(S:dN):Prop where
 na:∀w:World,(nilAhead 383 S.t S.x "Alloc").run prog w=.ok (some false) w
theorem naF(S:dN)[h:Full S](w:World):(nilAhead 383 S.t S.x "Alloc").run prog w=.ok (some false) w:=h.na w
def dN.v(S:dN):Value:=.iface S.t S.x
def dN.a(S:dN)(s:Ct.St):As:=se [wW S.ab s,se S.X]
theorem dN.EC(S:dN){s:Ct.St}(h:SH B w L)(m:At L (S.a s)):V0 S.d S.t S.x S.ab w:=by
 obtain⟨O,R,Os,Rs,h1,_⟩:=h.at_ m
 exact S.A9 (h1 1 _ rfl)
theorem dN.sN(S:dN){s:Ct.St}(h:SH B w L)(m:At L (S.a s)):Inv prog S.v "Node" w 48 ↑S.ab:=Sa eF ((S.EC h m).node _ S.hd)
theorem dN.sA(S:dN){s:Ct.St}(h:SH B w L)(m:At L (S.a s)):Inv prog S.v "Alloc" w 319 ↑S.ab:=Sa eF ((S.EC h m).alloc _ S.hd)
theorem dN.sC(S:dN){s:Ct.St}(h:SH B w L)(m:At L (S.a s)):Inv prog S.v "NewCell" w 322 ↑S.ab:=Sa eF ((S.EC h m).cell _ S.hd)
theorem dN.sG(S:dN){s:Ct.St}(h:SH B w L)(m:At L (S.a s)):Inv prog S.v "NewGen" w 323 ↑S.ab:=Sa eF ((S.EC h m).gen _ S.hd)
end Go.Q9
namespace Go.E
open Go.Q9
variable{B w:World}{L:List As}
theorem SH.ao{b:Nat}{s:Ct.St}(h:SH B w (wW b s::L)):∃q:Mq,q.zs.map Prod.fst=s.aG/\SH B w (VA b s q++L):=by
 obtain⟨q,h⟩:=SH.ex (f:=λq:Mq=>Go.E.se (Go.E.pu (q.zs.map Prod.fst=s.aG)::VA b s q)) h
 exact⟨q,(SH.se h).pu⟩
theorem SH.ai{b:Nat}{s:Ct.St}(q:Mq)(hq:q.zs.map Prod.fst=s.aG)(h:SH B w (VA b s q++L)):SH B w (wW b s::L):=
 SH.dU (f:=λq:Mq=>Go.E.se (Go.E.pu (q.zs.map Prod.fst=s.aG)::VA b s q)) q (SH.is (l:=_::_) (SH.ip hq h))
theorem SH.so{S:dN}{s:Ct.St}(h:SH B w (S.a s::L)):SH B w (wW S.ab s::Go.E.se S.X::L):=SH.se (l:=[_,_]) h
theorem SH.si{S:dN}{s:Ct.St}(h:SH B w (wW S.ab s::Go.E.se S.X::L)):SH B w (S.a s::L):=SH.is (l:=[_,_]) h
end Go.E
namespace Go.Q9
open Go.Proofs.Tryz
open Go.E
variable{β:Type}
def nE(S:dN)(F:β->Cc->As)(n:Nat):Ct.I β->Cc->As:=dH prog S.a (Ct.Rm 100) F n
def gP{α:Type}(S:dN)(F:β->Cc->As)(n j:Nat)(args:α->List Value)(k:α->Ct.I β)(v:Fv):As:=fO prog S.a (Ct.Rm j) (nE S F n) args k v
def CP(S:dN)(F:β->Cc->As)(n:Nat)(B:World)(t:Ct.I β)(s:Ct.St)(L:List As):Ending->World->Prop:=ZN (nE S F n) S.a B t s L
end Go.Q9
end
