/- Parts of a proof: Rg, Rb, Ryb. -/
import Derived.Test.YtnhdmcipglnkfaaGreatW11
set_option linter.unusedVariables false
set_option linter.unusedSimpArgs false
set_option maxRecDepth 100000
set_option maxHeartbeats 4000000
section
namespace Go.Ct
variable{α β:Type}{a b c:Nat}
theorem jN.at{t:I α}{Q:α->Prop}(h:jN a b t Q){j L L0:Nat}(hj:a<=j)(hL:L0<=L):gD t j L λj' L' v=>b<=j'/\L0<=L'/\Q v:=
 (h j L hj).mono (JV _) (JV _) λi i' M M' a hi hM hq=>⟨by omega,by omega,hq.2.2⟩
theorem jN.wk{a' b':Nat}{t:I α}{Q Q':α->Prop}(h:jN a b t Q)(ha:a<=a')(hb:b'<=b)(hQ:∀v,Q v->Q' v):jN a' b' t Q':=λj L hj=>(h j L (by omega)).mono (JV _) (JV _) λi i' M M' v hi hM hq=>⟨by omega,by omega,hQ v hq.2.2⟩
theorem jN.then{t:I α}{Q:α->Prop}(h:jN a b t Q){f:α->I β}{j L:Nat}{Q2:Nat->Nat->β->Prop}(hj:a<=j)(k:∀j' L' v,b<=j'->L<=L'->Q v->gD (f v) j' L' Q2):gD (t.bind f) j L Q2:=
 gD.bind ((h j L hj).mono (JV _) (JV _) λi i' M M' v hi hM hq=>k i' M' v (by omega) (by omega) hq.2.2)
theorem Iz{v s:Int}{f:Int->I β}{j L:Nat}{Q:Nat->Nat->β->Prop}(k:∀L' w,L<=L'->gD (f w) j L' Q):gD ((wR v s).bind f) j L Q:=by
 refine gD.bind ?_
 unfold wR
 exact gD.bif (λ_ M n hM hn=>k M _ hM) λ_ M n hM hn=>k M _ hM
theorem rO(t:bC)(v s:Int):Good 30 (Mj t v s):=λj L hj=>Iz λL' w hL _=>⟨by omega,hL,trivial⟩
theorem KD(t:bC):Good 30 (GS t):=λj L hj v M d hM hd=>gD.bif (λ_=>⟨by omega,hM,trivial⟩) λ_ M2 d2 hM2 hd2 s=>
 gD.bif (λ_ M3 d3 hM3 hd3 _ M4 d4 hM4 hd4 s2=>(rO t v s2).at (by omega) (by omega)) λ_=>(rO t v s).at (by omega) (by omega)
theorem Oa(i m p:Int):Good 30 (EO i m p):=λj L hj M a hM ha M2 b hM2 hb _ M3 b2 hM3 hb2=>⟨by omega,by omega,trivial⟩
theorem AG(i m:Int):Good 30 (GV i m):=λj L hj M a hM ha p=>gD.bif (λ_=>⟨by omega,hM,trivial⟩) λ_=>(Oa i m p).at (by omega) hM
theorem Nr(i m p:Int):Good 30 (EN i m p):=λj L hj M a hM ha=>⟨by omega,bG _ 7 0 p 0 0,λf _ _=>(AG i m).at (by omega) hM⟩
theorem uB(t:bC)(i m:Int):Good 30 (wQ t i m):=λj L hj M a hM ha p=>gD.bif (λ_=>⟨by omega,hM,trivial⟩) λ_ M2 b hM2 hb=>
 gD.bif (λ_=>gD.bif (λ_=>(Nr i m p).at (by omega) (by omega)) λ_=>(KD t).then (by omega) λj' L' r hj' hL' _ M3 c hM3 hc M4 e hM4 he=>
  gD.bif (λ_ M5 f hM5 hf _=>(AG i m).at (by omega) (by omega)) λ_=>(Nr i m p).at (by omega) (by omega)) λ_=>(Oa i m p).at (by omega) (by omega)
theorem gS(t:bC)(i:Int):Good 30 (oJ t i):=λj L hj M a hM ha m=>(uB t i m).at (by omega) hM
theorem vG(t:bC)(v:Int):Good 30 (vR t v):=λj L hj M d hM hd=>(gS t d.dC).then hj λj' L' m hj' hL' _ M2 d2 hM2 hd2=>
 gD.bif (λ_ M3 d3 hM3 hd3 _=>⟨by omega,by omega,trivial⟩) λ_ M3 d3 hM3 hd3 _=>⟨by omega,by omega,trivial⟩
theorem oT(t:bC):Good 30 (tV t):=λj L hj v M d hM hd=>gD.bif (λ_=>⟨by omega,hM,trivial⟩) λ_ M2 d2 hM2 hd2 s=>
 gD.bif (λ_=>(vG t v).then (by omega) λj' L' _ hj' hL' _ M4 d4 hM4 hd4 s2=>(rO t v s2).at (by omega) (by omega)) λ_=>(rO t v s).at (by omega) (by omega)
theorem kR(t:bC)(i o n:Int):Good 30 (mE t i o n):=λj L hj M a hM ha ok=>gD.bif (λ_=>(uB t i n).then (by omega) λj' L' m hj' hL' _=>⟨hj',by omega,trivial⟩) λ_=>⟨by omega,hM,trivial⟩
theorem zC(t:bC)(o e n:Int):Good 30 (Dn t o e n):=λj L hj=>⟨by omega,bG _ 8 0 o e n,λd _ ok=>gD.bif (λ_=>(vG t d).then (by omega) λj' L' _ hj' hL' _ M a hM ha s=>
 Iz λL2 w hL2 _=>⟨by omega,by omega,trivial⟩) λ_=>⟨by omega,JV _,trivial⟩⟩
theorem uV{f:Int->I β}{c ix r:Int}{j L:Nat}{Q:Nat->Nat->β->Prop}(hj:1<=j)(k:∀L' v,L<=L'->1<=v->gD (f v) (j-1) L' Q):gD ((nU c ix r).bind f) j L Q:=
 λM n hM hn=>⟨hj,(fH hn ix r).mono (by omega),λa ha=>k M a hM ha⟩
theorem Hy(t:bC)(i c ix:Int):Good 30 (Hx t i c ix):=λj L hj M n hM hn=>(gS t _).then hj λj' L' m hj' hL' _ M2 a hM2 ha=>
 ⟨by omega,bG _ 2 _ 0 0 0,λr _=>uV (by omega) λL3 v hL3 _=>(kR t i c v).then (by omega) λj4 L4 ok hj4 hL4 _=>gD.bif (λ_=>⟨hj4,by omega,trivial⟩) λ_=>⟨hj4,by omega,trivial⟩⟩
theorem jW(t:bC)(p c:Int)(h:Nat)(l:Int):Good 30 (yF t p c h l):=λj L hj=>(gS t p).then hj λj' L' m hj' hL' _ M n hM hn=>
 gD.bif (λ_=>⟨hj',by omega,trivial⟩) λ_=>gD.bif (λ_=>⟨hj',by omega,trivial⟩) λ_=>(gS t c).then (by omega) λj2 L2 q hj2 hL2 _ M2 b hM2 hb=>
  gD.bif (λ_=>⟨hj2,by omega,trivial⟩) λ_=>⟨by omega,(tL hb).mono (by omega),λs _ M3 n3 hM3 hn3=>⟨by omega,(fA (fH hn3 _ _) ((tL hb).mono (by omega)) l).mono (by omega),λr _=>(kR t p m r).at (by omega) (by omega)⟩⟩
theorem Oh(t:bC)(key:ByteArray)(h:Nat):∀(n:Nat) (i l:Int),Good 60 (Mp t key h n i l)
 |0,i,l=>λj L hj=>⟨hj,JV _,trivial⟩
 |n+1,i,l=>λj L hj=>(gS t i).then (by omega) λj' L' r hj' hL' _ M m hM hm=>gD.bif (λ_=>gD.bif (λ_=>⟨hj',by omega,trivial⟩) λ_=>⟨hj',by omega,trivial⟩) λ_=>
  gD.bif (λ_=>⟨hj',by omega,trivial⟩) λ_=>gD.bif (λ_=>⟨hj',by omega,trivial⟩) λ_ M2 s hM2 hs=>
   gD.bif (λ_=>gD.bif (λ_=>⟨hj',by omega,trivial⟩) λ_=>⟨hj',by omega,trivial⟩) λ_=>(Oh t key h n _ _).at hj' (by omega)
theorem Ud(c:Call)(n:Nat):Good 60 (tH c n):=λj L hj=>(oT c.aE).then (by omega) λj' L' r hj' hL' _=>(Oh _ _ _ n r 0).at hj' hL'
theorem Ja{f:Int->I β}{L:Nat}{Q:Nat->Nat->β->Prop}:∀(l:List (Node×Int)) (r:Int) (j:Nat),(∀z∈l,z.1.Fit (L+1))->l.length<=j->1<=r->(∀r,1<=r->gD (f r) (j-l.length) L Q)->gD ((gR l r).bind f) j L Q
 |[],r,j,_,_,hr,k=>k r hr
 |n::l,r,j,hl,hj,hr,k=>by
  refine⟨by simp at hj;omega,hl n (by simp),λr2 h2=>?_⟩
  refine Ja l r2 (j-1) (λz hz=>hl z (by simp[hz])) (by simp at hj;omega) h2 λr3 h3=>?_
  have:=k r3 h3
  rw[QR]at this
  rwa [show j-1-l.length=j-(l.length+1) by omega]
theorem Wx(h:Nat)(g f:Int):∀(n:Nat) (k:Int) (l:List (Node×Int)),(eZ h g f k n l).length=l.length+2*n
 |0,k,l=>rfl
 |n+1,k,l=>by unfold eZ;rw[Wx h g f n];simp;omega
theorem uN(h:Nat)(g f:Int):∀(n:Nat) (k:Int) (z:Node×Int) (l:List (Node×Int)),(eZ h g f k n (z::l)).head?=some z
 |0,k,z,l=>rfl
 |n+1,k,z,l=>by unfold eZ;exact uN h g f n _ _ _
theorem qX(x:Node)(a:Int)(h:Nat)(key:ByteArray)(v:Nat)(lv g f:Int):1<=(bT x a h key v lv g f).length:=by
 unfold bT;dsimp only
 split<;>rw[Wx]<;>simp<;>omega
theorem uJ(x:Node)(a:Int)(h:Nat)(key:ByteArray)(v:Nat)(lv g f f':Int):(bT x a h key v lv g f).head?=(bT x a h key v lv g f').head?:=by
 unfold bT;dsimp only
 split<;>rw[uN,uN]
theorem NP{f:Int->I β}{x:Node}{a:Int}{h:Nat}{key:ByteArray}{v:Nat}{lv g:Int}{j L:Nat}{Q:Nat->Nat->β->Prop}(hj:24<=j)(ha:1<=a)(hx:x.key.size<=64)(hk:key.size<=64)(hh:h<18446744073709551616)(hne:bR x.key key=false)(hl:0<=lv)
  (k:∀j' r,j-24<=j'->1<=r->gD (f r) j' L Q):gD ((nM x a h key v lv g).bind f) j L Q:=by
 cases hd:bT x a h key v lv g 0 with
 |nil=>
  have:=qX x a h key v lv g 0
  rw[hd]at this
  simp at this
 |cons n l=>
  have e:nM x a h key v lv g=.alloc n.1 n.2 λf=>gR (bT x a h key v lv g f).tail f:=by unfold nM;rw[hd]
  rw[e]
  have hn:n.1.Fit (L+1):=by
   have h1:=uJ x a h key v lv g 0 1
   rw[hd]at h1
   exact(nJ (L+1) x a h key v lv g 1 (by decide) ha hx hk hh hne hl).1 n (List.mem_of_head? h1.symm)
  refine⟨by omega,hn,λr hr=>?_⟩
  obtain⟨g1,g2⟩:=nJ (L+1) x a h key v lv g r hr ha hx hk hh hne hl
  refine Ja _ r (j-1) (λz hz=>g1 z (List.mem_of_mem_tail hz)) (by rw[List.length_tail];omega) hr λr3 h3=>k _ r3 (by rw[List.length_tail];omega) h3
theorem Un(h:Nat)(b:UInt8):qJ h b<18446744073709551616:=by unfold qJ;exact Nat.mod_lt _ (by omega)
theorem UK(l:List UInt8):Ly l<18446744073709551616:=by
 rcases List.eq_nil_or_concat l with rfl|⟨l,b,rfl⟩
 ·unfold Ly;rw[List.foldl_nil];omega
 ·rw[List.concat_eq_append];unfold Ly;rw[List.foldl_append,List.foldl_cons,List.foldl_nil];exact Un _ _
theorem eI(s:ByteArray)(m:Nat):aH s m<18446744073709551616:=fU Nat.and_le_left (UK _)
theorem sU(c:Call)(i m:Int)(h:Nat)(level gen:Int)(hk:c.key.size<=64)(hh:h<18446744073709551616)(hl:0<=level):Good 60 (lJ c i m h level gen):=λj L hj M n hM hn=>
 gD.bif (λ_=>gD.bif (λ_=>⟨hj,hM,trivial⟩) λ_=>⟨by omega,Ch hn _ _,λa _=>(kR c.aE i m a).then (by omega) λj' L' ok hj' hL' _=>⟨hj',by omega,trivial⟩⟩) λ_ M2 s hM2 hs=>
 gD.bif (λ_=>⟨hj,by omega,trivial⟩) λ_=>gD.bif (λ_=>gD.bif (λ_=>⟨hj,by omega,trivial⟩) λ_=>⟨by omega,iF _ 4 _ _ _ (by decide) hh hk,λa _=>uV (by omega) λL3 r hL3 _=>
  (kR c.aE i m r).then (by omega) λj' L' ok hj' hL' _=>⟨hj',by omega,trivial⟩⟩) λhsame=>gD.bif (λ_=>⟨hj,by omega,trivial⟩) λ_=>
 gD.bif (λ_=>⟨by omega,iF _ 4 _ _ _ (by decide) hh hk,λa _=>⟨by omega,(eB hn _ _).mono (by omega),λr _=>(kR c.aE i m r).then (by omega) λj' L' ok hj' hL' _=>⟨hj',by omega,trivial⟩⟩⟩) λhhas=>
  NP (by omega) (pV (by simpa using hhas)) hs.2 hk hh (by simpa[show (aB n (slice h level)).2=true by simpa using hhas]using hsame) (by omega) λj' r hj' _=>⟨by omega,bG _ 2 _ 0 0 0,λq _=>uV (by omega) λL3 v hL3 _=>
   (kR c.aE i m v).then (by omega) λj' L' ok hj' hL' _=>⟨hj',by omega,trivial⟩⟩
theorem mW(t:bC)(i m ix gen:Int):Good 60 (qS t i m ix gen):=λj L hj M n hM hn M2 b hM2 hb=>gD.bif (λ_=>⟨hj,by omega,trivial⟩) λ_=>(Hy t i m ix).at (by omega) (by omega)
theorem Io(c:Call)(h:Nat)(gen:Int)(hk:c.key.size<=64)(hh:h<18446744073709551616):∀(n:Nat) (p i level:Int),0<=level->Good 60 (Dx c h gen n p i level)
 |0,p,i,level,hl=>λj L hj=>⟨hj,JV _,trivial⟩
 |n+1,p,i,level,hl=>λj L hj=>(gS c.aE i).then (by omega) λj' L' m hj' hL' _ M a hM ha=>gD.bif (λ_=>(jW c.aE p i h (level-1)).then (by omega) λj2 L2 ok hj2 hL2 _=>⟨hj2,by omega,trivial⟩) λ_=>
  (sU c i m h level gen hk hh hl).then hj' λj2 L2 r hj2 hL2 _=>gD.bif (λ_=>⟨hj2,by omega,trivial⟩) λ_=>gD.bif (λ_=>⟨hj2,by omega,trivial⟩) λ_=>
  (mW c.aE i m (slice h level) gen).then hj2 λj3 L3 b hj3 hL3 _=>gD.bif (λ_=>⟨hj3,by omega,trivial⟩) λ_=>(Io c h gen hk hh n i b (level+1) (by omega)).at hj3 (by omega)
theorem Yl(c:Call)(k:Nat)(hk:c.key.size<=64):∀n,Good 60 (yN c k n)
 |0=>λj L hj=>⟨hj,JV _,trivial⟩
 |n+1=>λj L hj=>(oT c.aE).then (by omega) λj' L' i hj' hL' _ M a hM ha=>(Io c _ _ hk (eI _ _) k 0 i 0 (JA _)).then hj' λj2 L2 o hj2 hL2 _=>by
  cases o with
  |some r=>exact⟨hj2,by omega,trivial⟩
  |none=>exact(Yl c k hk n).at hj2 (by omega)
theorem qM(c:Call)(i m:Int)(h:Nat)(level:Int):Good 60 (kT c i m h level):=λj L hj M n hM hn=>
 gD.bif (λ_=>gD.bif (λ_=>⟨hj,hM,trivial⟩) λ_=>gD.bif (λ_=>⟨hj,hM,trivial⟩) λ_=>⟨by omega,(pH hn _).mono (by omega),λa _=>(kR c.aE i m a).then (by omega) λj' L' ok hj' hL' _=>⟨hj',by omega,trivial⟩⟩) λ_ M2 s hM2 hs=>
 gD.bif (λ_=>⟨hj,by omega,trivial⟩) λ_=>gD.bif (λ_=>⟨hj,by omega,trivial⟩) λ_=>gD.bif (λ_=>⟨hj,by omega,trivial⟩) λ_=>gD.bif (λ_=>⟨hj,by omega,trivial⟩) λ_ M3 q hM3 hq=>
  ⟨by omega,(fA ((eW hn _).mono (by omega)) hq level).mono (by omega),λr _=>(kR c.aE i m r).then (by omega) λj' L' ok hj' hL' _=>⟨hj',by omega,trivial⟩⟩
theorem GH(t:bC)(path:List Int)(h:Nat):∀l,Good 60 (QP t path h l)
 |0=>λj L hj=>⟨hj,JV _,trivial⟩
 |l+1=>λj L hj=>(gS t _).then (by omega) λj' L' m hj' hL' _ M n hM hn=>gD.bif (λ_=>⟨hj',by omega,trivial⟩) λ_=>(jW t _ _ h l).then (by omega) λj2 L2 ok hj2 hL2 _=>(GH t path h l).at hj2 (by omega)
theorem Ev(c:Call)(h:Nat)(gen:Int):∀(n:Nat) (path:List Int) (i level:Int),Good 60 (sY c h gen n path i level)
 |0,path,i,level=>λj L hj=>⟨hj,JV _,trivial⟩
 |n+1,path,i,level=>λj L hj=>(gS c.aE i).then (by omega) λj' L' m hj' hL' _ M a hM ha=>gD.bif (λ_=>(jW c.aE _ i h (level-1)).then (by omega) λj2 L2 ok hj2 hL2 _=>⟨hj2,by omega,trivial⟩) λ_=>
  (qM c i m h level).then hj' λj2 L2 r hj2 hL2 _=>gD.bif (λ_=>gD.bif (λ_=>(GH c.aE path h _).then hj2 λj3 L3 _ hj3 hL3 _=>⟨hj3,by omega,trivial⟩) λ_=>⟨hj2,by omega,trivial⟩) λ_=>gD.bif (λ_=>⟨hj2,by omega,trivial⟩) λ_=>
  (mW c.aE i m (slice h level) gen).then hj2 λj3 L3 b hj3 hL3 _=>gD.bif (λ_=>⟨hj3,by omega,trivial⟩) λ_=>(Ev c h gen n _ b (level+1)).at hj3 (by omega)
theorem Og(c:Call)(k:Nat):∀n,Good 60 (pE c k n)
 |0=>λj L hj=>⟨hj,JV _,trivial⟩
 |n+1=>λj L hj=>(oT c.aE).then (by omega) λj' L' i hj' hL' _ M a hM ha=>(Ev c _ _ k [i] i 0).then hj' λj2 L2 o hj2 hL2 _=>by
  cases o with
  |some r=>exact⟨hj2,by omega,trivial⟩
  |none=>exact(Og c k n).at hj2 (by omega)
theorem Ei(m:Int):jN 60 50 (wK m):=λj L hj=>⟨by omega,λg=>⟨by omega,bG _ 2 g 0 0 0,λi _=>⟨by omega,λc=>⟨by omega,JV _,trivial⟩⟩⟩⟩
theorem Dy(r:Int):jN 60 50 (Oo r):=λj L hj=>⟨by omega,λc=>⟨by omega,JV _,trivial⟩⟩
theorem Ov(t:bC)(fz:Bool):∀n,jN 60 50 (Xl t fz n)
 |0=>λj L hj=>⟨by omega,JV _,trivial⟩
 |n+1=>λj L hj=>(oT t).then (by omega) λj' L' r hj' hL' _=>(gS t r).then (by omega) λj2 L2 m hj2 hL2 _=>⟨by omega,λg=>⟨by omega,bG _ 2 g 0 0 0,λi _=>(zC t r m i).then (by omega) λj3 L3 ok hj3 hL3 _=>
  gD.bif (λ_=>(Ov t fz n).at hj3 (by omega)) λ_=>gD.bif (λ_=>(Dy r).at hj3 (by omega)) λ_=>(Ei m).at hj3 (by omega)⟩⟩
theorem xJ(t:bC)(fz:Bool)(n:Nat):jN 60 50 (iL t fz n):=λj L hj=>gD.bif (λ_ r=>gD.bif (λ_=>(Dy r).at (by omega) (JV _)) λ_=>(gS t r).then (by omega) λj2 L2 m hj2 hL2 _=>(Ei m).at hj2 hL2) λ_=>(Ov t fz n).at hj (JV _)
theorem Ha(t:bC):∀n,Good 60 (vK t n)
 |0=>λj L hj=>⟨hj,JV _,trivial⟩
 |n+1=>λj L hj=>(oT t).then (by omega) λj' L' r hj' hL' _=>(gS t r).then (by omega) λj2 L2 m hj2 hL2 _=>⟨by omega,fY _,λc _=>⟨by omega,λg=>⟨by omega,bG _ 2 g 0 0 0,λi _=>(zC t r m i).then (by omega) λj3 L3 ok hj3 hL3 _=>
  gD.bif (λ_=>⟨hj3,by omega,trivial⟩) λ_=>(Ha t n).at hj3 (by omega)⟩⟩⟩
theorem Sr(t:bC)(w:Wk)(i:Int):Good 30 (wS t w i):=λj L hj=>(gS t i).then hj λj' L' m hj' hL' _ M n hM hn=>⟨hj',by omega,trivial⟩
theorem BJ(t:bC)(st:Bool){K:Wk->I Nx}(hK:∀w,Good 60 (K w)):∀l,Good 60 (TC t st K l)
 |[]=>λj L hj=>⟨hj,JV _,trivial⟩
 |p::l=>λj L hj M c hM hc=>gD.bif (λ_=>(BJ t st hK l).at hj hM) λ_ M2 s hM2 hs=>gD.bif (λ_=>⟨hj,by omega,trivial⟩) λ_=>(Sr t _ _).then (by omega) λj' L' w hj' hL' _=>(hK w).at hj' (by omega)
theorem Zk(t:bC){K:Wk->I Nx}(hK:∀w,Good 60 (K w))(w:Wk):Good 60 (Nn t K w):=by
 unfold Nn
 split
 ·exact λj L hj=>⟨hj,JV _,trivial⟩
 ·exact BJ t _ hK _
theorem WQ(w:Wk):Good 60 (.ret (⟨w,⟨.empty,0⟩,false⟩:Nx)):=λj L hj=>⟨hj,JV _,trivial⟩
theorem Cz(t:bC):∀(n:Nat) (w:Wk),Good 60 (iS t n w)
 |0,w=>Zk t (WQ) w
 |n+1,w=>Zk t (Cz t n) w
theorem XY(t:bC)(n:Nat)(w:Wk):Good 60 (Il t n w):=λj L hj=>gD.bif (λ_=>(Cz t n w).at hj (JV _)) λ_ r=>(Sr t _ r).then (by omega) λj' L' w hj' hL' _=>(Cz t n w).at (by omega) (by omega)
theorem Uq(t:bC)(n:Nat):∀(c:Nat) (k:Int) (w:Wk),Good 60 (zY t n c k w)
 |0,k,w=>λj L hj=>⟨hj,JV _,trivial⟩
 |c+1,k,w=>λj L hj=>(XY t n w).then hj λj' L' z hj' hL' _=>gD.bif (λ_=>⟨hj',by omega,trivial⟩) λ_=>(Uq t n c _ z.w).at hj' (by omega)
theorem HQ(c:Call)(n:Nat)(hk:c.kind=8->refused c=0->c.key.size<=64):jN 60 50 (bY c n):=by
 have wk:∀{a:Nat} {t:I Result},a<=60->Good a t->jN 60 50 t:=λha h=>jN.wk h ha (by omega) λv h=>h
 have one:∀{α:Type} {t:I α} (f:α->Result),Good 30 t->jN 60 50 (t.bind λv=>.ret (f v)):=λf h j L hj=>jN.then h (by omega) λj' L' v hj' hL' _=>⟨by omega,hL',trivial⟩
 unfold bY
 by_cases hr:refused c≠0
 ·rw[if_pos hr];exact λj L hj=>⟨by omega,JV _,trivial⟩
 rw[if_neg hr]
 by_cases h1:c.kind=1
 ·rw[if_pos h1];exact one _ (gS _ _)
 rw[if_neg h1]
 by_cases h2:c.kind=2
 ·rw[if_pos h2];exact one _ (kR _ _ _ _)
 rw[if_neg h2]
 by_cases h3:c.kind=3
 ·rw[if_pos h3];exact one _ (oT _)
 rw[if_neg h3]
 by_cases h4:c.kind=4
 ·rw[if_pos h4];exact one _ (zC _ _ _ _)
 rw[if_neg h4]
 by_cases h5:c.kind=5
 ·rw[if_pos h5];exact one _ (Hy _ _ _ _)
 rw[if_neg h5]
 by_cases h6:c.kind=6
 ·rw[if_pos h6];exact one _ (jW _ _ _ _ _)
 rw[if_neg h6]
 by_cases h7:c.kind=7
 ·rw[if_pos h7];exact wk (by omega) (Ud _ _)
 rw[if_neg h7]
 by_cases h8:c.kind=8
 ·rw[if_pos h8];exact wk (by omega) (Yl _ _ (hk h8 (Classical.not_not.1 hr)) _)
 rw[if_neg h8]
 by_cases h9:c.kind=9
 ·rw[if_pos h9];exact wk (by omega) (Og _ _ _)
 rw[if_neg h9]
 by_cases h10:c.kind=10
 ·rw[if_pos h10];exact xJ _ _ _
 rw[if_neg h10]
 by_cases h11:c.kind=11
 ·rw[if_pos h11];exact xJ _ _ _
 rw[if_neg h11]
 by_cases h12:c.kind=12
 ·rw[if_pos h12];exact wk (by omega) (Ha _ _)
 rw[if_neg h12]
 by_cases h14:c.kind=14
 ·rw[if_pos h14];exact wk (JV _) (Uq _ _ _ _ _)
 rw[if_neg h14]
 exact λj L hj=>⟨by omega,JV _,trivial⟩
end Go.Ct
end
section
namespace Go.Q9
open Go.Proofs.Tryz
open Go.RowKit Go.E
variable{B w:World}{L:List As}
def cU(t:Ct.bC):List Value:=[↑t.root,↑t.readOnly]
def XA(b mb:Nat)(x:Ct.X):As:=se [VE b mb x.e,cR mb x.s]
theorem Xa{l:List As}{O R:Nat->Prop}(h:(se l).p w O R){i:Nat}{A:As}(hi:l[i]?=some A):∃O R,A.p w O R:=by
 obtain⟨Os,Rs,h1,_⟩:=h
 exact⟨_,_,h1 i A hi⟩
theorem TN{b mb:Nat}{x:Ct.X}{O R:Nat->Prop}(h:(XA b mb x).p w O R):∃q,w.heap[b]?=some (.cells (vT mb x.e q).toArray 135 (0,0)):=by
 obtain⟨O1,R1,q,h1⟩:=Xa h (i:=0) rfl
 obtain⟨O2,R2,h2⟩:=Xa h1 (i:=0) rfl
 exact⟨q,h2.1⟩
end Go.Q9
namespace Go.E
open Go.Q9 Go.RowKit
variable{B w:World}{L:List As}
theorem SH.xc{b mb:Nat}{x:Ct.X}{o:Nat}{v:Value}(h:SH B w L)(m:At L (XA b mb x))(hv:∀q,(vT mb x.e q)[o]?=some v):w.cell? ⟨b,o,none⟩=some v:=by
 obtain⟨O,R,hA⟩:=h.at_ m
 obtain⟨q,h0⟩:=TN hA
 simp[World.cell?,h0,hv q]
theorem Hs.xc{F:List As}{b mb:Nat}{x:Ct.X}{o:Nat}{v:Value}(h:Hs F w)(m:At F (XA b mb x))(hv:∀q,(vT mb x.e q)[o]?=some v):w.cell? ⟨b,o,none⟩=some v:=by
 obtain⟨O,R,hA⟩:=h _ m
 obtain⟨q,h0⟩:=TN hA
 simp[World.cell?,h0,hv q]
theorem SH.xr{b mb:Nat}{x:Ct.X}(o:Nat){cs:List Value}(h:SH B w L)(m:At L (XA b mb x))(hv:∀q,((vT mb x.e q).drop o).take cs.length=cs):∀j v,cs[j]?=some v->w.cell? ⟨b,o+j,none⟩=some v:=by
 obtain⟨O,R,hA⟩:=h.at_ m
 obtain⟨q,h0⟩:=TN hA
 exact Ek h0 o (hv q)
theorem Hs.xr{F:List As}{b mb:Nat}{x:Ct.X}(o:Nat){cs:List Value}(h:Hs F w)(m:At F (XA b mb x))(hv:∀q,((vT mb x.e q).drop o).take cs.length=cs):∀j v,cs[j]?=some v->w.cell? ⟨b,o+j,none⟩=some v:=by
 obtain⟨O,R,hA⟩:=h _ m
 obtain⟨q,h0⟩:=TN hA
 exact Ek h0 o (hv q)
theorem SH.xo{b mb:Nat}{x:Ct.X}(h:SH B w (XA b mb x::L)):∃q,SH B w (OY b mb x.e q++cR mb x.s::L):=by
 have h:=h.se
 obtain⟨q,h⟩:=SH.ex (f:=λq=>Go.E.se (OY b mb x.e q)) h
 exact⟨q,h.se⟩
theorem SH.xi{b mb:Nat}{e:Ct.Ex}{s:Ct.St}(q:o7)(h:SH B w (OY b mb e q++cR mb s::L)):SH B w (XA b mb ⟨e,s⟩::L):=
 SH.is (l:=[VE b mb e,cR mb s]) (SH.dU (f:=λq=>Go.E.se (OY b mb e q)) q (SH.is h))
theorem SH.mo{b:Nat}{s:Ct.St}(h:SH B w (cR b s::L)):∃q:Mq,q.zs.map Prod.fst=aW s/\SH B w (DX b s q++L):=by
 obtain⟨q,h⟩:=SH.ex (f:=λq:Mq=>Go.E.se (Go.E.pu (q.zs.map Prod.fst=aW s)::DX b s q)) h
 have h:=h.se
 exact⟨q,h.pu⟩
theorem SH.mi{b:Nat}{s:Ct.St}(q:Mq)(hq:q.zs.map Prod.fst=aW s)(h:SH B w (DX b s q++L)):SH B w (cR b s::L):=
 SH.dU (f:=λq:Mq=>Go.E.se (Go.E.pu (q.zs.map Prod.fst=aW s)::DX b s q)) q (SH.is (l:=Go.E.pu (q.zs.map Prod.fst=aW s)::DX b s q) (SH.ip hq h))
theorem SH.eE(n:Ct.Node)(hb:n.aA=[])(hp:n.aF=[])(h:SH B w L):SH B w (aM n {}::L):=by
 refine SH.is (l:=[aY n {},cH n {}]) ?_
 unfold aY cH
 rw[hb,hp]
 exact SH.GZ 1 (SH.GZ 2 h)
end Go.E
end
section
namespace Go.Q9
open Go.Proofs.Tryz
open Go.E
theorem Ic:KY prog 53=some ([.int .i64 0,.int .i64 0,.int .i64 0,.int .u64 0,.slice none 0 0,.int .u64 0,.string .empty,.int .u64 0,.slice none 0 0,.int .i64 0,.int .i64 0,.int .i64 0,.int .i64 0,.int .i64 0],[(0,1),(1,1),(2,1),(3,1),(4,1),(5,1),(6,1),(7,1),(8,1),(9,1),(10,1),(11,1),(12,1),(13,1)]):=by kernel_rfl
theorem tO:fo prog 42 0=some 0:=by kernel_rfl
theorem Pu:fo prog 75 0=some 0:=by kernel_rfl
theorem nN:fo prog 53 0=some 0:=by kernel_rfl
theorem xY:fo prog 53 13=some 13:=by kernel_rfl
theorem Eo:fo prog 53 2=some 2:=by kernel_rfl
theorem nL:fo prog 53 4=some 4:=by kernel_rfl
theorem qD:fo prog 53 8=some 8:=by kernel_rfl
theorem xG:fo prog 53 9=some 9:=by kernel_rfl
theorem jE:tA prog 3=true:=by kernel_rfl
theorem iO:tA prog 44=true:=by kernel_rfl
theorem qV:tA prog 51=true:=by kernel_rfl
theorem fZ:tA prog 39=true:=by kernel_rfl
theorem pK:tA prog 40=true:=by kernel_rfl
theorem iR:xA prog 53=some 14:=by kernel_rfl
theorem Bi:prog.underlying 51=some (.slice 120):=by kernel_rfl
theorem tE:prog.underlying 39=some (.slice 53):=by kernel_rfl
theorem jG:prog.underlying 40=some (.slice 44):=by kernel_rfl
theorem LN:mR prog 120=some (.agg [.string .empty,.int .u64 0].toArray,2,24):=by kernel_rfl
theorem Ax:mR prog 44=some (.int .i64 0,1,8):=by kernel_rfl
theorem SV:mR prog 53=some (.agg [.int .i64 0,.int .i64 0,.int .i64 0,.int .u64 0,.slice none 0 0,.int .u64 0,.string .empty,.int .u64 0,.slice none 0 0,.int .i64 0,.int .i64 0,.int .i64 0,.int .i64 0,.int .i64 0].toArray,14,152):=by kernel_rfl
theorem Bf:(prog.info? 3).map (·.size)=some 1:=by kernel_rfl
theorem wI:(prog.info? 33).map (·.size)=some 1:=by kernel_rfl
theorem Bh:(prog.info? 44).map (·.size)=some 1:=by kernel_rfl
theorem VU:(prog.info? 51).map (·.size)=some 1:=by kernel_rfl
theorem nW:(prog.info? 39).map (·.size)=some 1:=by kernel_rfl
theorem AW:(prog.info? 40).map (·.size)=some 1:=by kernel_rfl
theorem qH:(prog.info? 53).map (·.size)=some 14:=by kernel_rfl
theorem Ty:zc prog 53=some [.int .i64 0,.int .i64 0,.int .i64 0,.int .u64 0,.slice none 0 0,.int .u64 0,.string .empty,.int .u64 0,.slice none 0 0,.int .i64 0,.int .i64 0,.int .i64 0,.int .i64 0,.int .i64 0]:=by kernel_rfl
end Go.Q9
end
