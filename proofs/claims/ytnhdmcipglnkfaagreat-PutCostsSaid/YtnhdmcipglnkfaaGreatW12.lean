/- Parts of a proof: Rg, Rb, Ryb. -/
import Derived.Test.YtnhdmcipglnkfaaGreatW11
set_option linter.unusedVariables false
set_option linter.unusedSimpArgs false
set_option maxRecDepth 100000
set_option maxHeartbeats 4000000
section
namespace Go.Ct
variable{α β:Type}{a b c:Nat}
theorem lZ.at{t:I α}{Q:α->Prop}(h:lZ a b t Q){j L L0:Nat}(hj:a<=j)(hL:L0<=L):iF t j L λj' L' v=>b<=j'/\L0<=L'/\Q v:=
 (h j L hj).mono (aW _) (aW _) λi i' M M' a hi hM hq=>⟨by omega,by omega,hq.2.2⟩
theorem lZ.wk{a' b':Nat}{t:I α}{Q Q':α->Prop}(h:lZ a b t Q)(ha:a<=a')(hb:b'<=b)(hQ:∀v,Q v->Q' v):lZ a' b' t Q':=λj L hj=>(h j L (by omega)).mono (aW _) (aW _) λi i' M M' v hi hM hq=>⟨by omega,by omega,hQ v hq.2.2⟩
theorem lZ.then{t:I α}{Q:α->Prop}(h:lZ a b t Q){f:α->I β}{j L:Nat}{Q2:Nat->Nat->β->Prop}(hj:a<=j)(k:∀j' L' v,b<=j'->L<=L'->Q v->iF (f v) j' L' Q2):iF (t.bind f) j L Q2:=
 iF.bind ((h j L hj).mono (aW _) (aW _) λi i' M M' v hi hM hq=>k i' M' v (by omega) (by omega) hq.2.2)
theorem Qy{v s:Int}{f:Int->I β}{j L:Nat}{Q:Nat->Nat->β->Prop}(k:∀L' w,L<=L'->iF (f w) j L' Q):iF ((Ad v s).bind f) j L Q:=by
 refine iF.bind ?_
 unfold Ad
 exact iF.bif (λ_ M n hM hn=>k M _ hM) λ_ M n hM hn=>k M _ hM
theorem vK(t:aX)(v s:Int):Good 30 (Uq t v s):=λj L hj=>Qy λL' w hL _=>⟨by omega,hL,trivial⟩
theorem XJ(t:aX):Good 30 (TQ t):=λj L hj v M d hM hd=>iF.bif (λ_=>⟨by omega,hM,trivial⟩) λ_ M2 d2 YY cO s=>
 iF.bif (λ_ M3 d3 hM3 cJ _ M4 d4 hM4 eB s2=>(vK t v s2).at (by omega) (by omega)) λ_=>(vK t v s).at (by omega) (by omega)
theorem Wd(i m p:Int):Good 30 (RX i m p):=λj L hj M a hM ha M2 b YY hb _ M3 b2 hM3 TX=>⟨by omega,by omega,trivial⟩
theorem Yd(i m:Int):Good 30 (SM i m):=λj L hj M a hM ha p=>iF.bif (λ_=>⟨by omega,hM,trivial⟩) λ_=>(Wd i m p).at (by omega) hM
theorem Xf(i m p:Int):Good 30 (QR i m p):=λj L hj M a hM ha=>⟨by omega,bP _ 7 0 p 0 0,λf _ _=>(Yd i m).at (by omega) hM⟩
theorem zP(t:aX)(i m:Int):Good 30 (Av t i m):=λj L hj M a hM ha p=>iF.bif (λ_=>⟨by omega,hM,trivial⟩) λ_ M2 b YY hb=>
 iF.bif (λ_=>iF.bif (λ_=>(Xf i m p).at (by omega) (by omega)) λ_=>(XJ t).then (by omega) λj' L' r oU Mi _ M3 c hM3 hc M4 e hM4 he=>
  iF.bif (λ_ M5 f hM5 hf _=>(Yd i m).at (by omega) (by omega)) λ_=>(Xf i m p).at (by omega) (by omega)) λ_=>(Wd i m p).at (by omega) (by omega)
theorem jK(t:aX)(i:Int):Good 30 (sE t i):=λj L hj M a hM ha m=>(zP t i m).at (by omega) hM
theorem yK(t:aX)(v:Int):Good 30 (Bg t v):=λj L hj M d hM hd=>(jK t d.dO).then hj λj' L' m oU Mi _ M2 d2 YY cO=>
 iF.bif (λ_ M3 d3 hM3 cJ _=>⟨by omega,by omega,trivial⟩) λ_ M3 d3 hM3 cJ _=>⟨by omega,by omega,trivial⟩
theorem sV(t:aX):Good 30 (xP t):=λj L hj v M d hM hd=>iF.bif (λ_=>⟨by omega,hM,trivial⟩) λ_ M2 d2 YY cO s=>
 iF.bif (λ_=>(yK t v).then (by omega) λj' L' _ oU Mi _ M4 d4 hM4 eB s2=>(vK t v s2).at (by omega) (by omega)) λ_=>(vK t v s).at (by omega) (by omega)
theorem nI(t:aX)(i o n:Int):Good 30 (pD t i o n):=λj L hj M a hM ha ok=>iF.bif (λ_=>(zP t i n).then (by omega) λj' L' m oU Mi _=>⟨oU,by omega,trivial⟩) λ_=>⟨by omega,hM,trivial⟩
theorem Dl(t:aX)(o e n:Int):Good 30 (Iw t o e n):=λj L hj=>⟨by omega,bP _ 8 0 o e n,λd _ ok=>iF.bif (λ_=>(yK t d).then (by omega) λj' L' _ oU Mi _ M a hM ha s=>
 Qy λL2 w sR _=>⟨by omega,by omega,trivial⟩) λ_=>⟨by omega,aW _,trivial⟩⟩
theorem zD{f:Int->I β}{c ix r:Int}{j L:Nat}{Q:Nat->Nat->β->Prop}(hj:1<=j)(k:∀L' v,L<=L'->1<=v->iF (f v) (j-1) L' Q):iF ((rK c ix r).bind f) j L Q:=
 λM n hM hn=>⟨hj,(fY hn ix r).mono (by omega),λa ha=>k M a hM ha⟩
theorem Oy(t:aX)(i c ix:Int):Good 30 (Rj t i c ix):=λj L hj M n hM hn=>(jK t _).then hj λj' L' m oU Mi _ M2 a YY ha=>
 ⟨by omega,bP _ 2 _ 0 0 0,λr _=>zD (by omega) λL3 v Yy _=>(nI t i c v).then (by omega) λj4 L4 ok hj4 hL4 _=>iF.bif (λ_=>⟨hj4,by omega,trivial⟩) λ_=>⟨hj4,by omega,trivial⟩⟩
theorem qQ(t:aX)(p c:Int)(h:Nat)(l:Int):Good 30 (Dk t p c h l):=λj L hj=>(jK t p).then hj λj' L' m oU Mi _ M n hM hn=>
 iF.bif (λ_=>⟨oU,by omega,trivial⟩) λ_=>iF.bif (λ_=>⟨oU,by omega,trivial⟩) λ_=>(jK t c).then (by omega) λj2 L2 q Bx sR _ M2 b YY hb=>
  iF.bif (λ_=>⟨Bx,by omega,trivial⟩) λ_=>⟨by omega,(eQ hb).mono (by omega),λs _ M3 n3 hM3 hn3=>⟨by omega,(iU (fY hn3 _ _) ((eQ hb).mono (by omega)) l).mono (by omega),λr _=>(nI t p m r).at (by omega) (by omega)⟩⟩
theorem Xl(t:aX)(key:ByteArray)(h:Nat):∀(n:Nat) (i l:Int),Good 60 (FT t key h n i l)
 |0,i,l=>λj L hj=>⟨hj,aW _,trivial⟩
 |n+1,i,l=>λj L hj=>(jK t i).then (by omega) λj' L' r oU Mi _ M m hM hm=>iF.bif (λ_=>iF.bif (λ_=>⟨oU,by omega,trivial⟩) λ_=>⟨oU,by omega,trivial⟩) λ_=>
  iF.bif (λ_=>⟨oU,by omega,trivial⟩) λ_=>iF.bif (λ_=>⟨oU,by omega,trivial⟩) λ_ M2 s YY hs=>
   iF.bif (λ_=>iF.bif (λ_=>⟨oU,by omega,trivial⟩) λ_=>⟨oU,by omega,trivial⟩) λ_=>(Xl t key h n _ _).at oU (by omega)
theorem ET(c:Call)(n:Nat):Good 60 (Bf c n):=λj L hj=>(sV c.aF).then (by omega) λj' L' r oU Mi _=>(Xl _ _ _ n r 0).at oU Mi
theorem Sg{f:Int->I β}{L:Nat}{Q:Nat->Nat->β->Prop}:∀(l:List (Node×Int)) (r:Int) (j:Nat),(∀z∈l,z.1.Fit (L+1))->l.length<=j->1<=r->(∀r,1<=r->iF (f r) (j-l.length) L Q)->iF ((iX l r).bind f) j L Q
 |[],r,j,_,_,hr,k=>k r hr
 |n::l,r,j,hl,hj,hr,k=>by
  refine⟨by simp at hj;omega,hl n (by simp),λr2 h2=>?_⟩
  refine Sg l r2 (j-1) (λz hz=>hl z (by simp[hz])) (by simp at hj;omega) h2 λr3 h3=>?_
  have:=k r3 h3
  rw[Hd]at this
  rwa [show j-1-l.length=j-(l.length+1) by omega]
theorem Pp(h:Nat)(g f:Int):∀(n:Nat) (k:Int) (l:List (Node×Int)),(gI h g f k n l).length=l.length+2*n
 |0,k,l=>rfl
 |n+1,k,l=>by unfold gI;rw[Pp h g f n];simp;omega
theorem yZ(h:Nat)(g f:Int):∀(n:Nat) (k:Int) (z:Node×Int) (l:List (Node×Int)),(gI h g f k n (z::l)).head?=some z
 |0,k,z,l=>rfl
 |n+1,k,z,l=>by unfold gI;exact yZ h g f n _ _ _
theorem uT(x:Node)(a:Int)(h:Nat)(key:ByteArray)(v:Nat)(lv g f:Int):1<=(bU x a h key v lv g f).length:=by
 unfold bU;dsimp only
 split<;>rw[Pp]<;>simp<;>omega
theorem yS(x:Node)(a:Int)(h:Nat)(key:ByteArray)(v:Nat)(lv g f f':Int):(bU x a h key v lv g f).head?=(bU x a h key v lv g f').head?:=by
 unfold bU;dsimp only
 split<;>rw[yZ,yZ]
theorem k6{f:Int->I β}{x:Node}{a:Int}{h:Nat}{key:ByteArray}{v:Nat}{lv g:Int}{j L:Nat}{Q:Nat->Nat->β->Prop}(hj:24<=j)(ha:1<=a)(hx:x.key.size<=64)(hk:key.size<=64)(hh:h<18446744073709551616)(xL:bO x.key key=false)(hl:0<=lv)
  (k:∀j' r,j-24<=j'->1<=r->iF (f r) j' L Q):iF ((rM x a h key v lv g).bind f) j L Q:=by
 cases hd:bU x a h key v lv g 0 with
 |nil=>
  have:=uT x a h key v lv g 0
  rw[hd]at this
  simp at this
 |cons n l=>
  have e:rM x a h key v lv g=.alloc n.1 n.2 λf=>iX (bU x a h key v lv g f).tail f:=by unfold rM;rw[hd]
  rw[e]
  have hn:n.1.Fit (L+1):=by
   have h1:=yS x a h key v lv g 0 1
   rw[hd]at h1
   exact(qV (L+1) x a h key v lv g 1 (by decide) ha hx hk hh xL hl).1 n (List.mem_of_head? h1.symm)
  refine⟨by omega,hn,λr hr=>?_⟩
  obtain⟨g1,g2⟩:=qV (L+1) x a h key v lv g r hr ha hx hk hh xL hl
  refine Sg _ r (j-1) (λz hz=>g1 z (List.mem_of_mem_tail hz)) (by rw[List.length_tail];omega) hr λr3 h3=>k _ r3 (by rw[List.length_tail];omega) h3
theorem GQ(h:Nat)(b:UInt8):uL h b<18446744073709551616:=by unfold uL;exact Nat.mod_lt _ (by omega)
theorem aA6(l:List UInt8):Uu l<18446744073709551616:=by
 rcases List.eq_nil_or_concat l with rfl|⟨l,b,rfl⟩
 ·unfold Uu;rw[List.foldl_nil];omega
 ·rw[List.concat_eq_append];unfold Uu;rw[List.foldl_append,List.foldl_cons,List.foldl_nil];exact GQ _ _
theorem eS(s:ByteArray)(m:Nat):aE s m<18446744073709551616:=Sc Nat.and_le_left (aA6 _)
theorem Gd(c:Call)(i m:Int)(h:Nat)(level gen:Int)(hk:c.key.size<=64)(hh:h<18446744073709551616)(hl:0<=level):Good 60 (nR c i m h level gen):=λj L hj M n hM hn=>
 iF.bif (λ_=>iF.bif (λ_=>⟨hj,hM,trivial⟩) λ_=>⟨by omega,vH hn _ _,λa _=>(nI c.aF i m a).then (by omega) λj' L' ok oU Mi _=>⟨oU,by omega,trivial⟩⟩) λ_ M2 s YY hs=>
 iF.bif (λ_=>⟨hj,by omega,trivial⟩) λ_=>iF.bif (λ_=>iF.bif (λ_=>⟨hj,by omega,trivial⟩) λ_=>⟨by omega,kE _ 4 _ _ _ (by decide) hh hk,λa _=>zD (by omega) λL3 r Yy _=>
  (nI c.aF i m r).then (by omega) λj' L' ok oU Mi _=>⟨oU,by omega,trivial⟩⟩) λaK6=>iF.bif (λ_=>⟨hj,by omega,trivial⟩) λ_=>
 iF.bif (λ_=>⟨by omega,kE _ 4 _ _ _ (by decide) hh hk,λa _=>⟨by omega,(eO hn _ _).mono (by omega),λr _=>(nI c.aF i m r).then (by omega) λj' L' ok oU Mi _=>⟨oU,by omega,trivial⟩⟩⟩) λaL7=>
  k6 (by omega) (uR (by simpa using aL7)) hs.2 hk hh (by simpa[show (aB n (slice h level)).2=true by simpa using aL7]using aK6) (by omega) λj' r oU _=>⟨by omega,bP _ 2 _ 0 0 0,λq _=>zD (by omega) λL3 v Yy _=>
   (nI c.aF i m v).then (by omega) λj' L' ok oU Mi _=>⟨oU,by omega,trivial⟩⟩
theorem xK(t:aX)(i m ix gen:Int):Good 60 (vB t i m ix gen):=λj L hj M n hM hn M2 b YY hb=>iF.bif (λ_=>⟨hj,by omega,trivial⟩) λ_=>(Oy t i m ix).at (by omega) (by omega)
theorem Nz(c:Call)(h:Nat)(gen:Int)(hk:c.key.size<=64)(hh:h<18446744073709551616):∀(n:Nat) (p i level:Int),0<=level->Good 60 (Pn c h gen n p i level)
 |0,p,i,level,hl=>λj L hj=>⟨hj,aW _,trivial⟩
 |n+1,p,i,level,hl=>λj L hj=>(jK c.aF i).then (by omega) λj' L' m oU Mi _ M a hM ha=>iF.bif (λ_=>(qQ c.aF p i h (level-1)).then (by omega) λj2 L2 ok Bx sR _=>⟨Bx,by omega,trivial⟩) λ_=>
  (Gd c i m h level gen hk hh hl).then oU λj2 L2 r Bx sR _=>iF.bif (λ_=>⟨Bx,by omega,trivial⟩) λ_=>iF.bif (λ_=>⟨Bx,by omega,trivial⟩) λ_=>
  (xK c.aF i m (slice h level) gen).then Bx λj3 L3 b KT Yy _=>iF.bif (λ_=>⟨KT,by omega,trivial⟩) λ_=>(Nz c h gen hk hh n i b (level+1) (by omega)).at KT (by omega)
theorem GR(c:Call)(k:Nat)(hk:c.key.size<=64):∀n,Good 60 (Jf c k n)
 |0=>λj L hj=>⟨hj,aW _,trivial⟩
 |n+1=>λj L hj=>(sV c.aF).then (by omega) λj' L' i oU Mi _ M a hM ha=>(Nz c _ _ hk (eS _ _) k 0 i 0 (Int.le_refl _)).then oU λj2 L2 o Bx sR _=>by
  cases o with
  |some r=>exact⟨Bx,by omega,trivial⟩
  |none=>exact(GR c k hk n).at Bx (by omega)
theorem Ck(c:Call)(i m:Int)(h:Nat)(level:Int):Good 60 (nG c i m h level):=λj L hj M n hM hn=>
 iF.bif (λ_=>iF.bif (λ_=>⟨hj,hM,trivial⟩) λ_=>iF.bif (λ_=>⟨hj,hM,trivial⟩) λ_=>⟨by omega,(xJ hn _).mono (by omega),λa _=>(nI c.aF i m a).then (by omega) λj' L' ok oU Mi _=>⟨oU,by omega,trivial⟩⟩) λ_ M2 s YY hs=>
 iF.bif (λ_=>⟨hj,by omega,trivial⟩) λ_=>iF.bif (λ_=>⟨hj,by omega,trivial⟩) λ_=>iF.bif (λ_=>⟨hj,by omega,trivial⟩) λ_=>iF.bif (λ_=>⟨hj,by omega,trivial⟩) λ_ M3 q hM3 hq=>
  ⟨by omega,(iU ((mQ hn _).mono (by omega)) hq level).mono (by omega),λr _=>(nI c.aF i m r).then (by omega) λj' L' ok oU Mi _=>⟨oU,by omega,trivial⟩⟩
theorem TK(t:aX)(path:List Int)(h:Nat):∀l,Good 60 (O9 t path h l)
 |0=>λj L hj=>⟨hj,aW _,trivial⟩
 |l+1=>λj L hj=>(jK t _).then (by omega) λj' L' m oU Mi _ M n hM hn=>iF.bif (λ_=>⟨oU,by omega,trivial⟩) λ_=>(qQ t _ _ h l).then (by omega) λj2 L2 ok Bx sR _=>(TK t path h l).at Bx (by omega)
theorem Lk(c:Call)(h:Nat)(gen:Int):∀(n:Nat) (path:List Int) (i level:Int),Good 60 (zC c h gen n path i level)
 |0,path,i,level=>λj L hj=>⟨hj,aW _,trivial⟩
 |n+1,path,i,level=>λj L hj=>(jK c.aF i).then (by omega) λj' L' m oU Mi _ M a hM ha=>iF.bif (λ_=>(qQ c.aF _ i h (level-1)).then (by omega) λj2 L2 ok Bx sR _=>⟨Bx,by omega,trivial⟩) λ_=>
  (Ck c i m h level).then oU λj2 L2 r Bx sR _=>iF.bif (λ_=>iF.bif (λ_=>(TK c.aF path h _).then Bx λj3 L3 _ KT Yy _=>⟨KT,by omega,trivial⟩) λ_=>⟨Bx,by omega,trivial⟩) λ_=>iF.bif (λ_=>⟨Bx,by omega,trivial⟩) λ_=>
  (xK c.aF i m (slice h level) gen).then Bx λj3 L3 b KT Yy _=>iF.bif (λ_=>⟨KT,by omega,trivial⟩) λ_=>(Lk c h gen n _ b (level+1)).at KT (by omega)
theorem Yb(c:Call)(k:Nat):∀n,Good 60 (vM c k n)
 |0=>λj L hj=>⟨hj,aW _,trivial⟩
 |n+1=>λj L hj=>(sV c.aF).then (by omega) λj' L' i oU Mi _ M a hM ha=>(Lk c _ _ k [i] i 0).then oU λj2 L2 o Bx sR _=>by
  cases o with
  |some r=>exact⟨Bx,by omega,trivial⟩
  |none=>exact(Yb c k n).at Bx (by omega)
theorem Kz(m:Int):lZ 60 50 (Au m):=λj L hj=>⟨by omega,λg=>⟨by omega,bP _ 2 g 0 0 0,λi _=>⟨by omega,λc=>⟨by omega,aW _,trivial⟩⟩⟩⟩
theorem Ko(r:Int):lZ 60 50 (Nu r):=λj L hj=>⟨by omega,λc=>⟨by omega,aW _,trivial⟩⟩
theorem Ym(t:aX)(fz:Bool):∀n,lZ 60 50 (II t fz n)
 |0=>λj L hj=>⟨by omega,aW _,trivial⟩
 |n+1=>λj L hj=>(sV t).then (by omega) λj' L' r oU Mi _=>(jK t r).then (by omega) λj2 L2 m Bx sR _=>⟨by omega,λg=>⟨by omega,bP _ 2 g 0 0 0,λi _=>(Dl t r m i).then (by omega) λj3 L3 ok KT Yy _=>
  iF.bif (λ_=>(Ym t fz n).at KT (by omega)) λ_=>iF.bif (λ_=>(Ko r).at KT (by omega)) λ_=>(Kz m).at KT (by omega)⟩⟩
theorem Cg(t:aX)(fz:Bool)(n:Nat):lZ 60 50 (kK t fz n):=λj L hj=>iF.bif (λ_ r=>iF.bif (λ_=>(Ko r).at (by omega) (aW _)) λ_=>(jK t r).then (by omega) λj2 L2 m Bx sR _=>(Kz m).at Bx sR) λ_=>(Ym t fz n).at hj (aW _)
theorem Qf(t:aX):∀n,Good 60 (yI t n)
 |0=>λj L hj=>⟨hj,aW _,trivial⟩
 |n+1=>λj L hj=>(sV t).then (by omega) λj' L' r oU Mi _=>(jK t r).then (by omega) λj2 L2 m Bx sR _=>⟨by omega,iS _,λc _=>⟨by omega,λg=>⟨by omega,bP _ 2 g 0 0 0,λi _=>(Dl t r m i).then (by omega) λj3 L3 ok KT Yy _=>
  iF.bif (λ_=>⟨KT,by omega,trivial⟩) λ_=>(Qf t n).at KT (by omega)⟩⟩⟩
theorem VD(c:Call)(n:Nat)(hk:c.kind=8->refused c=0->c.key.size<=64):lZ 60 50 (cA c n):=by
 have wk:∀{a:Nat} {t:I Result},a<=60->Good a t->lZ 60 50 t:=λha h=>lZ.wk h ha (by omega) λv h=>h
 have one:∀{α:Type} {t:I α} (f:α->Result),Good 30 t->lZ 60 50 (t.bind λv=>.ret (f v)):=λf h j L hj=>lZ.then h (by omega) λj' L' v oU Mi _=>⟨by omega,Mi,trivial⟩
 unfold cA
 by_cases hr:refused c≠0
 ·rw[if_pos hr];exact λj L hj=>⟨by omega,aW _,trivial⟩
 rw[if_neg hr]
 by_cases h1:c.kind=1
 ·rw[if_pos h1];exact one _ (jK _ _)
 rw[if_neg h1]
 by_cases h2:c.kind=2
 ·rw[if_pos h2];exact one _ (nI _ _ _ _)
 rw[if_neg h2]
 by_cases h3:c.kind=3
 ·rw[if_pos h3];exact one _ (sV _)
 rw[if_neg h3]
 by_cases h4:c.kind=4
 ·rw[if_pos h4];exact one _ (Dl _ _ _ _)
 rw[if_neg h4]
 by_cases h5:c.kind=5
 ·rw[if_pos h5];exact one _ (Oy _ _ _ _)
 rw[if_neg h5]
 by_cases h6:c.kind=6
 ·rw[if_pos h6];exact one _ (qQ _ _ _ _ _)
 rw[if_neg h6]
 by_cases h7:c.kind=7
 ·rw[if_pos h7];exact wk (by omega) (ET _ _)
 rw[if_neg h7]
 by_cases h8:c.kind=8
 ·rw[if_pos h8];exact wk (by omega) (GR _ _ (hk h8 (Classical.not_not.1 hr)) _)
 rw[if_neg h8]
 by_cases h9:c.kind=9
 ·rw[if_pos h9];exact wk (by omega) (Yb _ _ _)
 rw[if_neg h9]
 by_cases N7:c.kind=10
 ·rw[if_pos N7];exact Cg _ _ _
 rw[if_neg N7]
 by_cases TT:c.kind=11
 ·rw[if_pos TT];exact Cg _ _ _
 rw[if_neg TT]
 by_cases h12:c.kind=12
 ·rw[if_pos h12];exact wk (by omega) (Qf _ _)
 rw[if_neg h12]
 exact λj L hj=>⟨by omega,aW _,trivial⟩
end Go.Ct
end
section
namespace Go.Q9
open Go.Proofs.Tryz
open Go.RowKit Go.E
variable{B w:World}{L:List As}
def dV(t:Ct.aX):List Value:=[↑t.root,↑t.readOnly]
def XA(b mb:Nat)(x:Ct.X):As:=se [exA b mb x.e,dX mb x.s]
theorem DR{l:List As}{O R:Nat->Prop}(h:(se l).p w O R){i:Nat}{A:As}(hi:l[i]?=some A):∃O R,A.p w O R:=by
 obtain⟨Os,Rs,h1,_⟩:=h
 exact⟨_,_,h1 i A hi⟩
theorem W7{b mb:Nat}{x:Ct.X}{O R:Nat->Prop}(h:(XA b mb x).p w O R):∃q,w.heap[b]?=some (.cells (Bl mb x.e q).toArray 135 (0,0)):=by
 obtain⟨O1,R1,q,h1⟩:=DR h (i:=0) rfl
 obtain⟨O2,R2,h2⟩:=DR h1 (i:=0) rfl
 exact⟨q,h2.1⟩
end Go.Q9
namespace Go.E
open Go.Q9 Go.RowKit
variable{B w:World}{L:List As}
theorem SH.xc{b mb:Nat}{x:Ct.X}{o:Nat}{v:Value}(h:SH B w L)(m:At L (XA b mb x))(hv:∀q,(Bl mb x.e q)[o]?=some v):w.cell? ⟨b,o,none⟩=some v:=by
 obtain⟨O,R,hA⟩:=h.at_ m
 obtain⟨q,h0⟩:=W7 hA
 simp[World.cell?,h0,hv q]
theorem Hs.xc{F:List As}{b mb:Nat}{x:Ct.X}{o:Nat}{v:Value}(h:Hs F w)(m:At F (XA b mb x))(hv:∀q,(Bl mb x.e q)[o]?=some v):w.cell? ⟨b,o,none⟩=some v:=by
 obtain⟨O,R,hA⟩:=h _ m
 obtain⟨q,h0⟩:=W7 hA
 simp[World.cell?,h0,hv q]
theorem SH.xr{b mb:Nat}{x:Ct.X}(o:Nat){cs:List Value}(h:SH B w L)(m:At L (XA b mb x))(hv:∀q,((Bl mb x.e q).drop o).take cs.length=cs):∀j v,cs[j]?=some v->w.cell? ⟨b,o+j,none⟩=some v:=by
 obtain⟨O,R,hA⟩:=h.at_ m
 obtain⟨q,h0⟩:=W7 hA
 exact hX h0 o (hv q)
theorem Hs.xr{F:List As}{b mb:Nat}{x:Ct.X}(o:Nat){cs:List Value}(h:Hs F w)(m:At F (XA b mb x))(hv:∀q,((Bl mb x.e q).drop o).take cs.length=cs):∀j v,cs[j]?=some v->w.cell? ⟨b,o+j,none⟩=some v:=by
 obtain⟨O,R,hA⟩:=h _ m
 obtain⟨q,h0⟩:=W7 hA
 exact hX h0 o (hv q)
theorem SH.xo{b mb:Nat}{x:Ct.X}(h:SH B w (XA b mb x::L)):∃q,SH B w (G7 b mb x.e q++dX mb x.s::L):=by
 have h:=h.se
 obtain⟨q,h⟩:=SH.ex (f:=λq=>Go.E.se (G7 b mb x.e q)) h
 exact⟨q,h.se⟩
theorem SH.xi{b mb:Nat}{e:Ct.Ex}{s:Ct.St}(q:Eq')(h:SH B w (G7 b mb e q++dX mb s::L)):SH B w (XA b mb ⟨e,s⟩::L):=
 SH.is (l:=[exA b mb e,dX mb s]) (SH.bX (f:=λq=>Go.E.se (G7 b mb e q)) q (SH.is h))
theorem SH.mo{b:Nat}{s:Ct.St}(h:SH B w (dX b s::L)):∃q:Mq,q.zs.map Prod.fst=aZ s/\SH B w (AA b s q++L):=by
 obtain⟨q,h⟩:=SH.ex (f:=λq:Mq=>Go.E.se (Go.E.pu (q.zs.map Prod.fst=aZ s)::AA b s q)) h
 have h:=h.se
 exact⟨q,h.pu⟩
theorem SH.mi{b:Nat}{s:Ct.St}(q:Mq)(hq:q.zs.map Prod.fst=aZ s)(h:SH B w (AA b s q++L)):SH B w (dX b s::L):=
 SH.bX (f:=λq:Mq=>Go.E.se (Go.E.pu (q.zs.map Prod.fst=aZ s)::AA b s q)) q (SH.is (l:=Go.E.pu (q.zs.map Prod.fst=aZ s)::AA b s q) (SH.ip hq h))
theorem SH.fI(n:Ct.Node)(hb:n.aA=[])(hp:n.aH=[])(h:SH B w L):SH B w (aL n {}::L):=by
 refine SH.is (l:=[bE n {},cP n {}]) ?_
 unfold bE cP
 rw[hb,hp]
 exact SH.MT 1 (SH.MT 2 h)
end Go.E
end
section
namespace Go.Q9
open Go.Proofs.Tryz
open Go.E
theorem Cp:D8 prog 53=some ([.int .i64 0,.int .i64 0,.int .i64 0,.int .u64 0,.slice none 0 0,.int .u64 0,.string .empty,.int .u64 0,.slice none 0 0,.int .i64 0,.int .i64 0,.int .i64 0,.int .i64 0,.int .i64 0],[(0,1),(1,1),(2,1),(3,1),(4,1),(5,1),(6,1),(7,1),(8,1),(9,1),(10,1),(11,1),(12,1),(13,1)]):=by kernel_rfl
theorem Nj:fo prog 42 0=some 0:=by kernel_rfl
theorem Ni:fo prog 75 0=some 0:=by kernel_rfl
theorem uH:fo prog 53 0=some 0:=by kernel_rfl
theorem vN:fo prog 53 13=some 13:=by kernel_rfl
theorem Bh:fo prog 53 2=some 2:=by kernel_rfl
theorem nE:fo prog 53 4=some 4:=by kernel_rfl
theorem qX:fo prog 53 8=some 8:=by kernel_rfl
theorem uK:fo prog 53 9=some 9:=by kernel_rfl
theorem jZ:wM prog 3=true:=by kernel_rfl
theorem jE:wM prog 44=true:=by kernel_rfl
theorem wN:wM prog 51=true:=by kernel_rfl
theorem BO:wM prog 39=true:=by kernel_rfl
theorem kZ:wM prog 40=true:=by kernel_rfl
theorem iK:Dz prog 53=some 14:=by kernel_rfl
theorem fB:prog.underlying 51=some (.slice 120):=by kernel_rfl
theorem Cs:prog.underlying 39=some (.slice 53):=by kernel_rfl
theorem gN:prog.underlying 40=some (.slice 44):=by kernel_rfl
theorem tO:sB prog 120=some (.agg [.string .empty,.int .u64 0].toArray,2,24):=by kernel_rfl
theorem sD:sB prog 44=some (.int .i64 0,1,8):=by kernel_rfl
theorem SJ:sB prog 53=some (.agg [.int .i64 0,.int .i64 0,.int .i64 0,.int .u64 0,.slice none 0 0,.int .u64 0,.string .empty,.int .u64 0,.slice none 0 0,.int .i64 0,.int .i64 0,.int .i64 0,.int .i64 0,.int .i64 0].toArray,14,152):=by kernel_rfl
theorem Gu:(prog.info? 3).map (·.size)=some 1:=by kernel_rfl
theorem tF:(prog.info? 33).map (·.size)=some 1:=by kernel_rfl
theorem uM:(prog.info? 44).map (·.size)=some 1:=by kernel_rfl
theorem aIu:(prog.info? 51).map (·.size)=some 1:=by kernel_rfl
theorem aBl:(prog.info? 39).map (·.size)=some 1:=by kernel_rfl
theorem xN:(prog.info? 40).map (·.size)=some 1:=by kernel_rfl
theorem xS:(prog.info? 53).map (·.size)=some 14:=by kernel_rfl
theorem GY:zc prog 53=some [.int .i64 0,.int .i64 0,.int .i64 0,.int .u64 0,.slice none 0 0,.int .u64 0,.string .empty,.int .u64 0,.slice none 0 0,.int .i64 0,.int .i64 0,.int .i64 0,.int .i64 0,.int .i64 0]:=by kernel_rfl
end Go.Q9
end
