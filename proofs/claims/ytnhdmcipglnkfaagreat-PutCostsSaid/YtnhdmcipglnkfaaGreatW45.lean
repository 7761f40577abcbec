/- Parts of a proof: Pz4, Ays. -/
import Derived.Test.YtnhdmcipglnkfaaGreatW44
set_option linter.unusedVariables false
set_option linter.unusedSimpArgs false
set_option maxRecDepth 100000
set_option maxHeartbeats 4000000
section
namespace Go.Q9
open Go.Proofs.Tryz
open Go.RowKit Go.E Go.Ct
attribute [local irreducible] gA wpS Go.E.X XS C kV lL fin Y U F Ca kU bl rb aV bS ex ce pu sK gK bK zK gG fE cZ gY mA
variable{B w:World}{L:List As}
theorem XG(a b:Ct.bA)(h:SH B w (L)):
  Calls prog 298 #[.agg (aR a).toArray,.agg (aR b).toArray] w λe w'=>e=.returned (.int .i64 (Lib.compareBytes a.key.data.toList b.key.data.toList))/\SH B w' L:=by
 refine cN func298 ntmps298 h λw h=>?_
 refine jX h λb1 w h=>?_
 refine jX h λb2 w h=>?_
 refine cl (ca eF rfl) ((Le a.key b.key _).mono ?_)
 rintro _ _ ⟨rfl,rfl⟩
 refine⟨_,rfl,?_⟩
 refine st (sg rfl)<|xe<|nx<|rt<|?_
 refine go h λw h=>?_
 exact rz ⟨rfl,h.drop.drop⟩
def os2(a b:Ct.bA):Nat->List Ct.bA|1=>[a,b]|_=>Ct.gE a b
def oj2(a b:Ct.bA):Nat->List Ct.bA|1=>[a,b]|_=>[b,a]
theorem J4{a b:Ct.bA}(h:Ct.dW b.key a.key=true):Ct.gE a b=[b,a]:=by unfold Ct.gE;rw[if_pos h]
theorem X1{a b:Ct.bA}(h:Ct.dW b.key a.key=false):Ct.gE a b=[a,b]:=by unfold Ct.gE;rw[if_neg (by simp[h])]
theorem UQ(a b:Ct.bA)(h:SH B w L):Calls prog 298 #[.agg (aR a).toArray,.agg (aR b).toArray] w λe w'=>e=.returned (.int .i64 (Lib.compareBytes a.key.data.toList b.key.data.toList))/\SH B w' L:=XG a b h
section
attribute [local semireducible] gA wpS Go.E.X XS C kV lL fin Y U F Ca kU bl rb aV bS ex ce pu sK gK bK zK gG fE cZ gY mA
attribute [local irreducible] gA wpS
variable{B w:World}{L:List As}
theorem LJ(a b:Ct.bA)(lb:Nat)(h:SH B w (aV 120 2 (.slice (some ⟨lb,0,none⟩) 2 2) 2 (([a,b]).flatMap aR)::L)):
  Calls prog 300 #[.slice (some ⟨lb,0,none⟩) 2 2,.int .i64 0,.int .i64 2,.func (.func 298) [].toArray [].toArray] w λe w'=>e=.returned (.tuple #[])/\SH B w' (aV 120 2 (.slice (some ⟨lb,0,none⟩) 2 2) 2 ((Ct.gE a b).flatMap aR)::L):=by
 refine Kk (args:=[_,_,_,_]) func300 rfl ntmps300 rfl ?_
 refine sq<|rg<|st (mv rfl)<|st (bw rfl rfl (iR (c:=1) (by omega) (by omega) (by omega)))<|st (sg rfl)<|xe<|nx<|bk<|?_
 refine lp (α:=Nat) (λρ=>(.c 0 (.slice (some ⟨lb,0,none⟩) 2 2) (.c 1 (.int .i64 0) (.c 2 (.int .i64 2) (.c 3 (.func (.func 298) [].toArray [].toArray) (.c 8 (.int .i64 (ρ:Int)) .n)))))) (λρ w=>SH B w (aV 120 2 (.slice (some ⟨lb,0,none⟩) 2 2) 2 ((os2 a b ρ).flatMap aR)::L)/\(1<=ρ)/\(ρ<=2)) (λρ=>2-ρ) 1 ⟨rfl,rfl,rfl,rfl,rfl,trivial⟩ ⟨h,(by decide),(by decide)⟩ ?_
 rintro i w ⟨h,Jx,hi2⟩
 rcases(show i=1\/i=2 by omega)with rfl|rfl
 ·have h:SH B w (aV 120 2 (.slice (some ⟨lb,0,none⟩) 2 2) 2 (([a,b]).flatMap aR)::L):=h
  refine sq<|sq<|rg<|st (mv rfl)<|st (mv rfl)<|st (bi rfl rfl rfl)<|xe<|nx<|cT rfl<|sk<|nx<|sq<|bk<|sq<|rg<|st (mv rfl)<|st (sg rfl)<|xe<|nx<|bk<|?_
  refine lp (α:=Nat) (λρ=>(.c 0 (.slice (some ⟨lb,0,none⟩) 2 2) (.c 1 (.int .i64 0) (.c 2 (.int .i64 2) (.c 3 (.func (.func 298) [].toArray [].toArray) (.c 8 (.int .i64 1) (.c 9 (.int .i64 (ρ:Int)) .n))))))) (λρ w=>SH B w (aV 120 2 (.slice (some ⟨lb,0,none⟩) 2 2) 2 ((oj2 a b ρ).flatMap aR)::L)/\(ρ<=1)/\(ρ=0->Ct.dW b.key a.key=true)) (λρ=>ρ) 1 ⟨rfl,rfl,rfl,rfl,rfl,rfl,trivial⟩ ⟨h,(by decide),(λq=>absurd q (by decide))⟩ ?_
  rintro j w ⟨h,hj,hk⟩
  rcases(show j=0\/j=1 by omega)with rfl|rfl
  ·have h:SH B w (aV 120 2 (.slice (some ⟨lb,0,none⟩) 2 2) 2 (([b,a]).flatMap aR)::L):=h
   refine sq<|sq<|fD [1,3,5,7,9,11,13,15,17,19,21,23,25,27,28,31,33] (by kernel_rfl) h .n λw h=>tk (λW H=>mv rfl)<|tk (λW H=>mv rfl)<|tk (λW H=>bi rfl rfl rfl)<|tk (λW H=>mv rfl)<|Cf rfl rfl rfl<|Cf rfl rfl rfl<|Cf rfl rfl rfl<|Cf rfl rfl rfl<|Cf rfl rfl rfl<|Cf rfl rfl rfl<|Cf rfl rfl rfl<|Cf rfl rfl rfl<|Cf rfl rfl rfl<|Cf rfl rfl rfl<|Cf rfl rfl rfl<|Cf rfl rfl rfl<|tk (λW H=>pF rfl rfl rfl)<|xz<|nx<|cF rfl<|xt<|tx<|tx<|be<|bn<|nx<|rg<|st (mv rfl)<|st (bw rfl rfl (iR (c:=2) (by omega) (by omega) (by omega)))<|st (sg rfl)<|xe<|nx<|?_
   rw[<- J4 (hk rfl)]at h
   exact⟨(2),⟨rfl,rfl,rfl,rfl,rfl,trivial⟩,⟨h,by(try dsimp only);omega,by(try dsimp only);omega⟩,by(try dsimp only);omega⟩
  ·have h:SH B w (aV 120 2 (.slice (some ⟨lb,0,none⟩) 2 2) 2 (([a,b]).flatMap aR)::L):=h
   refine sq<|sq<|fD [1,3,5,7,9,11,13,15,17,19,21,23,25,27,28,31,33] (by kernel_rfl) h (.c r0 .n) λw h=>tk (λW H=>mv rfl)<|tk (λW H=>mv rfl)<|tk (λW H=>bi rfl rfl rfl)<|tk (λW H=>mv rfl)<|uZ rfl rfl rfl<|tk (λW H=>mv rfl)<|uZ rfl rfl rfl<|tk (λW H=>mv rfl)<|uZ rfl rfl rfl<|tk (λW H=>mv rfl)<|uZ rfl rfl rfl<|tk (λW H=>ix (j:=1) fB gR rfl rfl (by omega))<|uZ rfl rfl rfl<|tk (λW H=>kB rfl ((H.ro a0).x bJ (by decide) (j:=1) (by omega) ⟨.empty,0⟩) sO)<|uZ rfl rfl rfl<|tk (λW H=>mv rfl)<|uZ rfl rfl rfl<|tk (λW H=>mv rfl)<|uZ rfl rfl rfl<|tk (λW H=>bw rfl rfl (Jb (c:=0) (by omega) (by omega) (by omega)))<|uZ rfl rfl rfl<|tk (λW H=>ix (j:=0) fB gR rfl rfl (by omega))<|uZ rfl rfl rfl<|tk (λW H=>kB rfl ((H.ro a0).x bJ (by decide) (j:=0) (by omega) ⟨.empty,0⟩) sO)<|uZ rfl rfl rfl<|cs (cv_ eF rfl rfl) ((UQ (([a,b]).getD 1 ⟨.empty,0⟩) (([a,b]).getD 0 ⟨.empty,0⟩) (h.fr .n)).mono ?_)
   rintro _ w ⟨rfl,h⟩
   refine⟨_,rfl,h.hs (.c r0 .n),?_⟩
   refine uZ rfl rfl rfl<|tk (λW H=>bi rfl rfl rfl)<|tk (λW H=>pT rfl rfl rfl)<|xz<|nx<|?_
   rcases dQ (decide ((Lib.compareBytes (([a,b]).getD 1 ⟨.empty,0⟩).key.data.toList (([a,b]).getD 0 ⟨.empty,0⟩).key.data.toList:Int)<0))with dF|dF
   ·refine ct rfl dF<|sk<|nx<|sq<|bk<|DD (F:=[aV 120 2 (.slice (some ⟨lb,0,none⟩) 2 2) 2 (([a,b]).flatMap aR)]) [(true,[1,3]),(false,[5,7,9]),(true,[11,13,15,17,19,21,23,25,27,29]),(false,[30,33,34])] (by kernel_rfl) h (λw h=>(hC (h.at_ a0) hN)) λw h=>sgT<|tk (λW H=>mv rfl)<|tk (λW H=>mv rfl)<|KR<|tk (λW H=>mv rfl)<|tk (λW H=>mv rfl)<|tk (λW H=>bw rfl rfl (Jb (c:=0) (by omega) (by omega) (by omega)))<|xgT<|tk (λW H=>mv rfl)<|tk (λW H=>mv rfl)<|tk (λW H=>bw rfl rfl (Jb (c:=0) (by omega) (by omega) (by omega)))<|tk (λW H=>ix (j:=0) fB gR rfl rfl (by omega))<|tk (λW H=>kB rfl ((H.ro a0).x bJ (by decide) (j:=0) (by omega) ⟨.empty,0⟩) sO)<|tk (λW H=>mv rfl)<|tk (λW H=>mv rfl)<|tk (λW H=>ix (j:=1) fB gR rfl rfl (by omega))<|tk (λW H=>kB rfl ((H.ro a0).x bJ (by decide) (j:=1) (by omega) ⟨.empty,0⟩) sO)<|tk (λW H=>ix (j:=1) fB gR rfl rfl (by omega))<|KR<|ff (sor (enc:=aR) (a:=([a,b]).getD 0 ⟨.empty,0⟩) h gR bJ eW rfl rfl rfl (by omega) (by simp) u0)<|?_
    rintro _ w h
    refine⟨trivial,?_⟩
    refine tk (λW H=>ix (j:=0) fB gR rfl rfl (by omega))<|ff (sor (enc:=aR) (a:=([a,b]).getD 1 ⟨.empty,0⟩) h gR bJ eW rfl rfl rfl (by omega) (by simp) u0)<|?_
    rintro _ w h
    refine⟨trivial,?_⟩
    refine xz<|bn<|nx<|rg<|st (mv rfl)<|st (bw rfl rfl (Jb (c:=0) (by omega) (by omega) (by omega)))<|st (sg rfl)<|xe<|nx<|?_
    exact⟨(0),⟨rfl,rfl,rfl,rfl,rfl,rfl,trivial⟩,⟨h,by(try dsimp only);omega,(λ_=>(Ct.Ay b.key a.key).2 (dH dF))⟩,by(try dsimp only);omega⟩
   ·refine cf rfl dF<|xt<|tx<|tx<|be<|bn<|nx<|rg<|st (mv rfl)<|st (bw rfl rfl (iR (c:=2) (by omega) (by omega) (by omega)))<|st (sg rfl)<|xe<|nx<|?_
    rw[<- X1 (Bool.eq_false_iff.2 λq=>dR dF ((Ct.Ay b.key a.key).1 q))]at h
    exact⟨(2),⟨rfl,rfl,rfl,rfl,rfl,trivial⟩,⟨h,by(try dsimp only);omega,by(try dsimp only);omega⟩,by(try dsimp only);omega⟩
 ·have h:SH B w (aV 120 2 (.slice (some ⟨lb,0,none⟩) 2 2) 2 ((Ct.gE a b).flatMap aR)::L):=h
  refine sq<|sq<|rg<|st (mv rfl)<|st (mv rfl)<|st (bi rfl rfl rfl)<|xe<|nx<|cF rfl<|xt<|tx<|tx<|be<|?_
  refine rn (wC results300)<|⟨rfl,h⟩
end
variable{B w:World}{L:List As}
theorem EZ(a b:Ct.bA)(lb:Nat)(h:SH B w (aV 120 2 (.slice (some ⟨lb,0,none⟩) 2 2) 2 (([a,b]).flatMap aR)::L)):
  Calls prog 299 #[.slice (some ⟨lb,0,none⟩) 2 2,.int .i64 2,.func (.func 298) [].toArray [].toArray] w λe w'=>e=.returned (.tuple #[])/\SH B w' (aV 120 2 (.slice (some ⟨lb,0,none⟩) 2 2) 2 ((Ct.gE a b).flatMap aR)::L):=by
 refine cN func299 ntmps299 h λw h=>?_
 refine lp (α:=Nat) (λρ=>(.c 0 (.slice (some ⟨lb,0,none⟩) 2 2) (.c 1 (.int .i64 2) (.c 2 (.func (.func 298) [].toArray [].toArray) (.c 6 (.int .i64 20) (.c 7 (.int .i64 0) (.c 8 (.int .i64 20) .n))))))) (λρ w=>SH B w (aV 120 2 (.slice (some ⟨lb,0,none⟩) 2 2) 2 (([a,b]).flatMap aR)::L)/\True) (λρ=>0) 0 ⟨rfl,rfl,rfl,rfl,rfl,rfl,trivial⟩ ⟨h,trivial⟩ ?_
 rintro z w ⟨h,pN⟩
 refine go h λw h=>?_
 refine bQ (LJ a b _ h.to) λw h=>?_
 refine lp (α:=Nat) (λρ=>(.c 0 (.slice (some ⟨lb,0,none⟩) 2 2) (.c 1 (.int .i64 2) (.c 2 (.func (.func 298) [].toArray [].toArray) (.c 6 (.int .i64 20) .n))))) (λρ w=>SH B w (aV 120 2 (.slice (some ⟨lb,0,none⟩) 2 2) 2 ((Ct.gE a b).flatMap aR)::L)/\True) (λρ=>0) 0 ⟨rfl,rfl,rfl,rfl,trivial⟩ ⟨h,trivial⟩ ?_
 rintro z w ⟨h,pN⟩
 refine go h λw h=>?_
 refine rn (wC results299)<|go h λw h=>?_
 refine⟨rfl,h⟩
theorem VC(a b:Ct.bA)(lb:Nat)(h:SH B w (aV 120 2 (.slice (some ⟨lb,0,none⟩) 2 2) 2 (([a,b]).flatMap aR)::L)):
  Calls prog 297 #[.slice (some ⟨lb,0,none⟩) 2 2,.func (.func 298) [].toArray [].toArray] w λe w'=>e=.returned (.tuple #[])/\SH B w' (aV 120 2 (.slice (some ⟨lb,0,none⟩) 2 2) 2 ((Ct.gE a b).flatMap aR)::L):=by
 refine cN func297 ntmps297 h λw h=>?_
 refine bQ (EZ a b _ h.to) λw h=>?_
 refine rn (wC results297)<|go h λw h=>?_
 refine⟨rfl,h⟩
theorem XY{a b:Ct.bA}(h:Ct.bO a.key b.key=false):∃x y,Ct.gE a b=[x,y]/\(y.key.toList==x.key.toList)=false:=by
 have h2:Ct.bO b.key a.key=false:=by
  cases hb:Ct.bO b.key a.key with
  |false=>rfl
  |true=>rw[mJ hb]at h;exact absurd h (by simp[Ct.bO])
 unfold Ct.gE
 split
 ·exact⟨b,a,rfl,h⟩
 ·exact⟨a,b,rfl,h2⟩
section
attribute [local semireducible] gA wpS Go.E.X XS C kV lL fin Y U F Ca kU bl rb aV bS ex ce pu sK gK bK zK gG fE cZ gY mA
attribute [local irreducible] gA wpS
variable{B w:World}{L:List As}
theorem P'(a b:Ct.bA)(lb:Nat)(h:SH B w (bS 2 (.slice (some ⟨lb,0,none⟩) 2 2) 2 (([a,b]).flatMap aR)::L))(xL:Ct.bO a.key b.key=false):
  Calls prog 295 #[.slice (some ⟨lb,0,none⟩) 2 2] w λe w'=>∃p' c',e=.returned (.slice p' 2 c')/\SH B w' (bS 2 (.slice p' 2 c') 2 ((Ct.gE a b).flatMap aR)::L):=by
 refine Kk (args:=[_]) func295 rfl ntmps295 rfl ?_
 refine sq<|rg<|st (sg rfl)<|xe<|nx<|sq<|rg<|st (mv rfl)<|st (ln fB rfl rfl)<|sf (mk h fB tO rfl rfl (by omega) (by unfold maxLen;omega))<|?_
 rintro _ w ⟨b1,rfl,h⟩
 rw[vO bJ (by decide) (d:=⟨.empty,0⟩) rfl]at h
 refine st (sg rfl)<|xe<|nx<|sq<|rg<|st (mv rfl)<|st (mv rfl)<|sf (cpz (k:=0) h a1 fB gR rfl rfl u0 (λ_=>by rw[Nat.zero_mul]) (by omega) (by omega) (lN eW _))<|?_
 rintro _ w ⟨rfl,h⟩
 rw[Nr bJ]at h
 have h:SH B w (aV 120 2 (.slice (some ⟨b1,0,none⟩) 2 2) 2 (([a,b]).flatMap aR)::bS 2 (.slice (some ⟨lb,0,none⟩) 2 2) 2 (([a,b]).flatMap aR)::L):=h
 refine xe<|nx<|sq<|rg<|st (mv rfl)<|cl (ca eF rfl) ((VC a b b1 (h.fr (.c r0 .n))).mono ?_)
 rintro _ w ⟨rfl,h⟩
 refine⟨_,rfl,?_⟩
 refine xe<|nx<|sq<|?_
 obtain⟨x,y,hxy,hxn⟩:=XY xL
 rw[hxy]at h
 refine rg<|st (mv rfl)<|st (ln fB rfl rfl)<|sf (mk0 h fB tO rfl rfl (by omega) (by unfold maxLen;omega))<|?_
 rintro _ w ⟨b2,rfl,h⟩
 refine st (sg rfl)<|xe<|nx<|sq<|sq<|rg<|st (mv rfl)<|st (ln fB rfl rfl)<|st (mv rfl)<|xe<|nx<|bk<|?_
 refine lp (α:=Nat×Option Addr×Nat) (λρ=>(.c 3 (.slice (some ⟨b1,0,none⟩) 2 2) (.c 4 (.slice ρ.2.1 ρ.1 ρ.2.2) (.c 18 (.slice (some ⟨b1,0,none⟩) 2 2) (.c 19 (.int .i64 2) (.c 20 (.int .i64 (ρ.1:Int)) .n)))))) (λρ w=>SH B w (aV 120 2 (.slice ρ.2.1 ρ.1 ρ.2.2) ρ.1 ((([x,y]:List Ct.bA).take ρ.1).flatMap aR)::aV 120 2 (.slice (some ⟨b1,0,none⟩) 2 2) 2 (([x,y]).flatMap aR)::bS 2 (.slice (some ⟨lb,0,none⟩) 2 2) 2 (([a,b]).flatMap aR)::L)/\(ρ.1<=2)) (λρ=>2-ρ.1) (0,some ⟨b2,0,none⟩,2) ⟨rfl,rfl,rfl,rfl,rfl,trivial⟩ ⟨h,(by omega)⟩ ?_
 rintro⟨i,q,cq⟩ w ⟨h,hi⟩
 dsimp only at *
 rcases(show i=0\/i=1\/i=2 by omega)with rfl|rfl|rfl
 ·have h:SH B w (aV 120 2 (.slice q 0 cq) 0 (([]:List Ct.bA).flatMap aR)::aV 120 2 (.slice (some ⟨b1,0,none⟩) 2 2) 2 (([x,y]).flatMap aR)::bS 2 (.slice (some ⟨lb,0,none⟩) 2 2) 2 (([a,b]).flatMap aR)::L):=h
  refine sq<|rg<|st (bi rfl rfl rfl)<|xe<|nx<|sq<|cT rfl<|sk<|nx<|sq<|bk<|sq<|rg<|st (mv rfl)<|st (ix (j:=0) fB gR rfl rfl (by omega))<|st (kB rfl ((h.ro a1).x bJ (by decide) (j:=0) (by omega) ⟨.empty,0⟩) sO)<|sf (al h OM)<|?_
  rintro _ w ⟨b3,rfl,h⟩
  refine st (sg rfl)<|sf (so h rfl rfl rfl gR rfl (.r (.r .d)) u0)<|?_
  rintro _ w h
  refine xe<|nx<|sq<|sq<|fD [1,3,5,7,9,11,13,15,17,19,21,23,25,27,29,31] (by kernel_rfl) h (.c r2 (.c r0 .n)) λw h=>tk (λW H=>mv rfl)<|tk (λW H=>bw rfl rfl (iR (c:=1) (by omega) (by omega) (by omega)))<|tk (λW H=>mv rfl)<|tk (λW H=>ln fB rfl rfl)<|tk (λW H=>bi rfl rfl rfl)<|tk (λW H=>mv rfl)<|uZ rfl rfl rfl<|tk (λW H=>mv rfl)<|uZ rfl rfl rfl<|tk (λW H=>mv rfl)<|uZ rfl rfl rfl<|tk (λW H=>bw rfl rfl (iR (c:=1) (by omega) (by omega) (by omega)))<|uZ rfl rfl rfl<|tk (λW H=>ix (j:=1) fB gR rfl rfl (by omega))<|uZ rfl rfl rfl<|tk (λW H=>fa Hq rfl)<|uZ rfl rfl rfl<|tk (λW H=>ld zH rfl ((H.ro a0).x bJ (by decide) (j:=1) (by omega) ⟨.empty,0⟩ 0 _ rfl))<|uZ rfl rfl rfl<|tk (λW H=>fa Hq rfl)<|uZ rfl rfl rfl<|tk (λW H=>ld zH rfl (H.c a1 rfl))<|uZ rfl rfl rfl<|tk (λW H=>sb rfl rfl rfl)<|tk (λW H=>pT rfl rfl rfl)<|xz<|nx<|cf rfl hxn<|sk<|nx<|rg<|st (mv rfl)<|st (kB rfl (eH (h.b a0)) sO)<|sf (bu (aR (([x,y]).getD 0 ⟨.empty,0⟩)) h fB tO rfl (by kernel_rfl) rfl (by decide) (by decide))<|?_
  rintro _ w ⟨b4,rfl,h⟩
  refine sf (ap h fB rfl tO rfl (by decide) rfl rfl (λ_=>u2) (h.ro a0) (λu hu=>List.all_eq_true.1 (eW _) u hu) rfl rfl (by unfold maxLen;omega) (by omega))<|?_
  rintro _ w ⟨p5,c6,rfl,h⟩
  refine st (sg rfl)<|xe<|bn<|nx<|rg<|st (bw rfl rfl (iR (c:=1) (by omega) (by omega) (by omega)))<|st (mv rfl)<|xe<|nx<|?_
  exact⟨(1,p5,c6),⟨rfl,rfl,rfl,rfl,rfl,trivial⟩,⟨h.drop.drop,by(try dsimp only);omega⟩,by(try dsimp only);omega⟩
 ·have h:SH B w (aV 120 2 (.slice q 1 cq) 1 ([x].flatMap aR)::aV 120 2 (.slice (some ⟨b1,0,none⟩) 2 2) 2 (([x,y]).flatMap aR)::bS 2 (.slice (some ⟨lb,0,none⟩) 2 2) 2 (([a,b]).flatMap aR)::L):=h
  refine sq<|rg<|st (bi rfl rfl rfl)<|xe<|nx<|sq<|cT rfl<|sk<|nx<|sq<|bk<|sq<|rg<|st (mv rfl)<|st (ix (j:=1) fB gR rfl rfl (by omega))<|st (kB rfl ((h.ro a1).x bJ (by decide) (j:=1) (by omega) ⟨.empty,0⟩) sO)<|sf (al h OM)<|?_
  rintro _ w ⟨b7,rfl,h⟩
  refine st (sg rfl)<|sf (so h rfl rfl rfl gR rfl (.r (.r .d)) u0)<|?_
  rintro _ w h
  refine xe<|nx<|sq<|sq<|fD [1,3,5,7,9,11,13,15,17,19,21,23,25,27,29,31] (by kernel_rfl) h .n λw h=>tk (λW H=>mv rfl)<|tk (λW H=>bw rfl rfl (iR (c:=2) (by omega) (by omega) (by omega)))<|tk (λW H=>mv rfl)<|tk (λW H=>ln fB rfl rfl)<|tk (λW H=>bi rfl rfl rfl)<|tk (λW H=>mv rfl)<|Cf rfl rfl rfl<|Cf rfl rfl rfl<|Cf rfl rfl rfl<|Cf rfl rfl rfl<|Cf rfl rfl rfl<|Cf rfl rfl rfl<|Cf rfl rfl rfl<|Cf rfl rfl rfl<|Cf rfl rfl rfl<|tk (λW H=>pF rfl rfl rfl)<|xz<|nx<|cF rfl<|sk<|nx<|rg<|st (mv rfl)<|st (kB rfl (eH (h.b a0)) sO)<|sf (bu (aR (([x,y]).getD 1 ⟨.empty,0⟩)) h fB tO rfl (by kernel_rfl) rfl (by decide) (by decide))<|?_
  rintro _ w ⟨b8,rfl,h⟩
  refine sf (ap h fB rfl tO rfl (by decide) rfl rfl (λ_=>u2) (h.ro a0) (λu hu=>List.all_eq_true.1 (eW _) u hu) rfl rfl (by unfold maxLen;omega) (by omega))<|?_
  rintro _ w ⟨p9,c10,rfl,h⟩
  refine st (sg rfl)<|xe<|bn<|nx<|rg<|st (bw rfl rfl (iR (c:=2) (by omega) (by omega) (by omega)))<|st (mv rfl)<|xe<|nx<|?_
  exact⟨(2,p9,c10),⟨rfl,rfl,rfl,rfl,rfl,trivial⟩,⟨h.drop.drop,by(try dsimp only);omega⟩,by(try dsimp only);omega⟩
 ·have h:SH B w (aV 120 2 (.slice q 2 cq) 2 (([x,y]).flatMap aR)::aV 120 2 (.slice (some ⟨b1,0,none⟩) 2 2) 2 (([x,y]).flatMap aR)::bS 2 (.slice (some ⟨lb,0,none⟩) 2 2) 2 (([a,b]).flatMap aR)::L):=h
  refine sq<|rg<|st (bi rfl rfl rfl)<|xe<|nx<|sq<|cF rfl<|xt<|tx<|tx<|be<|nx<|sq<|rg<|st (mv rfl)<|st (sg rfl)<|xe<|nx<|rt<|?_
  refine rr (mC results295 rfl)<|?_
  rw[hxy]
  exact⟨_,_,rfl,((h.fr (.c r1 (.c r1 .n))).drop.drop).fz⟩
end
end Go.Q9
end
section
namespace Go.Q9
open Go.Proofs.Tryz
open Go.E
theorem aEg:D8 prog 259=some ([.nilIface,.int .i64 0,.int .i64 0,.int .i64 0,.int .i64 0,.int .u64 0,.slice none 0 0,.int .u64 0,.string .empty,.int .u64 0,.slice none 0 0,.int .i64 0,.int .i64 0,.int .i64 0,.int .i64 0,.int .i64 0,.int .u64 0,.string .empty,.int .u64 0,.int .i64 0],[(0,1),(1,1),(2,14),(16,1),(17,2),(19,1)]):=by kernel_rfl
theorem aEi:(prog.info? 259).map (·.size)=some 20:=by kernel_rfl
theorem aEe:zc prog 259=some [.nilIface,.int .i64 0,.int .i64 0,.int .i64 0,.int .i64 0,.int .u64 0,.slice none 0 0,.int .u64 0,.string .empty,.int .u64 0,.slice none 0 0,.int .i64 0,.int .i64 0,.int .i64 0,.int .i64 0,.int .i64 0,.int .u64 0,.string .empty,.int .u64 0,.int .i64 0]:=by kernel_rfl
end Go.Q9
end
