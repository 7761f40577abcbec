/- Parts of a proof: Rf, Rw. -/
import Derived.Test.YtnhdmcipglnkfaaGreatW16
set_option linter.unusedVariables false
set_option linter.unusedSimpArgs false
set_option maxRecDepth 100000
set_option maxHeartbeats 4000000
section
namespace Go.Q9
open Go.Proofs.Tryz
open Go.RowKit Go.E Go.Ct
attribute [local irreducible] gB wpS Go.E.X XS C jU kP fin Y U F Ca jT bl rb aU bV ex ce pu sK gK bK zK
variable{B w:World}{L:List As}
theorem Xr(l:List Int)(pa pb:Option Addr)(ca cb:Nat)(h:SH B w (bV 1 (.slice pa l.length ca) l.length (l.map (Value.int .i64))::bV 1 (.slice pb l.length cb) l.length (l.map (Value.int .i64))::L))(hl:l.length<=1000000000000):
  Calls prog 173 #[.slice pa l.length ca,.slice pb l.length cb] w λe w'=>e=.returned ↑true/\SH B w' (bV 1 (.slice pa l.length ca) l.length (l.map (Value.int .i64))::bV 1 (.slice pb l.length cb) l.length (l.map (Value.int .i64))::L):=by
 refine bZ func173 ntmps173 h λw h=>?_
 refine lp (α:=Nat) (λx=>(.c 0 (.slice pa l.length ca) (.c 1 (.slice pb l.length cb) (.c 5 (.int .i64 (x:Int)) .n)))) (λx w=>SH B w (bV 1 (.slice pa l.length ca) l.length (l.map (Value.int .i64))::bV 1 (.slice pb l.length cb) l.length (l.map (Value.int .i64))::L)/\(x<=l.length)) (λx=>l.length-x) 0 ⟨rfl,rfl,rfl,trivial⟩ ⟨h,dF _⟩ ?_
 rintro k w ⟨h,hk⟩
 refine go h λw h=>?_
 refine qc h (λhd1 w h=>?_) λhd1 w h=>?_
 have hg2:=eC hd1
 refine go h λw h=>?_
 obtain⟨b3,o4,rfl⟩:=h.fq a0 (by omega)
 obtain⟨b5,o6,rfl⟩:=h.fq a1 (by omega)
 refine dZ [1,3,5,7,9,11,13,15,17] (by kernel_rfl) h (.c r0 (.c r0 .n)) λw h=>?_
 refine tk (λW H=>mv rfl)<|tk (λW H=>mv rfl)<|tk (λW H=>ix (j:=k) jG Bh rfl rfl (by omega))<|tk (λW H=>ld iO rfl ((H.rr a0).i (by omega)))<|tk (λW H=>mv rfl)<|tk (λW H=>mv rfl)<|tk (λW H=>ix (j:=k) jG Bh rfl rfl (by omega))<|tk (λW H=>ld iO rfl ((H.rr a1).i (by omega)))<|tk (λW H=>bi rfl rfl rfl)<|xz<|nx<|cf rfl (uP _)<|sk<|bn<|nx<|rg<|st (mv rfl)<|st (bw rfl rfl (gN (c:=((k+1:Nat):Int)) (by omega) (by omega) (by omega)))<|st (sg rfl)<|xe<|nx<|?_
 refine go h λw h=>?_
 exact⟨(k+1),⟨rfl,rfl,rfl,trivial⟩,⟨h,by(try dsimp only);omega⟩,by(try dsimp only);omega⟩
 have hg7:=cW hd1
 refine go h λw h=>?_
 exact rz ⟨rfl,h⟩
theorem Ns(l:List Ct.bN)(pa pb:Option Addr)(ca cb:Nat)(h:SH B w (bV 2 (.slice pa l.length ca) l.length (l.flatMap aR)::bV 2 (.slice pb l.length cb) l.length (l.flatMap aR)::L))(hl:l.length<=1000000000000):
  Calls prog 58 #[.slice pa l.length ca,.slice pb l.length cb] w λe w'=>e=.returned ↑true/\SH B w' (bV 2 (.slice pa l.length ca) l.length (l.flatMap aR)::bV 2 (.slice pb l.length cb) l.length (l.flatMap aR)::L):=by
 refine bZ func58 ntmps58 h λw h=>?_
 refine lp (α:=Nat) (λx=>(.c 0 (.slice pa l.length ca) (.c 1 (.slice pb l.length cb) (.c 5 (.int .i64 (x:Int)) .n)))) (λx w=>SH B w (bV 2 (.slice pa l.length ca) l.length (l.flatMap aR)::bV 2 (.slice pb l.length cb) l.length (l.flatMap aR)::L)/\(x<=l.length)) (λx=>l.length-x) 0 ⟨rfl,rfl,rfl,trivial⟩ ⟨h,dF _⟩ ?_
 rintro k w ⟨h,hk⟩
 refine go h λw h=>?_
 refine qc h (λhd1 w h=>?_) λhd1 w h=>?_
 have hg2:=eC hd1
 refine go h λw h=>?_
 obtain⟨b3,o4,rfl⟩:=h.fq a0 (by omega)
 obtain⟨b5,o6,rfl⟩:=h.fq a1 (by omega)
 refine dZ [1,3,5,7,9,11,13,15,17] (by kernel_rfl) h (.c r0 (.c r0 .n)) λw h=>go h λw h=>?_
 refine tk (λW H=>gJ rfl ((H.rr a0).x bH (by decide) (by omega) ⟨.empty,0⟩) Row.h)<|go h λw h=>?_
 refine tk (λW H=>gJ rfl ((H.rr a1).x bH (by decide) (by omega) ⟨.empty,0⟩) Row.h)<|tk (λW H=>i3 ZL rfl rfl rfl rfl)<|go h λw h=>?_
 refine cf rfl (UT (UY _ _ _))<|go h λw h=>?_
 exact⟨(k+1),⟨rfl,rfl,rfl,trivial⟩,⟨h,by(try dsimp only);omega⟩,by(try dsimp only);omega⟩
 have hg7:=cW hd1
 refine go h λw h=>?_
 exact rz ⟨rfl,h⟩
theorem lM(l:List Ct.bN)(p:Option Addr)(c:Nat)(h:SH B w (bV 2 (.slice p l.length c) l.length (l.flatMap aR)::L))(hv:Ct.aQ l=true)(hl:l.length<=1000000000000):
  Calls prog 135 #[.slice p l.length c] w λe w'=>e=.returned ↑true/\SH B w' (bV 2 (.slice p l.length c) l.length (l.flatMap aR)::L):=by
 refine bZ func135 ntmps135 h λw h=>?_
 refine lp (α:=Nat) (λx=>(.c 0 (.slice p l.length c) (.c 3 (.int .i64 (x:Int)) .n))) (λx w=>SH B w (bV 2 (.slice p l.length c) l.length (l.flatMap aR)::L)/\(1<=x)) (λx=>l.length-x) 1 ⟨rfl,rfl,trivial⟩ ⟨h,JV _⟩ ?_
 rintro k w ⟨h,h1⟩
 refine go h λw h=>?_
 refine qc h (λhd1 w h=>?_) λhd1 w h=>?_
 ·have hg2:=eC hd1
  refine go h λw h=>?_
  obtain⟨b3,o4,rfl⟩:=h.fq a0 (by omega)
  refine dZ [1,3,5,7,9,11,13,15,17,19,21,23] (by kernel_rfl) h (.c r0 .n) λw h=>go h λw h=>?_
  refine tk (λW H=>ld One.h rfl ((H.rr a0).x bH (by decide) (by omega) ⟨.empty,0⟩ 0 _ rfl))<|go h λw h=>?_
  refine tk (λW H=>bs ((k-1:Nat):Int))<|go h λw h=>?_
  refine tk (λW H=>ld One.h rfl ((H.rr a0).x bH (by decide) (by omega) ⟨.empty,0⟩ 0 _ rfl))<|go h λw h=>?_
  refine cf rfl (YG hv h1 (by omega))<|go h λw h=>?_
  exact⟨(k+1),⟨rfl,rfl,trivial⟩,⟨h,by(try dsimp only);omega⟩,by(try dsimp only);omega⟩
 ·have hg5:=cW hd1
  refine go h λw h=>?_
  exact rz ⟨rfl,h⟩
section
attribute [local semireducible] gB wpS Go.E.X XS C jU kP fin Y U F Ca jT bl rb aU bV ex ce pu sK gK bK zK
attribute [local irreducible] gB wpS
variable{B w:World}{L:List As}
theorem HK(l:List Ct.bN)(p:Option Addr)(c:Nat)(h:SH B w (bV 2 (.slice p l.length c) l.length (l.flatMap aR)::L))(hs:Ct.kS l=true)(hl:l.length<=1000000000000):
  Calls prog 136 #[.slice p l.length c] w λe w'=>e=.returned ↑true/\SH B w' (bV 2 (.slice p l.length c) l.length (l.flatMap aR)::L):=by
 refine Ea (args:=[_]) func136 rfl ntmps136 rfl ?_
 refine sq<|rg<|st (sg rfl)<|xe<|nx<|sq<|sq<|rg<|st (sg rfl)<|xe<|nx<|bk<|?_
 refine lp (α:=Nat) (λx=>(.c 0 (.slice p l.length c) (.c 3 (.int .i64 (x:Int)) .n))) (λx w=>SH B w (bV 2 (.slice p l.length c) l.length (l.flatMap aR)::L)/\(x<=l.length)) (λx=>l.length-x) 0 ⟨rfl,rfl,trivial⟩ ⟨h,dF _⟩ ?_
 rintro k w ⟨h,hk⟩
 refine sq<|sq<|rg<|st (mv rfl)<|st (mv rfl)<|st (ln Bi rfl rfl)<|st (bi rfl rfl rfl)<|xe<|nx<|?_
 rcases dA (decide (((k:Int):Int)<(l.length:Int)))with hd1|hd1
 ·have hg2:=eC hd1
  refine ct rfl hd1<|sk<|nx<|sq<|bk<|sq<|rg<|st (mv rfl)<|st (mv rfl)<|?_
  obtain⟨b3,o4,rfl⟩:=h.fq a0 (by omega)
  refine st (ix (j:=k) Bi xO rfl rfl (by omega))<|st (fa KN rfl)<|st (ld uK rfl ((h.rr a0).x bH (by decide) (by omega) ⟨.empty,0⟩ 0 _ rfl))<|st (PA NZ rfl rfl)<|st (bi rfl rfl rfl)<|xe<|nx<|cf rfl (Cj hs (by omega))<|sk<|bn<|nx<|rg<|st (mv rfl)<|st (bw rfl rfl (gN (c:=((k+1:Nat):Int)) (by omega) (by omega) (by omega)))<|st (sg rfl)<|xe<|nx<|?_
  exact⟨(k+1),⟨rfl,rfl,trivial⟩,⟨h,by(try dsimp only);omega⟩,by(try dsimp only);omega⟩
 ·have hg5:=cW hd1
  refine cf rfl hd1<|xt<|tx<|tx<|be<|nx<|sq<|rg<|st (sg rfl)<|xe<|nx<|rt<|?_
  refine rr (jP results136 rfl)<|⟨rfl,h⟩
end
variable{B w:World}{L:List As}
theorem oY(l:List Ct.bN)(p:Option Addr)(c:Nat)(key:ByteArray)(h:SH B w (bV 2 (.slice p l.length c) l.length (l.flatMap aR)::L))(hv:Ct.aQ l=true)(hl:l.length<=1000000000000):
  Calls prog 191 #[.slice p l.length c,↑key] w λe w'=>e=.returned (.tuple #[.int .u64 (((Ct.bB l key).1:Nat):Int),.bool (Ct.bB l key).2])/\SH B w' (bV 2 (.slice p l.length c) l.length (l.flatMap aR)::L):=by
 refine bZ func191 ntmps191 h λw h=>?_
 refine lp (α:=Nat) (λx=>(.c 0 (.slice p l.length c) (.c 1 (.string key) (.c 6 (.int .i64 (x:Int)) .n)))) (λx w=>SH B w (bV 2 (.slice p l.length c) l.length (l.flatMap aR)::L)/\(x<=l.length)/\(∀j,j<x->Ct.bR (Ct.iE l j).key key=false)) (λx=>l.length-x) 0 ⟨rfl,rfl,rfl,trivial⟩ ⟨h,dF _,λj hj=>absurd hj (Nat.not_lt_zero _)⟩ ?_
 rintro k w ⟨h,hk,hn⟩
 refine go h λw h=>?_
 refine qg h (λhd1 w h=>?_) λhd1 w h=>?_
 have hg2:=eC hd1
 refine go h λw h=>?_
 refine bA (lM _ _ _ h.to hv (by omega)) λw h=>?_
 obtain⟨b3,o4,rfl⟩:=h.fq a0 (by omega)
 refine go h λw h=>?_
 refine st (ld One.h rfl ((h.rr a0).x bH (by decide) (by omega) ⟨.empty,0⟩ 0 _ rfl))<|go h λw h=>?_
 refine qc h (λhd5 w h=>?_) λhd5 w h=>?_
 refine st (ld One.h rfl ((h.rr a0).x bH (by decide) (by omega) ⟨.empty,0⟩ 1 _ rfl))<|go h λw h=>?_
 exact rr (gE rfl rfl rfl)<|⟨by rw[KK hv (by omega) hd5];rfl,h⟩
 exact⟨(k+1),⟨rfl,rfl,rfl,trivial⟩,⟨h,by(try dsimp only);omega,T4 hn hd5⟩,by(try dsimp only);omega⟩
 have hg6:=cW hd1
 refine go h λw h=>?_
 exact rr (gE rfl rfl rfl)<|⟨by rw[BU hv λj hj=>hn j (by omega)];rfl,h⟩
theorem zH(l:List Ct.bN)(p:Option Addr)(c:Nat)(key:ByteArray)(h:SH B w (bV 2 (.slice p l.length c) l.length (l.flatMap aR)::L))(hl:l.length<=1000000000000):
  Calls prog 274 #[.slice p l.length c,↑key] w λe w'=>∃p' c',e=.returned (.slice p' (Ct.cX l key).length c')/\SH B w' (bV 2 (.slice p' (Ct.cX l key).length c') (Ct.cX l key).length ((Ct.cX l key).flatMap aR)::bV 2 (.slice p l.length c) l.length (l.flatMap aR)::L):=by
 refine bZ func274 ntmps274 h λw h=>?_
 have h:=SH.nil 120 2 h
 refine lp (α:=Nat×List Ct.bN×Nat×Option Addr×Nat) (λx=>(.c 0 (.slice p l.length c) (.c 1 (.string key) (.c 5 (.slice x.2.2.2.1 x.2.2.1 x.2.2.2.2) (.c 6 (.int .i64 (x.1:Int)) .n))))) (λx w=>SH B w (aU 120 2 (.slice x.2.2.2.1 x.2.2.1 x.2.2.2.2) x.2.2.1 (x.2.1.flatMap aR)::bV 2 (.slice p l.length c) l.length (l.flatMap aR)::L)/\(x.1<=l.length)/\(x.2.1.length=x.2.2.1)/\(x.2.2.1<=x.1)/\(x.2.1=(l.take x.1).filter λq=>!Ct.bR q.key key)) (λx=>l.length-x.1) (0,[],0,none,0) ⟨rfl,rfl,rfl,rfl,trivial⟩ ⟨h,dF _,rfl,JV _,rfl⟩ ?_
 rintro⟨k,out,n,q,cq⟩ w ⟨h,hk,hn,hnk,hW⟩
 dsimp only at *
 refine go h λw h=>?_
 refine qc h (λhd1 w h=>?_) λhd1 w h=>?_
 have hg2:=eC hd1
 refine go h λw h=>?_
 obtain⟨b3,o4,rfl⟩:=h.fq a1 (by omega)
 refine go h λw h=>?_
 refine st (ld One.h rfl ((h.rr a1).x bH (by decide) (by omega) ⟨.empty,0⟩ 0 _ rfl))<|go h λw h=>?_
 refine qc h (λhd5 w h=>?_) λhd5 w h=>?_
 refine st (gJ rfl ((h.rr a1).x bH (by decide) (by omega) ⟨.empty,0⟩) Row.h)<|go h λw h=>?_
 refine sf (bu (aR (l.getD k ⟨.empty,0⟩)) h fR.h Ss.h rfl (by kernel_rfl) rfl (by decide) (by decide)) ?_
 rintro _ w ⟨b6,rfl,h⟩
 refine go h λw h=>?_
 refine sf (ap h fR.h rfl Ss.h rfl (by decide) rfl rfl (λ_=>u1) (h.ro a0) (λu hu=>List.all_eq_true.1 (eU _) u hu) rfl (fW _ _) (by unfold maxLen;omega) (by omega)) ?_
 rintro _ w ⟨p7,c8,rfl,h⟩
 refine go h λw h=>?_
 exact⟨(k+1,out++[l.getD k ⟨.empty,0⟩],n+1,p7,c8),⟨rfl,rfl,rfl,rfl,trivial⟩,⟨h.drop,by(try dsimp only);omega,by simp[hn],by(try dsimp only);omega,by rw[hW];exact A4 (by omega) hd5⟩,by(try dsimp only);omega⟩
 exact⟨(k+1,out,n,q,cq),⟨rfl,rfl,rfl,rfl,trivial⟩,⟨h,by(try dsimp only);omega,hn,by(try dsimp only);omega,by rw[hW];exact A3 (by omega) hd5⟩,by(try dsimp only);omega⟩
 have hg9:=cW hd1
 refine go h λw h=>?_
 refine rz ?_
 have e1:out=Ct.cX l key:=by rw[hW,MA (by omega)];rfl
 subst e1;subst hn
 exact⟨_,_,rfl,(h).fz⟩
theorem EH(l:List Ct.bN)(p:Option Addr)(c:Nat)(z:Ct.bN)(h:SH B w (bV 2 (.slice p l.length c) l.length (l.flatMap aR)::L))(hl:l.length<=1000000000000):
  Calls prog 273 #[.slice p l.length c,.agg (aR z).toArray] w λe w'=>∃p' c',e=.returned (.slice p' (Ct.kO l z).length c')/\SH B w' (bV 2 (.slice p' (Ct.kO l z).length c') (Ct.kO l z).length ((Ct.kO l z).flatMap aR)::bV 2 (.slice p l.length c) l.length (l.flatMap aR)::L):=by
 refine bZ func273 ntmps273 h λw h=>?_
 refine jX h λb1 w h=>?_
 have h:=SH.nil 120 2 h
 refine lp (α:=Nat×List Ct.bN×Nat×Option Addr×Nat) (λx=>(.c 0 (.slice p l.length c) (.c 3 ↑b1 (.c 5 (.slice x.2.2.2.1 x.2.2.1 x.2.2.2.2) (.c 6 (.int .i64 (x.1:Int)) .n))))) (λx w=>SH B w (aU 120 2 (.slice x.2.2.2.1 x.2.2.1 x.2.2.2.2) x.2.2.1 (x.2.1.flatMap aR)::bV 2 (.slice p l.length c) l.length (l.flatMap aR)::bl b1 (aR z) 120::L)/\(x.1<=l.length)/\(x.2.1.length=x.2.2.1)/\(x.2.2.1=x.1)/\(x.2.1=l.take x.1)/\(∀j,j<x.1->Ct.dM (Ct.iE l j).key z.key=true)) (λx=>l.length-x.1) (0,[],0,none,0) ⟨rfl,rfl,rfl,rfl,trivial⟩ ⟨h.to,dF _,rfl,rfl,rfl,λj hj=>absurd hj (Nat.not_lt_zero _)⟩ ?_
 rintro⟨k,out,n,q,cq⟩ w ⟨h,hk,hn,hnk,hW,hb⟩
 dsimp only at *
 refine go h λw h=>?_
 rcases dA (decide (((k:Int):Int)<(l.length:Int)))with hd2|hd2<;>refine go h λw h=>?_
 have hg3:=eC hd2
 obtain⟨b4,o5,rfl⟩:=h.fq a1 (by omega)
 refine dZ [1,3,5,7,9,11,13,15,17,19,21,23,25,27] (by kernel_rfl) h (.c r1 (.c r1 .n)) λw h=>go h λw h=>?_
 refine tk (λW H=>ld One.h rfl ((H.rr a0).x bH (by decide) (by omega) ⟨.empty,0⟩ 0 _ rfl))<|go h λw h=>?_
 refine qc h (λhd6 w h=>?_) λhd6 w h=>?_
 refine st (gJ rfl ((h.rr a1).x bH (by decide) (by omega) ⟨.empty,0⟩) Row.h)<|go h λw h=>?_
 refine sf (bu (aR (l.getD k ⟨.empty,0⟩)) h fR.h Ss.h rfl (by kernel_rfl) rfl (by decide) (by decide)) ?_
 rintro _ w ⟨b7,rfl,h⟩
 refine go h λw h=>?_
 refine sf (ap h fR.h rfl Ss.h rfl (by decide) rfl rfl (λ_=>u1) (h.ro a0) (λu hu=>List.all_eq_true.1 (eU _) u hu) rfl (fW _ _) (by unfold maxLen;omega) (by omega)) ?_
 rintro _ w ⟨p8,c9,rfl,h⟩
 refine go h λw h=>?_
 exact⟨(k+1,out++[l.getD k ⟨.empty,0⟩],n+1,p8,c9),⟨rfl,rfl,rfl,rfl,trivial⟩,⟨h.drop,by(try dsimp only);omega,by simp[hn],by(try dsimp only);omega,by rw[hW];exact(zX (by omega)).symm,TM hb hd6⟩,by(try dsimp only);omega⟩
 refine dZ [1,3,9,11,13,4,6,14,16] (by kernel_rfl) h (.c r2 .n) λw h=>go h λw h=>?_
 refine tk (λW H=>YD (k:=n) fR.h Sz.h rfl rfl (by omega) (h.MS a1))<|go h λw h=>?_
 have h:=h.tl (k:=n) a1 (by omega)
 rw[rZ bH]at h
 refine ff (bu (aR z) h fR.h Ss.h rfl (by kernel_rfl) rfl (by decide) (by decide)) ?_
 rintro _ w ⟨b10,rfl,h⟩
 refine gz h λw h=>?_
 refine ff (ap h fR.h rfl Ss.h rfl (by decide) rfl rfl (λ_=>u2) (h.ro a0) (λu hu=>List.all_eq_true.1 (eU _) u hu) rfl (fW _ _) (by unfold maxLen;omega) (by omega)) ?_
 rintro _ w ⟨p11,c12,rfl,h⟩
 refine gz h λw h=>?_
 refine ff (XN h a1 a2 fR.h rfl Ss.h rfl (by decide) rfl rfl (λ_=>u2) (lU eU _) rfl List.flatMap_append.symm (by unfold maxLen;omega) (by omega)) ?_
 rintro _ w ⟨p13,c14,rfl,h⟩
 refine gz h λw h=>?_
 refine rz ?_
 subst hnk
 have e1:=Va (l:=l) (z:=z) (by omega) hb (λhlt=>by exact hd6)
 have e2:out++[z]++l.drop n=Ct.kO l z:=by rw[e1,hW];simp
 have e3:n+1+(l.length-n)=(Ct.kO l z).length:=by rw[<- e2];simp[hn];omega
 have h:=((h.fr (.c r0 (.c r0 (.c r2 .n)))).drop.drop.drop).fz
 rw[show out++[z]++(l.drop n)=out++[z]++l.drop n from by simp]at h
 rw[e2]at h;rw[e3]at h ⊢;exact⟨_,_,rfl,h⟩
 have hg15:=cW hd2
 refine dZ [1,3,5,7,9,11,13,15,17,19,21,23,25,27] (by kernel_rfl) h .n λw h=>go h λw h=>?_
 refine dZ [1,3,9,11,13,4,6,14,16] (by kernel_rfl) h (.c r2 .n) λw h=>go h λw h=>?_
 refine tk (λW H=>YD (k:=n) fR.h Sz.h rfl rfl (by omega) (h.MS a1))<|go h λw h=>?_
 have h:=h.tl (k:=n) a1 (by omega)
 rw[rZ bH]at h
 refine ff (bu (aR z) h fR.h Ss.h rfl (by kernel_rfl) rfl (by decide) (by decide)) ?_
 rintro _ w ⟨b16,rfl,h⟩
 refine gz h λw h=>?_
 refine ff (ap h fR.h rfl Ss.h rfl (by decide) rfl rfl (λ_=>u2) (h.ro a0) (λu hu=>List.all_eq_true.1 (eU _) u hu) rfl (fW _ _) (by unfold maxLen;omega) (by omega)) ?_
 rintro _ w ⟨p17,c18,rfl,h⟩
 refine gz h λw h=>?_
 refine ff (XN h a1 a2 fR.h rfl Ss.h rfl (by decide) rfl rfl (λ_=>u2) (lU eU _) rfl List.flatMap_append.symm (by unfold maxLen;omega) (by omega)) ?_
 rintro _ w ⟨p19,c20,rfl,h⟩
 refine gz h λw h=>?_
 refine rz ?_
 subst hnk
 have e1:=Va (l:=l) (z:=z) (by omega) hb (λhlt=>by omega)
 have e2:out++[z]++l.drop n=Ct.kO l z:=by rw[e1,hW];simp
 have e3:n+1+(l.length-n)=(Ct.kO l z).length:=by rw[<- e2];simp[hn];omega
 have h:=((h.fr (.c r0 (.c r0 (.c r2 .n)))).drop.drop.drop).fz
 rw[show out++[z]++(l.drop n)=out++[z]++l.drop n from by simp]at h
 rw[e2]at h;rw[e3]at h ⊢;exact⟨_,_,rfl,h⟩
theorem WR(l:List Ct.bN)(p:Option Addr)(c:Nat)(key:ByteArray)(v:Nat)(h:SH B w (bV 2 (.slice p l.length c) l.length (l.flatMap aR)::L))(hv:Ct.aQ l=true)(hl:l.length<=1000000000000):
  Calls prog 246 #[.slice p l.length c,↑key,.int .u64 (v:Int)] w λe w'=>∃p' c',e=.returned (.slice p' (Ct.mC l key v).length c')/\SH B w' (bV 2 (.slice p' (Ct.mC l key v).length c') (Ct.mC l key v).length ((Ct.mC l key v).flatMap aR)::bV 2 (.slice p l.length c) l.length (l.flatMap aR)::L):=by
 refine bZ func246 ntmps246 h λw h=>?_
 refine bA (lM _ _ _ h.to hv (by omega)) λw h=>?_
 refine Sd (zH _ _ _ _ h.to (by omega)) λq1 c2 w h=>?_
 have:=oR l key
 refine go h λw h=>?_
 refine Sd (EH _ _ _ (⟨key,v⟩:Ct.bN) h.to (by omega)) λq3 c4 w h=>?_
 have:=Cf (Ct.cX l key) (⟨key,v⟩:Ct.bN)
 refine go h λw h=>?_
 refine rz ?_
 rw[TG key v hv];exact⟨_,_,rfl,(h.fr (.c r1 .n)).drop⟩
theorem SW(l:List Ct.bN)(p:Option Addr)(c:Nat)(key:ByteArray)(h:SH B w (bV 2 (.slice p l.length c) l.length (l.flatMap aR)::L))(hv:Ct.aQ l=true)(hl:l.length<=1000000000000):
  Calls prog 248 #[.slice p l.length c,↑key] w λe w'=>∃p' c',e=.returned (.slice p' (Ct.gX l key).length c')/\SH B w' (bV 2 (.slice p' (Ct.gX l key).length c') (Ct.gX l key).length ((Ct.gX l key).flatMap aR)::bV 2 (.slice p l.length c) l.length (l.flatMap aR)::L):=by
 refine bZ func248 ntmps248 h λw h=>?_
 refine bA (lM _ _ _ h.to hv (by omega)) λw h=>?_
 refine Sd (zH _ _ _ _ h.to (by omega)) λq1 c2 w h=>?_
 have:=oR l key
 refine go h λw h=>?_
 refine rz ?_
 rw[<- qP key l hv];exact⟨_,_,rfl,h⟩
theorem ZU(l:List Ct.bN)(p:Option Addr)(c:Nat)(h:SH B w (bV 2 (.slice p l.length c) l.length (l.flatMap aR)::L))(hl:l.length<=1000000000):
  Calls prog 276 #[.slice p l.length c] w λe w'=>∃p' c',e=.returned (.slice p' (Ct.yZ l).length c')/\SH B w' (bV 2 (.slice p' (Ct.yZ l).length c') (Ct.yZ l).length ((Ct.yZ l).flatMap aR)::bV 2 (.slice p l.length c) l.length (l.flatMap aR)::L):=by
 refine bZ func276 ntmps276 h λw h=>?_
 have h:=SH.nil 120 2 h
 have h:=h.fz
 refine lp (α:=Nat×List Ct.bN×Nat×Option Addr×Nat) (λx=>(.c 0 (.slice p l.length c) (.c 3 (.slice x.2.2.2.1 x.2.2.1 x.2.2.2.2) (.c 4 (.int .i64 (x.1:Int)) .n)))) (λx w=>SH B w (bV 2 (.slice x.2.2.2.1 x.2.2.1 x.2.2.2.2) x.2.2.1 (x.2.1.flatMap aR)::bV 2 (.slice p l.length c) l.length (l.flatMap aR)::L)/\(x.1<=l.length)/\(x.2.1.length=x.2.2.1)/\(x.2.1=yZ (l.take x.1))) (λx=>l.length-x.1) (0,[],0,none,0) ⟨rfl,rfl,rfl,trivial⟩ ⟨h,dF _,rfl,rfl⟩ ?_
 rintro⟨k,out,n,q,cq⟩ w ⟨h,hk,hn,hW⟩
 dsimp only at *
 refine go h λw h=>?_
 refine qc h (λhd1 w h=>?_) λhd1 w h=>?_
 have hg2:=eC hd1
 refine go h λw h=>?_
 have hb:=Sg l k
 rw[<- hW]at hb
 subst hn
 obtain⟨b3,o4,rfl⟩:=h.fq a1 (by omega)
 refine dZ [1,3,5,7,9,11,15,17,19,21,12,22,24] (by kernel_rfl) h (.c r1 .n) λw h=>go h λw h=>?_
 refine tk (λW H=>ld One.h rfl ((H.rr a0).x bH (by decide) (by omega) ⟨.empty,0⟩ 0 _ rfl))<|go h λw h=>?_
 refine tk (λW H=>gJ rfl ((H.rr a0).x bH (by decide) (by omega) ⟨.empty,0⟩) Row.h)<|go h λw h=>?_
 refine AN (zH _ _ _ _ h.to (by omega)) λq5 c6 w h=>?_
 have:=oR out ((l.getD k ⟨.empty,0⟩).key)
 refine AN (EH _ _ _ (l.getD k ⟨.empty,0⟩) h.to (by omega)) λq7 c8 w h=>?_
 have:=Cf (Ct.cX out ((l.getD k ⟨.empty,0⟩).key)) (l.getD k ⟨.empty,0⟩)
 refine go h λw h=>?_
 exact⟨(k+1,Ct.kO (Ct.cX out ((l.getD k ⟨.empty,0⟩).key)) (l.getD k ⟨.empty,0⟩),(Ct.kO (Ct.cX out ((l.getD k ⟨.empty,0⟩).key)) (l.getD k ⟨.empty,0⟩)).length,q7,c8),⟨rfl,rfl,rfl,trivial⟩,⟨h.to,by(try dsimp only);omega,rfl,by rw[hW];exact ZY (by omega)⟩,by(try dsimp only);omega⟩
 have hg9:=cW hd1
 refine go h λw h=>?_
 refine rz ?_
 have e1:out=yZ l:=by rw[hW,MA (by omega)]
 subst e1;subst hn
 exact⟨_,_,rfl,h⟩
end Go.Q9
end
section
namespace Go.Ct
abbrev fV:=Nat×Nat
def dO(b:fV)(i:Int):fV:=(b.1+1,b.2+i.toNat*64^b.1)
inductive eY where
 |root
 |fixed
 |main (b:fV)
 |prev (b:fV)
 |status
 deriving DecidableEq
structure Ga where
 nodes:List Node
 xT:List fV
 ty:List eY
 KZ:List Int
 gen:Nat
 dec:Int->Prop
def Ga.st(g:Ga):St:={aG:=g.nodes,gen:=g.gen}
def Ga.node(g:Ga)(r:Int):Node:=g.st.node r
def Ga.label(g:Ga)(r:Int):fV:=g.xT.getD (r.toNat-3) (0,0)
def Ga.count(g:Ga):Int:=2+g.nodes.length
def Ga.oA(g:Ga)(c:Int):Option eY:=if c<1 then none else g.ty[c.toNat-1]?
def Ga.first(g:Ga)(c:Int):Int:=g.KZ.getD (c.toNat-1) 0
def jV(g:Ga)(r:Int)(b:fV):Prop:=(g.node r).kind=2/\g.label r=b
def oH(g:Ga)(r:Int)(b:fV):Prop:=(g.node r).bM=true/\g.label r=b
def Dg(g:Ga)(r:Int)(b:fV):Prop:=(g.node r).kind=4/\(g.node r).hash%64^b.1=b.2
def ED(g:Ga)(r:Int)(b:fV):Prop:=(g.node r).kind=7/\g.label r=b
def tC(g:Ga)(r:Int):Prop:=(g.node r).kind=8
def kB(g:Ga)(c v:Int):eY->Prop
 |.root=>jV g v (0,0)\/tC g v
 |.fixed=>jV g v (0,0)
 |.main b=>oH g v b
 |.prev b=>v=0\/(ED g v b/\(g.node v).dC=g.first c)\/(v=g.first c/\oH g v b/\¬g.dec c)
 |.status=>v=0\/v=1\/v=2
def YP(g:Ga)(c v:Int):eY->Prop
 |.root=>jV g v (0,0)\/tC g v
 |.fixed=>jV g v (0,0)
 |.main b=>oH g v b
 |.prev b=>(v=0/\g.dec (-c))\/(ED g v b/\(g.node v).dC=g.first c)\/(v=g.first c/\oH g v b/\¬g.dec c)
 |.status=>v=0\/v=1\/v=2
def tS(g:Ga)(r:Int)(b:fV):Prop:=oH g r b/\g.dec (-(g.node r).prev)
def YI(g:Ga)(c o n:Int):eY->Prop
 |.root=>jV g n (0,0)\/tC g n
 |.fixed=>False
 |.main b=>oH g n b
 |.prev b=>o≠0/\(n=0\/ED g n b/\(g.node n).dC=g.first c)
 |.status=>n=1\/n=2
structure cJ(g:Ga)(n:Node)(b:fV):Prop where
 valid:n.valid=true
 fit:∃L,n.Fit L
 lo:2<=n.kind
 hi:n.kind<=8
 i:n.kind=2->n.gen<=g.gen/\b.1<=11
 c:n.kind=3->b.1<=10/\b.2<64^b.1/\∀k,(aB n k).2=true->jV g (aB n k).1 (dO b k)\/Dg g (aB n k).1 (dO b k)
 t:n.kind=5->1<=b.1/\n.hash%64^b.1=b.2
 l:n.kind=6->b.1=11/\n.hash%64^b.1=b.2
 f:n.kind=7->oH g n.dC b
 d:n.kind=8->jV g n.dC (0,0)/\oH g n.aK (0,0)/\jV g n.new (0,0)
def Node.iA(n:Node)(b:fV):Option eY:=if n.kind=2 then some (.main b)else if n.bM=true then some (.prev b)else if n.kind=8 then some .status else none
def Node.cellOf(n:Node):Int:=n.main+n.prev+n.status
def Node.cA(n:Node):Bool:=n.kind==2||n.bM||n.kind==8
def Tb(g:Ga)(n:Node)(i:Int)(b:fV):Prop:=(n.kind=2->oH g i b)/\(n.bM=true->i=0\/tS g i b)/\(n.kind=8->i=0)
def Ga.zip(g:Ga):List (Node×fV):=g.nodes.zip g.xT
structure GW(g:Ga):Prop where
 node:∀n∈g.zip,cJ g n.1 n.2
 cell:∀n∈g.zip,∀τ,n.1.iA n.2=some τ->g.oA n.1.cellOf=some τ
 main:∀n∈g.zip,n.1.kind=2->n.1.cellOf=n.1.main
 prev:∀n∈g.zip,n.1.bM=true->n.1.cellOf=n.1.prev
 status:∀n∈g.zip,n.1.kind=8->n.1.cellOf=n.1.status
 sort:(g.nodes.filter Node.cA).Pairwise λa b=>a.cellOf<b.cellOf
 len:g.KZ.length=g.ty.length
 xT:g.xT.length=g.nodes.length
 LJ:∀r b,oH g r b->g.first (g.node r).prev≠0->tS g (g.first (g.node r).prev) b
structure Ge(g g':Ga):Prop where
 nodes:g.nodes<+:g'.nodes
 xT:g.xT<+:g'.xT
 ty:g.ty<+:g'.ty
 KZ:g.KZ<+:g'.KZ
 gen:g.gen<=g'.gen
 dec:∀c,g.dec c->g'.dec c
 eq:g.xT.length=g.nodes.length
theorem Ge.refl{g:Ga}(h:GW g):Ge g g:=⟨Qa _,Qa _,Qa _,Qa _,JV _,λ_ h=>h,h.xT⟩
theorem Ge.trans{a b c:Ga}(h:Ge a b)(k:Ge b c):Ge a c:=⟨h.nodes.trans k.nodes,h.xT.trans k.xT,h.ty.trans k.ty,h.KZ.trans k.KZ,lK h.gen k.gen,λc hc=>k.dec c (h.dec c hc),h.eq⟩
theorem zD{α:Type}{l l':List α}(h:l<+:l'){i:Nat}(hi:i<l.length)(d:α):l'.getD i d=l.getD i d:=by
 obtain⟨t,rfl⟩:=h
 rw[dI,dI,xD hi]
theorem pZ(g:Ga)(r:Int):g.node r=if r<1\/((2+g.nodes.length:Nat):Int)<r then{}else if r<=2 then gY else g.nodes.getD (r.toNat-3) {}:=rfl
theorem Ge.node{g g':Ga}(h:Ge g g'){r:Int}(hr:r<=g.count):g'.node r=g.node r:=by
 have hl:=h.nodes.length_le
 unfold Ga.count at hr
 rw[pZ,pZ]
 by_cases h1:r<1
 ·rw[if_pos (.inl h1),if_pos (.inl h1)]
 ·rw[if_neg (show ¬(r<1\/((2+g'.nodes.length:Nat):Int)<r) by omega),if_neg (show ¬(r<1\/((2+g.nodes.length:Nat):Int)<r) by omega)]
  by_cases h2:r<=2
  ·rw[if_pos h2,if_pos h2]
  ·rw[if_neg h2,if_neg h2]
   exact zD h.nodes (by omega) _
theorem Ge.label{g g':Ga}(h:Ge g g'){r:Int}(hr:r<=g.count)(h3:3<=r):g'.label r=g.label r:=by
 unfold Ga.count at hr
 unfold Ga.label
 exact zD h.xT (by rw[h.eq];omega) _
theorem IZ{g:Ga}{r:Int}(h:g.count<r):g.node r={}:=by
 unfold Ga.count at h
 rw[pZ,if_pos (.inr (by omega))]
theorem kI{g:Ga}{r:Int}(h:(g.node r).kind≠0):r<=g.count:=by
 rcases Int.lt_or_le g.count r with h1|h1
 ·rw[IZ h1]at h;exact absurd rfl h
 ·exact h1
theorem uA{g:Ga}{r:Int}(h:(g.node r).kind≠0):1<=r:=by
 rcases Int.lt_or_le r 1 with h1|h1
 ·rw[pZ,if_pos (.inl h1)]at h;exact absurd rfl h
 ·exact h1
theorem sV{g:Ga}{r:Int}(h:2<=(g.node r).kind):3<=r:=by
 have h0:=uA (g:=g) (r:=r) (by omega)
 have h1:=kI (g:=g) (r:=r) (by omega)
 unfold Ga.count at h1
 rw[pZ,if_neg (by omega)]at h
 by_cases h2:r<=2
 ·rw[if_pos h2]at h;exact absurd h (by decide)
 ·omega
theorem sH{g:Ga}{r:Int}{b:fV}(h:oH g r b):(g.node r).kind=3\/(g.node r).kind=5\/(g.node r).kind=6:=by
 have:=h.1;unfold Node.bM at this;simpa[or_assoc]using this
theorem jV.dU{g:Ga}{r:Int}{b:fV}(h:jV g r b):r<=g.count:=kI (by rw[h.1];decide)
theorem Dg.dU{g:Ga}{r:Int}{b:fV}(h:Dg g r b):r<=g.count:=kI (by rw[h.1];decide)
theorem ED.dU{g:Ga}{r:Int}{b:fV}(h:ED g r b):r<=g.count:=kI (by rw[h.1];decide)
theorem tC.dU{g:Ga}{r:Int}(h:tC g r):r<=g.count:=kI (by rw[show (g.node r).kind=8 from h];decide)
theorem oH.dU{g:Ga}{r:Int}{b:fV}(h:oH g r b):r<=g.count:=kI (by rcases sH h with h|h|h<;>rw[h]<;>decide)
theorem oH.two{g:Ga}{r:Int}{b:fV}(h:oH g r b):2<=(g.node r).kind:=by rcases sH h with h|h|h<;>rw[h]<;>decide
theorem jV.ge{g g':Ga}{r:Int}{b:fV}(h:jV g r b)(k:Ge g g'):jV g' r b:=by
 unfold jV;rw[k.node h.dU,k.label h.dU (sV (by rw[h.1];decide))];exact h
theorem Dg.ge{g g':Ga}{r:Int}{b:fV}(h:Dg g r b)(k:Ge g g'):Dg g' r b:=by unfold Dg;rw[k.node h.dU];exact h
theorem ED.ge{g g':Ga}{r:Int}{b:fV}(h:ED g r b)(k:Ge g g'):ED g' r b:=by
 unfold ED;rw[k.node h.dU,k.label h.dU (sV (by rw[h.1];decide))];exact h
theorem tC.ge{g g':Ga}{r:Int}(h:tC g r)(k:Ge g g'):tC g' r:=by unfold tC at *;rw[k.node (tC.dU h)];exact h
theorem oH.ge{g g':Ga}{r:Int}{b:fV}(h:oH g r b)(k:Ge g g'):oH g' r b:=by
 unfold oH;rw[k.node h.dU,k.label h.dU (sV h.two)];exact h
theorem tS.m{g:Ga}{r:Int}{b:fV}(h:tS g r b):oH g r b:=h.1
instance {g:Ga}{r:Int}{b:fV}:CoeOut (tS g r b) (oH g r b):=⟨λh=>h.1⟩
theorem tS.dU{g:Ga}{r:Int}{b:fV}(h:tS g r b):r<=g.count:=h.1.dU
theorem tS.ge{g g':Ga}{r:Int}{b:fV}(h:tS g r b)(k:Ge g g'):tS g' r b:=⟨h.1.ge k,by rw[k.node h.1.dU];exact k.dec _ h.2⟩
theorem Ge.oA{g g':Ga}(h:Ge g g'){c:Int}{τ:eY}(hc:g.oA c=some τ):g'.oA c=some τ:=by
 unfold Ga.oA at hc ⊢
 split at hc
 ·cases hc
 ·rename_i h1
  rw[if_neg h1]
  obtain⟨t,ht⟩:=h.ty
  rw[<- ht,xD (List.getElem?_eq_some_iff.1 hc).1];exact hc
theorem Ge.first{g g':Ga}(h:Ge g g')(hw:GW g){c:Int}{τ:eY}(hc:g.oA c=some τ):g'.first c=g.first c:=by
 unfold Ga.oA at hc
 split at hc
 ·cases hc
 ·have:=(List.getElem?_eq_some_iff.1 hc).1
  exact zD h.KZ (by rw[hw.len];exact this) _
theorem Bb{g:Ga}(hw:GW g){r:Int}(h:2<=(g.node r).kind):(g.node r,g.label r)∈g.zip:=by
 have h0:=sV (g:=g) (r:=r) h
 have h1:=kI (g:=g) (r:=r) (by omega)
 have hl:=hw.xT
 unfold Ga.count at h1
 rw[pZ,if_neg (by omega),if_neg (by omega),dI,fM (by omega)]
 unfold Ga.label Ga.zip
 rw[dI,fM (by omega)]
 have hz:r.toNat-3<(g.nodes.zip g.xT).length:=by rw[List.length_zip];omega
 have:=wU hz
 rw[List.getElem_zip]at this
 exact this
theorem GW.of{g:Ga}(h:GW g){r:Int}(hr:2<=(g.node r).kind):cJ g (g.node r) (g.label r):=h.node _ (Bb h hr)
theorem GW.YW{g:Ga}(h:GW g){r:Int}{b:fV}(hr:jV g r b):cJ g (g.node r) b:=by rw[<- hr.2];exact h.of (by rw[hr.1];decide)
theorem GW.ofM{g:Ga}(h:GW g){r:Int}{b:fV}(hr:oH g r b):cJ g (g.node r) b:=by rw[<- hr.2];exact h.of hr.two
theorem GW.K4{g:Ga}(h:GW g){r:Int}{b:fV}(hr:ED g r b):cJ g (g.node r) b:=by rw[<- hr.2];exact h.of (by rw[hr.1];decide)
theorem GW.G4{g:Ga}(h:GW g){r:Int}(hr:tC g r):cJ g (g.node r) (g.label r):=h.of (by rw[show (g.node r).kind=8 from hr];decide)
theorem GW.D2{g:Ga}(h:GW g){r:Int}{b:fV}(hr:Dg g r b):cJ g (g.node r) (g.label r):=h.of (by rw[hr.1];decide)
theorem GW.MO{g:Ga}(h:GW g){r:Int}{b:fV}(hr:jV g r b):g.oA (g.node r).main=some (.main b):=by
 have hm:=Bb h (r:=r) (by rw[hr.1];decide)
 have:=h.cell _ hm (.main b) (by unfold Node.iA;rw[if_pos hr.1,hr.2])
 rwa [h.main _ hm hr.1]at this
theorem GW.Nl{g:Ga}(h:GW g){r:Int}{b:fV}(hr:oH g r b):g.oA (g.node r).prev=some (.prev b):=by
 have hk:=sH hr
 have hm:=Bb h (r:=r) hr.two
 have:=h.cell _ hm (.prev b) (by unfold Node.iA;rw[if_neg (by show ¬(g.node r).kind=2;omega),if_pos hr.1,hr.2])
 rwa [h.prev _ hm hr.1]at this
theorem GW.Dt{g:Ga}(h:GW g){r:Int}(hr:tC g r):g.oA (g.node r).status=some .status:=by
 have hk:(g.node r).kind=8:=hr
 have hm:=Bb h (r:=r) (by omega)
 have:=h.cell _ hm .status (by unfold Node.iA Node.bM;rw[if_neg (by show ¬(g.node r).kind=2;omega),if_neg (by show ¬_;rw[hk];decide),if_pos hk])
 rwa [h.status _ hm hk]at this
def Tk(g:Ga)(t:bC):Prop:=g.oA t.root=some (bif t.readOnly then .fixed else .root)
theorem Tk.ge{g g':Ga}{t:bC}(h:Tk g t)(k:Ge g g'):Tk g' t:=k.oA h
theorem Tk.root{g:Ga}{t:bC}(h:Tk g t)(hr:t.readOnly=false):g.oA t.root=some .root:=by unfold Tk at h;rw[hr]at h;exact h
theorem Tk.fixed{g:Ga}{t:bC}(h:Tk g t)(hr:t.readOnly=true):g.oA t.root=some .fixed:=by unfold Tk at h;rw[hr]at h;exact h
def Ga.cell(g:Ga)(τ:eY)(i:Int):Ga:={g with ty:=g.ty++[τ],KZ:=g.KZ++[i]}
def Ga.put(g:Ga)(n:Node)(b:fV):Ga:={g with nodes:=g.nodes++[n],xT:=g.xT++[b]}
def Ga.alloc(g:Ga)(n:Node)(i:Int)(b:fV):Ga:=
 if n.kind=2 then(g.cell (.main b) i).put {n.bare with main:=(g.ty.length:Int)+1} b
 else if n.bM=true then(g.cell (.prev b) i).put {n.bare with prev:=(g.ty.length:Int)+1} b
 else if n.kind=8 then(g.cell .status i).put {n.bare with status:=(g.ty.length:Int)+1} b
 else g.put n.bare b
def Ga.bS(g:Ga):Ga:={g with gen:=g.gen+1}
theorem zI{n:Node}(h:n.valid=true):n.bare.valid=true:=by
 unfold Node.valid at h ⊢
 simp only[Node.bare,Node.only,fT]at h ⊢
 simp at h ⊢
 repeat' split at h
 all_goals simp_all
end Go.Ct
end
