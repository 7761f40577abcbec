/- Parts of a proof: Rf. -/
import Derived.Test.YtlijgnlhkcbgpaaGreatDoorW27
import Derived.Test.YtlijgnlhkcbgpaaGreatDoorW28
set_option linter.unusedVariables false
set_option linter.unusedSimpArgs false
set_option maxRecDepth 100000
set_option maxHeartbeats 4000000
section
namespace Go.Q9
open Go.Proofs.Tryz
open Go.RowKit Go.E Go.Ct
attribute [local irreducible] gB wpS Go.E.X XS C jU kP fin Y U F Ca jT bl rb aU bV ex ce pu sK gK bK zK
variable{B w:World}{L:List As}
theorem Wo(l:List Int)(pa pb:Option Addr)(ca cb:Nat)(h:SH B w (bV 1 (.slice pa l.length ca) l.length (l.map (Value.int .i64))::bV 1 (.slice pb l.length cb) l.length (l.map (Value.int .i64))::L))(hl:l.length<=1000000000000):
  Calls prog 56 #[.slice pa l.length ca,.slice pb l.length cb] w λe w'=>e=.returned ↑true/\SH B w' (bV 1 (.slice pa l.length ca) l.length (l.map (Value.int .i64))::bV 1 (.slice pb l.length cb) l.length (l.map (Value.int .i64))::L):=by
 refine bZ func56 ntmps56 h λw h=>?_
 refine lp (α:=Nat) (λx=>(.c 0 (.slice pa l.length ca) (.c 1 (.slice pb l.length cb) (.c 5 (.int .i64 (x:Int)) .n)))) (λx w=>SH B w (bV 1 (.slice pa l.length ca) l.length (l.map (Value.int .i64))::bV 1 (.slice pb l.length cb) l.length (l.map (Value.int .i64))::L)/\(x<=l.length)) (λx=>l.length-x) 0 ⟨rfl,rfl,rfl,trivial⟩ ⟨h,Xe _⟩ ?_
 rintro k w ⟨h,hk⟩
 refine go h λw h=>?_
 refine qc h (λhd1 w h=>?_) λhd1 w h=>?_
 have hg2:=dP hd1
 refine go h λw h=>?_
 obtain⟨b3,o4,rfl⟩:=h.fq a0 (by omega)
 obtain⟨b5,o6,rfl⟩:=h.fq a1 (by omega)
 refine dZ [1,3,5,7,9,11,13,15,17] (by kernel_rfl) h (.c r0 (.c r0 .n)) λw h=>?_
 refine tk (λW H=>mv rfl)<|tk (λW H=>mv rfl)<|tk (λW H=>ix (j:=k) vC vD rfl rfl (by omega))<|tk (λW H=>ld fS rfl ((H.rr a0).i (by omega)))<|tk (λW H=>mv rfl)<|tk (λW H=>mv rfl)<|tk (λW H=>ix (j:=k) vC vD rfl rfl (by omega))<|tk (λW H=>ld fS rfl ((H.rr a1).i (by omega)))<|tk (λW H=>bi rfl rfl rfl)<|xz<|nx<|cf rfl (uP _)<|sk<|bn<|nx<|rg<|st (mv rfl)<|st (bw rfl rfl (gN (c:=((k+1:Nat):Int)) (by omega) (by omega) (by omega)))<|st (sg rfl)<|xe<|nx<|?_
 refine go h λw h=>?_
 exact⟨(k+1),⟨rfl,rfl,rfl,trivial⟩,⟨h,by(try dsimp only);omega⟩,by(try dsimp only);omega⟩
 have hg7:=bI hd1
 refine go h λw h=>?_
 exact rz ⟨rfl,h⟩
theorem Fe(l:List Ct.bN)(pa pb:Option Addr)(ca cb:Nat)(h:SH B w (bV 2 (.slice pa l.length ca) l.length (l.flatMap aR)::bV 2 (.slice pb l.length cb) l.length (l.flatMap aR)::L))(hl:l.length<=1000000000000):
  Calls prog 95 #[.slice pa l.length ca,.slice pb l.length cb] w λe w'=>e=.returned ↑true/\SH B w' (bV 2 (.slice pa l.length ca) l.length (l.flatMap aR)::bV 2 (.slice pb l.length cb) l.length (l.flatMap aR)::L):=by
 refine bZ func95 ntmps95 h λw h=>?_
 refine lp (α:=Nat) (λx=>(.c 0 (.slice pa l.length ca) (.c 1 (.slice pb l.length cb) (.c 5 (.int .i64 (x:Int)) .n)))) (λx w=>SH B w (bV 2 (.slice pa l.length ca) l.length (l.flatMap aR)::bV 2 (.slice pb l.length cb) l.length (l.flatMap aR)::L)/\(x<=l.length)) (λx=>l.length-x) 0 ⟨rfl,rfl,rfl,trivial⟩ ⟨h,Xe _⟩ ?_
 rintro k w ⟨h,hk⟩
 refine go h λw h=>?_
 refine qc h (λhd1 w h=>?_) λhd1 w h=>?_
 have hg2:=dP hd1
 refine go h λw h=>?_
 obtain⟨b3,o4,rfl⟩:=h.fq a0 (by omega)
 obtain⟨b5,o6,rfl⟩:=h.fq a1 (by omega)
 refine dZ [1,3,5,7,9,11,13,15,17] (by kernel_rfl) h (.c r0 (.c r0 .n)) λw h=>go h λw h=>?_
 refine tk (λW H=>gJ rfl ((H.rr a0).x bH (by decide) (by omega) ⟨.empty,0⟩) Row.h)<|go h λw h=>?_
 refine tk (λW H=>gJ rfl ((H.rr a1).x bH (by decide) (by omega) ⟨.empty,0⟩) Row.h)<|tk (λW H=>aCk S2 rfl rfl rfl rfl)<|go h λw h=>?_
 refine cf rfl (UT (UY _ _ _))<|go h λw h=>?_
 exact⟨(k+1),⟨rfl,rfl,rfl,trivial⟩,⟨h,by(try dsimp only);omega⟩,by(try dsimp only);omega⟩
 have hg7:=bI hd1
 refine go h λw h=>?_
 exact rz ⟨rfl,h⟩
theorem lM(l:List Ct.bN)(p:Option Addr)(c:Nat)(h:SH B w (bV 2 (.slice p l.length c) l.length (l.flatMap aR)::L))(hv:Ct.aQ l=true)(hl:l.length<=1000000000000):
  Calls prog 160 #[.slice p l.length c] w λe w'=>e=.returned ↑true/\SH B w' (bV 2 (.slice p l.length c) l.length (l.flatMap aR)::L):=by
 refine bZ func160 ntmps160 h λw h=>?_
 refine lp (α:=Nat) (λx=>(.c 0 (.slice p l.length c) (.c 3 (.int .i64 (x:Int)) .n))) (λx w=>SH B w (bV 2 (.slice p l.length c) l.length (l.flatMap aR)::L)/\(1<=x)) (λx=>l.length-x) 1 ⟨rfl,rfl,trivial⟩ ⟨h,bD _⟩ ?_
 rintro k w ⟨h,h1⟩
 refine go h λw h=>?_
 refine qc h (λhd1 w h=>?_) λhd1 w h=>?_
 ·have hg2:=dP hd1
  refine go h λw h=>?_
  obtain⟨b3,o4,rfl⟩:=h.fq a0 (by omega)
  refine dZ [1,3,5,7,9,11,13,15,17,19,21,23] (by kernel_rfl) h (.c r0 .n) λw h=>go h λw h=>?_
  refine tk (λW H=>ld One.h rfl ((H.rr a0).x bH (by decide) (by omega) ⟨.empty,0⟩ 0 _ rfl))<|go h λw h=>?_
  refine tk (λW H=>bs ((k-1:Nat):Int))<|go h λw h=>?_
  refine tk (λW H=>ld One.h rfl ((H.rr a0).x bH (by decide) (by omega) ⟨.empty,0⟩ 0 _ rfl))<|go h λw h=>?_
  refine cf rfl (YG hv h1 (by omega))<|go h λw h=>?_
  exact⟨(k+1),⟨rfl,rfl,trivial⟩,⟨h,by(try dsimp only);omega⟩,by(try dsimp only);omega⟩
 ·have hg5:=bI hd1
  refine go h λw h=>?_
  exact rz ⟨rfl,h⟩
section
attribute [local semireducible] gB wpS Go.E.X XS C jU kP fin Y U F Ca jT bl rb aU bV ex ce pu sK gK bK zK
attribute [local irreducible] gB wpS
variable{B w:World}{L:List As}
theorem HK(l:List Ct.bN)(p:Option Addr)(c:Nat)(h:SH B w (bV 2 (.slice p l.length c) l.length (l.flatMap aR)::L))(hs:Ct.kS l=true)(hl:l.length<=1000000000000):
  Calls prog 186 #[.slice p l.length c] w λe w'=>e=.returned ↑true/\SH B w' (bV 2 (.slice p l.length c) l.length (l.flatMap aR)::L):=by
 refine Ea (args:=[_]) func186 rfl ntmps186 rfl ?_
 refine sq<|rg<|st (sg rfl)<|xe<|nx<|sq<|sq<|rg<|st (sg rfl)<|xe<|nx<|bk<|?_
 refine lp (α:=Nat) (λx=>(.c 0 (.slice p l.length c) (.c 3 (.int .i64 (x:Int)) .n))) (λx w=>SH B w (bV 2 (.slice p l.length c) l.length (l.flatMap aR)::L)/\(x<=l.length)) (λx=>l.length-x) 0 ⟨rfl,rfl,trivial⟩ ⟨h,Xe _⟩ ?_
 rintro k w ⟨h,hk⟩
 refine sq<|sq<|rg<|st (mv rfl)<|st (mv rfl)<|st (ln oW rfl rfl)<|st (bi rfl rfl rfl)<|xe<|nx<|?_
 rcases mD (decide (((k:Int):Int)<(l.length:Int)))with hd1|hd1
 ·have hg2:=dP hd1
  refine ct rfl hd1<|sk<|nx<|sq<|bk<|sq<|rg<|st (mv rfl)<|st (mv rfl)<|?_
  obtain⟨b3,o4,rfl⟩:=h.fq a0 (by omega)
  refine st (ix (j:=k) oW tO rfl rfl (by omega))<|st (fa Yx rfl)<|st (ld uK rfl ((h.rr a0).x bH (by decide) (by omega) ⟨.empty,0⟩ 0 _ rfl))<|st (PA Qw rfl rfl)<|st (bi rfl rfl rfl)<|xe<|nx<|cf rfl (Cj hs (by omega))<|sk<|bn<|nx<|rg<|st (mv rfl)<|st (bw rfl rfl (gN (c:=((k+1:Nat):Int)) (by omega) (by omega) (by omega)))<|st (sg rfl)<|xe<|nx<|?_
  exact⟨(k+1),⟨rfl,rfl,trivial⟩,⟨h,by(try dsimp only);omega⟩,by(try dsimp only);omega⟩
 ·have hg5:=bI hd1
  refine cf rfl hd1<|xt<|tx<|tx<|be<|nx<|sq<|rg<|st (sg rfl)<|xe<|nx<|rt<|?_
  refine rr (jP results186 rfl)<|⟨rfl,h⟩
end
variable{B w:World}{L:List As}
theorem oY(l:List Ct.bN)(p:Option Addr)(c:Nat)(key:ByteArray)(h:SH B w (bV 2 (.slice p l.length c) l.length (l.flatMap aR)::L))(hv:Ct.aQ l=true)(hl:l.length<=1000000000000):
  Calls prog 129 #[.slice p l.length c,↑key] w λe w'=>e=.returned (.tuple #[.int .u64 (((Ct.bB l key).1:Nat):Int),.bool (Ct.bB l key).2])/\SH B w' (bV 2 (.slice p l.length c) l.length (l.flatMap aR)::L):=by
 refine bZ func129 ntmps129 h λw h=>?_
 refine lp (α:=Nat) (λx=>(.c 0 (.slice p l.length c) (.c 1 (.string key) (.c 6 (.int .i64 (x:Int)) .n)))) (λx w=>SH B w (bV 2 (.slice p l.length c) l.length (l.flatMap aR)::L)/\(x<=l.length)/\(∀j,j<x->Ct.bR (Ct.iE l j).key key=false)) (λx=>l.length-x) 0 ⟨rfl,rfl,rfl,trivial⟩ ⟨h,Xe _,λj hj=>absurd hj (Nat.not_lt_zero _)⟩ ?_
 rintro k w ⟨h,hk,hn⟩
 refine go h λw h=>?_
 refine qg h (λhd1 w h=>?_) λhd1 w h=>?_
 have hg2:=dP hd1
 refine go h λw h=>?_
 refine bA (lM _ _ _ h.to hv (by omega)) λw h=>?_
 obtain⟨b3,o4,rfl⟩:=h.fq a0 (by omega)
 refine go h λw h=>?_
 refine st (ld One.h rfl ((h.rr a0).x bH (by decide) (by omega) ⟨.empty,0⟩ 0 _ rfl))<|go h λw h=>?_
 refine qc h (λhd5 w h=>?_) λhd5 w h=>?_
 refine st (ld One.h rfl ((h.rr a0).x bH (by decide) (by omega) ⟨.empty,0⟩ 1 _ rfl))<|go h λw h=>?_
 exact rr (gE rfl rfl rfl)<|⟨by rw[KK hv (by omega) hd5];rfl,h⟩
 exact⟨(k+1),⟨rfl,rfl,rfl,trivial⟩,⟨h,by(try dsimp only);omega,TD hn hd5⟩,by(try dsimp only);omega⟩
 have hg6:=bI hd1
 refine go h λw h=>?_
 exact rr (gE rfl rfl rfl)<|⟨by rw[BU hv λj hj=>hn j (by omega)];rfl,h⟩
theorem zH(l:List Ct.bN)(p:Option Addr)(c:Nat)(key:ByteArray)(h:SH B w (bV 2 (.slice p l.length c) l.length (l.flatMap aR)::L))(hl:l.length<=1000000000000):
  Calls prog 188 #[.slice p l.length c,↑key] w λe w'=>∃p' c',e=.returned (.slice p' (Ct.cX l key).length c')/\SH B w' (bV 2 (.slice p' (Ct.cX l key).length c') (Ct.cX l key).length ((Ct.cX l key).flatMap aR)::bV 2 (.slice p l.length c) l.length (l.flatMap aR)::L):=by
 refine bZ func188 ntmps188 h λw h=>?_
 have h:=SH.nil 146 2 h
 refine lp (α:=Nat×List Ct.bN×Nat×Option Addr×Nat) (λx=>(.c 0 (.slice p l.length c) (.c 1 (.string key) (.c 5 (.slice x.2.2.2.1 x.2.2.1 x.2.2.2.2) (.c 6 (.int .i64 (x.1:Int)) .n))))) (λx w=>SH B w (aU 146 2 (.slice x.2.2.2.1 x.2.2.1 x.2.2.2.2) x.2.2.1 (x.2.1.flatMap aR)::bV 2 (.slice p l.length c) l.length (l.flatMap aR)::L)/\(x.1<=l.length)/\(x.2.1.length=x.2.2.1)/\(x.2.2.1<=x.1)/\(x.2.1=(l.take x.1).filter λq=>!Ct.bR q.key key)) (λx=>l.length-x.1) (0,[],0,none,0) ⟨rfl,rfl,rfl,rfl,trivial⟩ ⟨h,Xe _,rfl,bD _,rfl⟩ ?_
 rintro⟨k,out,n,q,cq⟩ w ⟨h,hk,hn,hnk,hW⟩
 dsimp only at *
 refine go h λw h=>?_
 refine qc h (λhd1 w h=>?_) λhd1 w h=>?_
 have hg2:=dP hd1
 refine go h λw h=>?_
 obtain⟨b3,o4,rfl⟩:=h.fq a1 (by omega)
 refine go h λw h=>?_
 refine st (ld One.h rfl ((h.rr a1).x bH (by decide) (by omega) ⟨.empty,0⟩ 0 _ rfl))<|go h λw h=>?_
 refine qc h (λhd5 w h=>?_) λhd5 w h=>?_
 refine st (gJ rfl ((h.rr a1).x bH (by decide) (by omega) ⟨.empty,0⟩) Row.h)<|go h λw h=>?_
 refine sf (bu (aR (l.getD k ⟨.empty,0⟩)) h fR.h Ss.h rfl (by kernel_rfl) rfl (by decide) (by decide)) ?_
 rintro _ w ⟨b6,rfl,h⟩
 refine go h λw h=>?_
 refine sf (ap h fR.h rfl Ss.h rfl (by decide) rfl rfl (λ_=>u1) (h.ro a0) (λu hu=>List.all_eq_true.1 (eU _) u hu) rfl (fW _ _) (by unfold maxLen;omega) (by omega)) ?_
 rintro _ w ⟨p7,c8,rfl,h⟩
 refine go h λw h=>?_
 exact⟨(k+1,out++[l.getD k ⟨.empty,0⟩],n+1,p7,c8),⟨rfl,rfl,rfl,rfl,trivial⟩,⟨h.drop,by(try dsimp only);omega,by simp[hn],by(try dsimp only);omega,by rw[hW];exact A4 (by omega) hd5⟩,by(try dsimp only);omega⟩
 exact⟨(k+1,out,n,q,cq),⟨rfl,rfl,rfl,rfl,trivial⟩,⟨h,by(try dsimp only);omega,hn,by(try dsimp only);omega,by rw[hW];exact A3 (by omega) hd5⟩,by(try dsimp only);omega⟩
 have hg9:=bI hd1
 refine go h λw h=>?_
 refine rz ?_
 have e1:out=Ct.cX l key:=by rw[hW,uZ (by omega)];rfl
 subst e1;subst hn
 exact⟨_,_,rfl,(h).fz⟩
theorem EH(l:List Ct.bN)(p:Option Addr)(c:Nat)(z:Ct.bN)(h:SH B w (bV 2 (.slice p l.length c) l.length (l.flatMap aR)::L))(hl:l.length<=1000000000000):
  Calls prog 187 #[.slice p l.length c,.agg (aR z).toArray] w λe w'=>∃p' c',e=.returned (.slice p' (Ct.kO l z).length c')/\SH B w' (bV 2 (.slice p' (Ct.kO l z).length c') (Ct.kO l z).length ((Ct.kO l z).flatMap aR)::bV 2 (.slice p l.length c) l.length (l.flatMap aR)::L):=by
 refine bZ func187 ntmps187 h λw h=>?_
 refine jX h λb1 w h=>?_
 have h:=SH.nil 146 2 h
 refine lp (α:=Nat×List Ct.bN×Nat×Option Addr×Nat) (λx=>(.c 0 (.slice p l.length c) (.c 3 ↑b1 (.c 5 (.slice x.2.2.2.1 x.2.2.1 x.2.2.2.2) (.c 6 (.int .i64 (x.1:Int)) .n))))) (λx w=>SH B w (aU 146 2 (.slice x.2.2.2.1 x.2.2.1 x.2.2.2.2) x.2.2.1 (x.2.1.flatMap aR)::bV 2 (.slice p l.length c) l.length (l.flatMap aR)::bl b1 (aR z) 146::L)/\(x.1<=l.length)/\(x.2.1.length=x.2.2.1)/\(x.2.2.1=x.1)/\(x.2.1=l.take x.1)/\(∀j,j<x.1->Ct.dM (Ct.iE l j).key z.key=true)) (λx=>l.length-x.1) (0,[],0,none,0) ⟨rfl,rfl,rfl,rfl,trivial⟩ ⟨h.to,Xe _,rfl,rfl,rfl,λj hj=>absurd hj (Nat.not_lt_zero _)⟩ ?_
 rintro⟨k,out,n,q,cq⟩ w ⟨h,hk,hn,hnk,hW,hb⟩
 dsimp only at *
 refine go h λw h=>?_
 rcases mD (decide (((k:Int):Int)<(l.length:Int)))with hd2|hd2<;>refine go h λw h=>?_
 have hg3:=dP hd2
 obtain⟨b4,o5,rfl⟩:=h.fq a1 (by omega)
 refine dZ [1,3,5,7,9,11,13,15,17,19,21,23,25,27] (by kernel_rfl) h (.c r1 (.c r1 .n)) λw h=>go h λw h=>?_
 refine tk (λW H=>ld One.h rfl ((H.rr a0).x bH (by decide) (by omega) ⟨.empty,0⟩ 0 _ rfl))<|go h λw h=>?_
 refine qc h (λhd6 w h=>?_) λhd6 w h=>?_
 refine st (gJ rfl ((h.rr a1).x bH (by decide) (by omega) ⟨.empty,0⟩) Row.h)<|go h λw h=>?_
 refine sf (bu (aR (l.getD k ⟨.empty,0⟩)) h fR.h Ss.h rfl (by kernel_rfl) rfl (by decide) (by decide)) ?_
 rintro _ w ⟨b7,rfl,h⟩
 refine go h λw h=>?_
 refine sf (ap h fR.h rfl Ss.h rfl (by decide) rfl rfl (λ_=>u1) (h.ro a0) (λu hu=>List.all_eq_true.1 (eU _) u hu) rfl (fW _ _) (by unfold maxLen;omega) (by omega)) ?_
 rintro _ w ⟨p8,c9,rfl,h⟩
 refine go h λw h=>?_
 exact⟨(k+1,out++[l.getD k ⟨.empty,0⟩],n+1,p8,c9),⟨rfl,rfl,rfl,rfl,trivial⟩,⟨h.drop,by(try dsimp only);omega,by simp[hn],by(try dsimp only);omega,by rw[hW];exact(zX (by omega)).symm,TM hb hd6⟩,by(try dsimp only);omega⟩
 refine dZ [1,3,9,11,13,4,6,14,16] (by kernel_rfl) h (.c r2 .n) λw h=>go h λw h=>?_
 refine tk (λW H=>YD (k:=n) fR.h Sz.h rfl rfl (by omega) (h.MS a1))<|go h λw h=>?_
 have h:=h.tl (k:=n) a1 (by omega)
 rw[rZ bH]at h
 refine ff (bu (aR z) h fR.h Ss.h rfl (by kernel_rfl) rfl (by decide) (by decide)) ?_
 rintro _ w ⟨b10,rfl,h⟩
 refine gz h λw h=>?_
 refine ff (ap h fR.h rfl Ss.h rfl (by decide) rfl rfl (λ_=>u2) (h.ro a0) (λu hu=>List.all_eq_true.1 (eU _) u hu) rfl (fW _ _) (by unfold maxLen;omega) (by omega)) ?_
 rintro _ w ⟨p11,c12,rfl,h⟩
 refine gz h λw h=>?_
 refine ff (XN h a1 a2 fR.h rfl Ss.h rfl (by decide) rfl rfl (λ_=>u2) (lU eU _) rfl List.flatMap_append.symm (by unfold maxLen;omega) (by omega)) ?_
 rintro _ w ⟨p13,c14,rfl,h⟩
 refine gz h λw h=>?_
 refine rz ?_
 subst hnk
 have e1:=Va (l:=l) (z:=z) (by omega) hb (λhlt=>by exact hd6)
 have e2:out++[z]++l.drop n=Ct.kO l z:=by rw[e1,hW];simp
 have e3:n+1+(l.length-n)=(Ct.kO l z).length:=by rw[<- e2];simp[hn];omega
 have h:=((h.fr (.c r0 (.c r0 (.c r2 .n)))).drop.drop.drop).fz
 rw[show out++[z]++(l.drop n)=out++[z]++l.drop n from by simp]at h
 rw[e2]at h;rw[e3]at h ⊢;exact⟨_,_,rfl,h⟩
 have hg15:=bI hd2
 refine dZ [1,3,5,7,9,11,13,15,17,19,21,23,25,27] (by kernel_rfl) h .n λw h=>go h λw h=>?_
 refine dZ [1,3,9,11,13,4,6,14,16] (by kernel_rfl) h (.c r2 .n) λw h=>go h λw h=>?_
 refine tk (λW H=>YD (k:=n) fR.h Sz.h rfl rfl (by omega) (h.MS a1))<|go h λw h=>?_
 have h:=h.tl (k:=n) a1 (by omega)
 rw[rZ bH]at h
 refine ff (bu (aR z) h fR.h Ss.h rfl (by kernel_rfl) rfl (by decide) (by decide)) ?_
 rintro _ w ⟨b16,rfl,h⟩
 refine gz h λw h=>?_
 refine ff (ap h fR.h rfl Ss.h rfl (by decide) rfl rfl (λ_=>u2) (h.ro a0) (λu hu=>List.all_eq_true.1 (eU _) u hu) rfl (fW _ _) (by unfold maxLen;omega) (by omega)) ?_
 rintro _ w ⟨p17,c18,rfl,h⟩
 refine gz h λw h=>?_
 refine ff (XN h a1 a2 fR.h rfl Ss.h rfl (by decide) rfl rfl (λ_=>u2) (lU eU _) rfl List.flatMap_append.symm (by unfold maxLen;omega) (by omega)) ?_
 rintro _ w ⟨p19,c20,rfl,h⟩
 refine gz h λw h=>?_
 refine rz ?_
 subst hnk
 have e1:=Va (l:=l) (z:=z) (by omega) hb (λhlt=>by omega)
 have e2:out++[z]++l.drop n=Ct.kO l z:=by rw[e1,hW];simp
 have e3:n+1+(l.length-n)=(Ct.kO l z).length:=by rw[<- e2];simp[hn];omega
 have h:=((h.fr (.c r0 (.c r0 (.c r2 .n)))).drop.drop.drop).fz
 rw[show out++[z]++(l.drop n)=out++[z]++l.drop n from by simp]at h
 rw[e2]at h;rw[e3]at h ⊢;exact⟨_,_,rfl,h⟩
theorem WR(l:List Ct.bN)(p:Option Addr)(c:Nat)(key:ByteArray)(v:Nat)(h:SH B w (bV 2 (.slice p l.length c) l.length (l.flatMap aR)::L))(hv:Ct.aQ l=true)(hl:l.length<=1000000000000):
  Calls prog 174 #[.slice p l.length c,↑key,.int .u64 (v:Int)] w λe w'=>∃p' c',e=.returned (.slice p' (Ct.mC l key v).length c')/\SH B w' (bV 2 (.slice p' (Ct.mC l key v).length c') (Ct.mC l key v).length ((Ct.mC l key v).flatMap aR)::bV 2 (.slice p l.length c) l.length (l.flatMap aR)::L):=by
 refine bZ func174 ntmps174 h λw h=>?_
 refine bA (lM _ _ _ h.to hv (by omega)) λw h=>?_
 refine Sd (zH _ _ _ _ h.to (by omega)) λq1 c2 w h=>?_
 have:=oR l key
 refine go h λw h=>?_
 refine Sd (EH _ _ _ (⟨key,v⟩:Ct.bN) h.to (by omega)) λq3 c4 w h=>?_
 have:=Cf (Ct.cX l key) (⟨key,v⟩:Ct.bN)
 refine go h λw h=>?_
 refine rz ?_
 rw[TG key v hv];exact⟨_,_,rfl,(h.fr (.c r1 .n)).drop⟩
theorem SW(l:List Ct.bN)(p:Option Addr)(c:Nat)(key:ByteArray)(h:SH B w (bV 2 (.slice p l.length c) l.length (l.flatMap aR)::L))(hv:Ct.aQ l=true)(hl:l.length<=1000000000000):
  Calls prog 176 #[.slice p l.length c,↑key] w λe w'=>∃p' c',e=.returned (.slice p' (Ct.gX l key).length c')/\SH B w' (bV 2 (.slice p' (Ct.gX l key).length c') (Ct.gX l key).length ((Ct.gX l key).flatMap aR)::bV 2 (.slice p l.length c) l.length (l.flatMap aR)::L):=by
 refine bZ func176 ntmps176 h λw h=>?_
 refine bA (lM _ _ _ h.to hv (by omega)) λw h=>?_
 refine Sd (zH _ _ _ _ h.to (by omega)) λq1 c2 w h=>?_
 have:=oR l key
 refine go h λw h=>?_
 refine rz ?_
 rw[<- qP key l hv];exact⟨_,_,rfl,h⟩
theorem ZU(l:List Ct.bN)(p:Option Addr)(c:Nat)(h:SH B w (bV 2 (.slice p l.length c) l.length (l.flatMap aR)::L))(hl:l.length<=1000000000):
  Calls prog 190 #[.slice p l.length c] w λe w'=>∃p' c',e=.returned (.slice p' (Ct.yZ l).length c')/\SH B w' (bV 2 (.slice p' (Ct.yZ l).length c') (Ct.yZ l).length ((Ct.yZ l).flatMap aR)::bV 2 (.slice p l.length c) l.length (l.flatMap aR)::L):=by
 refine bZ func190 ntmps190 h λw h=>?_
 have h:=SH.nil 146 2 h
 have h:=h.fz
 refine lp (α:=Nat×List Ct.bN×Nat×Option Addr×Nat) (λx=>(.c 0 (.slice p l.length c) (.c 3 (.slice x.2.2.2.1 x.2.2.1 x.2.2.2.2) (.c 4 (.int .i64 (x.1:Int)) .n)))) (λx w=>SH B w (bV 2 (.slice x.2.2.2.1 x.2.2.1 x.2.2.2.2) x.2.2.1 (x.2.1.flatMap aR)::bV 2 (.slice p l.length c) l.length (l.flatMap aR)::L)/\(x.1<=l.length)/\(x.2.1.length=x.2.2.1)/\(x.2.1=yZ (l.take x.1))) (λx=>l.length-x.1) (0,[],0,none,0) ⟨rfl,rfl,rfl,trivial⟩ ⟨h,Xe _,rfl,rfl⟩ ?_
 rintro⟨k,out,n,q,cq⟩ w ⟨h,hk,hn,hW⟩
 dsimp only at *
 refine go h λw h=>?_
 refine qc h (λhd1 w h=>?_) λhd1 w h=>?_
 have hg2:=dP hd1
 refine go h λw h=>?_
 have hb:=Sg l k
 rw[<- hW]at hb
 subst hn
 obtain⟨b3,o4,rfl⟩:=h.fq a1 (by omega)
 refine dZ [1,3,5,7,9,11,15,17,19,21,12,22,24] (by kernel_rfl) h (.c r1 .n) λw h=>go h λw h=>?_
 refine tk (λW H=>ld One.h rfl ((H.rr a0).x bH (by decide) (by omega) ⟨.empty,0⟩ 0 _ rfl))<|go h λw h=>?_
 refine tk (λW H=>gJ rfl ((H.rr a0).x bH (by decide) (by omega) ⟨.empty,0⟩) Row.h)<|go h λw h=>?_
 refine AN (zH _ _ _ _ h.to (by omega)) λq5 c6 w h=>?_
 have:=oR out ((l.getD k ⟨.empty,0⟩).key)
 refine AN (EH _ _ _ (l.getD k ⟨.empty,0⟩) h.to (by omega)) λq7 c8 w h=>?_
 have:=Cf (Ct.cX out ((l.getD k ⟨.empty,0⟩).key)) (l.getD k ⟨.empty,0⟩)
 refine go h λw h=>?_
 exact⟨(k+1,Ct.kO (Ct.cX out ((l.getD k ⟨.empty,0⟩).key)) (l.getD k ⟨.empty,0⟩),(Ct.kO (Ct.cX out ((l.getD k ⟨.empty,0⟩).key)) (l.getD k ⟨.empty,0⟩)).length,q7,c8),⟨rfl,rfl,rfl,trivial⟩,⟨h.to,by(try dsimp only);omega,rfl,by rw[hW];exact ZY (by omega)⟩,by(try dsimp only);omega⟩
 have hg9:=bI hd1
 refine go h λw h=>?_
 refine rz ?_
 have e1:out=yZ l:=by rw[hW,uZ (by omega)]
 subst e1;subst hn
 exact⟨_,_,rfl,h⟩
end Go.Q9
end
