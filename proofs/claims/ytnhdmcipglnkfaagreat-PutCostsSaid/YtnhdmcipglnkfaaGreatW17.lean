/- Parts of a proof: Rf, Rw. -/
import Derived.Test.YtnhdmcipglnkfaaGreatW15
import Derived.Test.YtnhdmcipglnkfaaGreatW16
set_option linter.unusedVariables false
set_option linter.unusedSimpArgs false
set_option maxRecDepth 100000
set_option maxHeartbeats 4000000
section
namespace Go.Q9
open Go.Proofs.Tryz
open Go.RowKit Go.E Go.Ct
attribute [local irreducible] gA wpS Go.E.X XS C kV lL fin Y U F Ca kU bl rb aV bS ex ce pu sK gK bK zK
variable{B w:World}{L:List As}
theorem Sj(l:List Int)(pa pb:Option Addr)(ca cb:Nat)(h:SH B w (bS 1 (.slice pa l.length ca) l.length (l.map (Value.int .i64))::bS 1 (.slice pb l.length cb) l.length (l.map (Value.int .i64))::L))(hl:l.length<=1000000000000):
  Calls prog 173 #[.slice pa l.length ca,.slice pb l.length cb] w λe w'=>e=.returned ↑true/\SH B w' (bS 1 (.slice pa l.length ca) l.length (l.map (Value.int .i64))::bS 1 (.slice pb l.length cb) l.length (l.map (Value.int .i64))::L):=by
 refine cN func173 ntmps173 h λw h=>?_
 refine lp (α:=Nat) (λx=>(.c 0 (.slice pa l.length ca) (.c 1 (.slice pb l.length cb) (.c 5 (.int .i64 (x:Int)) .n)))) (λx w=>SH B w (bS 1 (.slice pa l.length ca) l.length (l.map (Value.int .i64))::bS 1 (.slice pb l.length cb) l.length (l.map (Value.int .i64))::L)/\(x<=l.length)) (λx=>l.length-x) 0 ⟨rfl,rfl,rfl,trivial⟩ ⟨h,bZ _⟩ ?_
 rintro k w ⟨h,hk⟩
 refine go h λw h=>?_
 refine qc h (λdF w h=>?_) λdF w h=>?_
 have xZ:=dH dF
 refine go h λw h=>?_
 obtain⟨b3,o4,rfl⟩:=h.fq a0 (by omega)
 obtain⟨b5,o6,rfl⟩:=h.fq a1 (by omega)
 refine fD [1,3,5,7,9,11,13,15,17] (by kernel_rfl) h (.c r0 (.c r0 .n)) λw h=>?_
 refine tk (λW H=>mv rfl)<|tk (λW H=>mv rfl)<|tk (λW H=>ix (j:=k) gN uM rfl rfl (by omega))<|tk (λW H=>ld jE rfl ((H.rr a0).i (by omega)))<|tk (λW H=>mv rfl)<|tk (λW H=>mv rfl)<|tk (λW H=>ix (j:=k) gN uM rfl rfl (by omega))<|tk (λW H=>ld jE rfl ((H.rr a1).i (by omega)))<|tk (λW H=>bi rfl rfl rfl)<|xz<|nx<|cf rfl (Bu _)<|sk<|bn<|nx<|rg<|st (mv rfl)<|st (bw rfl rfl (iR (c:=((k+1:Nat):Int)) (by omega) (by omega) (by omega)))<|st (sg rfl)<|xe<|nx<|?_
 refine go h λw h=>?_
 exact⟨(k+1),⟨rfl,rfl,rfl,trivial⟩,⟨h,by(try dsimp only);omega⟩,by(try dsimp only);omega⟩
 have El:=dR dF
 refine go h λw h=>?_
 exact rz ⟨rfl,h⟩
theorem xM(l:List Ct.bA)(pa pb:Option Addr)(ca cb:Nat)(h:SH B w (bS 2 (.slice pa l.length ca) l.length (l.flatMap aR)::bS 2 (.slice pb l.length cb) l.length (l.flatMap aR)::L))(hl:l.length<=1000000000000):
  Calls prog 58 #[.slice pa l.length ca,.slice pb l.length cb] w λe w'=>e=.returned ↑true/\SH B w' (bS 2 (.slice pa l.length ca) l.length (l.flatMap aR)::bS 2 (.slice pb l.length cb) l.length (l.flatMap aR)::L):=by
 refine cN func58 ntmps58 h λw h=>?_
 refine lp (α:=Nat) (λx=>(.c 0 (.slice pa l.length ca) (.c 1 (.slice pb l.length cb) (.c 5 (.int .i64 (x:Int)) .n)))) (λx w=>SH B w (bS 2 (.slice pa l.length ca) l.length (l.flatMap aR)::bS 2 (.slice pb l.length cb) l.length (l.flatMap aR)::L)/\(x<=l.length)) (λx=>l.length-x) 0 ⟨rfl,rfl,rfl,trivial⟩ ⟨h,bZ _⟩ ?_
 rintro k w ⟨h,hk⟩
 refine go h λw h=>?_
 refine qc h (λdF w h=>?_) λdF w h=>?_
 have xZ:=dH dF
 refine go h λw h=>?_
 obtain⟨b3,o4,rfl⟩:=h.fq a0 (by omega)
 obtain⟨b5,o6,rfl⟩:=h.fq a1 (by omega)
 refine fD [1,3,5,7,9,11,13,15,17] (by kernel_rfl) h (.c r0 (.c r0 .n)) λw h=>go h λw h=>?_
 refine tk (λW H=>kB rfl ((H.rr a0).x bJ (by decide) (by omega) ⟨.empty,0⟩) Row.h)<|go h λw h=>?_
 refine tk (λW H=>kB rfl ((H.rr a1).x bJ (by decide) (by omega) ⟨.empty,0⟩) Row.h)<|tk (λW H=>aF5 g9 rfl rfl rfl rfl)<|go h λw h=>?_
 refine cf rfl (aBn (aBa _ _ _))<|go h λw h=>?_
 exact⟨(k+1),⟨rfl,rfl,rfl,trivial⟩,⟨h,by(try dsimp only);omega⟩,by(try dsimp only);omega⟩
 have El:=dR dF
 refine go h λw h=>?_
 exact rz ⟨rfl,h⟩
theorem oA(l:List Ct.bA)(p:Option Addr)(c:Nat)(h:SH B w (bS 2 (.slice p l.length c) l.length (l.flatMap aR)::L))(hv:Ct.aU l=true)(hl:l.length<=1000000000000):
  Calls prog 135 #[.slice p l.length c] w λe w'=>e=.returned ↑true/\SH B w' (bS 2 (.slice p l.length c) l.length (l.flatMap aR)::L):=by
 refine cN func135 ntmps135 h λw h=>?_
 refine lp (α:=Nat) (λx=>(.c 0 (.slice p l.length c) (.c 3 (.int .i64 (x:Int)) .n))) (λx w=>SH B w (bS 2 (.slice p l.length c) l.length (l.flatMap aR)::L)/\(1<=x)) (λx=>l.length-x) 1 ⟨rfl,rfl,trivial⟩ ⟨h,aW _⟩ ?_
 rintro k w ⟨h,h1⟩
 refine go h λw h=>?_
 refine qc h (λdF w h=>?_) λdF w h=>?_
 ·have xZ:=dH dF
  refine go h λw h=>?_
  obtain⟨b3,o4,rfl⟩:=h.fq a0 (by omega)
  refine fD [1,3,5,7,9,11,13,15,17,19,21,23] (by kernel_rfl) h (.c r0 .n) λw h=>go h λw h=>?_
  refine tk (λW H=>ld One.h rfl ((H.rr a0).x bJ (by decide) (by omega) ⟨.empty,0⟩ 0 _ rfl))<|go h λw h=>?_
  refine tk (λW H=>bs ((k-1:Nat):Int))<|go h λw h=>?_
  refine tk (λW H=>ld One.h rfl ((H.rr a0).x bJ (by decide) (by omega) ⟨.empty,0⟩ 0 _ rfl))<|go h λw h=>?_
  refine cf rfl (aD5 hv h1 (by omega))<|go h λw h=>?_
  exact⟨(k+1),⟨rfl,rfl,trivial⟩,⟨h,by(try dsimp only);omega⟩,by(try dsimp only);omega⟩
 ·have Vu:=dR dF
  refine go h λw h=>?_
  exact rz ⟨rfl,h⟩
section
attribute [local semireducible] gA wpS Go.E.X XS C kV lL fin Y U F Ca kU bl rb aV bS ex ce pu sK gK bK zK
attribute [local irreducible] gA wpS
variable{B w:World}{L:List As}
theorem UU(l:List Ct.bA)(p:Option Addr)(c:Nat)(h:SH B w (bS 2 (.slice p l.length c) l.length (l.flatMap aR)::L))(hs:Ct.nA l=true)(hl:l.length<=1000000000000):
  Calls prog 136 #[.slice p l.length c] w λe w'=>e=.returned ↑true/\SH B w' (bS 2 (.slice p l.length c) l.length (l.flatMap aR)::L):=by
 refine Kk (args:=[_]) func136 rfl ntmps136 rfl ?_
 refine sq<|rg<|st (sg rfl)<|xe<|nx<|sq<|sq<|rg<|st (sg rfl)<|xe<|nx<|bk<|?_
 refine lp (α:=Nat) (λx=>(.c 0 (.slice p l.length c) (.c 3 (.int .i64 (x:Int)) .n))) (λx w=>SH B w (bS 2 (.slice p l.length c) l.length (l.flatMap aR)::L)/\(x<=l.length)) (λx=>l.length-x) 0 ⟨rfl,rfl,trivial⟩ ⟨h,bZ _⟩ ?_
 rintro k w ⟨h,hk⟩
 refine sq<|sq<|rg<|st (mv rfl)<|st (mv rfl)<|st (ln fB rfl rfl)<|st (bi rfl rfl rfl)<|xe<|nx<|?_
 rcases dQ (decide (((k:Int):Int)<(l.length:Int)))with dF|dF
 ·have xZ:=dH dF
  refine ct rfl dF<|sk<|nx<|sq<|bk<|sq<|rg<|st (mv rfl)<|st (mv rfl)<|?_
  obtain⟨b3,o4,rfl⟩:=h.fq a0 (by omega)
  refine st (ix (j:=k) fB gR rfl rfl (by omega))<|st (fa Hq rfl)<|st (ld zH rfl ((h.rr a0).x bJ (by decide) (by omega) ⟨.empty,0⟩ 0 _ rfl))<|st (A9 AE rfl rfl)<|st (bi rfl rfl rfl)<|xe<|nx<|cf rfl (Jk hs (by omega))<|sk<|bn<|nx<|rg<|st (mv rfl)<|st (bw rfl rfl (iR (c:=((k+1:Nat):Int)) (by omega) (by omega) (by omega)))<|st (sg rfl)<|xe<|nx<|?_
  exact⟨(k+1),⟨rfl,rfl,trivial⟩,⟨h,by(try dsimp only);omega⟩,by(try dsimp only);omega⟩
 ·have Vu:=dR dF
  refine cf rfl dF<|xt<|tx<|tx<|be<|nx<|sq<|rg<|st (sg rfl)<|xe<|nx<|rt<|?_
  refine rr (mC results136 rfl)<|⟨rfl,h⟩
end
variable{B w:World}{L:List As}
theorem Bb(l:List Ct.bA)(p:Option Addr)(c:Nat)(key:ByteArray)(h:SH B w (bS 2 (.slice p l.length c) l.length (l.flatMap aR)::L))(hv:Ct.aU l=true)(hl:l.length<=1000000000000):
  Calls prog 191 #[.slice p l.length c,↑key] w λe w'=>e=.returned (.tuple #[.int .u64 (((Ct.bN l key).1:Nat):Int),.bool (Ct.bN l key).2])/\SH B w' (bS 2 (.slice p l.length c) l.length (l.flatMap aR)::L):=by
 refine cN func191 ntmps191 h λw h=>?_
 refine lp (α:=Nat) (λx=>(.c 0 (.slice p l.length c) (.c 1 (.string key) (.c 6 (.int .i64 (x:Int)) .n)))) (λx w=>SH B w (bS 2 (.slice p l.length c) l.length (l.flatMap aR)::L)/\(x<=l.length)/\(∀j,j<x->Ct.bO (Ct.kA l j).key key=false)) (λx=>l.length-x) 0 ⟨rfl,rfl,rfl,trivial⟩ ⟨h,bZ _,λj hj=>absurd hj (Nat.not_lt_zero _)⟩ ?_
 rintro k w ⟨h,hk,hn⟩
 refine go h λw h=>?_
 refine qg h (λdF w h=>?_) λdF w h=>?_
 have xZ:=dH dF
 refine go h λw h=>?_
 refine bQ (oA _ _ _ h.to hv (by omega)) λw h=>?_
 obtain⟨b3,o4,rfl⟩:=h.fq a0 (by omega)
 refine go h λw h=>?_
 refine st (ld One.h rfl ((h.rr a0).x bJ (by decide) (by omega) ⟨.empty,0⟩ 0 _ rfl))<|go h λw h=>?_
 refine qc h (λdM w h=>?_) λdM w h=>?_
 refine st (ld One.h rfl ((h.rr a0).x bJ (by decide) (by omega) ⟨.empty,0⟩ 1 _ rfl))<|go h λw h=>?_
 exact rr (iG rfl rfl rfl)<|⟨by rw[XI hv (by omega) dM];rfl,h⟩
 exact⟨(k+1),⟨rfl,rfl,rfl,trivial⟩,⟨h,by(try dsimp only);omega,X5 hn dM⟩,by(try dsimp only);omega⟩
 have CX:=dR dF
 refine go h λw h=>?_
 exact rr (iG rfl rfl rfl)<|⟨by rw[PU hv λj hj=>hn j (by omega)];rfl,h⟩
theorem Ec(l:List Ct.bA)(p:Option Addr)(c:Nat)(key:ByteArray)(h:SH B w (bS 2 (.slice p l.length c) l.length (l.flatMap aR)::L))(hl:l.length<=1000000000000):
  Calls prog 274 #[.slice p l.length c,↑key] w λe w'=>∃p' c',e=.returned (.slice p' (Ct.dA l key).length c')/\SH B w' (bS 2 (.slice p' (Ct.dA l key).length c') (Ct.dA l key).length ((Ct.dA l key).flatMap aR)::bS 2 (.slice p l.length c) l.length (l.flatMap aR)::L):=by
 refine cN func274 ntmps274 h λw h=>?_
 have h:=SH.nil 120 2 h
 refine lp (α:=Nat×List Ct.bA×Nat×Option Addr×Nat) (λx=>(.c 0 (.slice p l.length c) (.c 1 (.string key) (.c 5 (.slice x.2.2.2.1 x.2.2.1 x.2.2.2.2) (.c 6 (.int .i64 (x.1:Int)) .n))))) (λx w=>SH B w (aV 120 2 (.slice x.2.2.2.1 x.2.2.1 x.2.2.2.2) x.2.2.1 (x.2.1.flatMap aR)::bS 2 (.slice p l.length c) l.length (l.flatMap aR)::L)/\(x.1<=l.length)/\(x.2.1.length=x.2.2.1)/\(x.2.2.1<=x.1)/\(x.2.1=(l.take x.1).filter λq=>!Ct.bO q.key key)) (λx=>l.length-x.1) (0,[],0,none,0) ⟨rfl,rfl,rfl,rfl,trivial⟩ ⟨h,bZ _,rfl,aW _,rfl⟩ ?_
 rintro⟨k,out,n,q,cq⟩ w ⟨h,hk,hn,hnk,hW⟩
 dsimp only at *
 refine go h λw h=>?_
 refine qc h (λdF w h=>?_) λdF w h=>?_
 have xZ:=dH dF
 refine go h λw h=>?_
 obtain⟨b3,o4,rfl⟩:=h.fq a1 (by omega)
 refine go h λw h=>?_
 refine st (ld One.h rfl ((h.rr a1).x bJ (by decide) (by omega) ⟨.empty,0⟩ 0 _ rfl))<|go h λw h=>?_
 refine qc h (λdM w h=>?_) λdM w h=>?_
 refine st (kB rfl ((h.rr a1).x bJ (by decide) (by omega) ⟨.empty,0⟩) Row.h)<|go h λw h=>?_
 refine sf (bu (aR (l.getD k ⟨.empty,0⟩)) h gB.h Ss.h rfl (by kernel_rfl) rfl (by decide) (by decide)) ?_
 rintro _ w ⟨b6,rfl,h⟩
 refine go h λw h=>?_
 refine sf (ap h gB.h rfl Ss.h rfl (by decide) rfl rfl (λ_=>u1) (h.ro a0) (λu hu=>List.all_eq_true.1 (eW _) u hu) rfl (jM _ _) (by unfold maxLen;omega) (by omega)) ?_
 rintro _ w ⟨p7,c8,rfl,h⟩
 refine go h λw h=>?_
 exact⟨(k+1,out++[l.getD k ⟨.empty,0⟩],n+1,p7,c8),⟨rfl,rfl,rfl,rfl,trivial⟩,⟨h.drop,by(try dsimp only);omega,by simp[hn],by(try dsimp only);omega,by rw[hW];exact aNu (by omega) dM⟩,by(try dsimp only);omega⟩
 exact⟨(k+1,out,n,q,cq),⟨rfl,rfl,rfl,rfl,trivial⟩,⟨h,by(try dsimp only);omega,hn,by(try dsimp only);omega,by rw[hW];exact aOh (by omega) dM⟩,by(try dsimp only);omega⟩
 have CY:=dR dF
 refine go h λw h=>?_
 refine rz ?_
 have e1:out=Ct.dA l key:=by rw[hW,xW (by omega)];rfl
 subst e1;subst hn
 exact⟨_,_,rfl,(h).fz⟩
theorem SR(l:List Ct.bA)(p:Option Addr)(c:Nat)(z:Ct.bA)(h:SH B w (bS 2 (.slice p l.length c) l.length (l.flatMap aR)::L))(hl:l.length<=1000000000000):
  Calls prog 273 #[.slice p l.length c,.agg (aR z).toArray] w λe w'=>∃p' c',e=.returned (.slice p' (Ct.mK l z).length c')/\SH B w' (bS 2 (.slice p' (Ct.mK l z).length c') (Ct.mK l z).length ((Ct.mK l z).flatMap aR)::bS 2 (.slice p l.length c) l.length (l.flatMap aR)::L):=by
 refine cN func273 ntmps273 h λw h=>?_
 refine jX h λb1 w h=>?_
 have h:=SH.nil 120 2 h
 refine lp (α:=Nat×List Ct.bA×Nat×Option Addr×Nat) (λx=>(.c 0 (.slice p l.length c) (.c 3 ↑b1 (.c 5 (.slice x.2.2.2.1 x.2.2.1 x.2.2.2.2) (.c 6 (.int .i64 (x.1:Int)) .n))))) (λx w=>SH B w (aV 120 2 (.slice x.2.2.2.1 x.2.2.1 x.2.2.2.2) x.2.2.1 (x.2.1.flatMap aR)::bS 2 (.slice p l.length c) l.length (l.flatMap aR)::bl b1 (aR z) 120::L)/\(x.1<=l.length)/\(x.2.1.length=x.2.2.1)/\(x.2.2.1=x.1)/\(x.2.1=l.take x.1)/\(∀j,j<x.1->Ct.dW (Ct.kA l j).key z.key=true)) (λx=>l.length-x.1) (0,[],0,none,0) ⟨rfl,rfl,rfl,rfl,trivial⟩ ⟨h.to,bZ _,rfl,rfl,rfl,λj hj=>absurd hj (Nat.not_lt_zero _)⟩ ?_
 rintro⟨k,out,n,q,cq⟩ w ⟨h,hk,hn,hnk,hW,hb⟩
 dsimp only at *
 refine go h λw h=>?_
 rcases dQ (decide (((k:Int):Int)<(l.length:Int)))with cO|cO<;>refine go h λw h=>?_
 have Lt:=dH cO
 obtain⟨b4,o5,rfl⟩:=h.fq a1 (by omega)
 refine fD [1,3,5,7,9,11,13,15,17,19,21,23,25,27] (by kernel_rfl) h (.c r1 (.c r1 .n)) λw h=>go h λw h=>?_
 refine tk (λW H=>ld One.h rfl ((H.rr a0).x bJ (by decide) (by omega) ⟨.empty,0⟩ 0 _ rfl))<|go h λw h=>?_
 refine qc h (λdJ w h=>?_) λdJ w h=>?_
 refine st (kB rfl ((h.rr a1).x bJ (by decide) (by omega) ⟨.empty,0⟩) Row.h)<|go h λw h=>?_
 refine sf (bu (aR (l.getD k ⟨.empty,0⟩)) h gB.h Ss.h rfl (by kernel_rfl) rfl (by decide) (by decide)) ?_
 rintro _ w ⟨b7,rfl,h⟩
 refine go h λw h=>?_
 refine sf (ap h gB.h rfl Ss.h rfl (by decide) rfl rfl (λ_=>u1) (h.ro a0) (λu hu=>List.all_eq_true.1 (eW _) u hu) rfl (jM _ _) (by unfold maxLen;omega) (by omega)) ?_
 rintro _ w ⟨p8,c9,rfl,h⟩
 refine go h λw h=>?_
 exact⟨(k+1,out++[l.getD k ⟨.empty,0⟩],n+1,p8,c9),⟨rfl,rfl,rfl,rfl,trivial⟩,⟨h.drop,by(try dsimp only);omega,by simp[hn],by(try dsimp only);omega,by rw[hW];exact(Et (by omega)).symm,U4 hb dJ⟩,by(try dsimp only);omega⟩
 refine fD [1,3,9,11,13,4,6,14,16] (by kernel_rfl) h (.c r2 .n) λw h=>go h λw h=>?_
 refine tk (λW H=>sll (k:=n) gB.h Sz.h rfl rfl (by omega) (h.WK a1))<|go h λw h=>?_
 have h:=h.tl (k:=n) a1 (by omega)
 rw[tR bJ]at h
 refine ff (bu (aR z) h gB.h Ss.h rfl (by kernel_rfl) rfl (by decide) (by decide)) ?_
 rintro _ w ⟨DJ,rfl,h⟩
 refine gz h λw h=>?_
 refine ff (ap h gB.h rfl Ss.h rfl (by decide) rfl rfl (λ_=>u2) (h.ro a0) (λu hu=>List.all_eq_true.1 (eW _) u hu) rfl (jM _ _) (by unfold maxLen;omega) (by omega)) ?_
 rintro _ w ⟨p11,c12,rfl,h⟩
 refine gz h λw h=>?_
 refine ff (ZC h a1 a2 gB.h rfl Ss.h rfl (by decide) rfl rfl (λ_=>u2) (lN eW _) rfl List.flatMap_append.symm (by unfold maxLen;omega) (by omega)) ?_
 rintro _ w ⟨p13,c14,rfl,h⟩
 refine gz h λw h=>?_
 refine rz ?_
 subst hnk
 have e1:=IA (l:=l) (z:=z) (by omega) hb (λhlt=>by exact dJ)
 have e2:out++[z]++l.drop n=Ct.mK l z:=by rw[e1,hW];simp
 have e3:n+1+(l.length-n)=(Ct.mK l z).length:=by rw[<- e2];simp[hn];omega
 have h:=((h.fr (.c r0 (.c r0 (.c r2 .n)))).drop.drop.drop).fz
 rw[show out++[z]++(l.drop n)=out++[z]++l.drop n from by simp]at h
 rw[e2]at h;rw[e3]at h ⊢;exact⟨_,_,rfl,h⟩
 have JS:=dR cO
 refine fD [1,3,5,7,9,11,13,15,17,19,21,23,25,27] (by kernel_rfl) h .n λw h=>go h λw h=>?_
 refine fD [1,3,9,11,13,4,6,14,16] (by kernel_rfl) h (.c r2 .n) λw h=>go h λw h=>?_
 refine tk (λW H=>sll (k:=n) gB.h Sz.h rfl rfl (by omega) (h.WK a1))<|go h λw h=>?_
 have h:=h.tl (k:=n) a1 (by omega)
 rw[tR bJ]at h
 refine ff (bu (aR z) h gB.h Ss.h rfl (by kernel_rfl) rfl (by decide) (by decide)) ?_
 rintro _ w ⟨b16,rfl,h⟩
 refine gz h λw h=>?_
 refine ff (ap h gB.h rfl Ss.h rfl (by decide) rfl rfl (λ_=>u2) (h.ro a0) (λu hu=>List.all_eq_true.1 (eW _) u hu) rfl (jM _ _) (by unfold maxLen;omega) (by omega)) ?_
 rintro _ w ⟨p17,c18,rfl,h⟩
 refine gz h λw h=>?_
 refine ff (ZC h a1 a2 gB.h rfl Ss.h rfl (by decide) rfl rfl (λ_=>u2) (lN eW _) rfl List.flatMap_append.symm (by unfold maxLen;omega) (by omega)) ?_
 rintro _ w ⟨p19,c20,rfl,h⟩
 refine gz h λw h=>?_
 refine rz ?_
 subst hnk
 have e1:=IA (l:=l) (z:=z) (by omega) hb (λhlt=>by omega)
 have e2:out++[z]++l.drop n=Ct.mK l z:=by rw[e1,hW];simp
 have e3:n+1+(l.length-n)=(Ct.mK l z).length:=by rw[<- e2];simp[hn];omega
 have h:=((h.fr (.c r0 (.c r0 (.c r2 .n)))).drop.drop.drop).fz
 rw[show out++[z]++(l.drop n)=out++[z]++l.drop n from by simp]at h
 rw[e2]at h;rw[e3]at h ⊢;exact⟨_,_,rfl,h⟩
theorem aF4(l:List Ct.bA)(p:Option Addr)(c:Nat)(key:ByteArray)(v:Nat)(h:SH B w (bS 2 (.slice p l.length c) l.length (l.flatMap aR)::L))(hv:Ct.aU l=true)(hl:l.length<=1000000000000):
  Calls prog 246 #[.slice p l.length c,↑key,.int .u64 (v:Int)] w λe w'=>∃p' c',e=.returned (.slice p' (Ct.oQ l key v).length c')/\SH B w' (bS 2 (.slice p' (Ct.oQ l key v).length c') (Ct.oQ l key v).length ((Ct.oQ l key v).flatMap aR)::bS 2 (.slice p l.length c) l.length (l.flatMap aR)::L):=by
 refine cN func246 ntmps246 h λw h=>?_
 refine bQ (oA _ _ _ h.to hv (by omega)) λw h=>?_
 refine Zn (Ec _ _ _ _ h.to (by omega)) λq1 c2 w h=>?_
 have:=sI l key
 refine go h λw h=>?_
 refine Zn (SR _ _ _ (⟨key,v⟩:Ct.bA) h.to (by omega)) λq3 c4 w h=>?_
 have:=Jm (Ct.dA l key) (⟨key,v⟩:Ct.bA)
 refine go h λw h=>?_
 refine rz ?_
 rw[aA9 key v hv];exact⟨_,_,rfl,(h.fr (.c r1 .n)).drop⟩
theorem U5(l:List Ct.bA)(p:Option Addr)(c:Nat)(key:ByteArray)(h:SH B w (bS 2 (.slice p l.length c) l.length (l.flatMap aR)::L))(hv:Ct.aU l=true)(hl:l.length<=1000000000000):
  Calls prog 248 #[.slice p l.length c,↑key] w λe w'=>∃p' c',e=.returned (.slice p' (Ct.jR l key).length c')/\SH B w' (bS 2 (.slice p' (Ct.jR l key).length c') (Ct.jR l key).length ((Ct.jR l key).flatMap aR)::bS 2 (.slice p l.length c) l.length (l.flatMap aR)::L):=by
 refine cN func248 ntmps248 h λw h=>?_
 refine bQ (oA _ _ _ h.to hv (by omega)) λw h=>?_
 refine Zn (Ec _ _ _ _ h.to (by omega)) λq1 c2 w h=>?_
 have:=sI l key
 refine go h λw h=>?_
 refine rz ?_
 rw[<- uS key l hv];exact⟨_,_,rfl,h⟩
theorem aJs(l:List Ct.bA)(p:Option Addr)(c:Nat)(h:SH B w (bS 2 (.slice p l.length c) l.length (l.flatMap aR)::L))(hl:l.length<=1000000000):
  Calls prog 276 #[.slice p l.length c] w λe w'=>∃p' c',e=.returned (.slice p' (Ct.Dv l).length c')/\SH B w' (bS 2 (.slice p' (Ct.Dv l).length c') (Ct.Dv l).length ((Ct.Dv l).flatMap aR)::bS 2 (.slice p l.length c) l.length (l.flatMap aR)::L):=by
 refine cN func276 ntmps276 h λw h=>?_
 have h:=SH.nil 120 2 h
 have h:=h.fz
 refine lp (α:=Nat×List Ct.bA×Nat×Option Addr×Nat) (λx=>(.c 0 (.slice p l.length c) (.c 3 (.slice x.2.2.2.1 x.2.2.1 x.2.2.2.2) (.c 4 (.int .i64 (x.1:Int)) .n)))) (λx w=>SH B w (bS 2 (.slice x.2.2.2.1 x.2.2.1 x.2.2.2.2) x.2.2.1 (x.2.1.flatMap aR)::bS 2 (.slice p l.length c) l.length (l.flatMap aR)::L)/\(x.1<=l.length)/\(x.2.1.length=x.2.2.1)/\(x.2.1=Dv (l.take x.1))) (λx=>l.length-x.1) (0,[],0,none,0) ⟨rfl,rfl,rfl,trivial⟩ ⟨h,bZ _,rfl,rfl⟩ ?_
 rintro⟨k,out,n,q,cq⟩ w ⟨h,hk,hn,hW⟩
 dsimp only at *
 refine go h λw h=>?_
 refine qc h (λdF w h=>?_) λdF w h=>?_
 have xZ:=dH dF
 refine go h λw h=>?_
 have hb:=CH l k
 rw[<- hW]at hb
 subst hn
 obtain⟨b3,o4,rfl⟩:=h.fq a1 (by omega)
 refine fD [1,3,5,7,9,11,15,17,19,21,12,22,24] (by kernel_rfl) h (.c r1 .n) λw h=>go h λw h=>?_
 refine tk (λW H=>ld One.h rfl ((H.rr a0).x bJ (by decide) (by omega) ⟨.empty,0⟩ 0 _ rfl))<|go h λw h=>?_
 refine tk (λW H=>kB rfl ((H.rr a0).x bJ (by decide) (by omega) ⟨.empty,0⟩) Row.h)<|go h λw h=>?_
 refine LR (Ec _ _ _ _ h.to (by omega)) λq5 c6 w h=>?_
 have:=sI out ((l.getD k ⟨.empty,0⟩).key)
 refine LR (SR _ _ _ (l.getD k ⟨.empty,0⟩) h.to (by omega)) λq7 c8 w h=>?_
 have:=Jm (Ct.dA out ((l.getD k ⟨.empty,0⟩).key)) (l.getD k ⟨.empty,0⟩)
 refine go h λw h=>?_
 exact⟨(k+1,Ct.mK (Ct.dA out ((l.getD k ⟨.empty,0⟩).key)) (l.getD k ⟨.empty,0⟩),(Ct.mK (Ct.dA out ((l.getD k ⟨.empty,0⟩).key)) (l.getD k ⟨.empty,0⟩)).length,q7,c8),⟨rfl,rfl,rfl,trivial⟩,⟨h.to,by(try dsimp only);omega,rfl,by rw[hW];exact aJq (by omega)⟩,by(try dsimp only);omega⟩
 have CY:=dR dF
 refine go h λw h=>?_
 refine rz ?_
 have e1:out=Dv l:=by rw[hW,xW (by omega)]
 subst e1;subst hn
 exact⟨_,_,rfl,h⟩
end Go.Q9
end
section
namespace Go.Ct
abbrev eC:=Nat×Nat
def eA(b:eC)(i:Int):eC:=(b.1+1,b.2+i.toNat*64^b.1)
inductive dD where
 |root
 |fixed
 |main (b:eC)
 |prev (b:eC)
 |status
 deriving DecidableEq
structure Ga where
 nodes:List Node
 Ak:List eC
 ty:List dD
 ZB:List Int
 gen:Nat
 dec:Int->Prop
def Ga.st(g:Ga):St:={aG:=g.nodes,gen:=g.gen}
def Ga.node(g:Ga)(r:Int):Node:=g.st.node r
def Ga.label(g:Ga)(r:Int):eC:=g.Ak.getD (r.toNat-3) (0,0)
def Ga.count(g:Ga):Int:=2+g.nodes.length
def Ga.dZ(g:Ga)(c:Int):Option dD:=if c<1 then none else g.ty[c.toNat-1]?
def Ga.first(g:Ga)(c:Int):Int:=g.ZB.getD (c.toNat-1) 0
def fH(g:Ga)(r:Int)(b:eC):Prop:=(g.node r).kind=2/\g.label r=b
def mZ(g:Ga)(r:Int)(b:eC):Prop:=(g.node r).bG=true/\g.label r=b
def Ij(g:Ga)(r:Int)(b:eC):Prop:=(g.node r).kind=4/\(g.node r).hash%64^b.1=b.2
def KM(g:Ga)(r:Int)(b:eC):Prop:=(g.node r).kind=7/\g.label r=b
def wH(g:Ga)(r:Int):Prop:=(g.node r).kind=8
def mT(g:Ga)(c v:Int):dD->Prop
 |.root=>fH g v (0,0)\/wH g v
 |.fixed=>fH g v (0,0)
 |.main b=>mZ g v b
 |.prev b=>v=0\/(KM g v b/\(g.node v).dO=g.first c)\/(v=g.first c/\mZ g v b/\¬g.dec c)
 |.status=>v=0\/v=1\/v=2
def I2(g:Ga)(c v:Int):dD->Prop
 |.root=>fH g v (0,0)\/wH g v
 |.fixed=>fH g v (0,0)
 |.main b=>mZ g v b
 |.prev b=>(v=0/\g.dec (-c))\/(KM g v b/\(g.node v).dO=g.first c)\/(v=g.first c/\mZ g v b/\¬g.dec c)
 |.status=>v=0\/v=1\/v=2
def rU(g:Ga)(r:Int)(b:eC):Prop:=mZ g r b/\g.dec (-(g.node r).prev)
def ZE(g:Ga)(c o n:Int):dD->Prop
 |.root=>fH g n (0,0)\/wH g n
 |.fixed=>False
 |.main b=>mZ g n b
 |.prev b=>o≠0/\(n=0\/KM g n b/\(g.node n).dO=g.first c)
 |.status=>n=1\/n=2
structure bT(g:Ga)(n:Node)(b:eC):Prop where
 valid:n.valid=true
 fit:∃L,n.Fit L
 lo:2<=n.kind
 hi:n.kind<=8
 i:n.kind=2->n.gen<=g.gen/\b.1<=11
 c:n.kind=3->b.1<=10/\b.2<64^b.1/\∀k,(aB n k).2=true->fH g (aB n k).1 (eA b k)\/Ij g (aB n k).1 (eA b k)
 t:n.kind=5->1<=b.1/\n.hash%64^b.1=b.2
 l:n.kind=6->b.1=11/\n.hash%64^b.1=b.2
 f:n.kind=7->mZ g n.dO b
 d:n.kind=8->fH g n.dO (0,0)/\mZ g n.aS (0,0)/\fH g n.new (0,0)
def Node.gQ(n:Node)(b:eC):Option dD:=if n.kind=2 then some (.main b)else if n.bG=true then some (.prev b)else if n.kind=8 then some .status else none
def Node.cellOf(n:Node):Int:=n.main+n.prev+n.status
def Node.bD(n:Node):Bool:=n.kind==2||n.bG||n.kind==8
def oD(g:Ga)(n:Node)(i:Int)(b:eC):Prop:=(n.kind=2->mZ g i b)/\(n.bG=true->i=0\/rU g i b)/\(n.kind=8->i=0)
def Ga.zip(g:Ga):List (Node×eC):=g.nodes.zip g.Ak
structure GW(g:Ga):Prop where
 node:∀n∈g.zip,bT g n.1 n.2
 cell:∀n∈g.zip,∀τ,n.1.gQ n.2=some τ->g.dZ n.1.cellOf=some τ
 main:∀n∈g.zip,n.1.kind=2->n.1.cellOf=n.1.main
 prev:∀n∈g.zip,n.1.bG=true->n.1.cellOf=n.1.prev
 status:∀n∈g.zip,n.1.kind=8->n.1.cellOf=n.1.status
 sort:(g.nodes.filter Node.bD).Pairwise λa b=>a.cellOf<b.cellOf
 len:g.ZB.length=g.ty.length
 Ak:g.Ak.length=g.nodes.length
 DL:∀r b,mZ g r b->g.first (g.node r).prev≠0->rU g (g.first (g.node r).prev) b
structure Ge(g g':Ga):Prop where
 nodes:g.nodes<+:g'.nodes
 Ak:g.Ak<+:g'.Ak
 ty:g.ty<+:g'.ty
 ZB:g.ZB<+:g'.ZB
 gen:g.gen<=g'.gen
 dec:∀c,g.dec c->g'.dec c
 eq:g.Ak.length=g.nodes.length
theorem Ge.refl{g:Ga}(h:GW g):Ge g g:=⟨xI _,xI _,xI _,xI _,aW _,λ_ h=>h,h.Ak⟩
theorem Ge.trans{a b c:Ga}(h:Ge a b)(k:Ge b c):Ge a c:=⟨h.nodes.trans k.nodes,h.Ak.trans k.Ak,h.ty.trans k.ty,h.ZB.trans k.ZB,kR h.gen k.gen,λc hc=>k.dec c (h.dec c hc),h.eq⟩
theorem Dw{α:Type}{l l':List α}(h:l<+:l'){i:Nat}(hi:i<l.length)(d:α):l'.getD i d=l.getD i d:=by
 obtain⟨t,rfl⟩:=h
 rw[cK,cK,vS hi]
theorem uF(g:Ga)(r:Int):g.node r=if r<1\/((2+g.nodes.length:Nat):Int)<r then{}else if r<=2 then iH else g.nodes.getD (r.toNat-3) {}:=rfl
theorem Ge.node{g g':Ga}(h:Ge g g'){r:Int}(hr:r<=g.count):g'.node r=g.node r:=by
 have hl:=h.nodes.length_le
 unfold Ga.count at hr
 rw[uF,uF]
 by_cases h1:r<1
 ·rw[if_pos (.inl h1),if_pos (.inl h1)]
 ·rw[if_neg (show ¬(r<1\/((2+g'.nodes.length:Nat):Int)<r) by omega),if_neg (show ¬(r<1\/((2+g.nodes.length:Nat):Int)<r) by omega)]
  by_cases h2:r<=2
  ·rw[if_pos h2,if_pos h2]
  ·rw[if_neg h2,if_neg h2]
   exact Dw h.nodes (by omega) _
theorem Ge.label{g g':Ga}(h:Ge g g'){r:Int}(hr:r<=g.count)(h3:3<=r):g'.label r=g.label r:=by
 unfold Ga.count at hr
 unfold Ga.label
 exact Dw h.Ak (by rw[h.eq];omega) _
theorem WT{g:Ga}{r:Int}(h:g.count<r):g.node r={}:=by
 unfold Ga.count at h
 rw[uF,if_pos (.inr (by omega))]
theorem jU{g:Ga}{r:Int}(h:(g.node r).kind≠0):r<=g.count:=by
 rcases Int.lt_or_le g.count r with h1|h1
 ·rw[WT h1]at h;exact absurd rfl h
 ·exact h1
theorem wD{g:Ga}{r:Int}(h:(g.node r).kind≠0):1<=r:=by
 rcases Int.lt_or_le r 1 with h1|h1
 ·rw[uF,if_pos (.inl h1)]at h;exact absurd rfl h
 ·exact h1
theorem qH{g:Ga}{r:Int}(h:2<=(g.node r).kind):3<=r:=by
 have h0:=wD (g:=g) (r:=r) (by omega)
 have h1:=jU (g:=g) (r:=r) (by omega)
 unfold Ga.count at h1
 rw[uF,if_neg (by omega)]at h
 by_cases h2:r<=2
 ·rw[if_pos h2]at h;exact absurd h (by decide)
 ·omega
theorem nW{g:Ga}{r:Int}{b:eC}(h:mZ g r b):(g.node r).kind=3\/(g.node r).kind=5\/(g.node r).kind=6:=by
 have:=h.1;unfold Node.bG at this;simpa[or_assoc]using this
theorem fH.bX{g:Ga}{r:Int}{b:eC}(h:fH g r b):r<=g.count:=jU (by rw[h.1];decide)
theorem Ij.bX{g:Ga}{r:Int}{b:eC}(h:Ij g r b):r<=g.count:=jU (by rw[h.1];decide)
theorem KM.bX{g:Ga}{r:Int}{b:eC}(h:KM g r b):r<=g.count:=jU (by rw[h.1];decide)
theorem wH.bX{g:Ga}{r:Int}(h:wH g r):r<=g.count:=jU (by rw[show (g.node r).kind=8 from h];decide)
theorem mZ.bX{g:Ga}{r:Int}{b:eC}(h:mZ g r b):r<=g.count:=jU (by rcases nW h with h|h|h<;>rw[h]<;>decide)
theorem mZ.two{g:Ga}{r:Int}{b:eC}(h:mZ g r b):2<=(g.node r).kind:=by rcases nW h with h|h|h<;>rw[h]<;>decide
theorem fH.ge{g g':Ga}{r:Int}{b:eC}(h:fH g r b)(k:Ge g g'):fH g' r b:=by
 unfold fH;rw[k.node h.bX,k.label h.bX (qH (by rw[h.1];decide))];exact h
theorem Ij.ge{g g':Ga}{r:Int}{b:eC}(h:Ij g r b)(k:Ge g g'):Ij g' r b:=by unfold Ij;rw[k.node h.bX];exact h
theorem KM.ge{g g':Ga}{r:Int}{b:eC}(h:KM g r b)(k:Ge g g'):KM g' r b:=by
 unfold KM;rw[k.node h.bX,k.label h.bX (qH (by rw[h.1];decide))];exact h
theorem wH.ge{g g':Ga}{r:Int}(h:wH g r)(k:Ge g g'):wH g' r:=by unfold wH at *;rw[k.node (wH.bX h)];exact h
theorem mZ.ge{g g':Ga}{r:Int}{b:eC}(h:mZ g r b)(k:Ge g g'):mZ g' r b:=by
 unfold mZ;rw[k.node h.bX,k.label h.bX (qH h.two)];exact h
theorem rU.m{g:Ga}{r:Int}{b:eC}(h:rU g r b):mZ g r b:=h.1
instance {g:Ga}{r:Int}{b:eC}:CoeOut (rU g r b) (mZ g r b):=⟨λh=>h.1⟩
theorem rU.bX{g:Ga}{r:Int}{b:eC}(h:rU g r b):r<=g.count:=h.1.bX
theorem rU.ge{g g':Ga}{r:Int}{b:eC}(h:rU g r b)(k:Ge g g'):rU g' r b:=⟨h.1.ge k,by rw[k.node h.1.bX];exact k.dec _ h.2⟩
theorem Ge.dZ{g g':Ga}(h:Ge g g'){c:Int}{τ:dD}(hc:g.dZ c=some τ):g'.dZ c=some τ:=by
 unfold Ga.dZ at hc ⊢
 split at hc
 ·cases hc
 ·rename_i h1
  rw[if_neg h1]
  obtain⟨t,ht⟩:=h.ty
  rw[<- ht,vS (List.getElem?_eq_some_iff.1 hc).1];exact hc
theorem Ge.first{g g':Ga}(h:Ge g g')(hw:GW g){c:Int}{τ:dD}(hc:g.dZ c=some τ):g'.first c=g.first c:=by
 unfold Ga.dZ at hc
 split at hc
 ·cases hc
 ·have:=(List.getElem?_eq_some_iff.1 hc).1
  exact Dw h.ZB (by rw[hw.len];exact this) _
theorem Gv{g:Ga}(hw:GW g){r:Int}(h:2<=(g.node r).kind):(g.node r,g.label r)∈g.zip:=by
 have h0:=qH (g:=g) (r:=r) h
 have h1:=jU (g:=g) (r:=r) (by omega)
 have hl:=hw.Ak
 unfold Ga.count at h1
 rw[uF,if_neg (by omega),if_neg (by omega),cK,fV (by omega)]
 unfold Ga.label Ga.zip
 rw[cK,fV (by omega)]
 have hz:r.toNat-3<(g.nodes.zip g.Ak).length:=by rw[List.length_zip];omega
 have:=uY hz
 rw[List.getElem_zip]at this
 exact this
theorem GW.of{g:Ga}(h:GW g){r:Int}(hr:2<=(g.node r).kind):bT g (g.node r) (g.label r):=h.node _ (Gv h hr)
theorem GW.RJ{g:Ga}(h:GW g){r:Int}{b:eC}(hr:fH g r b):bT g (g.node r) b:=by rw[<- hr.2];exact h.of (by rw[hr.1];decide)
theorem GW.ofM{g:Ga}(h:GW g){r:Int}{b:eC}(hr:mZ g r b):bT g (g.node r) b:=by rw[<- hr.2];exact h.of hr.two
theorem GW.ofF{g:Ga}(h:GW g){r:Int}{b:eC}(hr:KM g r b):bT g (g.node r) b:=by rw[<- hr.2];exact h.of (by rw[hr.1];decide)
theorem GW.ofD{g:Ga}(h:GW g){r:Int}(hr:wH g r):bT g (g.node r) (g.label r):=h.of (by rw[show (g.node r).kind=8 from hr];decide)
theorem GW.ofS{g:Ga}(h:GW g){r:Int}{b:eC}(hr:Ij g r b):bT g (g.node r) (g.label r):=h.of (by rw[hr.1];decide)
theorem GW.fQ{g:Ga}(h:GW g){r:Int}{b:eC}(hr:fH g r b):g.dZ (g.node r).main=some (.main b):=by
 have hm:=Gv h (r:=r) (by rw[hr.1];decide)
 have:=h.cell _ hm (.main b) (by unfold Node.gQ;rw[if_pos hr.1,hr.2])
 rwa [h.main _ hm hr.1]at this
theorem GW.oH{g:Ga}(h:GW g){r:Int}{b:eC}(hr:mZ g r b):g.dZ (g.node r).prev=some (.prev b):=by
 have hk:=nW hr
 have hm:=Gv h (r:=r) hr.two
 have:=h.cell _ hm (.prev b) (by unfold Node.gQ;rw[if_neg (by show ¬(g.node r).kind=2;omega),if_pos hr.1,hr.2])
 rwa [h.prev _ hm hr.1]at this
theorem GW.uN{g:Ga}(h:GW g){r:Int}(hr:wH g r):g.dZ (g.node r).status=some .status:=by
 have hk:(g.node r).kind=8:=hr
 have hm:=Gv h (r:=r) (by omega)
 have:=h.cell _ hm .status (by unfold Node.gQ Node.bG;rw[if_neg (by show ¬(g.node r).kind=2;omega),if_neg (by show ¬_;rw[hk];decide),if_pos hk])
 rwa [h.status _ hm hk]at this
def Tk(g:Ga)(t:aX):Prop:=g.dZ t.root=some (bif t.readOnly then .fixed else .root)
theorem Tk.ge{g g':Ga}{t:aX}(h:Tk g t)(k:Ge g g'):Tk g' t:=k.dZ h
theorem Tk.root{g:Ga}{t:aX}(h:Tk g t)(hr:t.readOnly=false):g.dZ t.root=some .root:=by unfold Tk at h;rw[hr]at h;exact h
theorem Tk.fixed{g:Ga}{t:aX}(h:Tk g t)(hr:t.readOnly=true):g.dZ t.root=some .fixed:=by unfold Tk at h;rw[hr]at h;exact h
def Ga.cell(g:Ga)(τ:dD)(i:Int):Ga:={g with ty:=g.ty++[τ],ZB:=g.ZB++[i]}
def Ga.put(g:Ga)(n:Node)(b:eC):Ga:={g with nodes:=g.nodes++[n],Ak:=g.Ak++[b]}
def Ga.alloc(g:Ga)(n:Node)(i:Int)(b:eC):Ga:=
 if n.kind=2 then(g.cell (.main b) i).put {n.bare with main:=(g.ty.length:Int)+1} b
 else if n.bG=true then(g.cell (.prev b) i).put {n.bare with prev:=(g.ty.length:Int)+1} b
 else if n.kind=8 then(g.cell .status i).put {n.bare with status:=(g.ty.length:Int)+1} b
 else g.put n.bare b
def Ga.bL(g:Ga):Ga:={g with gen:=g.gen+1}
theorem Ef{n:Node}(h:n.valid=true):n.bare.valid=true:=by
 unfold Node.valid at h ⊢
 simp only[Node.bare,Node.only,gW]at h ⊢
 simp at h ⊢
 repeat' split at h
 all_goals simp_all
end Go.Ct
end
