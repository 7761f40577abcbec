/- Parts of a proof: Ayd, Nd. -/
import Derived.Test.YtnhdmcipglnkfaaGreatW19
set_option linter.unusedVariables false
set_option linter.unusedSimpArgs false
set_option maxRecDepth 100000
set_option maxHeartbeats 4000000
section
namespace Go.Q9
open Go.Proofs.Tryz
open Go.E
end Go.Q9
end
section
namespace Go.Ct
theorem d7{l:List bA}(hv:aU l=true){k:Nat}(h1:1<=k)(hk:k<l.length):(!Op.bytesLess (l.getD (k-1) ⟨.empty,0⟩).key.toList (l.getD k ⟨.empty,0⟩).key.toList)=false:=by
 have h:=Ka l hv (k-1) k (by omega) hk
 unfold dW kA at h
 rw[h];rfl
end Go.Ct
namespace Go.Q9
open Go.Proofs.Tryz
open Go.RowKit Go.E
attribute [local irreducible] gA wpS Go.E.X XS C kV lL fin Y U F Ca kU bl rb aV bS ex ce pu sK gK bK zK gG fE cZ gY mA
open Go.Ct (d7 Jk LL PI LA PS NY PL LV OT wQ qI iW)
variable{B w:World}{L:List As}
theorem LY(l:List Int)(pa pb:Option Addr)(ca cb:Nat)(h:SH B w (bS 1 (.slice pa l.length ca) l.length (l.map (Value.int .i64))::bS 1 (.slice pb l.length cb) l.length (l.map (Value.int .i64))::L))(hl:l.length<=1000000000000):
  Calls prog 200 #[.slice pa l.length ca,.slice pb l.length cb] w λe w'=>e=.returned ↑true/\SH B w' (bS 1 (.slice pa l.length ca) l.length (l.map (Value.int .i64))::bS 1 (.slice pb l.length cb) l.length (l.map (Value.int .i64))::L):=by
 refine cN func200 ntmps200 h λw h=>?_
 refine lp (α:=Nat) (λρ=>(.c 0 (.slice pa l.length ca) (.c 1 (.slice pb l.length cb) (.c 12 ↑(l.length:Int) (.c 13 (.int .i64 (ρ:Int)) .n))))) (λρ w=>SH B w (bS 1 (.slice pa l.length ca) l.length (l.map (Value.int .i64))::bS 1 (.slice pb l.length cb) l.length (l.map (Value.int .i64))::L)/\(ρ<=l.length)) (λρ=>l.length-ρ) 0 ⟨rfl,rfl,rfl,rfl,trivial⟩ ⟨h,bZ _⟩ ?_
 rintro k w ⟨h,hk⟩
 refine go h λw h=>?_
 refine qc h (λdF w h=>?_) λdF w h=>?_
 have xZ:=dH dF
 refine go h λw h=>?_
 obtain⟨b3,o4,rfl⟩:=h.fq a0 (by omega)
 obtain⟨b5,o6,rfl⟩:=h.fq a1 (by omega)
 refine fD [1,3,5,7,9,11,13,15,17] (by kernel_rfl) h (.c r0 (.c r0 .n)) λw h=>?_
 refine tk (λW H=>mv rfl)<|tk (λW H=>mv rfl)<|tk (λW H=>ix (j:=k) gN uM rfl rfl (by omega))<|tk (λW H=>ld jE rfl ((H.rr a0).i (by omega)))<|tk (λW H=>mv rfl)<|tk (λW H=>mv rfl)<|tk (λW H=>ix (j:=k) gN uM rfl rfl (by omega))<|tk (λW H=>ld jE rfl ((H.rr a1).i (by omega)))<|tk (λW H=>bi rfl rfl rfl)<|xz<|nx<|cf rfl (Bu _)<|sk<|bn<|nx<|rg<|st (bw rfl rfl (iR (c:=((k+1:Nat):Int)) (by omega) (by omega) (by omega)))<|st (mv rfl)<|xe<|nx<|?_
 refine go h λw h=>?_
 exact⟨(k+1),⟨rfl,rfl,rfl,rfl,trivial⟩,⟨h,by(try dsimp only);omega⟩,by(try dsimp only);omega⟩
 exact rz ⟨rfl,h⟩
theorem JI(l:List Ct.bA)(pa pb:Option Addr)(ca cb:Nat)(h:SH B w (bS 2 (.slice pa l.length ca) l.length (l.flatMap aR)::bS 2 (.slice pb l.length cb) l.length (l.flatMap aR)::L))(hl:l.length<=1000000000000):
  Calls prog 201 #[.slice pa l.length ca,.slice pb l.length cb] w λe w'=>e=.returned ↑true/\SH B w' (bS 2 (.slice pa l.length ca) l.length (l.flatMap aR)::bS 2 (.slice pb l.length cb) l.length (l.flatMap aR)::L):=by
 refine cN func201 ntmps201 h λw h=>?_
 refine lp (α:=Nat) (λρ=>(.c 0 (.slice pa l.length ca) (.c 1 (.slice pb l.length cb) (.c 12 ↑(l.length:Int) (.c 13 (.int .i64 (ρ:Int)) .n))))) (λρ w=>SH B w (bS 2 (.slice pa l.length ca) l.length (l.flatMap aR)::bS 2 (.slice pb l.length cb) l.length (l.flatMap aR)::L)/\(ρ<=l.length)) (λρ=>l.length-ρ) 0 ⟨rfl,rfl,rfl,rfl,trivial⟩ ⟨h,bZ _⟩ ?_
 rintro k w ⟨h,hk⟩
 refine go h λw h=>?_
 refine qc h (λdF w h=>?_) λdF w h=>?_
 have xZ:=dH dF
 refine go h λw h=>?_
 obtain⟨b3,o4,rfl⟩:=h.fq a0 (by omega)
 obtain⟨b5,o6,rfl⟩:=h.fq a1 (by omega)
 refine fD [1,3,5,7,9,11,13,15,17] (by kernel_rfl) h (.c r0 (.c r0 .n)) λw h=>go h λw h=>?_
 refine tk (λW H=>kB rfl ((H.rr a0).x bJ (by decide) (by omega) ⟨.empty,0⟩) Row.h)<|go h λw h=>?_
 refine tk (λW H=>kB rfl ((H.rr a1).x bJ (by decide) (by omega) ⟨.empty,0⟩) Row.h)<|tk (λW H=>aF5 g9 rfl rfl rfl rfl)<|go h λw h=>?_
 refine cf rfl (aBn (aBa _ _ _))<|go h λw h=>?_
 exact⟨(k+1),⟨rfl,rfl,rfl,rfl,trivial⟩,⟨h,by(try dsimp only);omega⟩,by(try dsimp only);omega⟩
 exact rz ⟨rfl,h⟩
theorem rW(l:List Ct.bA)(p:Option Addr)(c:Nat)(h:SH B w (bS 2 (.slice p l.length c) l.length (l.flatMap aR)::L))(hv:Ct.aU l=true)(hl:l.length<=1000000000000):
  Calls prog 162 #[.slice p l.length c] w λe w'=>e=.returned ↑true/\SH B w' (bS 2 (.slice p l.length c) l.length (l.flatMap aR)::L):=by
 refine cN func162 ntmps162 h λw h=>?_
 refine lp (α:=Nat) (λρ=>(.c 0 (.slice p l.length c) (.c 3 (.int .i64 (ρ:Int)) .n))) (λρ w=>SH B w (bS 2 (.slice p l.length c) l.length (l.flatMap aR)::L)/\(1<=ρ)) (λρ=>l.length-ρ) 1 ⟨rfl,rfl,trivial⟩ ⟨h,aW _⟩ ?_
 rintro k w ⟨h,h1⟩
 refine go h λw h=>?_
 refine qc h (λdF w h=>?_) λdF w h=>?_
 ·have xZ:=dH dF
  refine go h λw h=>?_
  obtain⟨b3,o4,rfl⟩:=h.fq a0 (by omega)
  refine fD [1,3,5,7,9,11,13,15,17,19,21,23] (by kernel_rfl) h (.c r0 .n) λw h=>go h λw h=>?_
  refine tk (λW H=>bs ((k-1:Nat):Int))<|go h λw h=>?_
  refine tk (λW H=>ld One.h rfl ((H.rr a0).x bJ (by decide) (by omega) ⟨.empty,0⟩ 0 _ rfl))<|go h λw h=>?_
  refine tk (λW H=>ld One.h rfl ((H.rr a0).x bJ (by decide) (by omega) ⟨.empty,0⟩ 0 _ rfl))<|go h λw h=>?_
  refine cf rfl (d7 hv h1 (by omega))<|go h λw h=>?_
  exact⟨(k+1),⟨rfl,rfl,trivial⟩,⟨h,by(try dsimp only);omega⟩,by(try dsimp only);omega⟩
 ·exact rz ⟨rfl,h⟩
section
attribute [local semireducible] gA wpS Go.E.X XS C kV lL fin Y U F Ca kU bl rb aV bS ex ce pu sK gK bK zK gG fE cZ gY mA
attribute [local irreducible] gA wpS
variable{B w:World}{L:List As}
theorem UO(l:List Ct.bA)(p:Option Addr)(c:Nat)(h:SH B w (bS 2 (.slice p l.length c) l.length (l.flatMap aR)::L))(hs:Ct.nA l=true)(hl:l.length<=1000000000000):
  Calls prog 163 #[.slice p l.length c] w λe w'=>e=.returned ↑true/\SH B w' (bS 2 (.slice p l.length c) l.length (l.flatMap aR)::L):=by
 refine Kk (args:=[_]) func163 rfl ntmps163 rfl ?_
 refine sq<|rg<|st (sg rfl)<|xe<|nx<|sq<|sq<|rg<|st (mv rfl)<|st (ln fB rfl rfl)<|st (mv rfl)<|xe<|nx<|bk<|?_
 refine lp (α:=Nat) (λρ=>(.c 5 (.slice p l.length c) (.c 6 ↑(l.length:Int) (.c 7 (.int .i64 (ρ:Int)) .n)))) (λρ w=>SH B w (bS 2 (.slice p l.length c) l.length (l.flatMap aR)::L)/\(ρ<=l.length)) (λρ=>l.length-ρ) 0 ⟨rfl,rfl,rfl,trivial⟩ ⟨h,bZ _⟩ ?_
 rintro k w ⟨h,hk⟩
 refine sq<|rg<|st (bi rfl rfl rfl)<|xe<|nx<|sq<|?_
 rcases dQ (decide (((k:Int):Int)<(l.length:Int)))with dF|dF
 ·have xZ:=dH dF
  refine ct rfl dF<|sk<|nx<|sq<|bk<|sq<|rg<|?_
  obtain⟨b3,o4,rfl⟩:=h.fq a0 (by omega)
  refine st (ix (j:=k) fB gR rfl rfl (by omega))<|st (kB rfl ((h.rr a0).x bJ (by decide) (by omega) ⟨.empty,0⟩) sO)<|sf (al h OM)<|?_
  rintro _ w ⟨b5,rfl,h⟩
  refine sf (so h rfl rfl rfl gR rfl (.r (.r .d)) u0)<|?_
  rintro _ w h
  refine xe<|nx<|sq<|rg<|st (fa Hq rfl)<|st (ld zH rfl (h.c a0 rfl))<|st (A9 AE rfl rfl)<|st (bi rfl rfl rfl)<|xe<|nx<|cf rfl (Jk hs (by omega))<|sk<|bn<|nx<|rg<|st (bw rfl rfl (iR (c:=((k+1:Nat):Int)) (by omega) (by omega) (by omega)))<|st (mv rfl)<|xe<|nx<|?_
  exact⟨(k+1),⟨rfl,rfl,rfl,trivial⟩,⟨h.drop,by(try dsimp only);omega⟩,by(try dsimp only);omega⟩
 ·refine cf rfl dF<|xt<|tx<|tx<|be<|nx<|sq<|rg<|st (sg rfl)<|xe<|nx<|rt<|?_
  refine rr (mC results163 rfl)<|⟨rfl,h⟩
end
variable{B w:World}{L:List As}
theorem AF(l:List Int)(p:Option Addr)(c:Nat)(h:SH B w (bS 1 (.slice p l.length c) l.length (l.map (Value.int .i64))::L))(hp:∀k,k<l.length->1<=l.getD k 0)(hl:l.length<=1000000000000):
  Calls prog 161 #[.slice p l.length c] w λe w'=>e=.returned ↑true/\SH B w' (bS 1 (.slice p l.length c) l.length (l.map (Value.int .i64))::L):=by
 refine cN func161 ntmps161 h λw h=>?_
 refine lp (α:=Nat) (λρ=>(.c 5 (.slice p l.length c) (.c 6 ↑(l.length:Int) (.c 7 (.int .i64 (ρ:Int)) .n)))) (λρ w=>SH B w (bS 1 (.slice p l.length c) l.length (l.map (Value.int .i64))::L)/\(ρ<=l.length)) (λρ=>l.length-ρ) 0 ⟨rfl,rfl,rfl,trivial⟩ ⟨h,bZ _⟩ ?_
 rintro k w ⟨h,hk⟩
 refine go h λw h=>?_
 refine qc h (λdF w h=>?_) λdF w h=>?_
 have xZ:=dH dF
 refine go h λw h=>?_
 obtain⟨b3,o4,rfl⟩:=h.fq a0 (by omega)
 refine go h λw h=>?_
 refine cf rfl (cI (by have:=hp k (by omega);omega))<|go h λw h=>?_
 exact⟨(k+1),⟨rfl,rfl,rfl,trivial⟩,⟨h,by(try dsimp only);omega⟩,by(try dsimp only);omega⟩
 have Vu:=dR dF
 refine go h λw h=>?_
 exact rz ⟨rfl,h⟩
theorem Z5(n:Ct.Node)(q:Lq)(h:SH B w (aL n q::L))(hk:1<=n.kind/\n.kind<=8):
  Calls prog 159 #[.agg (aK n q).toArray] w λe w'=>∃q',e=.returned (.agg (aK n.only q').toArray)/\SH B w' (aL n.only q'::aL n q::L):=by
 refine cN func159 ntmps159 h λw h=>?_
 refine jX h λb1 w h=>?_
 refine jA h λb2 w h=>?_
 refine jA h λb3 w h=>?_
 refine qc h (λeB w h=>?_) λeB w h=>?_
 have Vu:=eq_of_beq eB
 refine go h λw h=>?_
 refine fD [1,3,5,7,9,10,13,14] (by kernel_rfl) h (.c r2 .n) λw h=>go h λw h=>?_
 refine rr (cD rfl rfl (h.b a1) Row.h) ?_
 have e1:=PI n (by have:=eq_of_beq eB;omega)
 exact⟨{},by unfold aK;rw[e1];rfl,SH.KQ h.drop.drop.drop .z (.inr ⟨by rw[e1],rfl,rfl⟩) (.inr ⟨by rw[e1],rfl,rfl⟩)⟩
 have CX:=bM eB
 refine go h λw h=>?_
 refine qc h (λfF w h=>?_) λfF w h=>?_
 have Ua:=eq_of_beq fF
 refine go h λw h=>?_
 refine fD [1,3,5,7,9,11,13,14,17,18,21,22] (by kernel_rfl) h (.c r2 .n) λw h=>go h λw h=>?_
 refine rr (cD rfl rfl (h.b a1) Row.h) ?_
 have e1:=LA n (by have:=bM eB;have:=eq_of_beq fF;omega)
 exact⟨⟨q.pb,q.cb,none,0⟩,by unfold aK;rw[e1];rfl,SH.KQ h.drop.drop.drop .z (.inl ⟨by rw[e1],rfl,rfl⟩) (.inr ⟨by rw[e1],rfl,rfl⟩)⟩
 have CY:=bM fF
 refine go h λw h=>?_
 refine qc h (λdG w h=>?_) λdG w h=>?_
 have N8:=eq_of_beq dG
 refine go h λw h=>?_
 refine fD [1,3,5,7,9,11,13,14,17,18,21,22] (by kernel_rfl) h (.c r2 .n) λw h=>go h λw h=>?_
 refine rr (cD rfl rfl (h.b a1) Row.h) ?_
 have e1:=NY n (by have:=bM eB;have:=bM fF;have:=eq_of_beq dG;omega)
 exact⟨{},by unfold aK;rw[e1];rfl,SH.KQ h.drop.drop.drop .z (.inr ⟨by rw[e1],rfl,rfl⟩) (.inr ⟨by rw[e1],rfl,rfl⟩)⟩
 have QK:=bM dG
 refine go h λw h=>?_
 refine qc h (λeJ w h=>?_) λeJ w h=>?_
 have CW:=eq_of_beq eJ
 refine go h λw h=>?_
 refine fD [1,3,5,7,9,11,13,14,17,18,21,22] (by kernel_rfl) h (.c r2 .n) λw h=>go h λw h=>?_
 refine rr (cD rfl rfl (h.b a1) Row.h) ?_
 have e1:=PS n (by have:=bM eB;have:=bM fF;have:=bM dG;have:=eq_of_beq eJ;omega)
 exact⟨{},by unfold aK;rw[e1];rfl,SH.KQ h.drop.drop.drop .z (.inr ⟨by rw[e1],rfl,rfl⟩) (.inr ⟨by rw[e1],rfl,rfl⟩)⟩
 have JS:=bM eJ
 refine go h λw h=>?_
 refine qc h (λAb w h=>?_) λAb w h=>?_
 have aFg:=eq_of_beq Ab
 refine go h λw h=>?_
 refine fD [1,3,5,7,9,11,13,14,17,18,21,22] (by kernel_rfl) h (.c r2 .n) λw h=>go h λw h=>?_
 refine rr (cD rfl rfl (h.b a1) Row.h) ?_
 have e1:=PL n (by have:=bM eB;have:=bM fF;have:=bM dG;have:=bM eJ;have:=eq_of_beq Ab;omega)
 exact⟨⟨none,0,q.pp,q.cp⟩,by unfold aK;rw[e1];rfl,SH.KQ h.drop.drop.drop .z (.inr ⟨by rw[e1],rfl,rfl⟩) (.inl ⟨by rw[e1],rfl,rfl⟩)⟩
 have N0:=bM Ab
 refine go h λw h=>?_
 refine qc h (λiM w h=>?_) λiM w h=>?_
 have YK:=eq_of_beq iM
 refine go h λw h=>?_
 refine fD [1,3,5,7,9,11,13,14,17,18,21,22] (by kernel_rfl) h (.c r2 .n) λw h=>go h λw h=>?_
 refine rr (cD rfl rfl (h.b a1) Row.h) ?_
 have e1:=OT n (by have:=bM eB;have:=bM fF;have:=bM dG;have:=bM eJ;have:=bM Ab;have:=eq_of_beq iM;omega)
 exact⟨{},by unfold aK;rw[e1];rfl,SH.KQ h.drop.drop.drop .z (.inr ⟨by rw[e1],rfl,rfl⟩) (.inr ⟨by rw[e1],rfl,rfl⟩)⟩
 have QM:=bM iM
 refine go h λw h=>?_
 refine qc h (λmW w h=>?_) λmW w h=>?_
 have aAp:=eq_of_beq mW
 refine go h λw h=>?_
 refine rr (cD rfl rfl (h.b a1) Row.h) ?_
 have e1:=LV n (by have:=bM eB;have:=bM fF;have:=bM dG;have:=bM eJ;have:=bM Ab;have:=bM iM;have:=eq_of_beq mW;omega)
 exact⟨{},by unfold aK;rw[e1];rfl,SH.KQ h.drop.drop.drop .z (.inr ⟨by rw[e1],rfl,rfl⟩) (.inr ⟨by rw[e1],rfl,rfl⟩)⟩
 have aAn:=bM mW
 refine go h λw h=>?_
 refine rr (cD rfl rfl (h.b a1) Row.h) ?_
 have e1:=LL n (by have:=bM eB;have:=bM fF;have:=bM dG;have:=bM eJ;have:=bM Ab;have:=bM iM;have:=bM mW;omega)
 exact⟨{},by unfold aK;rw[e1];rfl,SH.KQ h.drop.drop.drop .z (.inr ⟨by rw[e1],rfl,rfl⟩) (.inr ⟨by rw[e1],rfl,rfl⟩)⟩
theorem aJb(n:Ct.Node)(q:Lq)(hv:n.valid=true)(h:SH B w (aL n q::L)):
  Calls prog 159 #[.agg (aK n q).toArray] w λe w'=>∃q',e=.returned (.agg (aK n q').toArray)/\SH B w' (aL n q'::aL n q::L):=by
 have e1:=wQ hv
 refine(Z5 n q h (qI hv)).mono λe w'=>?_
 rw[<- e1];exact id
theorem MH(n:Ct.Node)(q1 q2:Lq)(h:SH B w (aL n q1::aL n q2::L))(hb:n.aA.length<=1000000000000)(hp:n.aH.length<=1000000000000):
  Calls prog 158 #[.agg (aK n q1).toArray,.agg (aK n q2).toArray] w λe w'=>e=.returned ↑true/\SH B w' (aL n q1::aL n q2::L):=by
 refine cN func158 ntmps158 h λw h=>?_
 refine jX h λb1 w h=>?_
 refine jX h λb2 w h=>?_
 have h:=h.fr (.c r2 .n)
 have h:=SH.se (l:=[bE n q1,cP n q1]) h
 have h:=h.fr (.c r4 .n)
 have h:=SH.se (l:=[bE n q2,cP n q2]) h
 refine go h λw h=>?_
 refine bQ (LY _ _ _ _ _ h.to (by omega)) λw h=>?_
 refine bQ (JI _ _ _ _ _ h.to (by omega)) λw h=>?_
 refine rz ?_
 have h:=((h.fr (.c r4 (.c r4 .n))).drop.drop.fr (.c r3 (.c r1 (.c r1 (.c r0 .n)))))
 have h:=SH.is (l:=[bE n q2,cP n q2]) h
 have h:=h.fr (.c r1 (.c r1 .n))
 exact⟨by rw[(Bw _)],SH.is (l:=[bE n q1,cP n q1]) h⟩
section
attribute [local semireducible] gA wpS Go.E.X XS C kV lL fin Y U F Ca kU bl rb aV bS ex ce pu sK gK bK zK gG fE cZ gY mA
attribute [local irreducible] gA wpS
variable{B w:World}{L:List As}
theorem Ea(n:Ct.Node)(pb:Option Addr)(cb:Nat)(pp:Option Addr)(cp:Nat)(h:SH B w (aL n (⟨pb,cb,pp,cp⟩)::L))(hv:n.valid=true)(hb:n.aA.length<=1000000)(hp:n.aH.length<=1000000000000)(hm:n.aC<18446744073709551616):
  Calls prog 104 #[.agg (aK n (⟨pb,cb,pp,cp⟩)).toArray] w λe w'=>e=.returned ↑true/\SH B w' (aL n ⟨pb,cb,pp,cp⟩::L):=by
 have vf:=iW hv
 have vf_kind:=vf.kind
 have vf_main:=vf.main
 have vf_prev:=vf.prev
 have vf_status:=vf.status
 have vf_gen:=vf.gen
 have vf_key:=vf.key
 have vf_pairs:=vf.aH
 have vf_old:=vf.dO
 have vf_desc:=vf.desc
 have hk1:=qI hv
 refine Kk (args:=[_]) func104 rfl ntmps104 rfl ?_
 refine sq<|rg<|sf (bx h rfl rfl)<|?_
 rintro _ w ⟨b1,rfl,h⟩
 refine st (sg rfl)<|xe<|nx<|sq<|sq<|fD [1,3,4,6,9] (by kernel_rfl) h (.c r0 .n) λw h=>tk (λW H=>kB rfl (eH (H.b a0)) iK)<|tk (λW H=>kB rfl (eH (H.b a0)) iK)<|cs (ca eF rfl) ((aJb n (⟨pb,cb,pp,cp⟩) hv (h.fr (.c r1 .n))).mono ?_)
 rintro _ w ⟨q2,rfl,h⟩
 refine⟨_,rfl,h.hs (.c r2 .n),?_⟩
 refine cs (ca eF rfl) ((MH n _ _ (h.fr (.c r1 (.c r0 .n))) (by omega) (by omega)).mono ?_)
 rintro _ w ⟨rfl,h⟩
 refine⟨_,rfl,h.hs (.c r2 .n),?_⟩
 refine tk (λW H=>nt rfl)<|xz<|nx<|cF rfl<|sk<|nx<|sq<|sq<|?_
 have h:SH B w (bS 1 (.slice pb n.aA.length cb) n.aA.length (n.aA.map (Value.int .i64))::bS 2 (.slice pp n.aH.length cp) n.aH.length (n.aH.flatMap aR)::aL n q2::bl b1 (aK n (⟨pb,cb,pp,cp⟩)) 53::L):=SH.se (l:=[bE n (⟨pb,cb,pp,cp⟩),cP n (⟨pb,cb,pp,cp⟩)]) h
 refine rg<|st (fa Bh rfl)<|st (ld Ed rfl (h.c a3 rfl))<|st (bi rfl rfl rfl)<|st (mv rfl)<|gT rfl rfl (cI (by omega))<|st (fa uK rfl)<|gT rfl rfl (cI (by omega))<|st (ld Ed rfl (h.c a3 rfl))<|gT rfl rfl (cI (by omega))<|st (bi rfl rfl rfl)<|st (pF rfl (cI (by omega)) rfl)<|st (mv rfl)<|gT rfl rfl (cI (by omega))<|st (fa vN rfl)<|gT rfl rfl (cI (by omega))<|st (ld Ed rfl (h.c a3 rfl))<|gT rfl rfl (cI (by omega))<|st (bi rfl rfl rfl)<|st (pF rfl (cI (by omega)) rfl)<|xe<|nx<|cf rfl (cI (by omega))<|sk<|nx<|sq<|sq<|rg<|st (fa uH rfl)<|st (ld jZ rfl (h.c a3 rfl))<|xe<|nx<|bk<|sq<|bk<|sq<|bk<|sq<|bk<|sq<|bk<|bk<|sq<|bk<|sq<|bk<|sq<|bk<|sq<|sq<|sq<|rg<|st (bi rfl rfl rfl)<|st (sg rfl)<|xe<|nx<|?_
 rcases dQ ((n.kind:Int)==1)with cJ|cJ
 ·have Tv:=eq_of_beq cJ
  refine ct rfl cJ<|xt<|tx<|tx<|be<|nx<|sq<|sq<|rg<|st (sg rfl)<|xe<|nx<|rt<|tr<|bt<|tr<|bt<|tr<|bt<|bt<|tr<|bt<|tr<|bt<|tr<|bt<|tr<|bt<|tr<|?_
  refine rr (mC results104 rfl)<|?_
  exact⟨rfl,SH.is (l:=[bE n ⟨pb,cb,pp,cp⟩,cP n ⟨pb,cb,pp,cp⟩]) (h.fr (.c r2 (.c r2 .n))).drop.drop⟩
 ·have Vu:=bM cJ
  refine cf rfl cJ<|sk<|nx<|sq<|sq<|rg<|st (bi rfl rfl rfl)<|st (sg rfl)<|xe<|nx<|?_
  rcases dQ ((n.kind:Int)==2)with dJ|dJ
  ·have El:=eq_of_beq dJ
   refine ct rfl dJ<|xt<|tx<|tx<|bo rfl<|tx<|be<|nx<|sq<|sq<|rg<|st (fa RB rfl)<|st (ld jZ rfl (h.c a3 rfl))<|st (bi rfl rfl rfl)<|st (sg rfl)<|xe<|nx<|rt<|tr<|bt<|tr<|bt<|bt<|tr<|bt<|tr<|bt<|tr<|bt<|tr<|bt<|tr<|?_
   refine rr (mC results104 rfl)<|?_
   exact⟨by rw[show (decide ((n.gen:Int)>=1))=true from gM (by omega)],SH.is (l:=[bE n ⟨pb,cb,pp,cp⟩,cP n ⟨pb,cb,pp,cp⟩]) (h.fr (.c r2 (.c r2 .n))).drop.drop⟩
  ·have Ua:=bM dJ
   refine cf rfl dJ<|sk<|nx<|sq<|sq<|rg<|st (bi rfl rfl rfl)<|st (sg rfl)<|xe<|nx<|?_
   rcases dQ ((n.kind:Int)==3)with wE|wE
   ·have L7:=eq_of_beq wE
    refine ct rfl wE<|xt<|tx<|tx<|bo rfl<|tx<|bo rfl<|tx<|be<|nx<|sq<|sq<|fD [1,3,5,7,9,10,13,15,17,19,20,23,24] (by kernel_rfl) h (.c r3 .n) λw h=>tk (λW H=>fa nE rfl)<|tk (λW H=>ld kZ rfl (H.c a0 rfl))<|tk (λW H=>ln gN rfl rfl)<|tk (λW H=>fa pE rfl)<|tk (λW H=>ld qD rfl (H.c a0 rfl))<|cs (ca eF rfl) ((Im n.aC (by omega) _).mono ?_)
    rintro _ _ ⟨rfl,rfl⟩
    refine⟨_,rfl,h.hs (.c r3 .n),?_⟩
    refine tk (λW H=>bi rfl rfl rfl)<|tk (λW H=>mv rfl)<|uZ rfl rfl (beq_iff_eq.2 (by have:=vf.count (by omega);omega))<|tk (λW H=>fa nE rfl)<|uZ rfl rfl (beq_iff_eq.2 (by have:=vf.count (by omega);omega))<|tk (λW H=>ld kZ rfl (H.c a0 rfl))<|uZ rfl rfl (beq_iff_eq.2 (by have:=vf.count (by omega);omega))<|cs (ca eF rfl) ((AF n.aA _ _ (h.fr (.c r0 .n)) (vf.branch (by omega)) (by omega)).mono ?_)
    rintro _ w ⟨rfl,h⟩
    refine⟨_,rfl,h.hs (.c r3 .n),?_⟩
    refine tk (λW H=>pT rfl (beq_iff_eq.2 (by have:=vf.count (by omega);omega)) rfl)<|ef (sg rfl) (h.hs (.c r3 .n))<|xz<|nx<|rt<|tr<|bt<|bt<|tr<|bt<|tr<|bt<|tr<|bt<|tr<|bt<|tr<|?_
    refine rr (mC results104 rfl)<|?_
    exact⟨rfl,SH.is (l:=[bE n ⟨pb,cb,pp,cp⟩,cP n ⟨pb,cb,pp,cp⟩]) (h.fr (.c r2 (.c r2 .n))).drop.drop⟩
   ·have N8:=bM wE
    refine cf rfl wE<|sk<|nx<|sq<|sq<|rg<|st (bi rfl rfl rfl)<|st (sg rfl)<|xe<|nx<|?_
    rcases dQ ((n.kind:Int)==4)with fO|fO
    ·have N2:=eq_of_beq fO
     refine ct rfl fO<|xt<|tx<|tx<|bo rfl<|tx<|bo rfl<|tx<|bo rfl<|tx<|be<|bn<|nx<|sq<|sq<|rg<|st (fa Fu rfl)<|st (ld zH rfl (h.c a3 rfl))<|st (A9 AE rfl rfl)<|st (bi rfl rfl rfl)<|st (sg rfl)<|xe<|nx<|rt<|tr<|bt<|tr<|bt<|tr<|bt<|tr<|bt<|tr<|?_
     refine rr (mC results104 rfl)<|?_
     exact⟨by rw[show (decide (((n.key.size:Int):Int)<=64))=true from gM (by omega)],SH.is (l:=[bE n ⟨pb,cb,pp,cp⟩,cP n ⟨pb,cb,pp,cp⟩]) (h.fr (.c r2 (.c r2 .n))).drop.drop⟩
    ·have CW:=bM fO
     refine cf rfl fO<|sk<|nx<|sq<|sq<|rg<|st (bi rfl rfl rfl)<|st (sg rfl)<|xe<|nx<|?_
     rcases dQ ((n.kind:Int)==5)with jI|jI
     ·have JW:=eq_of_beq jI
      refine ct rfl jI<|xt<|tx<|tx<|bo rfl<|tx<|bo rfl<|tx<|bo rfl<|tx<|bo rfl<|be<|nx<|sq<|sq<|rg<|st (fa Fu rfl)<|st (ld zH rfl (h.c a3 rfl))<|st (A9 AE rfl rfl)<|st (bi rfl rfl rfl)<|st (sg rfl)<|xe<|nx<|rt<|tr<|bt<|tr<|bt<|tr<|bt<|tr<|bt<|tr<|?_
      refine rr (mC results104 rfl)<|?_
      exact⟨by rw[show (decide (((n.key.size:Int):Int)<=64))=true from gM (by omega)],SH.is (l:=[bE n ⟨pb,cb,pp,cp⟩,cP n ⟨pb,cb,pp,cp⟩]) (h.fr (.c r2 (.c r2 .n))).drop.drop⟩
     ·have aFg:=bM jI
      refine cf rfl jI<|sk<|nx<|sq<|sq<|rg<|st (bi rfl rfl rfl)<|st (sg rfl)<|xe<|nx<|?_
      rcases dQ ((n.kind:Int)==6)with jJ|jJ
      ·have aAt:=eq_of_beq jJ
       refine ct rfl jJ<|xt<|tx<|tx<|bo rfl<|tx<|bo rfl<|tx<|bo rfl<|tx<|bo rfl<|bo rfl<|tx<|be<|nx<|sq<|sq<|rg<|st (fa qX rfl)<|st (ld wN rfl (h.c a3 rfl))<|st (ln fB rfl rfl)<|st (bi rfl rfl rfl)<|st (mv rfl)<|gT rfl rfl (gM (by omega))<|st (fa qX rfl)<|gT rfl rfl (gM (by omega))<|st (ld wN rfl (h.c a3 rfl))<|gT rfl rfl (gM (by omega))<|cl (ca eF rfl) ((rW n.aH _ _ (h.fr (.c r1 .n)) (vf.pJ (by omega)) (by omega)).mono ?_)
       rintro _ w ⟨rfl,h⟩
       refine⟨_,rfl,?_⟩
       refine st (pT rfl (gM (by omega)) rfl)<|st (mv rfl)<|gT rfl rfl rfl<|st (fa qX rfl)<|gT rfl rfl rfl<|st (ld wN rfl (h.c a3 rfl))<|gT rfl rfl rfl<|cl (ca eF rfl) ((UO n.aH _ _ (h.fr (.c r0 .n)) (vf.short (by omega)) (by omega)).mono ?_)
       rintro _ w ⟨rfl,h⟩
       refine⟨_,rfl,?_⟩
       refine st (pT rfl rfl rfl)<|st (sg rfl)<|xe<|nx<|rt<|tr<|bt<|tr<|bt<|tr<|bt<|tr<|?_
       refine rr (mC results104 rfl)<|?_
       exact⟨rfl,SH.is (l:=[bE n ⟨pb,cb,pp,cp⟩,cP n ⟨pb,cb,pp,cp⟩]) ((h.fr (.c r2 (.c r2 .n))).drop.drop.fr (.c r1 (.c r0 .n)))⟩
      ·have YK:=bM jJ
       refine cf rfl jJ<|sk<|nx<|sq<|sq<|rg<|st (bi rfl rfl rfl)<|st (sg rfl)<|xe<|nx<|?_
       rcases dQ ((n.kind:Int)==8)with nX|nX
       ·have L5:=eq_of_beq nX
        refine ct rfl nX<|xt<|tx<|tx<|bo rfl<|tx<|bo rfl<|tx<|bo rfl<|tx<|bo rfl<|bo rfl<|tx<|bo rfl<|tx<|be<|nx<|sq<|rg<|st (fa IT rfl)<|st (ld jE rfl (h.c a3 rfl))<|st (bi rfl rfl rfl)<|st (mv rfl)<|gT rfl rfl (cI (by omega))<|st (fa GH rfl)<|gT rfl rfl (cI (by omega))<|st (ld jE rfl (h.c a3 rfl))<|gT rfl rfl (cI (by omega))<|st (bi rfl rfl rfl)<|st (pF rfl (cI (by omega)) rfl)<|xe<|nx<|cf rfl (cI (by omega))<|sk<|bn<|nx<|sq<|sq<|rg<|st (fa Gy rfl)<|st (ld jE rfl (h.c a3 rfl))<|st (bi rfl rfl rfl)<|st (sg rfl)<|xe<|nx<|rt<|tr<|bt<|tr<|?_
        refine rr (mC results104 rfl)<|?_
        exact⟨by rw[show (decide ((n.dO:Int)>=1))=true from gM (by omega)],SH.is (l:=[bE n ⟨pb,cb,pp,cp⟩,cP n ⟨pb,cb,pp,cp⟩]) (h.fr (.c r2 (.c r2 .n))).drop.drop⟩
       ·have aAp:=bM nX
        refine cf rfl nX<|sk<|nx<|sq<|rg<|st (bi rfl rfl rfl)<|st (sg rfl)<|xe<|nx<|?_
        rcases dQ ((n.kind:Int)==7)with rY|rY
        ·have YV:=eq_of_beq rY
         refine ct rfl rY<|xt<|tx<|bo rfl<|tx<|bo rfl<|tx<|bo rfl<|tx<|bo rfl<|bo rfl<|tx<|bo rfl<|tx<|bo rfl<|tx<|be<|nx<|sq<|sq<|rg<|st (fa Gy rfl)<|st (ld jE rfl (h.c a3 rfl))<|st (bi rfl rfl rfl)<|st (sg rfl)<|xe<|nx<|rt<|tr<|bt<|tr<|?_
         refine rr (mC results104 rfl)<|?_
         exact⟨by rw[show (decide ((n.dO:Int)>=1))=true from gM (by omega)],SH.is (l:=[bE n ⟨pb,cb,pp,cp⟩,cP n ⟨pb,cb,pp,cp⟩]) (h.fr (.c r2 (.c r2 .n))).drop.drop⟩
        ·have aOl:=bM rY
         refine cf rfl rY<|sk<|nx<|xt<|bo rfl<|tx<|bo rfl<|tx<|bo rfl<|tx<|bo rfl<|bo rfl<|tx<|bo rfl<|tx<|bo rfl<|tx<|bo rfl<|tx<|be<|nx<|sq<|rg<|st (sg rfl)<|xe<|nx<|rt<|?_
         refine rr (mC results104 rfl)<|?_
         exact absurd hk1 (by have:=bM cJ;have:=bM dJ;have:=bM wE;have:=bM fO;have:=bM jI;have:=bM jJ;have:=bM nX;have:=bM rY;omega)
end
end Go.Q9
end
