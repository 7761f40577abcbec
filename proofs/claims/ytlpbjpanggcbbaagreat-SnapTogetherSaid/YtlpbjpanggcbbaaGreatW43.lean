/- Parts of a proof: Pz4, Ays. -/
import Derived.Test.YtlpbjpanggcbbaaGreatW42
set_option linter.unusedVariables false
set_option linter.unusedSimpArgs false
set_option maxRecDepth 100000
set_option maxHeartbeats 4000000
section
namespace Go.Q9
open Go.Proofs.Tryz
open Go.RowKit Go.E Go.Ct
attribute [local irreducible] gB wpS Go.E.X XS C jU kP fin Y U F Ca jT bl rb aU bV ex ce pu sK gK bK zK gM fO dH gP nE
variable{B w:World}{L:List As}
theorem KB(a b:Ct.bN)(h:SH B w (L)):
  Calls prog 311 #[.agg (aR a).toArray,.agg (aR b).toArray] w λe w'=>e=.returned (.int .i64 (Lib.compareBytes a.key.data.toList b.key.data.toList))/\SH B w' L:=by
 refine bZ func311 ntmps311 h λw h=>?_
 refine jX h λb1 w h=>?_
 refine jX h λb2 w h=>?_
 refine cl (ca eF rfl) ((Ey a.key b.key _).mono ?_)
 rintro _ _ ⟨rfl,rfl⟩
 refine⟨_,rfl,?_⟩
 refine st (sg rfl)<|xe<|nx<|rt<|?_
 refine go h λw h=>?_
 exact rz ⟨rfl,h.drop.drop⟩
def M0(a b:Ct.bN):Nat->List Ct.bN|1=>[a,b]|_=>Ct.gG a b
def O4(a b:Ct.bN):Nat->List Ct.bN|1=>[a,b]|_=>[b,a]
theorem NL{a b:Ct.bN}(h:Ct.dM b.key a.key=true):Ct.gG a b=[b,a]:=by unfold Ct.gG;rw[if_pos h]
theorem RO{a b:Ct.bN}(h:Ct.dM b.key a.key=false):Ct.gG a b=[a,b]:=by unfold Ct.gG;rw[if_neg (by simp[h])]
theorem JK(a b:Ct.bN)(h:SH B w L):Calls prog 311 #[.agg (aR a).toArray,.agg (aR b).toArray] w λe w'=>e=.returned (.int .i64 (Lib.compareBytes a.key.data.toList b.key.data.toList))/\SH B w' L:=KB a b h
section
attribute [local semireducible] gB wpS Go.E.X XS C jU kP fin Y U F Ca jT bl rb aU bV ex ce pu sK gK bK zK gM fO dH gP nE
attribute [local irreducible] gB wpS
variable{B w:World}{L:List As}
theorem BS(a b:Ct.bN)(lb:Nat)(h:SH B w (aU 122 2 (.slice (some ⟨lb,0,none⟩) 2 2) 2 (([a,b]).flatMap aR)::L)):
  Calls prog 313 #[.slice (some ⟨lb,0,none⟩) 2 2,.int .i64 0,.int .i64 2,.func (.func 311) [].toArray [].toArray] w λe w'=>e=.returned (.tuple #[])/\SH B w' (aU 122 2 (.slice (some ⟨lb,0,none⟩) 2 2) 2 ((Ct.gG a b).flatMap aR)::L):=by
 refine Ea (args:=[_,_,_,_]) func313 rfl ntmps313 rfl ?_
 refine sq<|rg<|st (mv rfl)<|st (bw rfl rfl (gN (c:=1) (by omega) (by omega) (by omega)))<|st (sg rfl)<|xe<|nx<|bk<|?_
 refine lp (α:=Nat) (λρ=>(.c 0 (.slice (some ⟨lb,0,none⟩) 2 2) (.c 1 (.int .i64 0) (.c 2 (.int .i64 2) (.c 3 (.func (.func 311) [].toArray [].toArray) (.c 8 (.int .i64 (ρ:Int)) .n)))))) (λρ w=>SH B w (aU 122 2 (.slice (some ⟨lb,0,none⟩) 2 2) 2 ((M0 a b ρ).flatMap aR)::L)/\(1<=ρ)/\(ρ<=2)) (λρ=>2-ρ) 1 ⟨rfl,rfl,rfl,rfl,rfl,trivial⟩ ⟨h,(by decide),(by decide)⟩ ?_
 rintro i w ⟨h,hi1,hi2⟩
 rcases(show i=1\/i=2 by omega)with rfl|rfl
 ·have h:SH B w (aU 122 2 (.slice (some ⟨lb,0,none⟩) 2 2) 2 (([a,b]).flatMap aR)::L):=h
  refine sq<|sq<|rg<|st (mv rfl)<|st (mv rfl)<|st (bi rfl rfl rfl)<|xe<|nx<|cT rfl<|sk<|nx<|sq<|bk<|sq<|rg<|st (mv rfl)<|st (sg rfl)<|xe<|nx<|bk<|?_
  refine lp (α:=Nat) (λρ=>(.c 0 (.slice (some ⟨lb,0,none⟩) 2 2) (.c 1 (.int .i64 0) (.c 2 (.int .i64 2) (.c 3 (.func (.func 311) [].toArray [].toArray) (.c 8 (.int .i64 1) (.c 9 (.int .i64 (ρ:Int)) .n))))))) (λρ w=>SH B w (aU 122 2 (.slice (some ⟨lb,0,none⟩) 2 2) 2 ((O4 a b ρ).flatMap aR)::L)/\(ρ<=1)/\(ρ=0->Ct.dM b.key a.key=true)) (λρ=>ρ) 1 ⟨rfl,rfl,rfl,rfl,rfl,rfl,trivial⟩ ⟨h,(by decide),(λq=>absurd q (by decide))⟩ ?_
  rintro j w ⟨h,hj,hk⟩
  rcases(show j=0\/j=1 by omega)with rfl|rfl
  ·have h:SH B w (aU 122 2 (.slice (some ⟨lb,0,none⟩) 2 2) 2 (([b,a]).flatMap aR)::L):=h
   refine sq<|sq<|dZ [1,3,5,7,9,11,13,15,17,19,21,23,25,27,28,31,33] (by kernel_rfl) h .n λw h=>tk (λW H=>mv rfl)<|tk (λW H=>mv rfl)<|tk (λW H=>bi rfl rfl rfl)<|tk (λW H=>mv rfl)<|Ez rfl rfl rfl<|Ez rfl rfl rfl<|Ez rfl rfl rfl<|Ez rfl rfl rfl<|Ez rfl rfl rfl<|Ez rfl rfl rfl<|Ez rfl rfl rfl<|Ez rfl rfl rfl<|Ez rfl rfl rfl<|Ez rfl rfl rfl<|Ez rfl rfl rfl<|Ez rfl rfl rfl<|tk (λW H=>pF rfl rfl rfl)<|xz<|nx<|cF rfl<|xt<|tx<|tx<|be<|bn<|nx<|rg<|st (mv rfl)<|st (bw rfl rfl (gN (c:=2) (by omega) (by omega) (by omega)))<|st (sg rfl)<|xe<|nx<|?_
   rw[<- NL (hk rfl)]at h
   exact⟨(2),⟨rfl,rfl,rfl,rfl,rfl,trivial⟩,⟨h,by(try dsimp only);omega,by(try dsimp only);omega⟩,by(try dsimp only);omega⟩
  ·have h:SH B w (aU 122 2 (.slice (some ⟨lb,0,none⟩) 2 2) 2 (([a,b]).flatMap aR)::L):=h
   refine sq<|sq<|dZ [1,3,5,7,9,11,13,15,17,19,21,23,25,27,28,31,33] (by kernel_rfl) h (.c r0 .n) λw h=>tk (λW H=>mv rfl)<|tk (λW H=>mv rfl)<|tk (λW H=>bi rfl rfl rfl)<|tk (λW H=>mv rfl)<|oX rfl rfl rfl<|tk (λW H=>mv rfl)<|oX rfl rfl rfl<|tk (λW H=>mv rfl)<|oX rfl rfl rfl<|tk (λW H=>mv rfl)<|oX rfl rfl rfl<|tk (λW H=>ix (j:=1) eX oB rfl rfl (by omega))<|oX rfl rfl rfl<|tk (λW H=>gJ rfl ((H.ro a0).x bH (by decide) (j:=1) (by omega) ⟨.empty,0⟩) eQ)<|oX rfl rfl rfl<|tk (λW H=>mv rfl)<|oX rfl rfl rfl<|tk (λW H=>mv rfl)<|oX rfl rfl rfl<|tk (λW H=>bw rfl rfl (zW (c:=0) (by omega) (by omega) (by omega)))<|oX rfl rfl rfl<|tk (λW H=>ix (j:=0) eX oB rfl rfl (by omega))<|oX rfl rfl rfl<|tk (λW H=>gJ rfl ((H.ro a0).x bH (by decide) (j:=0) (by omega) ⟨.empty,0⟩) eQ)<|oX rfl rfl rfl<|cs (T4 eF rfl rfl) ((JK (([a,b]).getD 1 ⟨.empty,0⟩) (([a,b]).getD 0 ⟨.empty,0⟩) (h.fr .n)).mono ?_)
   rintro _ w ⟨rfl,h⟩
   refine⟨_,rfl,h.hs (.c r0 .n),?_⟩
   refine oX rfl rfl rfl<|tk (λW H=>bi rfl rfl rfl)<|tk (λW H=>pT rfl rfl rfl)<|xz<|nx<|?_
   rcases CG (decide ((Lib.compareBytes (([a,b]).getD 1 ⟨.empty,0⟩).key.data.toList (([a,b]).getD 0 ⟨.empty,0⟩).key.data.toList:Int)<0))with hd1|hd1
   ·refine ct rfl hd1<|sk<|nx<|sq<|bk<|Uc (F:=[aU 122 2 (.slice (some ⟨lb,0,none⟩) 2 2) 2 (([a,b]).flatMap aR)]) [(true,[1,3]),(false,[5,7,9]),(true,[11,13,15,17,19,21,23,25,27,29]),(false,[30,33,34])] (by kernel_rfl) h (λw h=>(hC (h.at_ a0) hN)) λw h=>VP<|tk (λW H=>mv rfl)<|tk (λW H=>mv rfl)<|Zp<|tk (λW H=>mv rfl)<|tk (λW H=>mv rfl)<|tk (λW H=>bw rfl rfl (zW (c:=0) (by omega) (by omega) (by omega)))<|UW<|tk (λW H=>mv rfl)<|tk (λW H=>mv rfl)<|tk (λW H=>bw rfl rfl (zW (c:=0) (by omega) (by omega) (by omega)))<|tk (λW H=>ix (j:=0) eX oB rfl rfl (by omega))<|tk (λW H=>gJ rfl ((H.ro a0).x bH (by decide) (j:=0) (by omega) ⟨.empty,0⟩) eQ)<|tk (λW H=>mv rfl)<|tk (λW H=>mv rfl)<|tk (λW H=>ix (j:=1) eX oB rfl rfl (by omega))<|tk (λW H=>gJ rfl ((H.ro a0).x bH (by decide) (j:=1) (by omega) ⟨.empty,0⟩) eQ)<|tk (λW H=>ix (j:=1) eX oB rfl rfl (by omega))<|Zp<|ff (ZB (enc:=aR) (a:=([a,b]).getD 0 ⟨.empty,0⟩) h oB bH eU rfl rfl rfl (by omega) (by simp) u0)<|?_
    rintro _ w h
    refine⟨trivial,?_⟩
    refine tk (λW H=>ix (j:=0) eX oB rfl rfl (by omega))<|ff (ZB (enc:=aR) (a:=([a,b]).getD 1 ⟨.empty,0⟩) h oB bH eU rfl rfl rfl (by omega) (by simp) u0)<|?_
    rintro _ w h
    refine⟨trivial,?_⟩
    refine xz<|bn<|nx<|rg<|st (mv rfl)<|st (bw rfl rfl (zW (c:=0) (by omega) (by omega) (by omega)))<|st (sg rfl)<|xe<|nx<|?_
    exact⟨(0),⟨rfl,rfl,rfl,rfl,rfl,rfl,trivial⟩,⟨h,by(try dsimp only);omega,(λ_=>(Ct.vX b.key a.key).2 (Qa hd1))⟩,by(try dsimp only);omega⟩
   ·refine cf rfl hd1<|xt<|tx<|tx<|be<|bn<|nx<|rg<|st (mv rfl)<|st (bw rfl rfl (gN (c:=2) (by omega) (by omega) (by omega)))<|st (sg rfl)<|xe<|nx<|?_
    rw[<- RO (Bool.eq_false_iff.2 λq=>zG hd1 ((Ct.vX b.key a.key).1 q))]at h
    exact⟨(2),⟨rfl,rfl,rfl,rfl,rfl,trivial⟩,⟨h,by(try dsimp only);omega,by(try dsimp only);omega⟩,by(try dsimp only);omega⟩
 ·have h:SH B w (aU 122 2 (.slice (some ⟨lb,0,none⟩) 2 2) 2 ((Ct.gG a b).flatMap aR)::L):=h
  refine sq<|sq<|rg<|st (mv rfl)<|st (mv rfl)<|st (bi rfl rfl rfl)<|xe<|nx<|cF rfl<|xt<|tx<|tx<|be<|?_
  refine rn (rK results313)<|⟨rfl,h⟩
end
variable{B w:World}{L:List As}
theorem Vr(a b:Ct.bN)(lb:Nat)(h:SH B w (aU 122 2 (.slice (some ⟨lb,0,none⟩) 2 2) 2 (([a,b]).flatMap aR)::L)):
  Calls prog 312 #[.slice (some ⟨lb,0,none⟩) 2 2,.int .i64 2,.func (.func 311) [].toArray [].toArray] w λe w'=>e=.returned (.tuple #[])/\SH B w' (aU 122 2 (.slice (some ⟨lb,0,none⟩) 2 2) 2 ((Ct.gG a b).flatMap aR)::L):=by
 refine bZ func312 ntmps312 h λw h=>?_
 refine lp (α:=Nat) (λρ=>(.c 0 (.slice (some ⟨lb,0,none⟩) 2 2) (.c 1 (.int .i64 2) (.c 2 (.func (.func 311) [].toArray [].toArray) (.c 6 (.int .i64 20) (.c 7 (.int .i64 0) (.c 8 (.int .i64 20) .n))))))) (λρ w=>SH B w (aU 122 2 (.slice (some ⟨lb,0,none⟩) 2 2) 2 (([a,b]).flatMap aR)::L)/\True) (λρ=>0) 0 ⟨rfl,rfl,rfl,rfl,rfl,rfl,trivial⟩ ⟨h,trivial⟩ ?_
 rintro z w ⟨h,hz0⟩
 refine go h λw h=>?_
 refine bA (BS a b _ h.to) λw h=>?_
 refine lp (α:=Nat) (λρ=>(.c 0 (.slice (some ⟨lb,0,none⟩) 2 2) (.c 1 (.int .i64 2) (.c 2 (.func (.func 311) [].toArray [].toArray) (.c 6 (.int .i64 20) .n))))) (λρ w=>SH B w (aU 122 2 (.slice (some ⟨lb,0,none⟩) 2 2) 2 ((Ct.gG a b).flatMap aR)::L)/\True) (λρ=>0) 0 ⟨rfl,rfl,rfl,rfl,trivial⟩ ⟨h,trivial⟩ ?_
 rintro z w ⟨h,hz0⟩
 refine go h λw h=>?_
 refine rn (rK results312)<|go h λw h=>?_
 refine⟨rfl,h⟩
theorem JN(a b:Ct.bN)(lb:Nat)(h:SH B w (aU 122 2 (.slice (some ⟨lb,0,none⟩) 2 2) 2 (([a,b]).flatMap aR)::L)):
  Calls prog 310 #[.slice (some ⟨lb,0,none⟩) 2 2,.func (.func 311) [].toArray [].toArray] w λe w'=>e=.returned (.tuple #[])/\SH B w' (aU 122 2 (.slice (some ⟨lb,0,none⟩) 2 2) 2 ((Ct.gG a b).flatMap aR)::L):=by
 refine bZ func310 ntmps310 h λw h=>?_
 refine bA (Vr a b _ h.to) λw h=>?_
 refine rn (rK results310)<|go h λw h=>?_
 refine⟨rfl,h⟩
theorem HO{a b:Ct.bN}(h:Ct.bR a.key b.key=false):∃x y,Ct.gG a b=[x,y]/\(y.key.toList==x.key.toList)=false:=by
 have h2:Ct.bR b.key a.key=false:=by
  cases hb:Ct.bR b.key a.key with
  |false=>rfl
  |true=>rw[kM hb]at h;exact absurd h (by simp[Ct.bR])
 unfold Ct.gG
 split
 ·exact⟨b,a,rfl,h⟩
 ·exact⟨a,b,rfl,h2⟩
section
attribute [local semireducible] gB wpS Go.E.X XS C jU kP fin Y U F Ca jT bl rb aU bV ex ce pu sK gK bK zK gM fO dH gP nE
attribute [local irreducible] gB wpS
variable{B w:World}{L:List As}
theorem TP(a b:Ct.bN)(lb:Nat)(h:SH B w (bV 2 (.slice (some ⟨lb,0,none⟩) 2 2) 2 (([a,b]).flatMap aR)::L))(hne:Ct.bR a.key b.key=false):
  Calls prog 306 #[.slice (some ⟨lb,0,none⟩) 2 2] w λe w'=>∃p' c',e=.returned (.slice p' 2 c')/\SH B w' (bV 2 (.slice p' 2 c') 2 ((Ct.gG a b).flatMap aR)::L):=by
 refine Ea (args:=[_]) func306 rfl ntmps306 rfl ?_
 refine sq<|rg<|st (sg rfl)<|xe<|nx<|sq<|rg<|st (mv rfl)<|st (ln eX rfl rfl)<|sf (mk h eX Pw rfl rfl (by omega) (by unfold maxLen;omega))<|?_
 rintro _ w ⟨b1,rfl,h⟩
 rw[rV bH (by decide) (d:=⟨.empty,0⟩) rfl]at h
 refine st (sg rfl)<|xe<|nx<|sq<|rg<|st (mv rfl)<|st (mv rfl)<|sf (ZW (k:=0) h a1 eX oB rfl rfl u0 (λ_=>by rw[Nat.zero_mul]) (by omega) (by omega) (lU eU _))<|?_
 rintro _ w ⟨rfl,h⟩
 rw[Fy bH]at h
 have h:SH B w (aU 122 2 (.slice (some ⟨b1,0,none⟩) 2 2) 2 (([a,b]).flatMap aR)::bV 2 (.slice (some ⟨lb,0,none⟩) 2 2) 2 (([a,b]).flatMap aR)::L):=h
 refine xe<|nx<|sq<|rg<|st (mv rfl)<|cl (ca eF rfl) ((JN a b b1 (h.fr (.c r0 .n))).mono ?_)
 rintro _ w ⟨rfl,h⟩
 refine⟨_,rfl,?_⟩
 refine xe<|nx<|sq<|?_
 obtain⟨x,y,hxy,hxn⟩:=HO hne
 rw[hxy]at h
 refine rg<|st (mv rfl)<|st (ln eX rfl rfl)<|sf (m9 h eX Pw rfl rfl (by omega) (by unfold maxLen;omega))<|?_
 rintro _ w ⟨b2,rfl,h⟩
 refine st (sg rfl)<|xe<|nx<|sq<|sq<|rg<|st (mv rfl)<|st (ln eX rfl rfl)<|st (mv rfl)<|xe<|nx<|bk<|?_
 refine lp (α:=Nat×Option Addr×Nat) (λρ=>(.c 3 (.slice (some ⟨b1,0,none⟩) 2 2) (.c 4 (.slice ρ.2.1 ρ.1 ρ.2.2) (.c 18 (.slice (some ⟨b1,0,none⟩) 2 2) (.c 19 (.int .i64 2) (.c 20 (.int .i64 (ρ.1:Int)) .n)))))) (λρ w=>SH B w (aU 122 2 (.slice ρ.2.1 ρ.1 ρ.2.2) ρ.1 ((([x,y]:List Ct.bN).take ρ.1).flatMap aR)::aU 122 2 (.slice (some ⟨b1,0,none⟩) 2 2) 2 (([x,y]).flatMap aR)::bV 2 (.slice (some ⟨lb,0,none⟩) 2 2) 2 (([a,b]).flatMap aR)::L)/\(ρ.1<=2)) (λρ=>2-ρ.1) (0,some ⟨b2,0,none⟩,2) ⟨rfl,rfl,rfl,rfl,rfl,trivial⟩ ⟨h,(by omega)⟩ ?_
 rintro⟨i,q,cq⟩ w ⟨h,hi⟩
 dsimp only at *
 rcases(show i=0\/i=1\/i=2 by omega)with rfl|rfl|rfl
 ·have h:SH B w (aU 122 2 (.slice q 0 cq) 0 (([]:List Ct.bN).flatMap aR)::aU 122 2 (.slice (some ⟨b1,0,none⟩) 2 2) 2 (([x,y]).flatMap aR)::bV 2 (.slice (some ⟨lb,0,none⟩) 2 2) 2 (([a,b]).flatMap aR)::L):=h
  refine sq<|rg<|st (bi rfl rfl rfl)<|xe<|nx<|sq<|cT rfl<|sk<|nx<|sq<|bk<|sq<|rg<|st (mv rfl)<|st (ix (j:=0) eX oB rfl rfl (by omega))<|st (gJ rfl ((h.ro a1).x bH (by decide) (j:=0) (by omega) ⟨.empty,0⟩) eQ)<|sf (al h Ka)<|?_
  rintro _ w ⟨b3,rfl,h⟩
  refine st (sg rfl)<|sf (so h rfl rfl rfl oB rfl (.r (.r .d)) u0)<|?_
  rintro _ w h
  refine xe<|nx<|sq<|sq<|dZ [1,3,5,7,9,11,13,15,17,19,21,23,25,27,29,31] (by kernel_rfl) h (.c r2 (.c r0 .n)) λw h=>tk (λW H=>mv rfl)<|tk (λW H=>bw rfl rfl (gN (c:=1) (by omega) (by omega) (by omega)))<|tk (λW H=>mv rfl)<|tk (λW H=>ln eX rfl rfl)<|tk (λW H=>bi rfl rfl rfl)<|tk (λW H=>mv rfl)<|oX rfl rfl rfl<|tk (λW H=>mv rfl)<|oX rfl rfl rfl<|tk (λW H=>mv rfl)<|oX rfl rfl rfl<|tk (λW H=>bw rfl rfl (gN (c:=1) (by omega) (by omega) (by omega)))<|oX rfl rfl rfl<|tk (λW H=>ix (j:=1) eX oB rfl rfl (by omega))<|oX rfl rfl rfl<|tk (λW H=>fa nL rfl)<|oX rfl rfl rfl<|tk (λW H=>ld uK rfl ((H.ro a0).x bH (by decide) (j:=1) (by omega) ⟨.empty,0⟩ 0 _ rfl))<|oX rfl rfl rfl<|tk (λW H=>fa nL rfl)<|oX rfl rfl rfl<|tk (λW H=>ld uK rfl (H.c a1 rfl))<|oX rfl rfl rfl<|tk (λW H=>sb rfl rfl rfl)<|tk (λW H=>pT rfl rfl rfl)<|xz<|nx<|cf rfl hxn<|sk<|nx<|rg<|st (mv rfl)<|st (gJ rfl (dK (h.b a0)) eQ)<|sf (bu (aR (([x,y]).getD 0 ⟨.empty,0⟩)) h eX Pw rfl (by kernel_rfl) rfl (by decide) (by decide))<|?_
  rintro _ w ⟨b4,rfl,h⟩
  refine sf (ap h eX rfl Pw rfl (by decide) rfl rfl (λ_=>u2) (h.ro a0) (λu hu=>List.all_eq_true.1 (eU _) u hu) rfl rfl (by unfold maxLen;omega) (by omega))<|?_
  rintro _ w ⟨p5,c6,rfl,h⟩
  refine st (sg rfl)<|xe<|bn<|nx<|rg<|st (bw rfl rfl (gN (c:=1) (by omega) (by omega) (by omega)))<|st (mv rfl)<|xe<|nx<|?_
  exact⟨(1,p5,c6),⟨rfl,rfl,rfl,rfl,rfl,trivial⟩,⟨h.drop.drop,by(try dsimp only);omega⟩,by(try dsimp only);omega⟩
 ·have h:SH B w (aU 122 2 (.slice q 1 cq) 1 ([x].flatMap aR)::aU 122 2 (.slice (some ⟨b1,0,none⟩) 2 2) 2 (([x,y]).flatMap aR)::bV 2 (.slice (some ⟨lb,0,none⟩) 2 2) 2 (([a,b]).flatMap aR)::L):=h
  refine sq<|rg<|st (bi rfl rfl rfl)<|xe<|nx<|sq<|cT rfl<|sk<|nx<|sq<|bk<|sq<|rg<|st (mv rfl)<|st (ix (j:=1) eX oB rfl rfl (by omega))<|st (gJ rfl ((h.ro a1).x bH (by decide) (j:=1) (by omega) ⟨.empty,0⟩) eQ)<|sf (al h Ka)<|?_
  rintro _ w ⟨b7,rfl,h⟩
  refine st (sg rfl)<|sf (so h rfl rfl rfl oB rfl (.r (.r .d)) u0)<|?_
  rintro _ w h
  refine xe<|nx<|sq<|sq<|dZ [1,3,5,7,9,11,13,15,17,19,21,23,25,27,29,31] (by kernel_rfl) h .n λw h=>tk (λW H=>mv rfl)<|tk (λW H=>bw rfl rfl (gN (c:=2) (by omega) (by omega) (by omega)))<|tk (λW H=>mv rfl)<|tk (λW H=>ln eX rfl rfl)<|tk (λW H=>bi rfl rfl rfl)<|tk (λW H=>mv rfl)<|Ez rfl rfl rfl<|Ez rfl rfl rfl<|Ez rfl rfl rfl<|Ez rfl rfl rfl<|Ez rfl rfl rfl<|Ez rfl rfl rfl<|Ez rfl rfl rfl<|Ez rfl rfl rfl<|Ez rfl rfl rfl<|tk (λW H=>pF rfl rfl rfl)<|xz<|nx<|cF rfl<|sk<|nx<|rg<|st (mv rfl)<|st (gJ rfl (dK (h.b a0)) eQ)<|sf (bu (aR (([x,y]).getD 1 ⟨.empty,0⟩)) h eX Pw rfl (by kernel_rfl) rfl (by decide) (by decide))<|?_
  rintro _ w ⟨b8,rfl,h⟩
  refine sf (ap h eX rfl Pw rfl (by decide) rfl rfl (λ_=>u2) (h.ro a0) (λu hu=>List.all_eq_true.1 (eU _) u hu) rfl rfl (by unfold maxLen;omega) (by omega))<|?_
  rintro _ w ⟨p9,c10,rfl,h⟩
  refine st (sg rfl)<|xe<|bn<|nx<|rg<|st (bw rfl rfl (gN (c:=2) (by omega) (by omega) (by omega)))<|st (mv rfl)<|xe<|nx<|?_
  exact⟨(2,p9,c10),⟨rfl,rfl,rfl,rfl,rfl,trivial⟩,⟨h.drop.drop,by(try dsimp only);omega⟩,by(try dsimp only);omega⟩
 ·have h:SH B w (aU 122 2 (.slice q 2 cq) 2 (([x,y]).flatMap aR)::aU 122 2 (.slice (some ⟨b1,0,none⟩) 2 2) 2 (([x,y]).flatMap aR)::bV 2 (.slice (some ⟨lb,0,none⟩) 2 2) 2 (([a,b]).flatMap aR)::L):=h
  refine sq<|rg<|st (bi rfl rfl rfl)<|xe<|nx<|sq<|cF rfl<|xt<|tx<|tx<|be<|nx<|sq<|rg<|st (mv rfl)<|st (sg rfl)<|xe<|nx<|rt<|?_
  refine rr (jP results306 rfl)<|?_
  rw[hxy]
  exact⟨_,_,rfl,((h.fr (.c r1 (.c r1 .n))).drop.drop).fz⟩
end
end Go.Q9
end
section
namespace Go.Q9
open Go.Proofs.Tryz
open Go.E
theorem S2:KY prog 272=some ([.nilIface,.int .i64 0,.int .i64 0,.int .i64 0,.int .i64 0,.int .u64 0,.slice none 0 0,.int .u64 0,.string .empty,.int .u64 0,.slice none 0 0,.int .i64 0,.int .i64 0,.int .i64 0,.int .i64 0,.int .i64 0,.int .u64 0,.string .empty,.int .u64 0,.int .i64 0],[(0,1),(1,1),(2,14),(16,1),(17,2),(19,1)]):=by kernel_rfl
theorem S8:(prog.info? 272).map (·.size)=some 20:=by kernel_rfl
theorem S4:zc prog 272=some [.nilIface,.int .i64 0,.int .i64 0,.int .i64 0,.int .i64 0,.int .u64 0,.slice none 0 0,.int .u64 0,.string .empty,.int .u64 0,.slice none 0 0,.int .i64 0,.int .i64 0,.int .i64 0,.int .i64 0,.int .i64 0,.int .u64 0,.string .empty,.int .u64 0,.int .i64 0]:=by kernel_rfl
end Go.Q9
end
