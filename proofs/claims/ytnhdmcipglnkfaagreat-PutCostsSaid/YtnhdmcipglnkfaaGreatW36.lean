/- Parts of a proof: Q3. -/
import Derived.Test.YtnhdmcipglnkfaaGreatW35
set_option linter.unusedVariables false
set_option linter.unusedSimpArgs false
set_option maxRecDepth 100000
set_option maxHeartbeats 4000000
section
namespace Go.Q9
open Go.Proofs.Tryz
open Go.RowKit Go.E Go.Ct
attribute [local irreducible] gA wpS Go.E.X XS C kV lL fin Y U F Ca kU bl rb aV bS ex ce pu sK gK bK zK
variable{B w:World}{L:List As}
theorem VE(i a j b:Int)(h:SH B w (L)):
  Calls prog 277 #[↑i,↑a,↑j,↑b] w λe w'=>∃q,e=.returned (.agg (aK (iA i a j b) q).toArray)/\SH B w' (aL (iA i a j b) q::L):=by
 have iY:=Bm.kH 0 i (by decide)
 have tU:=Bm.kH _ j iY
 refine cN func277 ntmps277 h λw h=>?_
 refine jA h λb1 w h=>?_
 refine cl (ca eF rfl) ((qR 0 i _ (by omega)).mono ?_)
 rintro _ _ ⟨rfl,rfl⟩
 refine⟨_,rfl,?_⟩
 refine st (mv rfl)<|?_
 refine go h λw h=>?_
 refine cl (ca eF rfl) ((qR (Bm.cR 0 i) j _ (by omega)).mono ?_)
 rintro _ _ ⟨rfl,rfl⟩
 refine⟨_,rfl,?_⟩
 refine st (mv rfl)<|st (mv rfl)<|?_
 refine go h λw h=>?_
 refine sf (bu [↑a,↑b] h gB.h Ss.h rfl (by kernel_rfl) rfl (by decide) (by decide)) ?_
 rintro _ w ⟨b2,rfl,h⟩
 refine go h λw h=>?_
 refine jA h λb3 w h=>?_
 refine qc h (λeB w h=>?_) λeB w h=>?_
 have Vu:=dH eB
 refine go h λw h=>?_
 refine sf (bu [↑b,↑a] h gB.h Ss.h rfl (by kernel_rfl) rfl (by decide) (by decide)) ?_
 rintro _ w ⟨b6,rfl,h⟩
 refine go h λw h=>?_
 refine rr (cD rfl rfl (h.b a3) Row.h) ?_
 have e1:iA i a j b={kind:=3,aC:=Bm.cR (Bm.cR 0 i) j,aA:=[b,a]}:=by unfold iA;rw[if_pos (dH eB)]
 have h:=((h.fr (.c r1 (.c r1 (.c r1 .n)))).drop.drop.drop).fz
 rw[e1];exact⟨⟨some ⟨b6,0,none⟩,2,none,0⟩,rfl,SH.ofB (m:={kind:=3,aC:=Bm.cR (Bm.cR 0 i) j,aA:=[b,a]}) h rfl⟩
 have El:=dR eB
 refine go h λw h=>?_
 refine rr (cD rfl rfl (h.b a2) Row.h) ?_
 have e1:iA i a j b={kind:=3,aC:=Bm.cR (Bm.cR 0 i) j,aA:=[a,b]}:=by unfold iA;rw[if_neg (dR eB)]
 have h:=((h.fr (.c r0 (.c r1 .n))).drop.drop).fz
 rw[e1];exact⟨⟨some ⟨b2,0,none⟩,2,none,0⟩,rfl,SH.ofB (m:={kind:=3,aC:=Bm.cR (Bm.cR 0 i) j,aA:=[a,b]}) h rfl⟩
theorem Oo(x:Ct.Node)(q:Lq)(at_:Int)(ha:Nat)(key:ByteArray)(v:Nat)(level gen first:Int)(h:SH B w (aL x q::L))(hh:ha<18446744073709551616)(hx:x.hash<18446744073709551616)(xL:bO x.key key=false)(hl:0<=level)(YH:level<=1000000000000)(hf:1<=first)(hf2:first<=1000000000000):
  Calls prog 247 #[.agg (aK x q).toArray,↑at_,.int .u64 (ha:Int),↑key,.int .u64 (v:Int),↑level,↑gen,↑first] w λe w'=>∃zs p cc p2 c2,zs.map Prod.fst=(bU x at_ ha key v level gen first).map Prod.fst/\e=.returned (.tuple #[.slice p zs.length cc,.slice p2 zs.length c2])/\SH B w' (aV 53 14 (.slice p zs.length cc) zs.length (zs.flatMap bY)::aV 44 1 (.slice p2 zs.length c2) zs.length (((bU x at_ ha key v level gen first).map Prod.snd).map (Value.int .i64))::bH zs::aL x q::L):=by
 have hcm:=Xu x.hash ha
 refine cN func247 ntmps247 h λw h=>?_
 refine jX h λb1 w h=>?_
 refine cl (ca eF rfl) ((FV x.hash ha _ (by omega) (by omega)).mono ?_)
 rintro _ _ ⟨rfl,rfl⟩
 refine⟨_,rfl,?_⟩
 refine st (sg rfl)<|xe<|nx<|?_
 refine sm (λe w=>∃zs0:List (Ct.Node×Lq),∃is0:List Int,∃m0:Nat,∃pa0:Option Addr,∃na0:Nat,∃pb0:Option Addr,∃nb0:Nat,∃c0:Nat,Sub 92 e (.c 2 (.int .u64 (ha:Int)) (.c 5 ↑level (.c 6 ↑gen (.c 7 ↑first (.c 16 (.slice pa0 m0 na0) (.c 17 (.slice pb0 m0 nb0) (.c 18 ↑(c0:Int) .n)))))))/\SH B w (bH zs0::aV 53 14 (.slice pa0 m0 na0) m0 (zs0.flatMap bY)::aV 44 1 (.slice pb0 m0 nb0) m0 (is0.map (Value.int .i64))::aL x q::bl b1 (aK x q) 53::L)/\(zs0.map Prod.fst=(bV x at_ ha key v first).2.map Prod.fst)/\(is0=(bV x at_ ha key v first).2.map Prod.snd)/\(zs0.length=m0)/\(m0=(bV x at_ ha key v first).2.length)/\(c0=(bV x at_ ha key v first).1)) ?_ ?_
 ·refine go h λw h=>?_
  refine qc h (λcO w h=>?_) λcO w h=>?_
  ·have Lt:=dH cO
   refine go h λw h=>?_
   refine sf (bu [↑x.key,.int .u64 (x.value:Int),↑key,.int .u64 (v:Int)] h gB.h Ss.h rfl (by kernel_rfl) rfl (by decide) (by decide)) ?_
   rintro _ w ⟨b4,rfl,h⟩
   refine go h λw h=>?_
   refine Zn (aJs [⟨x.key,x.value⟩,⟨key,v⟩] (some ⟨b4,0,none⟩) 2 (SH.fz h.to) (by simp)) λq5 c6 w h=>?_
   have h:=(h.fr (.c r1 .n)).drop
   refine go h λw h=>?_
   refine sf (bu [.int .i64 6,.int .i64 0,.int .i64 0,.int .u64 0,.slice none 0 0,.int .u64 (ha:Int),.string .empty,.int .u64 0,.slice q5 (Ct.Dv [⟨x.key,x.value⟩,⟨key,v⟩]).length c6,.int .i64 0,.int .i64 0,.int .i64 0,.int .i64 0,.int .i64 0] h gB.h Ss.h rfl (by kernel_rfl) rfl (by decide) (by decide)) ?_
   rintro _ w ⟨b7,rfl,h⟩
   refine go h λw h=>?_
   refine sf (bu [.int .i64 0] h gB.h Ss.h rfl (by kernel_rfl) rfl (by decide) (by decide)) ?_
   rintro _ w ⟨b8,rfl,h⟩
   refine go h λw h=>?_
   have vC:(bV x at_ ha key v first)=(11,[({kind:=6,hash:=ha,aH:=gE ⟨x.key,x.value⟩ ⟨key,v⟩},0)]):=by unfold bV;rw[if_pos (by omega)]
   rw[B4 xL]at h
   have h:=(h.fr (.c r2 (.c r1 (.c r0 (.c r1 (.c r0 .n))))))
   have h:=((SH.ofP (m:={kind:=6,hash:=ha,aH:=gE ⟨x.key,x.value⟩ ⟨key,v⟩}) h rfl).aF1.fr (.c r1 .n)).aCz
   have S2:(bV x at_ ha key v first).1=11:=by rw[vC]
   have ZJ:(bV x at_ ha key v first).2.length=1:=by rw[vC];rfl
   have dF:(bV x at_ ha key v first).2.map Prod.fst=([({kind:=6,hash:=ha,aH:=gE ⟨x.key,x.value⟩ ⟨key,v⟩},⟨none,0,q5,c6⟩)]:List (Ct.Node×Lq)).map Prod.fst:=by rw[vC];rfl
   have cO:[0]=(bV x at_ ha key v first).2.map Prod.snd:=by rw[vC];rfl
   have h:SH B w (bH ([({kind:=6,hash:=ha,aH:=gE ⟨x.key,x.value⟩ ⟨key,v⟩},⟨none,0,q5,c6⟩)])::aV 53 14 (.slice (some ⟨b7,0,none⟩) 1 1) 1 (([({kind:=6,hash:=ha,aH:=gE ⟨x.key,x.value⟩ ⟨key,v⟩},⟨none,0,q5,c6⟩)]).flatMap bY)::aV 44 1 (.slice (some ⟨b8,0,none⟩) 1 1) 1 ([0].map (Value.int .i64))::aL x q::bl b1 (aK x q) 53::L):=h
   exact⟨[({kind:=6,hash:=ha,aH:=gE ⟨x.key,x.value⟩ ⟨key,v⟩},⟨none,0,q5,c6⟩)],[0],1,(some ⟨b7,0,none⟩),1,(some ⟨b8,0,none⟩),1,11,⟨rfl,rfl,rfl,rfl,rfl,rfl,rfl,trivial⟩,h,dF.symm,cO,rfl,ZJ.symm,S2.symm⟩
  ·have CY:=dR cO
   refine go h λw h=>?_
   refine cl (ca eF rfl) ((iV x.hash ((Ct.aJ x.hash ha:Nat):Int) _ (by omega)).mono ?_)
   rintro _ _ ⟨rfl,rfl⟩
   refine⟨_,rfl,?_⟩
   refine st (mv rfl)<|st (mv rfl)<|st (mv rfl)<|?_
   refine go h λw h=>?_
   refine cl (ca eF rfl) ((iV ha ((Ct.aJ x.hash ha:Nat):Int) _ (by omega)).mono ?_)
   rintro _ _ ⟨rfl,rfl⟩
   refine⟨_,rfl,?_⟩
   refine st (mv rfl)<|?_
   refine go h λw h=>?_
   refine cS (VE (Ct.slice x.hash ((Ct.aJ x.hash ha:Nat):Int)) at_ (Ct.slice ha ((Ct.aJ x.hash ha:Nat):Int)) first h.to) λwI w h=>?_
   refine sf (bu [.int .i64 4,.int .i64 0,.int .i64 0,.int .u64 0,.slice none 0 0,.int .u64 (ha:Int),↑key,.int .u64 (v:Int),.slice none 0 0,.int .i64 0,.int .i64 0,.int .i64 0,.int .i64 0,.int .i64 0,.int .i64 (iA (Ct.slice x.hash ((Ct.aJ x.hash ha:Nat):Int)) at_ (Ct.slice ha ((Ct.aJ x.hash ha:Nat):Int)) first).kind,.int .i64 (iA (Ct.slice x.hash ((Ct.aJ x.hash ha:Nat):Int)) at_ (Ct.slice ha ((Ct.aJ x.hash ha:Nat):Int)) first).gen,.int .i64 (iA (Ct.slice x.hash ((Ct.aJ x.hash ha:Nat):Int)) at_ (Ct.slice ha ((Ct.aJ x.hash ha:Nat):Int)) first).main,.int .u64 (((iA (Ct.slice x.hash ((Ct.aJ x.hash ha:Nat):Int)) at_ (Ct.slice ha ((Ct.aJ x.hash ha:Nat):Int)) first).aC:Nat):Int),.slice wI.pb (iA (Ct.slice x.hash ((Ct.aJ x.hash ha:Nat):Int)) at_ (Ct.slice ha ((Ct.aJ x.hash ha:Nat):Int)) first).aA.length wI.cb,.int .u64 (((iA (Ct.slice x.hash ((Ct.aJ x.hash ha:Nat):Int)) at_ (Ct.slice ha ((Ct.aJ x.hash ha:Nat):Int)) first).hash:Nat):Int),.string (iA (Ct.slice x.hash ((Ct.aJ x.hash ha:Nat):Int)) at_ (Ct.slice ha ((Ct.aJ x.hash ha:Nat):Int)) first).key,.int .u64 (((iA (Ct.slice x.hash ((Ct.aJ x.hash ha:Nat):Int)) at_ (Ct.slice ha ((Ct.aJ x.hash ha:Nat):Int)) first).value:Nat):Int),.slice wI.pp (iA (Ct.slice x.hash ((Ct.aJ x.hash ha:Nat):Int)) at_ (Ct.slice ha ((Ct.aJ x.hash ha:Nat):Int)) first).aH.length wI.cp,.int .i64 (iA (Ct.slice x.hash ((Ct.aJ x.hash ha:Nat):Int)) at_ (Ct.slice ha ((Ct.aJ x.hash ha:Nat):Int)) first).prev,.int .i64 (iA (Ct.slice x.hash ((Ct.aJ x.hash ha:Nat):Int)) at_ (Ct.slice ha ((Ct.aJ x.hash ha:Nat):Int)) first).dO,.int .i64 (iA (Ct.slice x.hash ((Ct.aJ x.hash ha:Nat):Int)) at_ (Ct.slice ha ((Ct.aJ x.hash ha:Nat):Int)) first).aS,.int .i64 (iA (Ct.slice x.hash ((Ct.aJ x.hash ha:Nat):Int)) at_ (Ct.slice ha ((Ct.aJ x.hash ha:Nat):Int)) first).new,.int .i64 (iA (Ct.slice x.hash ((Ct.aJ x.hash ha:Nat):Int)) at_ (Ct.slice ha ((Ct.aJ x.hash ha:Nat):Int)) first).status] h gB.h Ss.h rfl (by kernel_rfl) rfl (by decide) (by decide)) ?_
   rintro _ w ⟨Uf,rfl,h⟩
   refine go h λw h=>?_
   refine sf (bu [.int .i64 0,.int .i64 0] h gB.h Ss.h rfl (by kernel_rfl) rfl (by decide) (by decide)) ?_
   rintro _ w ⟨ZM,rfl,h⟩
   refine go h λw h=>?_
   have vC:(bV x at_ ha key v first)=(aJ x.hash ha,[({kind:=4,hash:=ha,key:=key,value:=v},0),(iA (Ct.slice x.hash ((Ct.aJ x.hash ha:Nat):Int)) at_ (Ct.slice ha ((Ct.aJ x.hash ha:Nat):Int)) first,0)]):=by unfold bV;rw[if_neg (by omega)]
   have h:=(h.fr (.c r2 (.c r1 (.c r0 (.c r1 (.c r0 .n))))))
   have h:=((SH.fI ({kind:=4,hash:=ha,key:=key,value:=v}) rfl rfl h.aF1).fr (.c r0 (.c r1 .n))).m8
   have S2:(bV x at_ ha key v first).1=aJ x.hash ha:=by rw[vC]
   have ZJ:(bV x at_ ha key v first).2.length=2:=by rw[vC];rfl
   have dF:(bV x at_ ha key v first).2.map Prod.fst=([({kind:=4,hash:=ha,key:=key,value:=v},⟨none,0,none,0⟩),(iA (Ct.slice x.hash ((Ct.aJ x.hash ha:Nat):Int)) at_ (Ct.slice ha ((Ct.aJ x.hash ha:Nat):Int)) first,wI)]:List (Ct.Node×Lq)).map Prod.fst:=by rw[vC];rfl
   have cO:[0,0]=(bV x at_ ha key v first).2.map Prod.snd:=by rw[vC];rfl
   have h:SH B w (bH ([({kind:=4,hash:=ha,key:=key,value:=v},⟨none,0,none,0⟩),(iA (Ct.slice x.hash ((Ct.aJ x.hash ha:Nat):Int)) at_ (Ct.slice ha ((Ct.aJ x.hash ha:Nat):Int)) first,wI)])::aV 53 14 (.slice (some ⟨Uf,0,none⟩) 2 2) 2 (([({kind:=4,hash:=ha,key:=key,value:=v},⟨none,0,none,0⟩),(iA (Ct.slice x.hash ((Ct.aJ x.hash ha:Nat):Int)) at_ (Ct.slice ha ((Ct.aJ x.hash ha:Nat):Int)) first,wI)]).flatMap bY)::aV 44 1 (.slice (some ⟨ZM,0,none⟩) 2 2) 2 (([0,0]).map (Value.int .i64))::aL x q::bl b1 (aK x q) 53::L):=h
   exact⟨[({kind:=4,hash:=ha,key:=key,value:=v},⟨none,0,none,0⟩),(iA (Ct.slice x.hash ((Ct.aJ x.hash ha:Nat):Int)) at_ (Ct.slice ha ((Ct.aJ x.hash ha:Nat):Int)) first,wI)],[0,0],2,(some ⟨Uf,0,none⟩),2,(some ⟨ZM,0,none⟩),2,(aJ x.hash ha),⟨rfl,rfl,rfl,rfl,rfl,rfl,rfl,trivial⟩,h,dF.symm,cO,rfl,ZJ.symm,S2.symm⟩
 rintro e w ⟨zs0,is0,m0,pa0,na0,pb0,nb0,c0,hE,h,pN,hi0,hm0,aPu,hc0⟩
 refine C.sub hE ?_
 clear hE e
 have bBp:c0<=11:=by rw[hc0];exact BK x at_ ha key v first
 have hs2:=Vn x at_ ha key v first
 refine go h λw h=>?_
 refine st (bs ((c0:Int)-1))<|go h λw h=>?_
 refine lp (α:=Nat×List (Ct.Node×Lq)×List Int×Nat×Option Addr×Nat×Option Addr×Nat×Int) (λρ=>(.c 2 (.int .u64 (ha:Int)) (.c 5 ↑level (.c 6 ↑gen (.c 7 ↑first (.c 16 (.slice ρ.2.2.2.2.1 ρ.2.2.2.1 ρ.2.2.2.2.2.1) (.c 17 (.slice ρ.2.2.2.2.2.2.1 ρ.2.2.2.1 ρ.2.2.2.2.2.2.2.1) (.c 20 (.int .i64 ρ.2.2.2.2.2.2.2.2) .n)))))))) (λρ w=>SH B w (bH ρ.2.1::aV 53 14 (.slice ρ.2.2.2.2.1 ρ.2.2.2.1 ρ.2.2.2.2.2.1) ρ.2.2.2.1 (ρ.2.1.flatMap bY)::aV 44 1 (.slice ρ.2.2.2.2.2.2.1 ρ.2.2.2.1 ρ.2.2.2.2.2.2.2.1) ρ.2.2.2.1 (ρ.2.2.1.map (Value.int .i64))::aL x q::bl b1 (aK x q) 53::L)/\(ρ.2.1.map Prod.fst=(gI ha gen first (((bV x at_ ha key v first).1:Nat):Int) ρ.1 (bV x at_ ha key v first).2).map Prod.fst)/\(ρ.2.2.1=(gI ha gen first (((bV x at_ ha key v first).1:Nat):Int) ρ.1 (bV x at_ ha key v first).2).map Prod.snd)/\(ρ.2.1.length=ρ.2.2.2.1)/\(ρ.2.2.2.1=(bV x at_ ha key v first).2.length+2*ρ.1)/\(ρ.2.2.2.2.2.2.2.2=(((bV x at_ ha key v first).1:Nat):Int)-1-(ρ.1:Int))/\(ρ.1<=11/\(ρ.1:Int)<=((((((bV x at_ ha key v first).1:Nat):Int)-level).toNat:Nat):Int))) (λρ=>12-ρ.1) (0,zs0,is0,m0,pa0,na0,pb0,nb0,(c0:Int)-1) ⟨rfl,rfl,rfl,rfl,rfl,rfl,rfl,trivial⟩ ⟨h,pN,hi0,hm0,aPu,by(try dsimp only);omega,⟨by(try dsimp only);omega,by(try dsimp only);omega⟩⟩ ?_
 rintro⟨j,zs,is,m,p,cc,p2,c2,kk⟩ w ⟨h,hz,hi,hm,hml,Bz,hj⟩
 dsimp only at *
 refine go h λw h=>?_
 refine qc h (λeJ w h=>?_) λeJ w h=>?_
 ·have CW:=dH eJ
  refine go h λw h=>?_
  refine st (ba (first+(m:Int)))<|st (bs (first+(m:Int)-1))<|go h λw h=>?_
  refine cl (ca eF rfl) ((iV ha kk _ (by omega)).mono ?_)
  rintro _ _ ⟨rfl,rfl⟩
  refine⟨_,rfl,?_⟩
  refine st (sg rfl)<|xe<|nx<|sq<|rg<|st (mv rfl)<|st (mv rfl)<|st (bd [.int .i64 2,↑gen,.int .i64 0,.int .u64 0,.slice none 0 0,.int .u64 0,.string .empty,.int .u64 0,.slice none 0 0,.int .i64 0,.int .i64 0,.int .i64 0,.int .i64 0,.int .i64 0] Cp rfl (by kernel_rfl))<|st (mv rfl)<|?_
  refine go h λw h=>?_
  refine cl (ca eF rfl) ((qR 0 (Ct.slice ha kk) _ (by omega)).mono ?_)
  rintro _ _ ⟨rfl,rfl⟩
  refine⟨_,rfl,?_⟩
  refine st (mv rfl)<|?_
  refine go h λw h=>?_
  refine st (ba (first+(m:Int)-1+1))<|go h λw h=>?_
  refine sf (bu [.int .i64 (first+(m:Int)-1+1)] h gB.h Ss.h rfl (by kernel_rfl) rfl (by decide) (by decide)) ?_
  rintro _ w ⟨b15,rfl,h⟩
  refine go h λw h=>?_
  refine sf (bu [.int .i64 2,↑gen,.int .i64 0,.int .u64 0,.slice none 0 0,.int .u64 0,.string .empty,.int .u64 0,.slice none 0 0,.int .i64 0,.int .i64 0,.int .i64 0,.int .i64 0,.int .i64 0,.int .i64 3,.int .i64 0,.int .i64 0,.int .u64 ((Bm.cR 0 (Ct.slice ha kk):Nat):Int),.slice (some ⟨b15,0,none⟩) 1 1,.int .u64 0,.string .empty,.int .u64 0,.slice none 0 0,.int .i64 0,.int .i64 0,.int .i64 0,.int .i64 0,.int .i64 0] h gB.h Ss.h rfl (by kernel_rfl) rfl (by decide) (by decide)) ?_
  rintro _ w ⟨b16,rfl,h⟩
  refine go h λw h=>?_
  refine sf (ap h gB.h rfl Ss.h rfl (by decide) rfl rfl (λ_=>u3) (h.ro a0) (by simp[Value.oneCell']) rfl (show _=(zs++[({kind:=2,gen:=gen},⟨none,0,none,0⟩),({kind:=3,aC:=Bm.cR 0 (slice ha kk),aA:=[first+(m:Int)-1+1]},⟨some ⟨b15,0,none⟩,1,none,0⟩)]:List (Ct.Node×Lq)).flatMap bY by rw[List.flatMap_append];rfl) (by unfold maxLen;omega) (by omega)) ?_
  rintro _ w ⟨p17,c18,rfl,h⟩
  refine go h λw h=>?_
  refine sf (bu [.int .i64 (first+(m:Int)-1),.int .i64 0] h gB.h Ss.h rfl (by kernel_rfl) rfl (by decide) (by decide)) ?_
  rintro _ w ⟨b19,rfl,h⟩
  refine go h λw h=>?_
  refine sf (ap h gB.h rfl Ss.h rfl (by decide) rfl rfl (λ_=>u5) (h.ro a0) (by simp[Value.oneCell']) rfl (show _=(is++[first+(m:Int)-1,0]:List Int).map (Value.int .i64) by rw[Md];rfl) (by unfold maxLen;omega) (by omega)) ?_
  rintro _ w ⟨p20,c21,rfl,h⟩
  refine go h λw h=>?_
  refine st (bs (kk-1))<|go h λw h=>?_
  have h:=h.drop.drop
  have h:=SH.fI ({kind:=2,gen:=gen}) rfl rfl (SH.ofB (m:={kind:=3,aC:=Bm.cR 0 (slice ha (kk)),aA:=[first+(m:Int)-1+1]}) h.fz rfl)
  have h:=h.m8
  have hlen:(gI ha gen first (((bV x at_ ha key v first).1:Nat):Int) j (bV x at_ ha key v first).2).length=m:=by have:=congrArg List.length hz;rw[vX,vX]at this;omega
  have KV:=Kt ha gen first j (((bV x at_ ha key v first).1:Nat):Int) (bV x at_ ha key v first).2
  rw[hlen,show (((bV x at_ ha key v first).1:Nat):Int)-(j:Int)-1=kk by omega]at KV
  exact⟨(j+1,zs++[({kind:=2,gen:=gen},⟨none,0,none,0⟩),({kind:=3,aC:=Bm.cR 0 (slice ha (kk)),aA:=[first+(m:Int)-1+1]},⟨some ⟨b15,0,none⟩,1,none,0⟩)],is++[first+(m:Int)-1,0],m+2,p17,c18,p20,c21,kk-1),⟨rfl,rfl,rfl,rfl,rfl,rfl,rfl,trivial⟩,⟨h,by(try dsimp only);rw[Md,hz,KV,Md];rfl,by(try dsimp only);rw[hi,KV,Md];rfl,by(try dsimp only);rw[cV,hm];rfl,by(try dsimp only);omega,by(try dsimp only);omega,⟨by(try dsimp only);omega,by(try dsimp only);omega⟩⟩,by(try dsimp only);omega⟩
 ·have L5:=dR eJ
  refine go h λw h=>?_
  refine rr (iG rfl rfl rfl) ?_
  obtain rfl:j=((((bV x at_ ha key v first).1:Nat):Int)-level).toNat:=by omega
  rw[<- Mg]at hz hi
  subst hm;subst hi
  exact⟨zs,p,cc,p2,c2,hz,rfl,(h.to.fr (.c r1 (.c r1 (.c r0 (.c r0 .n)))))⟩
section
attribute [local semireducible] gA wpS Go.E.X XS C kV lL fin Y U F Ca kU bl rb aV bS ex ce pu sK gK bK zK
attribute [local irreducible] gA wpS
variable{B w:World}{L:List As}
theorem B3(xb mb:Nat)(x:Ct.X)(c:Ct.Call)(b:Int)(ha:Nat)(lv gen:Int)(h:SH B w (XA xb mb (Ct.X.of c x)::L))(k:Ct.Ok 60 (Ct.X.of c x))(hh:ha<18446744073709551616)(vE:c.key.size<=64)(hb:1<=b)(hl:0<=lv)(YH:lv<=1000000000000)(xL:Ct.bO ((Ct.X.of c x).node b).key c.key=false):
  Calls prog 219 #[↑xb,↑b,.int .u64 (ha:Int),↑lv,↑gen] w λe w'=>∃y v,Ct.bC (Ct.rM ((Ct.X.of c x).node b) b ha c.key c.value lv gen) (Ct.X.of c x)=Ct.out y v/\e=.returned (.int .i64 v)/\SH B w' (XA xb mb y::L)/\Ct.Ok 36 y:=by
 have kmade:=k.made
 have hlen:=k.len
 refine Kk (args:=[_,_,_,_,_]) func219 rfl ntmps219 rfl ?_
 refine sq<|rg<|st (sg rfl)<|xe<|nx<|sq<|rg<|st (sg rfl)<|xe<|nx<|sq<|?_
 obtain⟨pn,cn,hN⟩:=h.aOe a0
 refine rg<|st (mv rfl)<|st (nc rfl rfl)<|st (fa Gw rfl)<|st (ld (v:=.pointer (some ⟨mb,0,none⟩)) Ov rfl (h.xc a0 λ_=>rfl))<|st (nc rfl rfl)<|st (fa Ni rfl)<|st (fa Nj rfl)<|st (ld BO rfl (hN))<|st (ln Cs rfl rfl)<|st (bw rfl rfl (iR (c:=((2+(Ct.X.of c x).s.aG.length+1:Nat):Int)) (by omega) (by omega) (by omega)))<|st (sg rfl)<|xe<|nx<|sq<|sq<|?_
 obtain⟨⟨pg,cg,pm,cm,pq,cq,pi,ci⟩,h⟩:=h.xo
 have h:SH B w (bl xb (Bl mb (Ct.X.of c x).e ⟨pg,cg,pm,cm,pq,cq,pi,ci⟩) 135::aV 44 1 (.slice pg (Ct.X.of c x).e.eV.length cg) (Ct.X.of c x).e.eV.length ((Ct.X.of c x).e.eV.map (Value.int .i64))::aV 44 1 (.slice pm (Ct.X.of c x).e.made.length cm) (Ct.X.of c x).e.made.length ((Ct.X.of c x).e.made.map (Value.int .i64))::aV 33 1 (.slice pq (Ct.X.of c x).e.cells.length cq) (Ct.X.of c x).e.cells.length ((Ct.X.of c x).e.cells.map (Value.int .i64))::aV 3 1 (.slice pi (Ct.X.of c x).e.dU.length ci) (Ct.X.of c x).e.dU.length ((Ct.X.of c x).e.dU.map (Value.int .i64))::dX mb (Ct.X.of c x).s::L):=h
 refine fD [1,3,5,7,9,11,13,15,17,19] (by kernel_rfl) h (.c r0 .n) λw h=>tk (λW H=>mv rfl)<|tk (λW H=>nc rfl rfl)<|tk (λW H=>fa tK rfl)<|tk (λW H=>ld (v:=.int .i64 (((Ct.X.of c x).e.m:Nat):Int)) jZ rfl (H.c a0 rfl))<|tk (λW H=>mv rfl)<|tk (λW H=>nc rfl rfl)<|tk (λW H=>fa vT rfl)<|tk (λW H=>ld (v:=.slice pm (Ct.X.of c x).e.made.length cm) kZ rfl (H.c a0 rfl))<|tk (λW H=>ln gN rfl rfl)<|tk (λW H=>bi rfl rfl rfl)<|xz<|nx<|?_
 rcases dQ (decide (((((Ct.X.of c x).e.m:Nat):Int):Int)<(((Ct.X.of c x).e.made.length:Nat):Int)))with dF|dF
 ·have xZ:=dH dF
  refine ct rfl dF<|?_
  obtain⟨b3,rfl⟩:=h.fp a2 (by omega)
  refine fD [1,3,5,7,9,11,13,15,17,19,20] (by kernel_rfl) h (.c r0 (.c r1 .n)) λw h=>tk (λW H=>mv rfl)<|tk (λW H=>nc rfl rfl)<|tk (λW H=>fa vT rfl)<|tk (λW H=>ld (v:=.slice (some ⟨b3,0,none⟩) (Ct.X.of c x).e.made.length cm) kZ rfl (H.c a0 rfl))<|tk (λW H=>mv rfl)<|tk (λW H=>nc rfl rfl)<|tk (λW H=>fa tK rfl)<|tk (λW H=>ld (v:=.int .i64 (((Ct.X.of c x).e.m:Nat):Int)) jZ rfl (H.c a0 rfl))<|tk (λW H=>ix (j:=(Ct.X.of c x).e.m) gN uM rfl rfl (by omega))<|tk (λW H=>ld jE rfl ((H.ro a1).i (by omega)))<|ef (sg rfl) (h.hs (.c r0 (.c r1 .n)))<|xz<|nx<|sq<|sq<|?_
  have hfp:1<=((Ct.X.of c x).e.made.getD (Ct.X.of c x).e.m 0)/\((Ct.X.of c x).e.made.getD (Ct.X.of c x).e.m 0)<=1000000000000:=by have:=kmade _ (Ct.mF (0:Int) (show (Ct.X.of c x).e.m<(Ct.X.of c x).e.made.length by omega));omega
  have h:SH B w (XA xb mb (Ct.X.of c x)::L):=SH.xi ⟨pg,cg,some ⟨b3,0,none⟩,cm,pq,cq,pi,ci⟩ (h)
  refine rg<|st (mv rfl)<|st (nc rfl rfl)<|st (fa oL rfl)<|st (ld (v:=.bool (Ct.X.of c x).e.aD) Cx rfl (h.xc a0 λ_=>rfl))<|xe<|nx<|?_
  rcases dQ (Ct.X.of c x).e.aD with eB|eB
  ·refine ct rfl eB<|sq<|rg<|st (sg rfl)<|xe<|nx<|rt<|tr<|?_
   refine rr (mC results219 rfl)<|⟨_,0,Ct.rS eB,rfl,h,k.stop eB⟩
  ·refine cf rfl eB<|sk<|nx<|sq<|fD [1,3,7,9,11,13,15,17,19,21,23,25,27,29,31,33,35,4,36,39,41,43,44,46] (by kernel_rfl) h (.c r0 .n) λw h=>tk (λW H=>mv rfl)<|tk (λW H=>mv rfl)<|tk (λW H=>mv rfl)<|tk (λW H=>mv rfl)<|tk (λW H=>mv rfl)<|tk (λW H=>nc rfl rfl)<|tk (λW H=>fa zU rfl)<|tk (λW H=>fa RK rfl)<|tk (λW H=>ld (v:=.string c.key) zH rfl (H.xc a0 λ_=>rfl))<|tk (λW H=>mv rfl)<|tk (λW H=>nc rfl rfl)<|tk (λW H=>fa zU rfl)<|tk (λW H=>fa TL rfl)<|tk (λW H=>ld (v:=.int .u64 (c.value:Int)) qD rfl (H.xc a0 λ_=>rfl))<|tk (λW H=>mv rfl)<|tk (λW H=>mv rfl)<|tk (λW H=>mv rfl)<|cs (ca eF rfl) ((aQ xb mb (Ct.X.of c x) b (h.fr (.c r0 .n)) k.eY).mono ?_)
   rintro _ w ⟨p5,rfl,h⟩
   have f6:=k.qJ b
   have bf6:=k.len
   refine⟨_,rfl,h.hs (.c r1 .n),?_⟩
   refine cs (ca eF rfl) ((Oo ((Ct.X.of c x).node b) p5 b ha c.key c.value lv gen ((Ct.X.of c x).e.made.getD (Ct.X.of c x).e.m 0) (h.fr (.c r0 .n)) hh f6.1.2.2.2.1 xL hl (by omega) (by omega) (by omega)).mono ?_)
   rintro _ w ⟨zs,p,cc,p2,c2,hz,rfl,h⟩
   refine⟨_,rfl,h.hs (.c r4 .n),?_⟩
   refine tk (λW H=>mv rfl)<|tk (λW H=>xr rfl rfl)<|tk (λW H=>xr rfl rfl)<|ef (sg rfl) (h.hs (.c r4 .n))<|ef (sg rfl) (h.hs (.c r4 .n))<|xz<|nx<|sq<|sq<|rg<|st (sg rfl)<|xe<|nx<|bk<|?_
   have hzl:zs.length=(Ct.bU ((Ct.X.of c x).node b) b ha c.key c.value lv gen ((Ct.X.of c x).e.made.getD (Ct.X.of c x).e.m 0)).length:=by have:=congrArg List.length hz;simpa using this
   have KG:=λL=>Ct.qV L ((Ct.X.of c x).node b) b ha c.key c.value lv gen ((Ct.X.of c x).e.made.getD (Ct.X.of c x).e.m 0) (by omega) hb f6.2 vE hh xL hl
   have ZJ:=(KG 0).2
   have hd0:Ct.bC (Ct.rM ((Ct.X.of c x).node b) b ha c.key c.value lv gen) (Ct.X.of c x)=Ct.bC (Ct.iX (Ct.bU ((Ct.X.of c x).node b) b ha c.key c.value lv gen ((Ct.X.of c x).e.made.getD (Ct.X.of c x).e.m 0)) 0) (Ct.X.of c x):=Ct.DQ eB (by rw[if_pos (by omega)]) k.m
   refine lp (α:=Ct.X×Nat×Int) (λρ=>(.c 0 ↑xb (.c 11 (.int .i64 ρ.2.2) (.c 13 (.slice p zs.length cc) (.c 14 (.slice p2 zs.length c2) (.c 15 (.int .i64 (ρ.2.1:Int)) .n)))))) (λρ w=>SH B w (XA xb mb (Ct.X.of c ρ.1)::aV 53 14 (.slice p zs.length cc) zs.length (zs.flatMap bY)::aV 44 1 (.slice p2 zs.length c2) zs.length (((Ct.bU ((Ct.X.of c x).node b) b ha c.key c.value lv gen ((Ct.X.of c x).e.made.getD (Ct.X.of c x).e.m 0)).map Prod.snd).map (Value.int .i64))::bH zs::L)/\(Ct.bC (Ct.rM ((Ct.X.of c x).node b) b ha c.key c.value lv gen) (Ct.X.of c x)=Ct.bC (Ct.iX ((Ct.bU ((Ct.X.of c x).node b) b ha c.key c.value lv gen ((Ct.X.of c x).e.made.getD (Ct.X.of c x).e.m 0)).drop ρ.2.1) ρ.2.2) (Ct.X.of c ρ.1))/\(Ct.Ok (60-ρ.2.1) (Ct.X.of c ρ.1))/\(ρ.2.1<=zs.length)) (λρ=>zs.length-ρ.2.1) (x,0,0) ⟨rfl,rfl,rfl,rfl,rfl,trivial⟩ ⟨((h.fr (.c r3 .n)).drop.fr (.c r3 (.c r0 (.c r0 (.c r0 .n))))),hd0,k,bZ _⟩ ?_
   rintro⟨y,i,r⟩ w ⟨h,hq,k,hi⟩
   dsimp only at *
   refine sq<|sq<|rg<|st (mv rfl)<|st (mv rfl)<|st (ln Cs rfl rfl)<|st (bi rfl rfl rfl)<|xe<|nx<|?_
   rcases dQ (decide (((i:Int):Int)<(zs.length:Int)))with fF|fF
   ·have Ua:=dH fF
    refine ct rfl fF<|sk<|nx<|sq<|bk<|?_
    have TZ:i<(Ct.bU ((Ct.X.of c x).node b) b ha c.key c.value lv gen ((Ct.X.of c x).e.made.getD (Ct.X.of c x).e.m 0)).length:=by omega
    have hzi:=Ct.A2 hz ({},{}) ({},0) TZ
    have hfi:=(KG ((Ct.X.of c y).s.aG.length+1)).1 _ (Ct.mF ((({}:Ct.Node),(0:Int))) TZ)
    rw[<- hzi]at hfi
    rw[Ct.Lc TZ r,<- hzi,<- Ct.i2 TZ]at hq
    have h:=h.IG a3 (z:=zs.getD i ({},{})) (Ct.mF ((({}:Ct.Node),({}:Lq))) (by omega))
    obtain⟨b9,rfl⟩:=h.fp a2 (by omega)
    obtain⟨DJ,rfl⟩:=h.fp a3 (by omega)
    refine fD [1,3,5,7,9,11,13,15,17,18,20] (by kernel_rfl) h (.c r2 (.c r2 .n)) λw h=>tk (λW H=>mv rfl)<|tk (λW H=>mv rfl)<|tk (λW H=>mv rfl)<|tk (λW H=>ix (j:=i) Cs xS rfl rfl (by omega))<|tk (λW H=>kB rfl ((H.ro a0).x gH (by decide) (by omega) ({},{})) iK)<|tk (λW H=>mv rfl)<|tk (λW H=>mv rfl)<|tk (λW H=>ix (j:=i) gN uM rfl rfl (by omega))<|tk (λW H=>ld jE rfl ((H.ro a1).i (by omega)))<|cs (ca eF rfl) ((fA (j:=60-(i+1)) xb mb (Ct.X.of c y) (zs.getD i ({},{})).1 (zs.getD i ({},{})).2 (((Ct.bU ((Ct.X.of c x).node b) b ha c.key c.value lv gen ((Ct.X.of c x).e.made.getD (Ct.X.of c x).e.m 0)).map Prod.snd).getD i 0) (h.fr (.c r0 (.c r0 .n))) (k.less (by omega)) hfi).mono ?_)
    rintro _ w ⟨y11,v12,Bj,rfl,h,k,aTz⟩
    obtain⟨z14,rfl⟩:=Ct.IQ Bj
    have aR3:=Ct.AX Bj
    refine⟨_,rfl,h.hs (.c r1 (.c r1 .n)),?_⟩
    refine ef (sg rfl) (h.hs (.c r1 (.c r1 .n)))<|xz<|bn<|nx<|rg<|st (mv rfl)<|st (bw rfl rfl (iR (c:=((i+1:Nat):Int)) (by omega) (by omega) (by omega)))<|st (sg rfl)<|xe<|nx<|?_
    exact⟨(z14,i+1,v12),⟨rfl,rfl,rfl,rfl,rfl,trivial⟩,⟨h,hq.trans<|Ct.rA Bj<|rfl,k,by(try dsimp only);omega⟩,by(try dsimp only);omega⟩
   ·have JS:=dR fF
    refine cf rfl fF<|xt<|tx<|tx<|be<|nx<|sq<|rg<|st (mv rfl)<|st (sg rfl)<|xe<|nx<|rt<|?_
    refine rr (mC results219 rfl)<|?_
    rw[show i=(Ct.bU ((Ct.X.of c x).node b) b ha c.key c.value lv gen ((Ct.X.of c x).e.made.getD (Ct.X.of c x).e.m 0)).length by omega,List.drop_length]at hq
    exact⟨_,r,hq.trans Ct.rR,rfl,(h.fr (.c r1 (.c r1 (.c r1 .n)))).drop.drop.drop,k.less (by omega)⟩
 ·have JW:=dR dF
  refine cf rfl dF<|sk<|nx<|sq<|sq<|?_
  have hfp:1<=((2+(Ct.X.of c x).s.aG.length+1:Nat):Int)/\((2+(Ct.X.of c x).s.aG.length+1:Nat):Int)<=1000000000000:=by omega
  have h:SH B w (XA xb mb (Ct.X.of c x)::L):=SH.xi ⟨pg,cg,pm,cm,pq,cq,pi,ci⟩ (h)
  refine rg<|st (mv rfl)<|st (nc rfl rfl)<|st (fa oL rfl)<|st (ld (v:=.bool (Ct.X.of c x).e.aD) Cx rfl (h.xc a0 λ_=>rfl))<|xe<|nx<|?_
  rcases dQ (Ct.X.of c x).e.aD with oR|oR
  ·refine ct rfl oR<|sq<|rg<|st (sg rfl)<|xe<|nx<|rt<|tr<|?_
   refine rr (mC results219 rfl)<|⟨_,0,Ct.rS oR,rfl,h,k.stop oR⟩
  ·refine cf rfl oR<|sk<|nx<|sq<|fD [1,3,7,9,11,13,15,17,19,21,23,25,27,29,31,33,35,4,36,39,41,43,44,46] (by kernel_rfl) h (.c r0 .n) λw h=>tk (λW H=>mv rfl)<|tk (λW H=>mv rfl)<|tk (λW H=>mv rfl)<|tk (λW H=>mv rfl)<|tk (λW H=>mv rfl)<|tk (λW H=>nc rfl rfl)<|tk (λW H=>fa zU rfl)<|tk (λW H=>fa RK rfl)<|tk (λW H=>ld (v:=.string c.key) zH rfl (H.xc a0 λ_=>rfl))<|tk (λW H=>mv rfl)<|tk (λW H=>nc rfl rfl)<|tk (λW H=>fa zU rfl)<|tk (λW H=>fa TL rfl)<|tk (λW H=>ld (v:=.int .u64 (c.value:Int)) qD rfl (H.xc a0 λ_=>rfl))<|tk (λW H=>mv rfl)<|tk (λW H=>mv rfl)<|tk (λW H=>mv rfl)<|cs (ca eF rfl) ((aQ xb mb (Ct.X.of c x) b (h.fr (.c r0 .n)) k.eY).mono ?_)
   rintro _ w ⟨R5,rfl,h⟩
   have f19:=k.qJ b
   have bAt:=k.len
   refine⟨_,rfl,h.hs (.c r1 .n),?_⟩
   refine cs (ca eF rfl) ((Oo ((Ct.X.of c x).node b) R5 b ha c.key c.value lv gen ((2+(Ct.X.of c x).s.aG.length+1:Nat):Int) (h.fr (.c r0 .n)) hh f19.1.2.2.2.1 xL hl (by omega) (by omega) (by omega)).mono ?_)
   rintro _ w ⟨zs,p,cc,p2,c2,hz,rfl,h⟩
   refine⟨_,rfl,h.hs (.c r4 .n),?_⟩
   refine tk (λW H=>mv rfl)<|tk (λW H=>xr rfl rfl)<|tk (λW H=>xr rfl rfl)<|ef (sg rfl) (h.hs (.c r4 .n))<|ef (sg rfl) (h.hs (.c r4 .n))<|xz<|nx<|sq<|sq<|rg<|st (sg rfl)<|xe<|nx<|bk<|?_
   have hzl:zs.length=(Ct.bU ((Ct.X.of c x).node b) b ha c.key c.value lv gen ((2+(Ct.X.of c x).s.aG.length+1:Nat):Int)).length:=by have:=congrArg List.length hz;simpa using this
   have KG:=λL=>Ct.qV L ((Ct.X.of c x).node b) b ha c.key c.value lv gen ((2+(Ct.X.of c x).s.aG.length+1:Nat):Int) (by omega) hb f19.2 vE hh xL hl
   have ZJ:=(KG 0).2
   have hd0:Ct.bC (Ct.rM ((Ct.X.of c x).node b) b ha c.key c.value lv gen) (Ct.X.of c x)=Ct.bC (Ct.iX (Ct.bU ((Ct.X.of c x).node b) b ha c.key c.value lv gen ((2+(Ct.X.of c x).s.aG.length+1:Nat):Int)) 0) (Ct.X.of c x):=Ct.DQ oR (by rw[if_neg (by omega)];omega) k.m
   refine lp (α:=Ct.X×Nat×Int) (λρ=>(.c 0 ↑xb (.c 11 (.int .i64 ρ.2.2) (.c 13 (.slice p zs.length cc) (.c 14 (.slice p2 zs.length c2) (.c 15 (.int .i64 (ρ.2.1:Int)) .n)))))) (λρ w=>SH B w (XA xb mb (Ct.X.of c ρ.1)::aV 53 14 (.slice p zs.length cc) zs.length (zs.flatMap bY)::aV 44 1 (.slice p2 zs.length c2) zs.length (((Ct.bU ((Ct.X.of c x).node b) b ha c.key c.value lv gen ((2+(Ct.X.of c x).s.aG.length+1:Nat):Int)).map Prod.snd).map (Value.int .i64))::bH zs::L)/\(Ct.bC (Ct.rM ((Ct.X.of c x).node b) b ha c.key c.value lv gen) (Ct.X.of c x)=Ct.bC (Ct.iX ((Ct.bU ((Ct.X.of c x).node b) b ha c.key c.value lv gen ((2+(Ct.X.of c x).s.aG.length+1:Nat):Int)).drop ρ.2.1) ρ.2.2) (Ct.X.of c ρ.1))/\(Ct.Ok (60-ρ.2.1) (Ct.X.of c ρ.1))/\(ρ.2.1<=zs.length)) (λρ=>zs.length-ρ.2.1) (x,0,0) ⟨rfl,rfl,rfl,rfl,rfl,trivial⟩ ⟨((h.fr (.c r3 .n)).drop.fr (.c r3 (.c r0 (.c r0 (.c r0 .n))))),hd0,k,bZ _⟩ ?_
   rintro⟨y,i,r⟩ w ⟨h,hq,k,hi⟩
   dsimp only at *
   refine sq<|sq<|rg<|st (mv rfl)<|st (mv rfl)<|st (ln Cs rfl rfl)<|st (bi rfl rfl rfl)<|xe<|nx<|?_
   rcases dQ (decide (((i:Int):Int)<(zs.length:Int)))with jV|jV
   ·have QM:=dH jV
    refine ct rfl jV<|sk<|nx<|sq<|bk<|?_
    have TZ:i<(Ct.bU ((Ct.X.of c x).node b) b ha c.key c.value lv gen ((2+(Ct.X.of c x).s.aG.length+1:Nat):Int)).length:=by omega
    have hzi:=Ct.A2 hz ({},{}) ({},0) TZ
    have hfi:=(KG ((Ct.X.of c y).s.aG.length+1)).1 _ (Ct.mF ((({}:Ct.Node),(0:Int))) TZ)
    rw[<- hzi]at hfi
    rw[Ct.Lc TZ r,<- hzi,<- Ct.i2 TZ]at hq
    have h:=h.IG a3 (z:=zs.getD i ({},{})) (Ct.mF ((({}:Ct.Node),({}:Lq))) (by omega))
    obtain⟨b22,rfl⟩:=h.fp a2 (by omega)
    obtain⟨b23,rfl⟩:=h.fp a3 (by omega)
    refine fD [1,3,5,7,9,11,13,15,17,18,20] (by kernel_rfl) h (.c r2 (.c r2 .n)) λw h=>tk (λW H=>mv rfl)<|tk (λW H=>mv rfl)<|tk (λW H=>mv rfl)<|tk (λW H=>ix (j:=i) Cs xS rfl rfl (by omega))<|tk (λW H=>kB rfl ((H.ro a0).x gH (by decide) (by omega) ({},{})) iK)<|tk (λW H=>mv rfl)<|tk (λW H=>mv rfl)<|tk (λW H=>ix (j:=i) gN uM rfl rfl (by omega))<|tk (λW H=>ld jE rfl ((H.ro a1).i (by omega)))<|cs (ca eF rfl) ((fA (j:=60-(i+1)) xb mb (Ct.X.of c y) (zs.getD i ({},{})).1 (zs.getD i ({},{})).2 (((Ct.bU ((Ct.X.of c x).node b) b ha c.key c.value lv gen ((2+(Ct.X.of c x).s.aG.length+1:Nat):Int)).map Prod.snd).getD i 0) (h.fr (.c r0 (.c r0 .n))) (k.less (by omega)) hfi).mono ?_)
    rintro _ w ⟨y24,v25,q26,rfl,h,k,aUl⟩
    obtain⟨z27,rfl⟩:=Ct.IQ q26
    have bEy:=Ct.AX q26
    refine⟨_,rfl,h.hs (.c r1 (.c r1 .n)),?_⟩
    refine ef (sg rfl) (h.hs (.c r1 (.c r1 .n)))<|xz<|bn<|nx<|rg<|st (mv rfl)<|st (bw rfl rfl (iR (c:=((i+1:Nat):Int)) (by omega) (by omega) (by omega)))<|st (sg rfl)<|xe<|nx<|?_
    exact⟨(z27,i+1,v25),⟨rfl,rfl,rfl,rfl,rfl,trivial⟩,⟨h,hq.trans<|Ct.rA q26<|rfl,k,by(try dsimp only);omega⟩,by(try dsimp only);omega⟩
   ·have aAi:=dR jV
    refine cf rfl jV<|xt<|tx<|tx<|be<|nx<|sq<|rg<|st (mv rfl)<|st (sg rfl)<|xe<|nx<|rt<|?_
    refine rr (mC results219 rfl)<|?_
    rw[show i=(Ct.bU ((Ct.X.of c x).node b) b ha c.key c.value lv gen ((2+(Ct.X.of c x).s.aG.length+1:Nat):Int)).length by omega,List.drop_length]at hq
    exact⟨_,r,hq.trans Ct.rR,rfl,(h.fr (.c r1 (.c r1 (.c r1 .n)))).drop.drop.drop,k.less (by omega)⟩
end
end Go.Q9
end
