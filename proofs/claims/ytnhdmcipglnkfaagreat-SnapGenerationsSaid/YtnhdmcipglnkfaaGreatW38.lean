/- Parts of a proof: Q3. -/
import Derived.Test.YtnhdmcipglnkfaaGreatW36
import Derived.Test.YtnhdmcipglnkfaaGreatW37
set_option linter.unusedVariables false
set_option linter.unusedSimpArgs false
set_option maxRecDepth 100000
set_option maxHeartbeats 4000000
section
namespace Go.Q9
open Go.Proofs.Tryz
open Go.RowKit Go.E Go.Ct
attribute [local irreducible] gB wpS Go.E.X XS C jU kP fin Y U F Ca jT bl rb aU bV ex ce pu sK gK bK zK
variable{B w:World}{L:List As}
theorem JB(i a j b:Int)(h:SH B w (L)):
  Calls prog 277 #[↑i,↑a,↑j,↑b] w λe w'=>∃q,e=.returned (.agg (aL (fX i a j b) q).toArray)/\SH B w' (aM (fX i a j b) q::L):=by
 have hw1:=Bm.iM 0 i (by decide)
 have hw2:=Bm.iM _ j hw1
 refine bZ func277 ntmps277 h λw h=>?_
 refine jA h λb1 w h=>?_
 refine cl (ca eF rfl) ((lT 0 i _ (by omega)).mono ?_)
 rintro _ _ ⟨rfl,rfl⟩
 refine⟨_,rfl,?_⟩
 refine st (mv rfl)<|?_
 refine go h λw h=>?_
 refine cl (ca eF rfl) ((lT (Bm.cI 0 i) j _ (by omega)).mono ?_)
 rintro _ _ ⟨rfl,rfl⟩
 refine⟨_,rfl,?_⟩
 refine st (mv rfl)<|st (mv rfl)<|?_
 refine go h λw h=>?_
 refine sf (bu [↑a,↑b] h fR.h Ss.h rfl (by kernel_rfl) rfl (by decide) (by decide)) ?_
 rintro _ w ⟨b2,rfl,h⟩
 refine go h λw h=>?_
 refine jA h λb3 w h=>?_
 refine qc h (λhd4 w h=>?_) λhd4 w h=>?_
 have hg5:=eC hd4
 refine go h λw h=>?_
 refine sf (bu [↑b,↑a] h fR.h Ss.h rfl (by kernel_rfl) rfl (by decide) (by decide)) ?_
 rintro _ w ⟨b6,rfl,h⟩
 refine go h λw h=>?_
 refine rr (bP rfl rfl (h.b a3) Row.h) ?_
 have e1:fX i a j b={kind:=3,aD:=Bm.cI (Bm.cI 0 i) j,aA:=[b,a]}:=by unfold fX;rw[if_pos (eC hd4)]
 have h:=((h.fr (.c r1 (.c r1 (.c r1 .n)))).drop.drop.drop).fz
 rw[e1];exact⟨⟨some ⟨b6,0,none⟩,2,none,0⟩,rfl,SH.YX (m:={kind:=3,aD:=Bm.cI (Bm.cI 0 i) j,aA:=[b,a]}) h rfl⟩
 have hg7:=cW hd4
 refine go h λw h=>?_
 refine rr (bP rfl rfl (h.b a2) Row.h) ?_
 have e1:fX i a j b={kind:=3,aD:=Bm.cI (Bm.cI 0 i) j,aA:=[a,b]}:=by unfold fX;rw[if_neg (cW hd4)]
 have h:=((h.fr (.c r0 (.c r1 .n))).drop.drop).fz
 rw[e1];exact⟨⟨some ⟨b2,0,none⟩,2,none,0⟩,rfl,SH.YX (m:={kind:=3,aD:=Bm.cI (Bm.cI 0 i) j,aA:=[a,b]}) h rfl⟩
theorem Iy(x:Ct.Node)(q:Lq)(at_:Int)(ha:Nat)(key:ByteArray)(v:Nat)(level gen first:Int)(h:SH B w (aM x q::L))(hh:ha<18446744073709551616)(hx:x.hash<18446744073709551616)(hne:bR x.key key=false)(hl:0<=level)(hl2:level<=1000000000000)(hf:1<=first)(hf2:first<=1000000000000):
  Calls prog 247 #[.agg (aL x q).toArray,↑at_,.int .u64 (ha:Int),↑key,.int .u64 (v:Int),↑level,↑gen,↑first] w λe w'=>∃zs p cc p2 c2,zs.map Prod.fst=(bT x at_ ha key v level gen first).map Prod.fst/\e=.returned (.tuple #[.slice p zs.length cc,.slice p2 zs.length c2])/\SH B w' (aU 53 14 (.slice p zs.length cc) zs.length (zs.flatMap cB)::aU 44 1 (.slice p2 zs.length c2) zs.length (((bT x at_ ha key v level gen first).map Prod.snd).map (Value.int .i64))::bE zs::aM x q::L):=by
 refine bZ func247 ntmps247 h λw h=>?_
 refine jX h λb1 w h=>?_
 refine cl (ca eF rfl) ((Xn x.hash ha _ (by omega) (by omega)).mono ?_)
 rintro _ _ ⟨rfl,rfl⟩
 refine⟨_,rfl,?_⟩
 refine st (sg rfl)<|xe<|nx<|sq<|sq<|rg<|st (mv rfl)<|st (bi rfl rfl rfl)<|xe<|nx<|?_
 refine qc h (λhd2 w h=>?_) λhd2 w h=>?_
 ·have hg3:=eC hd2
  refine go h λw h=>?_
  refine sf (bu [↑x.key,.int .u64 (x.value:Int),↑key,.int .u64 (v:Int)] h fR.h Ss.h rfl (by kernel_rfl) rfl (by decide) (by decide)) ?_
  rintro _ w ⟨b4,rfl,h⟩
  refine go h λw h=>?_
  refine Sd (ZU [⟨x.key,x.value⟩,⟨key,v⟩] (some ⟨b4,0,none⟩) 2 (SH.fz h.to) (by simp)) λq5 c6 w h=>?_
  have h:=(h.fr (.c r1 .n)).drop
  refine go h λw h=>?_
  refine sf (bu [.int .i64 6,.int .i64 0,.int .i64 0,.int .u64 0,.slice none 0 0,.int .u64 (ha:Int),.string .empty,.int .u64 0,.slice q5 (Ct.yZ [⟨x.key,x.value⟩,⟨key,v⟩]).length c6,.int .i64 0,.int .i64 0,.int .i64 0,.int .i64 0,.int .i64 0] h fR.h Ss.h rfl (by kernel_rfl) rfl (by decide) (by decide)) ?_
  rintro _ w ⟨b7,rfl,h⟩
  refine go h λw h=>?_
  refine sf (bu [.int .i64 0] h fR.h Ss.h rfl (by kernel_rfl) rfl (by decide) (by decide)) ?_
  rintro _ w ⟨b8,rfl,h⟩
  refine go h λw h=>?_
  refine st (bs 10)<|go h λw h=>?_
  have hds:(bJ x at_ ha key v first)=(11,[({kind:=6,hash:=ha,aF:=gG ⟨x.key,x.value⟩ ⟨key,v⟩},0)]):=by unfold bJ;rw[if_pos (by omega)]
  rw[MW hne]at h
  have h:=(h.fr (.c r2 (.c r1 (.c r0 (.c r1 (.c r0 .n))))))
  have h:=((SH.ofP (m:={kind:=6,hash:=ha,aF:=gG ⟨x.key,x.value⟩ ⟨key,v⟩}) h rfl).YH.fr (.c r1 .n)).VY
  have hdc:(bJ x at_ ha key v first).1=11:=by rw[hds]
  have hdl:(bJ x at_ ha key v first).2.length=1:=by rw[hds];rfl
  have hd1:(bJ x at_ ha key v first).2.map Prod.fst=([({kind:=6,hash:=ha,aF:=gG ⟨x.key,x.value⟩ ⟨key,v⟩},⟨none,0,q5,c6⟩)]:List (Ct.Node×Lq)).map Prod.fst:=by rw[hds];rfl
  have hd2:[0]=(bJ x at_ ha key v first).2.map Prod.snd:=by rw[hds];rfl
  have h:SH B w (bE ([({kind:=6,hash:=ha,aF:=gG ⟨x.key,x.value⟩ ⟨key,v⟩},⟨none,0,q5,c6⟩)])::aU 53 14 (.slice (some ⟨b7,0,none⟩) 1 1) 1 (([({kind:=6,hash:=ha,aF:=gG ⟨x.key,x.value⟩ ⟨key,v⟩},⟨none,0,q5,c6⟩)]).flatMap cB)::aU 44 1 (.slice (some ⟨b8,0,none⟩) 1 1) 1 ([0].map (Value.int .i64))::aM x q::bl b1 (aL x q) 53::L):=h
  refine lp (α:=Nat×List (Ct.Node×Lq)×List Int×Nat×Option Addr×Nat×Option Addr×Nat×Int) (λρ=>(.c 2 (.int .u64 (ha:Int)) (.c 5 ↑level (.c 6 ↑gen (.c 7 ↑first (.c 16 (.slice ρ.2.2.2.2.1 ρ.2.2.2.1 ρ.2.2.2.2.2.1) (.c 17 (.slice ρ.2.2.2.2.2.2.1 ρ.2.2.2.1 ρ.2.2.2.2.2.2.2.1) (.c 20 (.int .i64 ρ.2.2.2.2.2.2.2.2) .n)))))))) (λρ w=>SH B w (bE ρ.2.1::aU 53 14 (.slice ρ.2.2.2.2.1 ρ.2.2.2.1 ρ.2.2.2.2.2.1) ρ.2.2.2.1 (ρ.2.1.flatMap cB)::aU 44 1 (.slice ρ.2.2.2.2.2.2.1 ρ.2.2.2.1 ρ.2.2.2.2.2.2.2.1) ρ.2.2.2.1 (ρ.2.2.1.map (Value.int .i64))::aM x q::bl b1 (aL x q) 53::L)/\(ρ.2.1.map Prod.fst=(eZ ha gen first (((bJ x at_ ha key v first).1:Nat):Int) ρ.1 (bJ x at_ ha key v first).2).map Prod.fst)/\(ρ.2.2.1=(eZ ha gen first (((bJ x at_ ha key v first).1:Nat):Int) ρ.1 (bJ x at_ ha key v first).2).map Prod.snd)/\(ρ.2.1.length=ρ.2.2.2.1)/\(ρ.2.2.2.1=(bJ x at_ ha key v first).2.length+2*ρ.1)/\(ρ.2.2.2.2.2.2.2.2=(((bJ x at_ ha key v first).1:Nat):Int)-1-(ρ.1:Int))/\(ρ.1<=11/\(ρ.1:Int)<=((((((bJ x at_ ha key v first).1:Nat):Int)-level).toNat:Nat):Int))) (λρ=>12-ρ.1) (0,[({kind:=6,hash:=ha,aF:=gG ⟨x.key,x.value⟩ ⟨key,v⟩},⟨none,0,q5,c6⟩)],[0],1,some ⟨b7,0,none⟩,1,some ⟨b8,0,none⟩,1,10) ⟨rfl,rfl,rfl,rfl,rfl,rfl,rfl,trivial⟩ ⟨h,hd1.symm,hd2,rfl,hdl.symm,by(try dsimp only);rw[hdc];omega,⟨by(try dsimp only);omega,by(try dsimp only);omega⟩⟩ ?_
  rintro⟨j,zs,is,m,p,cc,p2,c2,kk⟩ w ⟨h,hz,hi,hm,hml,hkk,hj⟩
  dsimp only at *
  refine go h λw h=>?_
  refine qc h (λhd9 w h=>?_) λhd9 w h=>?_
  ·have hg10:=eC hd9
   refine go h λw h=>?_
   refine st (ba (first+(m:Int)))<|st (bs (first+(m:Int)-1))<|go h λw h=>?_
   refine cl (ca eF rfl) ((eH ha kk _ (by omega)).mono ?_)
   rintro _ _ ⟨rfl,rfl⟩
   refine⟨_,rfl,?_⟩
   refine st (sg rfl)<|xe<|nx<|sq<|rg<|st (mv rfl)<|st (mv rfl)<|st (bd [.int .i64 2,↑gen,.int .i64 0,.int .u64 0,.slice none 0 0,.int .u64 0,.string .empty,.int .u64 0,.slice none 0 0,.int .i64 0,.int .i64 0,.int .i64 0,.int .i64 0,.int .i64 0] Ic rfl (by kernel_rfl))<|st (mv rfl)<|?_
   refine go h λw h=>?_
   refine cl (ca eF rfl) ((lT 0 (Ct.slice ha kk) _ (by omega)).mono ?_)
   rintro _ _ ⟨rfl,rfl⟩
   refine⟨_,rfl,?_⟩
   refine st (mv rfl)<|?_
   refine go h λw h=>?_
   refine st (ba (first+(m:Int)-1+1))<|go h λw h=>?_
   refine sf (bu [.int .i64 (first+(m:Int)-1+1)] h fR.h Ss.h rfl (by kernel_rfl) rfl (by decide) (by decide)) ?_
   rintro _ w ⟨b11,rfl,h⟩
   refine go h λw h=>?_
   refine sf (bu [.int .i64 2,↑gen,.int .i64 0,.int .u64 0,.slice none 0 0,.int .u64 0,.string .empty,.int .u64 0,.slice none 0 0,.int .i64 0,.int .i64 0,.int .i64 0,.int .i64 0,.int .i64 0,.int .i64 3,.int .i64 0,.int .i64 0,.int .u64 ((Bm.cI 0 (Ct.slice ha kk):Nat):Int),.slice (some ⟨b11,0,none⟩) 1 1,.int .u64 0,.string .empty,.int .u64 0,.slice none 0 0,.int .i64 0,.int .i64 0,.int .i64 0,.int .i64 0,.int .i64 0] h fR.h Ss.h rfl (by kernel_rfl) rfl (by decide) (by decide)) ?_
   rintro _ w ⟨b12,rfl,h⟩
   refine sf (ap h fR.h rfl Ss.h rfl (by decide) rfl rfl (λ_=>u3) (h.ro a0) (by simp[Value.oneCell']) rfl (show _=(zs++[({kind:=2,gen:=gen},⟨none,0,none,0⟩),({kind:=3,aD:=Bm.cI 0 (slice ha kk),aA:=[first+(m:Int)-1+1]},⟨some ⟨b11,0,none⟩,1,none,0⟩)]:List (Ct.Node×Lq)).flatMap cB by rw[List.flatMap_append];rfl) (by unfold maxLen;omega) (by omega)) ?_
   rintro _ w ⟨p13,c14,rfl,h⟩
   refine go h λw h=>?_
   refine sf (bu [.int .i64 (first+(m:Int)-1),.int .i64 0] h fR.h Ss.h rfl (by kernel_rfl) rfl (by decide) (by decide)) ?_
   rintro _ w ⟨b15,rfl,h⟩
   refine sf (ap h fR.h rfl Ss.h rfl (by decide) rfl rfl (λ_=>u5) (h.ro a0) (by simp[Value.oneCell']) rfl (show _=(is++[first+(m:Int)-1,0]:List Int).map (Value.int .i64) by rw[An];rfl) (by unfold maxLen;omega) (by omega)) ?_
   rintro _ w ⟨p16,c17,rfl,h⟩
   refine go h λw h=>?_
   refine st (bs (kk-1))<|go h λw h=>?_
   have h:=h.drop.drop
   have h:=SH.eE ({kind:=2,gen:=gen}) rfl rfl (SH.YX (m:={kind:=3,aD:=Bm.cI 0 (slice ha (kk)),aA:=[first+(m:Int)-1+1]}) h.fz rfl)
   have h:=h.FM
   have hlen:(eZ ha gen first (((bJ x at_ ha key v first).1:Nat):Int) j (bJ x at_ ha key v first).2).length=m:=by have:=congrArg List.length hz;rw[PQ,PQ]at this;omega
   have hsn:=uE ha gen first j (((bJ x at_ ha key v first).1:Nat):Int) (bJ x at_ ha key v first).2
   rw[hlen,show (((bJ x at_ ha key v first).1:Nat):Int)-(j:Int)-1=kk by omega]at hsn
   exact⟨(j+1,zs++[({kind:=2,gen:=gen},⟨none,0,none,0⟩),({kind:=3,aD:=Bm.cI 0 (slice ha (kk)),aA:=[first+(m:Int)-1+1]},⟨some ⟨b11,0,none⟩,1,none,0⟩)],is++[first+(m:Int)-1,0],m+2,p13,c14,p16,c17,kk-1),⟨rfl,rfl,rfl,rfl,rfl,rfl,rfl,trivial⟩,⟨h,by(try dsimp only);rw[An,hz,hsn,An];rfl,by(try dsimp only);rw[hi,hsn,An];rfl,by(try dsimp only);rw[cO,hm];rfl,by(try dsimp only);omega,by(try dsimp only);omega,⟨by(try dsimp only);omega,by(try dsimp only);omega⟩⟩,by(try dsimp only);omega⟩
  ·have hg18:=cW hd9
   refine go h λw h=>?_
   refine rr (gE rfl rfl rfl) ?_
   obtain rfl:j=((((bJ x at_ ha key v first).1:Nat):Int)-level).toNat:=by omega
   rw[<- tT]at hz hi
   subst hm;subst hi
   exact⟨zs,p,cc,p2,c2,hz,rfl,(h.to.fr (.c r1 (.c r1 (.c r0 (.c r0 .n)))))⟩
 ·have hg19:=cW hd2
  refine go h λw h=>?_
  refine cl (ca eF rfl) ((eH x.hash ((Ct.aJ x.hash ha:Nat):Int) _ (by omega)).mono ?_)
  rintro _ _ ⟨rfl,rfl⟩
  refine⟨_,rfl,?_⟩
  refine st (mv rfl)<|st (mv rfl)<|st (mv rfl)<|?_
  refine go h λw h=>?_
  refine cl (ca eF rfl) ((eH ha ((Ct.aJ x.hash ha:Nat):Int) _ (by omega)).mono ?_)
  rintro _ _ ⟨rfl,rfl⟩
  refine⟨_,rfl,?_⟩
  refine st (mv rfl)<|?_
  refine go h λw h=>?_
  refine cG (JB (Ct.slice x.hash ((Ct.aJ x.hash ha:Nat):Int)) at_ (Ct.slice ha ((Ct.aJ x.hash ha:Nat):Int)) first h.to) λq20 w h=>?_
  refine sf (bu [.int .i64 4,.int .i64 0,.int .i64 0,.int .u64 0,.slice none 0 0,.int .u64 (ha:Int),↑key,.int .u64 (v:Int),.slice none 0 0,.int .i64 0,.int .i64 0,.int .i64 0,.int .i64 0,.int .i64 0,.int .i64 (fX (Ct.slice x.hash ((Ct.aJ x.hash ha:Nat):Int)) at_ (Ct.slice ha ((Ct.aJ x.hash ha:Nat):Int)) first).kind,.int .i64 (fX (Ct.slice x.hash ((Ct.aJ x.hash ha:Nat):Int)) at_ (Ct.slice ha ((Ct.aJ x.hash ha:Nat):Int)) first).gen,.int .i64 (fX (Ct.slice x.hash ((Ct.aJ x.hash ha:Nat):Int)) at_ (Ct.slice ha ((Ct.aJ x.hash ha:Nat):Int)) first).main,.int .u64 (((fX (Ct.slice x.hash ((Ct.aJ x.hash ha:Nat):Int)) at_ (Ct.slice ha ((Ct.aJ x.hash ha:Nat):Int)) first).aD:Nat):Int),.slice q20.pb (fX (Ct.slice x.hash ((Ct.aJ x.hash ha:Nat):Int)) at_ (Ct.slice ha ((Ct.aJ x.hash ha:Nat):Int)) first).aA.length q20.cb,.int .u64 (((fX (Ct.slice x.hash ((Ct.aJ x.hash ha:Nat):Int)) at_ (Ct.slice ha ((Ct.aJ x.hash ha:Nat):Int)) first).hash:Nat):Int),.string (fX (Ct.slice x.hash ((Ct.aJ x.hash ha:Nat):Int)) at_ (Ct.slice ha ((Ct.aJ x.hash ha:Nat):Int)) first).key,.int .u64 (((fX (Ct.slice x.hash ((Ct.aJ x.hash ha:Nat):Int)) at_ (Ct.slice ha ((Ct.aJ x.hash ha:Nat):Int)) first).value:Nat):Int),.slice q20.pp (fX (Ct.slice x.hash ((Ct.aJ x.hash ha:Nat):Int)) at_ (Ct.slice ha ((Ct.aJ x.hash ha:Nat):Int)) first).aF.length q20.cp,.int .i64 (fX (Ct.slice x.hash ((Ct.aJ x.hash ha:Nat):Int)) at_ (Ct.slice ha ((Ct.aJ x.hash ha:Nat):Int)) first).prev,.int .i64 (fX (Ct.slice x.hash ((Ct.aJ x.hash ha:Nat):Int)) at_ (Ct.slice ha ((Ct.aJ x.hash ha:Nat):Int)) first).dC,.int .i64 (fX (Ct.slice x.hash ((Ct.aJ x.hash ha:Nat):Int)) at_ (Ct.slice ha ((Ct.aJ x.hash ha:Nat):Int)) first).aK,.int .i64 (fX (Ct.slice x.hash ((Ct.aJ x.hash ha:Nat):Int)) at_ (Ct.slice ha ((Ct.aJ x.hash ha:Nat):Int)) first).new,.int .i64 (fX (Ct.slice x.hash ((Ct.aJ x.hash ha:Nat):Int)) at_ (Ct.slice ha ((Ct.aJ x.hash ha:Nat):Int)) first).status] h fR.h Ss.h rfl (by kernel_rfl) rfl (by decide) (by decide)) ?_
  rintro _ w ⟨b21,rfl,h⟩
  refine go h λw h=>?_
  refine sf (bu [.int .i64 0,.int .i64 0] h fR.h Ss.h rfl (by kernel_rfl) rfl (by decide) (by decide)) ?_
  rintro _ w ⟨b22,rfl,h⟩
  refine go h λw h=>?_
  refine st (bs (((Ct.aJ x.hash ha:Nat):Int)-1))<|go h λw h=>?_
  have hds:(bJ x at_ ha key v first)=(aJ x.hash ha,[({kind:=4,hash:=ha,key:=key,value:=v},0),(fX (Ct.slice x.hash ((Ct.aJ x.hash ha:Nat):Int)) at_ (Ct.slice ha ((Ct.aJ x.hash ha:Nat):Int)) first,0)]):=by unfold bJ;rw[if_neg (by omega)]
  have h:=(h.fr (.c r2 (.c r1 (.c r0 (.c r1 (.c r0 .n))))))
  have h:=((SH.eE ({kind:=4,hash:=ha,key:=key,value:=v}) rfl rfl h.YH).fr (.c r0 (.c r1 .n))).FM
  have hdc:(bJ x at_ ha key v first).1=aJ x.hash ha:=by rw[hds]
  have hdl:(bJ x at_ ha key v first).2.length=2:=by rw[hds];rfl
  have hd1:(bJ x at_ ha key v first).2.map Prod.fst=([({kind:=4,hash:=ha,key:=key,value:=v},⟨none,0,none,0⟩),(fX (Ct.slice x.hash ((Ct.aJ x.hash ha:Nat):Int)) at_ (Ct.slice ha ((Ct.aJ x.hash ha:Nat):Int)) first,q20)]:List (Ct.Node×Lq)).map Prod.fst:=by rw[hds];rfl
  have hd2:[0,0]=(bJ x at_ ha key v first).2.map Prod.snd:=by rw[hds];rfl
  have h:SH B w (bE ([({kind:=4,hash:=ha,key:=key,value:=v},⟨none,0,none,0⟩),(fX (Ct.slice x.hash ((Ct.aJ x.hash ha:Nat):Int)) at_ (Ct.slice ha ((Ct.aJ x.hash ha:Nat):Int)) first,q20)])::aU 53 14 (.slice (some ⟨b21,0,none⟩) 2 2) 2 (([({kind:=4,hash:=ha,key:=key,value:=v},⟨none,0,none,0⟩),(fX (Ct.slice x.hash ((Ct.aJ x.hash ha:Nat):Int)) at_ (Ct.slice ha ((Ct.aJ x.hash ha:Nat):Int)) first,q20)]).flatMap cB)::aU 44 1 (.slice (some ⟨b22,0,none⟩) 2 2) 2 (([0,0]).map (Value.int .i64))::aM x q::bl b1 (aL x q) 53::L):=h
  refine lp (α:=Nat×List (Ct.Node×Lq)×List Int×Nat×Option Addr×Nat×Option Addr×Nat×Int) (λρ=>(.c 2 (.int .u64 (ha:Int)) (.c 5 ↑level (.c 6 ↑gen (.c 7 ↑first (.c 16 (.slice ρ.2.2.2.2.1 ρ.2.2.2.1 ρ.2.2.2.2.2.1) (.c 17 (.slice ρ.2.2.2.2.2.2.1 ρ.2.2.2.1 ρ.2.2.2.2.2.2.2.1) (.c 20 (.int .i64 ρ.2.2.2.2.2.2.2.2) .n)))))))) (λρ w=>SH B w (bE ρ.2.1::aU 53 14 (.slice ρ.2.2.2.2.1 ρ.2.2.2.1 ρ.2.2.2.2.2.1) ρ.2.2.2.1 (ρ.2.1.flatMap cB)::aU 44 1 (.slice ρ.2.2.2.2.2.2.1 ρ.2.2.2.1 ρ.2.2.2.2.2.2.2.1) ρ.2.2.2.1 (ρ.2.2.1.map (Value.int .i64))::aM x q::bl b1 (aL x q) 53::L)/\(ρ.2.1.map Prod.fst=(eZ ha gen first (((bJ x at_ ha key v first).1:Nat):Int) ρ.1 (bJ x at_ ha key v first).2).map Prod.fst)/\(ρ.2.2.1=(eZ ha gen first (((bJ x at_ ha key v first).1:Nat):Int) ρ.1 (bJ x at_ ha key v first).2).map Prod.snd)/\(ρ.2.1.length=ρ.2.2.2.1)/\(ρ.2.2.2.1=(bJ x at_ ha key v first).2.length+2*ρ.1)/\(ρ.2.2.2.2.2.2.2.2=(((bJ x at_ ha key v first).1:Nat):Int)-1-(ρ.1:Int))/\(ρ.1<=11/\(ρ.1:Int)<=((((((bJ x at_ ha key v first).1:Nat):Int)-level).toNat:Nat):Int))) (λρ=>12-ρ.1) (0,[({kind:=4,hash:=ha,key:=key,value:=v},⟨none,0,none,0⟩),(fX (Ct.slice x.hash ((Ct.aJ x.hash ha:Nat):Int)) at_ (Ct.slice ha ((Ct.aJ x.hash ha:Nat):Int)) first,q20)],[0,0],2,some ⟨b21,0,none⟩,2,some ⟨b22,0,none⟩,2,((Ct.aJ x.hash ha:Nat):Int)-1) ⟨rfl,rfl,rfl,rfl,rfl,rfl,rfl,trivial⟩ ⟨h,hd1.symm,hd2,rfl,hdl.symm,by(try dsimp only);rw[hdc];omega,⟨by(try dsimp only);omega,by(try dsimp only);omega⟩⟩ ?_
  rintro⟨j,zs,is,m,p,cc,p2,c2,kk⟩ w ⟨h,hz,hi,hm,hml,hkk,hj⟩
  dsimp only at *
  refine go h λw h=>?_
  refine qc h (λhd23 w h=>?_) λhd23 w h=>?_
  ·have hg24:=eC hd23
   refine go h λw h=>?_
   refine st (ba (first+(m:Int)))<|st (bs (first+(m:Int)-1))<|go h λw h=>?_
   refine cl (ca eF rfl) ((eH ha kk _ (by omega)).mono ?_)
   rintro _ _ ⟨rfl,rfl⟩
   refine⟨_,rfl,?_⟩
   refine st (sg rfl)<|xe<|nx<|sq<|rg<|st (mv rfl)<|st (mv rfl)<|st (bd [.int .i64 2,↑gen,.int .i64 0,.int .u64 0,.slice none 0 0,.int .u64 0,.string .empty,.int .u64 0,.slice none 0 0,.int .i64 0,.int .i64 0,.int .i64 0,.int .i64 0,.int .i64 0] Ic rfl (by kernel_rfl))<|st (mv rfl)<|?_
   refine go h λw h=>?_
   refine cl (ca eF rfl) ((lT 0 (Ct.slice ha kk) _ (by omega)).mono ?_)
   rintro _ _ ⟨rfl,rfl⟩
   refine⟨_,rfl,?_⟩
   refine st (mv rfl)<|?_
   refine go h λw h=>?_
   refine st (ba (first+(m:Int)-1+1))<|go h λw h=>?_
   refine sf (bu [.int .i64 (first+(m:Int)-1+1)] h fR.h Ss.h rfl (by kernel_rfl) rfl (by decide) (by decide)) ?_
   rintro _ w ⟨b25,rfl,h⟩
   refine go h λw h=>?_
   refine sf (bu [.int .i64 2,↑gen,.int .i64 0,.int .u64 0,.slice none 0 0,.int .u64 0,.string .empty,.int .u64 0,.slice none 0 0,.int .i64 0,.int .i64 0,.int .i64 0,.int .i64 0,.int .i64 0,.int .i64 3,.int .i64 0,.int .i64 0,.int .u64 ((Bm.cI 0 (Ct.slice ha kk):Nat):Int),.slice (some ⟨b25,0,none⟩) 1 1,.int .u64 0,.string .empty,.int .u64 0,.slice none 0 0,.int .i64 0,.int .i64 0,.int .i64 0,.int .i64 0,.int .i64 0] h fR.h Ss.h rfl (by kernel_rfl) rfl (by decide) (by decide)) ?_
   rintro _ w ⟨b26,rfl,h⟩
   refine sf (ap h fR.h rfl Ss.h rfl (by decide) rfl rfl (λ_=>u3) (h.ro a0) (by simp[Value.oneCell']) rfl (show _=(zs++[({kind:=2,gen:=gen},⟨none,0,none,0⟩),({kind:=3,aD:=Bm.cI 0 (slice ha kk),aA:=[first+(m:Int)-1+1]},⟨some ⟨b25,0,none⟩,1,none,0⟩)]:List (Ct.Node×Lq)).flatMap cB by rw[List.flatMap_append];rfl) (by unfold maxLen;omega) (by omega)) ?_
   rintro _ w ⟨p27,c28,rfl,h⟩
   refine go h λw h=>?_
   refine sf (bu [.int .i64 (first+(m:Int)-1),.int .i64 0] h fR.h Ss.h rfl (by kernel_rfl) rfl (by decide) (by decide)) ?_
   rintro _ w ⟨b29,rfl,h⟩
   refine sf (ap h fR.h rfl Ss.h rfl (by decide) rfl rfl (λ_=>u5) (h.ro a0) (by simp[Value.oneCell']) rfl (show _=(is++[first+(m:Int)-1,0]:List Int).map (Value.int .i64) by rw[An];rfl) (by unfold maxLen;omega) (by omega)) ?_
   rintro _ w ⟨p30,c31,rfl,h⟩
   refine go h λw h=>?_
   refine st (bs (kk-1))<|go h λw h=>?_
   have h:=h.drop.drop
   have h:=SH.eE ({kind:=2,gen:=gen}) rfl rfl (SH.YX (m:={kind:=3,aD:=Bm.cI 0 (slice ha (kk)),aA:=[first+(m:Int)-1+1]}) h.fz rfl)
   have h:=h.FM
   have hlen:(eZ ha gen first (((bJ x at_ ha key v first).1:Nat):Int) j (bJ x at_ ha key v first).2).length=m:=by have:=congrArg List.length hz;rw[PQ,PQ]at this;omega
   have hsn:=uE ha gen first j (((bJ x at_ ha key v first).1:Nat):Int) (bJ x at_ ha key v first).2
   rw[hlen,show (((bJ x at_ ha key v first).1:Nat):Int)-(j:Int)-1=kk by omega]at hsn
   exact⟨(j+1,zs++[({kind:=2,gen:=gen},⟨none,0,none,0⟩),({kind:=3,aD:=Bm.cI 0 (slice ha (kk)),aA:=[first+(m:Int)-1+1]},⟨some ⟨b25,0,none⟩,1,none,0⟩)],is++[first+(m:Int)-1,0],m+2,p27,c28,p30,c31,kk-1),⟨rfl,rfl,rfl,rfl,rfl,rfl,rfl,trivial⟩,⟨h,by(try dsimp only);rw[An,hz,hsn,An];rfl,by(try dsimp only);rw[hi,hsn,An];rfl,by(try dsimp only);rw[cO,hm];rfl,by(try dsimp only);omega,by(try dsimp only);omega,⟨by(try dsimp only);omega,by(try dsimp only);omega⟩⟩,by(try dsimp only);omega⟩
  ·have hg32:=cW hd23
   refine go h λw h=>?_
   refine rr (gE rfl rfl rfl) ?_
   obtain rfl:j=((((bJ x at_ ha key v first).1:Nat):Int)-level).toNat:=by omega
   rw[<- tT]at hz hi
   subst hm;subst hi
   exact⟨zs,p,cc,p2,c2,hz,rfl,(h.to.fr (.c r1 (.c r1 (.c r0 (.c r0 .n)))))⟩
section
attribute [local semireducible] gB wpS Go.E.X XS C jU kP fin Y U F Ca jT bl rb aU bV ex ce pu sK gK bK zK
attribute [local irreducible] gB wpS
variable{B w:World}{L:List As}
theorem QE(xb mb:Nat)(x:Ct.X)(c:Ct.Call)(b:Int)(ha:Nat)(lv gen:Int)(h:SH B w (XA xb mb (Ct.X.of c x)::L))(k:Ct.Ok 60 (Ct.X.of c x))(hh:ha<18446744073709551616)(hky:c.key.size<=64)(hb:1<=b)(hl:0<=lv)(hl2:lv<=1000000000000)(hne:Ct.bR ((Ct.X.of c x).node b).key c.key=false):
  Calls prog 219 #[↑xb,↑b,.int .u64 (ha:Int),↑lv,↑gen] w λe w'=>∃y v,Ct.aX (Ct.nM ((Ct.X.of c x).node b) b ha c.key c.value lv gen) (Ct.X.of c x)=Ct.out y v/\e=.returned (.int .i64 v)/\SH B w' (XA xb mb y::L)/\Ct.Ok 36 y:=by
 have kmade:=k.made
 have hlen:=k.len
 refine Ea (args:=[_,_,_,_,_]) func219 rfl ntmps219 rfl ?_
 refine sq<|rg<|st (sg rfl)<|xe<|nx<|sq<|rg<|st (sg rfl)<|xe<|nx<|sq<|?_
 obtain⟨pn,cn,hN⟩:=h.C9 a0
 refine rg<|st (mv rfl)<|st (nc rfl rfl)<|st (fa Hh rfl)<|st (ld (v:=.pointer (some ⟨mb,0,none⟩)) Lv rfl (h.xc a0 λ_=>rfl))<|st (nc rfl rfl)<|st (fa Pu rfl)<|st (fa tO rfl)<|st (ld fZ rfl (hN))<|st (ln tE rfl rfl)<|st (bw rfl rfl (gN (c:=((2+(Ct.X.of c x).s.aG.length+1:Nat):Int)) (by omega) (by omega) (by omega)))<|st (sg rfl)<|xe<|nx<|sq<|sq<|?_
 obtain⟨⟨pg,cg,pm,cm,pq,cq,pi,ci⟩,h⟩:=h.xo
 have h:SH B w (bl xb (vT mb (Ct.X.of c x).e ⟨pg,cg,pm,cm,pq,cq,pi,ci⟩) 135::aU 44 1 (.slice pg (Ct.X.of c x).e.eG.length cg) (Ct.X.of c x).e.eG.length ((Ct.X.of c x).e.eG.map (Value.int .i64))::aU 44 1 (.slice pm (Ct.X.of c x).e.made.length cm) (Ct.X.of c x).e.made.length ((Ct.X.of c x).e.made.map (Value.int .i64))::aU 33 1 (.slice pq (Ct.X.of c x).e.cells.length cq) (Ct.X.of c x).e.cells.length ((Ct.X.of c x).e.cells.map (Value.int .i64))::aU 3 1 (.slice pi (Ct.X.of c x).e.dG.length ci) (Ct.X.of c x).e.dG.length ((Ct.X.of c x).e.dG.map (Value.int .i64))::cR mb (Ct.X.of c x).s::L):=h
 refine dZ [1,3,5,7,9,11,13,15,17,19] (by kernel_rfl) h (.c r0 .n) λw h=>tk (λW H=>mv rfl)<|tk (λW H=>nc rfl rfl)<|tk (λW H=>fa vP rfl)<|tk (λW H=>ld (v:=.int .i64 (((Ct.X.of c x).e.m:Nat):Int)) jE rfl (H.c a0 rfl))<|tk (λW H=>mv rfl)<|tk (λW H=>nc rfl rfl)<|tk (λW H=>fa yL rfl)<|tk (λW H=>ld (v:=.slice pm (Ct.X.of c x).e.made.length cm) pK rfl (H.c a0 rfl))<|tk (λW H=>ln jG rfl rfl)<|tk (λW H=>bi rfl rfl rfl)<|xz<|nx<|?_
 rcases dA (decide (((((Ct.X.of c x).e.m:Nat):Int):Int)<(((Ct.X.of c x).e.made.length:Nat):Int)))with hd1|hd1
 ·have hg2:=eC hd1
  refine ct rfl hd1<|?_
  obtain⟨b3,rfl⟩:=h.fp a2 (by omega)
  refine dZ [1,3,5,7,9,11,13,15,17,19,20] (by kernel_rfl) h (.c r0 (.c r1 .n)) λw h=>tk (λW H=>mv rfl)<|tk (λW H=>nc rfl rfl)<|tk (λW H=>fa yL rfl)<|tk (λW H=>ld (v:=.slice (some ⟨b3,0,none⟩) (Ct.X.of c x).e.made.length cm) pK rfl (H.c a0 rfl))<|tk (λW H=>mv rfl)<|tk (λW H=>nc rfl rfl)<|tk (λW H=>fa vP rfl)<|tk (λW H=>ld (v:=.int .i64 (((Ct.X.of c x).e.m:Nat):Int)) jE rfl (H.c a0 rfl))<|tk (λW H=>ix (j:=(Ct.X.of c x).e.m) jG Bh rfl rfl (by omega))<|tk (λW H=>ld iO rfl ((H.ro a1).i (by omega)))<|ef (sg rfl) (h.hs (.c r0 (.c r1 .n)))<|xz<|nx<|sq<|sq<|?_
  have hfp:1<=((Ct.X.of c x).e.made.getD (Ct.X.of c x).e.m 0)/\((Ct.X.of c x).e.made.getD (Ct.X.of c x).e.m 0)<=1000000000000:=by have:=kmade _ (Ct.kH (0:Int) (show (Ct.X.of c x).e.m<(Ct.X.of c x).e.made.length by omega));omega
  have h:SH B w (XA xb mb (Ct.X.of c x)::L):=SH.xi ⟨pg,cg,some ⟨b3,0,none⟩,cm,pq,cq,pi,ci⟩ (h)
  refine rg<|st (mv rfl)<|st (nc rfl rfl)<|st (fa nB rfl)<|st (ld (v:=.bool (Ct.X.of c x).e.aC) xN rfl (h.xc a0 λ_=>rfl))<|xe<|nx<|?_
  rcases dA (Ct.X.of c x).e.aC with hd4|hd4
  ·refine ct rfl hd4<|sq<|rg<|st (sg rfl)<|xe<|nx<|rt<|tr<|?_
   refine rr (jP results219 rfl)<|⟨_,0,Ct.rS hd4,rfl,h,k.stop hd4⟩
  ·refine cf rfl hd4<|sk<|nx<|sq<|dZ [1,3,7,9,11,13,15,17,19,21,23,25,27,29,31,33,35,4,36,39,41,43,44,46] (by kernel_rfl) h (.c r0 .n) λw h=>tk (λW H=>mv rfl)<|tk (λW H=>mv rfl)<|tk (λW H=>mv rfl)<|tk (λW H=>mv rfl)<|tk (λW H=>mv rfl)<|tk (λW H=>nc rfl rfl)<|tk (λW H=>fa vI rfl)<|tk (λW H=>fa VJ rfl)<|tk (λW H=>ld (v:=.string c.key) uK rfl (H.xc a0 λ_=>rfl))<|tk (λW H=>mv rfl)<|tk (λW H=>nc rfl rfl)<|tk (λW H=>fa vI rfl)<|tk (λW H=>fa VO rfl)<|tk (λW H=>ld (v:=.int .u64 (c.value:Int)) vV rfl (H.xc a0 λ_=>rfl))<|tk (λW H=>mv rfl)<|tk (λW H=>mv rfl)<|tk (λW H=>mv rfl)<|cs (ca eF rfl) ((aN xb mb (Ct.X.of c x) b (h.fr (.c r0 .n)) k.dR).mono ?_)
   rintro _ w ⟨p5,rfl,h⟩
   have f6:=k.lN b
   have bf6:=k.len
   refine⟨_,rfl,h.hs (.c r1 .n),?_⟩
   refine cs (ca eF rfl) ((Iy ((Ct.X.of c x).node b) p5 b ha c.key c.value lv gen ((Ct.X.of c x).e.made.getD (Ct.X.of c x).e.m 0) (h.fr (.c r0 .n)) hh f6.1.2.2.2.1 hne hl (by omega) (by omega) (by omega)).mono ?_)
   rintro _ w ⟨zs,p,cc,p2,c2,hz,rfl,h⟩
   refine⟨_,rfl,h.hs (.c r4 .n),?_⟩
   refine tk (λW H=>mv rfl)<|tk (λW H=>xr rfl rfl)<|tk (λW H=>xr rfl rfl)<|ef (sg rfl) (h.hs (.c r4 .n))<|ef (sg rfl) (h.hs (.c r4 .n))<|xz<|nx<|sq<|sq<|rg<|st (sg rfl)<|xe<|nx<|bk<|?_
   have hzl:zs.length=(Ct.bT ((Ct.X.of c x).node b) b ha c.key c.value lv gen ((Ct.X.of c x).e.made.getD (Ct.X.of c x).e.m 0)).length:=by have:=congrArg List.length hz;simpa using this
   have hfits:=λL=>Ct.nJ L ((Ct.X.of c x).node b) b ha c.key c.value lv gen ((Ct.X.of c x).e.made.getD (Ct.X.of c x).e.m 0) (by omega) hb f6.2 hky hh hne hl
   have hdl:=(hfits 0).2
   have hd0:Ct.aX (Ct.nM ((Ct.X.of c x).node b) b ha c.key c.value lv gen) (Ct.X.of c x)=Ct.aX (Ct.gR (Ct.bT ((Ct.X.of c x).node b) b ha c.key c.value lv gen ((Ct.X.of c x).e.made.getD (Ct.X.of c x).e.m 0)) 0) (Ct.X.of c x):=Ct.Ze hd4 (by rw[if_pos (by omega)]) k.m
   refine lp (α:=Ct.X×Nat×Int) (λρ=>(.c 0 ↑xb (.c 11 (.int .i64 ρ.2.2) (.c 13 (.slice p zs.length cc) (.c 14 (.slice p2 zs.length c2) (.c 15 (.int .i64 (ρ.2.1:Int)) .n)))))) (λρ w=>SH B w (XA xb mb (Ct.X.of c ρ.1)::aU 53 14 (.slice p zs.length cc) zs.length (zs.flatMap cB)::aU 44 1 (.slice p2 zs.length c2) zs.length (((Ct.bT ((Ct.X.of c x).node b) b ha c.key c.value lv gen ((Ct.X.of c x).e.made.getD (Ct.X.of c x).e.m 0)).map Prod.snd).map (Value.int .i64))::bE zs::L)/\(Ct.aX (Ct.nM ((Ct.X.of c x).node b) b ha c.key c.value lv gen) (Ct.X.of c x)=Ct.aX (Ct.gR ((Ct.bT ((Ct.X.of c x).node b) b ha c.key c.value lv gen ((Ct.X.of c x).e.made.getD (Ct.X.of c x).e.m 0)).drop ρ.2.1) ρ.2.2) (Ct.X.of c ρ.1))/\(Ct.Ok (60-ρ.2.1) (Ct.X.of c ρ.1))/\(ρ.2.1<=zs.length)) (λρ=>zs.length-ρ.2.1) (x,0,0) ⟨rfl,rfl,rfl,rfl,rfl,trivial⟩ ⟨((h.fr (.c r3 .n)).drop.fr (.c r3 (.c r0 (.c r0 (.c r0 .n))))),hd0,k,dF _⟩ ?_
   rintro⟨y,i,r⟩ w ⟨h,hq,k,hi⟩
   dsimp only at *
   refine sq<|sq<|rg<|st (mv rfl)<|st (mv rfl)<|st (ln tE rfl rfl)<|st (bi rfl rfl rfl)<|xe<|nx<|?_
   rcases dA (decide (((i:Int):Int)<(zs.length:Int)))with hd7|hd7
   ·have hg8:=eC hd7
    refine ct rfl hd7<|sk<|nx<|sq<|bk<|?_
    have hil:i<(Ct.bT ((Ct.X.of c x).node b) b ha c.key c.value lv gen ((Ct.X.of c x).e.made.getD (Ct.X.of c x).e.m 0)).length:=by omega
    have hzi:=Ct.QG hz ({},{}) ({},0) hil
    have hfi:=(hfits ((Ct.X.of c y).s.aG.length+1)).1 _ (Ct.kH ((({}:Ct.Node),(0:Int))) hil)
    rw[<- hzi]at hfi
    rw[Ct.Ef hil r,<- hzi,<- Ct.MP hil]at hq
    have h:=h.Ll a3 (z:=zs.getD i ({},{})) (Ct.kH ((({}:Ct.Node),({}:Lq))) (by omega))
    obtain⟨b9,rfl⟩:=h.fp a2 (by omega)
    obtain⟨b10,rfl⟩:=h.fp a3 (by omega)
    refine dZ [1,3,5,7,9,11,13,15,17,18,20] (by kernel_rfl) h (.c r2 (.c r2 .n)) λw h=>tk (λW H=>mv rfl)<|tk (λW H=>mv rfl)<|tk (λW H=>mv rfl)<|tk (λW H=>ix (j:=i) tE qH rfl rfl (by omega))<|tk (λW H=>gJ rfl ((H.ro a0).x fN (by decide) (by omega) ({},{})) iR)<|tk (λW H=>mv rfl)<|tk (λW H=>mv rfl)<|tk (λW H=>ix (j:=i) jG Bh rfl rfl (by omega))<|tk (λW H=>ld iO rfl ((H.ro a1).i (by omega)))<|cs (ca eF rfl) ((dS (j:=60-(i+1)) xb mb (Ct.X.of c y) (zs.getD i ({},{})).1 (zs.getD i ({},{})).2 (((Ct.bT ((Ct.X.of c x).node b) b ha c.key c.value lv gen ((Ct.X.of c x).e.made.getD (Ct.X.of c x).e.m 0)).map Prod.snd).getD i 0) (h.fr (.c r0 (.c r0 .n))) (k.less (by omega)) hfi).mono ?_)
    rintro _ w ⟨y11,v12,q13,rfl,h,k,hly11⟩
    obtain⟨z14,rfl⟩:=Ct.Lg q13
    have lq13:=Ct.Gq q13
    refine⟨_,rfl,h.hs (.c r1 (.c r1 .n)),?_⟩
    refine ef (sg rfl) (h.hs (.c r1 (.c r1 .n)))<|xz<|bn<|nx<|rg<|st (mv rfl)<|st (bw rfl rfl (gN (c:=((i+1:Nat):Int)) (by omega) (by omega) (by omega)))<|st (sg rfl)<|xe<|nx<|?_
    exact⟨(z14,i+1,v12),⟨rfl,rfl,rfl,rfl,rfl,trivial⟩,⟨h,hq.trans<|Ct.rA q13<|rfl,k,by(try dsimp only);omega⟩,by(try dsimp only);omega⟩
   ·have hg15:=cW hd7
    refine cf rfl hd7<|xt<|tx<|tx<|be<|nx<|sq<|rg<|st (mv rfl)<|st (sg rfl)<|xe<|nx<|rt<|?_
    refine rr (jP results219 rfl)<|?_
    rw[show i=(Ct.bT ((Ct.X.of c x).node b) b ha c.key c.value lv gen ((Ct.X.of c x).e.made.getD (Ct.X.of c x).e.m 0)).length by omega,List.drop_length]at hq
    exact⟨_,r,hq.trans Ct.rR,rfl,(h.fr (.c r1 (.c r1 (.c r1 .n)))).drop.drop.drop,k.less (by omega)⟩
 ·have hg16:=cW hd1
  refine cf rfl hd1<|sk<|nx<|sq<|sq<|?_
  have hfp:1<=((2+(Ct.X.of c x).s.aG.length+1:Nat):Int)/\((2+(Ct.X.of c x).s.aG.length+1:Nat):Int)<=1000000000000:=by omega
  have h:SH B w (XA xb mb (Ct.X.of c x)::L):=SH.xi ⟨pg,cg,pm,cm,pq,cq,pi,ci⟩ (h)
  refine rg<|st (mv rfl)<|st (nc rfl rfl)<|st (fa nB rfl)<|st (ld (v:=.bool (Ct.X.of c x).e.aC) xN rfl (h.xc a0 λ_=>rfl))<|xe<|nx<|?_
  rcases dA (Ct.X.of c x).e.aC with hd17|hd17
  ·refine ct rfl hd17<|sq<|rg<|st (sg rfl)<|xe<|nx<|rt<|tr<|?_
   refine rr (jP results219 rfl)<|⟨_,0,Ct.rS hd17,rfl,h,k.stop hd17⟩
  ·refine cf rfl hd17<|sk<|nx<|sq<|dZ [1,3,7,9,11,13,15,17,19,21,23,25,27,29,31,33,35,4,36,39,41,43,44,46] (by kernel_rfl) h (.c r0 .n) λw h=>tk (λW H=>mv rfl)<|tk (λW H=>mv rfl)<|tk (λW H=>mv rfl)<|tk (λW H=>mv rfl)<|tk (λW H=>mv rfl)<|tk (λW H=>nc rfl rfl)<|tk (λW H=>fa vI rfl)<|tk (λW H=>fa VJ rfl)<|tk (λW H=>ld (v:=.string c.key) uK rfl (H.xc a0 λ_=>rfl))<|tk (λW H=>mv rfl)<|tk (λW H=>nc rfl rfl)<|tk (λW H=>fa vI rfl)<|tk (λW H=>fa VO rfl)<|tk (λW H=>ld (v:=.int .u64 (c.value:Int)) vV rfl (H.xc a0 λ_=>rfl))<|tk (λW H=>mv rfl)<|tk (λW H=>mv rfl)<|tk (λW H=>mv rfl)<|cs (ca eF rfl) ((aN xb mb (Ct.X.of c x) b (h.fr (.c r0 .n)) k.dR).mono ?_)
   rintro _ w ⟨p18,rfl,h⟩
   have f19:=k.lN b
   have bf19:=k.len
   refine⟨_,rfl,h.hs (.c r1 .n),?_⟩
   refine cs (ca eF rfl) ((Iy ((Ct.X.of c x).node b) p18 b ha c.key c.value lv gen ((2+(Ct.X.of c x).s.aG.length+1:Nat):Int) (h.fr (.c r0 .n)) hh f19.1.2.2.2.1 hne hl (by omega) (by omega) (by omega)).mono ?_)
   rintro _ w ⟨zs,p,cc,p2,c2,hz,rfl,h⟩
   refine⟨_,rfl,h.hs (.c r4 .n),?_⟩
   refine tk (λW H=>mv rfl)<|tk (λW H=>xr rfl rfl)<|tk (λW H=>xr rfl rfl)<|ef (sg rfl) (h.hs (.c r4 .n))<|ef (sg rfl) (h.hs (.c r4 .n))<|xz<|nx<|sq<|sq<|rg<|st (sg rfl)<|xe<|nx<|bk<|?_
   have hzl:zs.length=(Ct.bT ((Ct.X.of c x).node b) b ha c.key c.value lv gen ((2+(Ct.X.of c x).s.aG.length+1:Nat):Int)).length:=by have:=congrArg List.length hz;simpa using this
   have hfits:=λL=>Ct.nJ L ((Ct.X.of c x).node b) b ha c.key c.value lv gen ((2+(Ct.X.of c x).s.aG.length+1:Nat):Int) (by omega) hb f19.2 hky hh hne hl
   have hdl:=(hfits 0).2
   have hd0:Ct.aX (Ct.nM ((Ct.X.of c x).node b) b ha c.key c.value lv gen) (Ct.X.of c x)=Ct.aX (Ct.gR (Ct.bT ((Ct.X.of c x).node b) b ha c.key c.value lv gen ((2+(Ct.X.of c x).s.aG.length+1:Nat):Int)) 0) (Ct.X.of c x):=Ct.Ze hd17 (by rw[if_neg (by omega)];omega) k.m
   refine lp (α:=Ct.X×Nat×Int) (λρ=>(.c 0 ↑xb (.c 11 (.int .i64 ρ.2.2) (.c 13 (.slice p zs.length cc) (.c 14 (.slice p2 zs.length c2) (.c 15 (.int .i64 (ρ.2.1:Int)) .n)))))) (λρ w=>SH B w (XA xb mb (Ct.X.of c ρ.1)::aU 53 14 (.slice p zs.length cc) zs.length (zs.flatMap cB)::aU 44 1 (.slice p2 zs.length c2) zs.length (((Ct.bT ((Ct.X.of c x).node b) b ha c.key c.value lv gen ((2+(Ct.X.of c x).s.aG.length+1:Nat):Int)).map Prod.snd).map (Value.int .i64))::bE zs::L)/\(Ct.aX (Ct.nM ((Ct.X.of c x).node b) b ha c.key c.value lv gen) (Ct.X.of c x)=Ct.aX (Ct.gR ((Ct.bT ((Ct.X.of c x).node b) b ha c.key c.value lv gen ((2+(Ct.X.of c x).s.aG.length+1:Nat):Int)).drop ρ.2.1) ρ.2.2) (Ct.X.of c ρ.1))/\(Ct.Ok (60-ρ.2.1) (Ct.X.of c ρ.1))/\(ρ.2.1<=zs.length)) (λρ=>zs.length-ρ.2.1) (x,0,0) ⟨rfl,rfl,rfl,rfl,rfl,trivial⟩ ⟨((h.fr (.c r3 .n)).drop.fr (.c r3 (.c r0 (.c r0 (.c r0 .n))))),hd0,k,dF _⟩ ?_
   rintro⟨y,i,r⟩ w ⟨h,hq,k,hi⟩
   dsimp only at *
   refine sq<|sq<|rg<|st (mv rfl)<|st (mv rfl)<|st (ln tE rfl rfl)<|st (bi rfl rfl rfl)<|xe<|nx<|?_
   rcases dA (decide (((i:Int):Int)<(zs.length:Int)))with hd20|hd20
   ·have hg21:=eC hd20
    refine ct rfl hd20<|sk<|nx<|sq<|bk<|?_
    have hil:i<(Ct.bT ((Ct.X.of c x).node b) b ha c.key c.value lv gen ((2+(Ct.X.of c x).s.aG.length+1:Nat):Int)).length:=by omega
    have hzi:=Ct.QG hz ({},{}) ({},0) hil
    have hfi:=(hfits ((Ct.X.of c y).s.aG.length+1)).1 _ (Ct.kH ((({}:Ct.Node),(0:Int))) hil)
    rw[<- hzi]at hfi
    rw[Ct.Ef hil r,<- hzi,<- Ct.MP hil]at hq
    have h:=h.Ll a3 (z:=zs.getD i ({},{})) (Ct.kH ((({}:Ct.Node),({}:Lq))) (by omega))
    obtain⟨b22,rfl⟩:=h.fp a2 (by omega)
    obtain⟨b23,rfl⟩:=h.fp a3 (by omega)
    refine dZ [1,3,5,7,9,11,13,15,17,18,20] (by kernel_rfl) h (.c r2 (.c r2 .n)) λw h=>tk (λW H=>mv rfl)<|tk (λW H=>mv rfl)<|tk (λW H=>mv rfl)<|tk (λW H=>ix (j:=i) tE qH rfl rfl (by omega))<|tk (λW H=>gJ rfl ((H.ro a0).x fN (by decide) (by omega) ({},{})) iR)<|tk (λW H=>mv rfl)<|tk (λW H=>mv rfl)<|tk (λW H=>ix (j:=i) jG Bh rfl rfl (by omega))<|tk (λW H=>ld iO rfl ((H.ro a1).i (by omega)))<|cs (ca eF rfl) ((dS (j:=60-(i+1)) xb mb (Ct.X.of c y) (zs.getD i ({},{})).1 (zs.getD i ({},{})).2 (((Ct.bT ((Ct.X.of c x).node b) b ha c.key c.value lv gen ((2+(Ct.X.of c x).s.aG.length+1:Nat):Int)).map Prod.snd).getD i 0) (h.fr (.c r0 (.c r0 .n))) (k.less (by omega)) hfi).mono ?_)
    rintro _ w ⟨y24,v25,q26,rfl,h,k,hly24⟩
    obtain⟨z27,rfl⟩:=Ct.Lg q26
    have lq26:=Ct.Gq q26
    refine⟨_,rfl,h.hs (.c r1 (.c r1 .n)),?_⟩
    refine ef (sg rfl) (h.hs (.c r1 (.c r1 .n)))<|xz<|bn<|nx<|rg<|st (mv rfl)<|st (bw rfl rfl (gN (c:=((i+1:Nat):Int)) (by omega) (by omega) (by omega)))<|st (sg rfl)<|xe<|nx<|?_
    exact⟨(z27,i+1,v25),⟨rfl,rfl,rfl,rfl,rfl,trivial⟩,⟨h,hq.trans<|Ct.rA q26<|rfl,k,by(try dsimp only);omega⟩,by(try dsimp only);omega⟩
   ·have hg28:=cW hd20
    refine cf rfl hd20<|xt<|tx<|tx<|be<|nx<|sq<|rg<|st (mv rfl)<|st (sg rfl)<|xe<|nx<|rt<|?_
    refine rr (jP results219 rfl)<|?_
    rw[show i=(Ct.bT ((Ct.X.of c x).node b) b ha c.key c.value lv gen ((2+(Ct.X.of c x).s.aG.length+1:Nat):Int)).length by omega,List.drop_length]at hq
    exact⟨_,r,hq.trans Ct.rR,rfl,(h.fr (.c r1 (.c r1 (.c r1 .n)))).drop.drop.drop,k.less (by omega)⟩
end
end Go.Q9
end
