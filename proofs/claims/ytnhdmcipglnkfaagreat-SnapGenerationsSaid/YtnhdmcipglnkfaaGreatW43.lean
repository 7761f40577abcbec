/- Parts of a proof: Q7, Tt, Te, We. -/
import Derived.Test.YtnhdmcipglnkfaaGreatW42
import Derived.Laws.Bits64
set_option linter.unusedVariables false
set_option linter.unusedSimpArgs false
set_option maxRecDepth 100000
set_option maxHeartbeats 4000000
section
namespace Go.Q9
open Go.Proofs.Tryz
open Go.RowKit Go.E Go.Ct
attribute [local irreducible] gB wpS Go.E.X XS C jU kP fin Y U F Ca jT bl rb aU bV ex ce pu sK gK bK zK gM fO dH gP nE rD
variable{B w:World}{L:List As}
theorem Yu(c:Ct.Call)(h:SH B w (L))(hky:c.key.size<=9223372036854775807):
  Calls prog 143 #[.agg [↑c.kind,↑c.aE.root,↑c.aE.readOnly,↑c.a,↑c.b,↑c.n,↑c.index,.int .u64 (c.hash:Int),.int .u64 (c.aI:Int),↑c.key,.int .u64 (c.value:Int),.int .u64 (c.expect:Int),↑c.bF,↑c.only,↑c.walk.started,.slice none 0 0,.slice none 0 0,↑c.answer.err,↑c.answer.found,.int .u64 (c.answer.value:Int),↑c.answer.key,↑c.answer.count,↑c.answer.ref,↑c.answer.aE.root,↑c.answer.aE.readOnly].toArray] w λe w'=>e=.returned (.int .i64 (Ct.refused c))/\SH B w' L:=by
 refine bZ func143 ntmps143 h λw h=>?_
 refine jX h λb1 w h=>?_
 refine qc h (λhd2 w h=>?_) λhd2 w h=>?_
 ·have hg3:=eq_of_beq hd2
  refine go h λw h=>?_
  refine cl (ca eF rfl) ((qZ c.key _ (by omega)).mono ?_)
  rintro _ _ ⟨rfl,rfl⟩
  refine⟨_,rfl,?_⟩
  refine st (nt rfl)<|xe<|nx<|?_
  refine go h λw h=>?_
  refine qc h (λhd4 w h=>?_) λhd4 w h=>?_
  ·have hd5:(Ct.bU c.key)=false:=(lC _).mp hd4
   refine go h λw h=>?_
   refine rz ?_
   refine⟨?_,h.drop⟩
   unfold Ct.refused;simp[hd2,hd5]
  ·have hd6:(Ct.bU c.key)=true:=(bI _).mp hd4
   refine go h λw h=>?_
   refine rz ?_
   refine⟨?_,h.drop⟩
   unfold Ct.refused;simp[hd2,hd6]
 ·have hg7:=dP hd2
  refine go h λw h=>?_
  refine qc h (λhd8 w h=>?_) λhd8 w h=>?_
  ·have hg9:=eq_of_beq hd8
   refine go h λw h=>?_
   refine cl (ca eF rfl) ((qZ c.key _ (by omega)).mono ?_)
   rintro _ _ ⟨rfl,rfl⟩
   refine⟨_,rfl,?_⟩
   refine st (nt rfl)<|xe<|nx<|?_
   refine go h λw h=>?_
   refine qc h (λhd10 w h=>?_) λhd10 w h=>?_
   ·have hd11:(Ct.bU c.key)=false:=(lC _).mp hd10
    refine go h λw h=>?_
    refine rz ?_
    refine⟨?_,h.drop⟩
    unfold Ct.refused;simp[hd2,hd8,hd11]
   ·have hd12:(Ct.bU c.key)=true:=(bI _).mp hd10
    refine go h λw h=>?_
    refine rz ?_
    refine⟨?_,h.drop⟩
    unfold Ct.refused;simp[hd2,hd8,hd12]
  ·have hg13:=dP hd8
   refine go h λw h=>?_
   refine qc h (λhd14 w h=>?_) λhd14 w h=>?_
   ·have hg15:=eq_of_beq hd14
    refine go h λw h=>?_
    refine cl (ca eF rfl) ((qZ c.key _ (by omega)).mono ?_)
    rintro _ _ ⟨rfl,rfl⟩
    refine⟨_,rfl,?_⟩
    refine st (nt rfl)<|st (mv rfl)<|?_
    refine go h λw h=>?_
    refine qg h (λhd16 w h=>?_) λhd16 w h=>?_
    ·have hd17:(Ct.bU c.key)=false:=(lC _).mp hd16
     refine go h λw h=>?_
     refine rz ?_
     refine⟨?_,h.drop⟩
     unfold Ct.refused;simp[hd2,hd8,hd14,hd17]
    ·have hd18:(Ct.bU c.key)=true:=(bI _).mp hd16
     refine go h λw h=>?_
     refine qg h (λhd19 w h=>?_) λhd19 w h=>?_
     ·have hg20:=eC hd19
      refine go h λw h=>?_
      refine rz ?_
      refine⟨?_,h.drop⟩
      unfold Ct.refused;simp[hd2,hd8,hd14,hd18,show decide (0<=c.bF)=false from Ab (by omega)]
     ·have hg21:=cW hd19
      refine go h λw h=>?_
      refine qc h (λhd22 w h=>?_) λhd22 w h=>?_
      ·have hg23:=eC hd22
       refine go h λw h=>?_
       refine rz ?_
       refine⟨?_,h.drop⟩
       unfold Ct.refused;simp[hd2,hd8,hd14,hd18,show decide (0<=c.bF)=true from mI (by omega),show decide (c.bF<=3)=false from Ab (by omega)]
      ·have hg24:=cW hd22
       refine go h λw h=>?_
       refine rz ?_
       refine⟨?_,h.drop⟩
       unfold Ct.refused;simp[hd2,hd8,hd14,hd18,show decide (0<=c.bF)=true from mI (by omega),show decide (c.bF<=3)=true from mI (by omega)]
   ·have hg25:=dP hd14
    refine go h λw h=>?_
    refine qc h (λhd26 w h=>?_) λhd26 w h=>?_
    ·have hg27:=eq_of_beq hd26
     refine go h λw h=>?_
     refine qc h (λhd28 w h=>?_) λhd28 w h=>?_
     ·have hd29:c.aE.readOnly=false:=(lC _).mp hd28
      refine go h λw h=>?_
      refine rz ?_
      refine⟨?_,h.drop⟩
      unfold Ct.refused;simp[hd2,hd8,hd14,hd26,hd29]
     ·have hd30:c.aE.readOnly=true:=(bI _).mp hd28
      refine go h λw h=>?_
      refine rz ?_
      refine⟨?_,h.drop⟩
      unfold Ct.refused;simp[hd2,hd8,hd14,hd26,hd30]
    ·have hg31:=dP hd26
     refine go h λw h=>?_
     refine qc h (λhd32 w h=>?_) λhd32 w h=>?_
     ·have hg33:=eq_of_beq hd32
      refine go h λw h=>?_
      refine qc h (λhd34 w h=>?_) λhd34 w h=>?_
      ·have hd35:c.aE.readOnly=false:=(lC _).mp hd34
       refine go h λw h=>?_
       refine rz ?_
       refine⟨?_,h.drop⟩
       unfold Ct.refused;simp[hd2,hd8,hd14,hd26,hd32,hd35]
      ·have hd36:c.aE.readOnly=true:=(bI _).mp hd34
       refine go h λw h=>?_
       refine rz ?_
       refine⟨?_,h.drop⟩
       unfold Ct.refused;simp[hd2,hd8,hd14,hd26,hd32,hd36]
     ·have hg37:=dP hd32
      refine go h λw h=>?_
      refine rz ?_
      refine⟨?_,h.drop⟩
      unfold Ct.refused;simp[hd2,hd8,hd14,hd26,hd32]
section
attribute [local semireducible] gB wpS Go.E.X XS C jU kP fin Y U F Ca jT bl rb aU bV ex ce pu sK gK bK zK gM fO dH gP nE rD
attribute [local irreducible] gB wpS
variable{B w:World}{L:List As}
theorem TJ(xb mb:Nat)(x:Ct.X)(c:Ct.Call)(F:Nat)(h:SH B w (XA xb mb (Ct.X.of c x)::L))(k:Ct.Ok 60 (Ct.X.of c x))(hx:(Ct.X.of c x).left<F)(hF:F<=100000000000)(hm:c.aI<18446744073709551616)(hky:c.key.size<=9223372036854775807)(hk7:7<=c.kind)(hk12:c.kind<=12\/c.kind=14):
  Calls prog 102 #[↑xb] w λe w'=>∃y v,Ct.aX (Ct.bY c F) (Ct.X.of c x)=Ct.out y v/\e=.returned (.agg (xC v).toArray)/\SH B w' (XA xb mb y::L)/\Ct.Ok 50 y:=by
 have hlen:=k.len
 refine Ea (args:=[_]) func102 rfl ntmps102 rfl ?_
 refine sq<|rg<|sf (al h i2)<|?_
 rintro _ w ⟨b1,rfl,h⟩
 refine xe<|nx<|sq<|rg<|st (mv rfl)<|st (nc rfl rfl)<|st (fa vI rfl)<|st (gJ (cs:=[↑c.kind,↑c.aE.root,↑c.aE.readOnly,↑c.a,↑c.b,↑c.n,↑c.index,.int .u64 (c.hash:Int),.int .u64 (c.aI:Int),↑c.key,.int .u64 (c.value:Int),.int .u64 (c.expect:Int),↑c.bF,↑c.only,↑c.walk.started,.slice none 0 0,.slice none 0 0,↑c.answer.err,↑c.answer.found,.int .u64 (c.answer.value:Int),↑c.answer.key,↑c.answer.count,↑c.answer.ref,↑c.answer.aE.root,↑c.answer.aE.readOnly]) rfl (h.xr 1 a1 λ_=>rfl) Aj)<|sf (al h Hm)<|?_
 rintro _ w ⟨b2,rfl,h⟩
 refine sf (so h rfl rfl rfl Di rfl (.r (.r (.r (.r (.r (.r (.r (.r (.r (.r (.r (.r (.r (.r (.r (.r (.r (.r (.r (.r (.r (.r (.r (.r (.r .d))))))))))))))))))))))))) u0)<|?_
 rintro _ w h
 refine xe<|nx<|sq<|sq<|rg<|st (gJ rfl (dK (h.b a0)) Aj)<|cl (ca eF rfl) ((Yu c (h.fr .n) (by omega)).mono ?_)
 rintro _ w ⟨rfl,h⟩
 refine⟨_,rfl,?_⟩
 refine st (sg rfl)<|xe<|nx<|sq<|rg<|st (mv rfl)<|st (bi rfl rfl rfl)<|xe<|nx<|?_
 rcases dA ((Ct.refused c:Int) != 0)with hd3|hd3
 ·have hr0:=bne_iff_ne.1 hd3
  have hg4:=bne_iff_ne.1 hd3
  refine ct rfl hd3<|sq<|rg<|st (mv rfl)<|st (bd [.int .i64 (Ct.refused c),↑false,.int .u64 0,.string .empty,.int .i64 0,.int .i64 0,.int .i64 0,↑false] N4 rfl (by kernel_rfl))<|sf (so h rfl rfl rfl oG rfl (.r (.r (.r (.r (.r (.r (.r (.r .d)))))))) u1)<|?_
  rintro _ w h
  refine xe<|nx<|rt<|tr<|?_
  refine rr (bP results102 rfl (h.b a1) vD)<|?_
  rw[Ct.EJ hr0];exact⟨_,({err:=Ct.refused c}:Ct.Result),Ct.rR,rfl,h.drop.drop,k.less (by omega)⟩
 ·have h0:=eS hd3
  have hg5:=eS hd3
  refine cf rfl hd3<|sk<|nx<|sq<|sq<|rg<|st (fa BM rfl)<|st (ld jE rfl (h.c a0 rfl))<|xe<|nx<|bk<|sq<|rg<|st (bi rfl rfl rfl)<|st (sg rfl)<|xe<|nx<|cf rfl (beq_eq_false_iff_ne.2 (by omega))<|sq<|rg<|st (bi rfl rfl rfl)<|st (sg rfl)<|xe<|nx<|cf rfl (beq_eq_false_iff_ne.2 (by omega))<|sq<|rg<|st (bi rfl rfl rfl)<|st (sg rfl)<|xe<|nx<|cf rfl (beq_eq_false_iff_ne.2 (by omega))<|sq<|rg<|st (bi rfl rfl rfl)<|st (sg rfl)<|xe<|nx<|cf rfl (beq_eq_false_iff_ne.2 (by omega))<|sq<|rg<|st (bi rfl rfl rfl)<|st (sg rfl)<|xe<|nx<|cf rfl (beq_eq_false_iff_ne.2 (by omega))<|sq<|rg<|st (bi rfl rfl rfl)<|st (sg rfl)<|xe<|nx<|cf rfl (beq_eq_false_iff_ne.2 (by omega))<|sq<|rg<|st (bi rfl rfl rfl)<|st (sg rfl)<|xe<|nx<|?_
  rcases dA ((c.kind:Int)==7)with hd6|hd6
  ·have hg7:=eq_of_beq hd6
   refine ct rfl hd6<|sq<|rg<|st (mv rfl)<|cl (ca eF rfl) ((QA xb mb x c F (h.fr (.c r2 .n)) (k.less (by omega)) (by omega) (by omega) hm hky).mono ?_)
   rintro _ w ⟨y8,v9,q10,rfl,h,k⟩
   obtain⟨z11,rfl⟩:=Ct.mB q10
   have lq10:=Ct.nY q10
   refine⟨_,rfl,?_⟩
   refine sf (so h rfl rfl rfl oG rfl (.r (.r (.r (.r (.r (.r (.r (.r .d)))))))) u2)<|?_
   rintro _ w h
   refine xe<|nx<|rt<|bt<|tr<|?_
   refine rr (bP results102 rfl (h.b a2) vD)<|?_
   rw[Ct.FR h0 (by omega)];exact⟨_,v9,q10,rfl,(h.fr (.c r1 (.c r1 .n))).drop.drop,k.less (by omega)⟩
  ·have hg12:=dP hd6
   refine cf rfl hd6<|sq<|rg<|st (bi rfl rfl rfl)<|st (sg rfl)<|xe<|nx<|?_
   rcases dA ((c.kind:Int)==8)with hd13|hd13
   ·have hg14:=eq_of_beq hd13
    refine ct rfl hd13<|sq<|rg<|st (mv rfl)<|cl (ca eF rfl) ((UB xb mb x c F (h.fr (.c r2 .n)) (k.less (by omega)) hx hF hm (Ct.vW h0 (by omega))).mono ?_)
    rintro _ w ⟨y15,v16,q17,rfl,h,k⟩
    obtain⟨z18,rfl⟩:=Ct.mB q17
    have lq17:=Ct.nY q17
    refine⟨_,rfl,?_⟩
    refine sf (so h rfl rfl rfl oG rfl (.r (.r (.r (.r (.r (.r (.r (.r .d)))))))) u2)<|?_
    rintro _ w h
    refine xe<|nx<|rt<|bt<|tr<|?_
    refine rr (bP results102 rfl (h.b a2) vD)<|?_
    rw[Ct.EF h0 (by omega)];exact⟨_,v16,q17,rfl,(h.fr (.c r1 (.c r1 .n))).drop.drop,k.less (by omega)⟩
   ·have hg19:=dP hd13
    refine cf rfl hd13<|sq<|rg<|st (bi rfl rfl rfl)<|st (sg rfl)<|xe<|nx<|?_
    rcases dA ((c.kind:Int)==9)with hd20|hd20
    ·have hg21:=eq_of_beq hd20
     refine ct rfl hd20<|sq<|rg<|st (mv rfl)<|cl (ca eF rfl) ((OJ xb mb x c F (h.fr (.c r2 .n)) (k.less (by omega)) hx hF hm (Ct.vW h0 (by omega))).mono ?_)
     rintro _ w ⟨y22,v23,q24,rfl,h,k⟩
     obtain⟨z25,rfl⟩:=Ct.mB q24
     have lq24:=Ct.nY q24
     refine⟨_,rfl,?_⟩
     refine sf (so h rfl rfl rfl oG rfl (.r (.r (.r (.r (.r (.r (.r (.r .d)))))))) u2)<|?_
     rintro _ w h
     refine xe<|nx<|rt<|bt<|tr<|?_
     refine rr (bP results102 rfl (h.b a2) vD)<|?_
     rw[Ct.ER h0 (by omega)];exact⟨_,v23,q24,rfl,(h.fr (.c r1 (.c r1 .n))).drop.drop,k.less (by omega)⟩
    ·have hg26:=dP hd20
     refine cf rfl hd20<|sq<|sq<|rg<|st (bi rfl rfl rfl)<|st (sg rfl)<|xe<|nx<|?_
     rcases dA ((c.kind:Int)==10)with hd27|hd27
     ·have hg28:=eq_of_beq hd27
      refine ct rfl hd27<|sk<|nx<|ct rfl hd27<|sq<|rg<|st (mv rfl)<|st (fa BM rfl)<|st (ld jE rfl (h.c a0 rfl))<|st (bi rfl rfl rfl)<|cl (ca eF rfl) ((Bw xb mb x c ((c.kind:Int)==11) F (h.fr (.c r2 .n)) (k.less (by omega)) hx).mono ?_)
      rintro _ w ⟨y29,v30,q31,rfl,h,k⟩
      obtain⟨z32,rfl⟩:=Ct.mB q31
      have lq31:=Ct.nY q31
      refine⟨_,rfl,?_⟩
      refine sf (so h rfl rfl rfl oG rfl (.r (.r (.r (.r (.r (.r (.r (.r .d)))))))) u2)<|?_
      rintro _ w h
      refine xe<|nx<|rt<|bt<|tr<|?_
      refine rr (bP results102 rfl (h.b a2) vD)<|?_
      rw[show ((c.kind:Int)==11)=false from beq_eq_false_iff_ne.2 (by omega)]at q31
      rw[Ct.Xo h0 (by omega)];exact⟨_,v30,q31,rfl,(h.fr (.c r1 (.c r1 .n))).drop.drop,k⟩
     ·have hg33:=dP hd27
      refine cf rfl hd27<|rg<|st (bi rfl rfl rfl)<|st (sg rfl)<|xe<|nx<|?_
      rcases dA ((c.kind:Int)==11)with hd34|hd34
      ·have hg35:=eq_of_beq hd34
       refine ct rfl hd34<|sq<|rg<|st (mv rfl)<|st (fa BM rfl)<|st (ld jE rfl (h.c a0 rfl))<|st (bi rfl rfl rfl)<|cl (ca eF rfl) ((Bw xb mb x c ((c.kind:Int)==11) F (h.fr (.c r2 .n)) (k.less (by omega)) hx).mono ?_)
       rintro _ w ⟨y36,v37,q38,rfl,h,k⟩
       obtain⟨z39,rfl⟩:=Ct.mB q38
       have lq38:=Ct.nY q38
       refine⟨_,rfl,?_⟩
       refine sf (so h rfl rfl rfl oG rfl (.r (.r (.r (.r (.r (.r (.r (.r .d)))))))) u2)<|?_
       rintro _ w h
       refine xe<|nx<|rt<|bt<|tr<|?_
       refine rr (bP results102 rfl (h.b a2) vD)<|?_
       rw[show ((c.kind:Int)==11)=true from beq_iff_eq.2 (by omega)]at q38
       rw[Ct.HF h0 (by omega)];exact⟨_,v37,q38,rfl,(h.fr (.c r1 (.c r1 .n))).drop.drop,k⟩
      ·have hg40:=dP hd34
       refine cf rfl hd34<|sq<|rg<|st (bi rfl rfl rfl)<|st (sg rfl)<|xe<|nx<|?_
       rcases dA ((c.kind:Int)==12)with hd41|hd41
       ·have hg42:=eq_of_beq hd41
        refine ct rfl hd41<|sq<|rg<|st (mv rfl)<|cl (ca eF rfl) ((ID xb mb x c F (h.fr (.c r2 .n)) (k.less (by omega)) hx).mono ?_)
        rintro _ w ⟨y43,v44,q45,rfl,h,k⟩
        obtain⟨z46,rfl⟩:=Ct.mB q45
        have lq45:=Ct.nY q45
        refine⟨_,rfl,?_⟩
        refine sf (so h rfl rfl rfl oG rfl (.r (.r (.r (.r (.r (.r (.r (.r .d)))))))) u2)<|?_
        rintro _ w h
        refine xe<|nx<|rt<|bt<|tr<|?_
        refine rr (bP results102 rfl (h.b a2) vD)<|?_
        rw[Ct.Uk h0 (by omega)];exact⟨_,v44,q45,rfl,(h.fr (.c r1 (.c r1 .n))).drop.drop,k.less (by omega)⟩
       ·have hg47:=dP hd41
        refine cf rfl hd41<|sq<|rg<|st (bi rfl rfl rfl)<|st (sg rfl)<|xe<|nx<|cf rfl (beq_eq_false_iff_ne.2 (by omega))<|sq<|rg<|st (bi rfl rfl rfl)<|st (sg rfl)<|xe<|nx<|ct rfl (beq_iff_eq.2 (by omega))<|sq<|rg<|st (mv rfl)<|cl (ca eF rfl) ((T7 xb mb x c F (h.fr (.c r2 .n)) (k.less (by omega)) hx hF).mono ?_)
        rintro _ w ⟨y48,v49,q50,rfl,h,k⟩
        obtain⟨z51,rfl⟩:=Ct.mB q50
        have lq50:=Ct.nY q50
        refine⟨_,rfl,?_⟩
        refine sf (so h rfl rfl rfl oG rfl (.r (.r (.r (.r (.r (.r (.r (.r .d)))))))) u2)<|?_
        rintro _ w h
        refine xe<|nx<|rt<|bt<|tr<|?_
        refine rr (bP results102 rfl (h.b a2) vD)<|?_
        rw[Ct.JI h0 (by omega)];exact⟨_,v49,q50,rfl,(h.fr (.c r1 (.c r1 .n))).drop.drop,k.less (by omega)⟩
end
section
attribute [local semireducible] gB wpS Go.E.X XS C jU kP fin Y U F Ca jT bl rb aU bV ex ce pu sK gK bK zK gM fO dH gP nE rD
attribute [local irreducible] gB wpS
variable{B w:World}{L:List As}
theorem Wr(xb mb:Nat)(x:Ct.X)(F free:Nat)(h:SH B w (XA xb mb x::L))(k:Ct.Ok 60 (Ct.cD free x))(hfr:free<=10)(hx:(Ct.cD free x).left<F)(hF:F<=100000000000)(hm:x.e.call.aI<18446744073709551616)(hky:x.e.call.key.size<=9223372036854775807)(hk7:7<=x.e.call.kind)(hk12:x.e.call.kind<=12\/x.e.call.kind=14):
  Calls prog 70 #[↑xb,↑(free:Int)] w λe w'=>e=.returned (.tuple #[])/\SH B w' (XA xb mb (Ct.bX (Ct.bY x.e.call F) free x)::L)/\Ct.Ok 50 (Ct.bX (Ct.bY x.e.call F) free x):=by
 refine Ea (args:=[_,_]) func70 rfl ntmps70 rfl ?_
 refine sq<|?_
 obtain⟨⟨pg,cg,pm,cm,pq,cq,pi,ci⟩,h⟩:=h.xo
 have h:SH B w (bl xb (vT mb x.e ⟨pg,cg,pm,cm,pq,cq,pi,ci⟩) 135::aU 44 1 (.slice pg x.e.eG.length cg) x.e.eG.length (x.e.eG.map (Value.int .i64))::aU 44 1 (.slice pm x.e.made.length cm) x.e.made.length (x.e.made.map (Value.int .i64))::aU 33 1 (.slice pq x.e.cells.length cq) x.e.cells.length (x.e.cells.map (Value.int .i64))::aU 3 1 (.slice pi x.e.dG.length ci) x.e.dG.length (x.e.dG.map (Value.int .i64))::cR mb x.s::L):=h
 refine rg<|st (mv rfl)<|st (mv rfl)<|st (mv rfl)<|st (mv rfl)<|st (mv rfl)<|st (mv rfl)<|st (mv rfl)<|st (nc rfl rfl)<|st (fa L9 rfl)<|sf (so h rfl rfl rfl Bf rfl (.s (.s (.s (.s (.s (.s (.s (.s (.s (.s (.s (.s (.s (.s (.s (.s (.s (.s (.s (.s (.s (.s (.s (.s (.s (.s (.s (.s (.s (.s (.r .d))))))))))))))))))))))))))))))) u0)<|?_
 rintro _ w h
 refine st (nc rfl rfl)<|st (fa vP rfl)<|sf (so h rfl rfl rfl Bf rfl (.s (.s (.s (.s (.s (.s (.s (.s (.s (.s (.s (.s (.s (.s (.s (.s (.s (.s (.s (.s (.s (.s (.s (.s (.s (.s (.s (.s (.s (.s (.s (.r .d)))))))))))))))))))))))))))))))) u0)<|?_
 rintro _ w h
 refine st (nc rfl rfl)<|st (fa Ec rfl)<|sf (so h rfl rfl rfl Bf rfl (.s (.s (.s (.s (.s (.s (.s (.s (.s (.s (.s (.s (.s (.s (.s (.s (.s (.s (.s (.s (.s (.s (.s (.s (.s (.s (.s (.s (.s (.s (.s (.s (.r .d))))))))))))))))))))))))))))))))) u0)<|?_
 rintro _ w h
 refine st (nc rfl rfl)<|st (fa Du rfl)<|sf (so h rfl rfl rfl Bf rfl (.s (.s (.s (.s (.s (.s (.s (.s (.s (.s (.s (.s (.s (.s (.s (.s (.s (.s (.s (.s (.s (.s (.s (.s (.s (.s (.s (.s (.s (.s (.s (.s (.s (.r .d)))))))))))))))))))))))))))))))))) u0)<|?_
 rintro _ w h
 refine st (nc rfl rfl)<|st (fa ZA rfl)<|sf (so h rfl rfl rfl Bf rfl (.s (.s (.s (.s (.s (.s (.s (.s (.s (.s (.s (.s (.s (.s (.s (.s (.s (.s (.s (.s (.s (.s (.s (.s (.s (.s (.s (.s (.s (.s (.s (.s (.s (.s (.r .d))))))))))))))))))))))))))))))))))) u0)<|?_
 rintro _ w h
 refine st (nc rfl rfl)<|st (fa nB rfl)<|sf (so h rfl rfl rfl AU rfl (.s (.s (.s (.s (.s (.s (.s (.s (.s (.s (.s (.s (.s (.s (.s (.s (.s (.s (.s (.s (.s (.s (.s (.s (.s (.s (.s (.s (.s (.s (.s (.s (.s (.s (.s (.r .d)))))))))))))))))))))))))))))))))))) u0)<|?_
 rintro _ w h
 refine xe<|nx<|sq<|?_
 have h:=h.fr (.c r0 (.c r0 (.c r0 (.c r0 (.c r0 (.c r0 .n))))))
 have h:SH B w (XA xb mb (Ct.cD free x)::L):=SH.xi ⟨pg,cg,pm,cm,pq,cq,pi,ci⟩ h
 refine rg<|st (mv rfl)<|cl (ca eF rfl) ((TJ xb mb (Ct.cD free x) x.e.call F (h.fr (.c r0 .n)) k hx hF hm hky hk7 hk12).mono ?_)
 rintro _ w ⟨y1,v2,q3,rfl,h,k⟩
 refine⟨_,rfl,?_⟩
 refine sf (al h i2)<|?_
 rintro _ w ⟨b4,rfl,h⟩
 refine sf (so h rfl rfl rfl oG rfl (.r (.r (.r (.r (.r (.r (.r (.r .d)))))))) u0)<|?_
 rintro _ w h
 refine xe<|nx<|sq<|rg<|st (mv rfl)<|st (nc rfl rfl)<|st (fa nB rfl)<|st (ld (v:=.bool y1.e.aC) xN rfl (h.xc a1 λ_=>rfl))<|st (nt rfl)<|xe<|nx<|?_
 rcases dA (!y1.e.aC)with hd5|hd5
 ·have hd6:y1.e.aC=false:=(lC _).mp hd5
  refine ct rfl hd5<|?_
  have h:=h.fr (.c r1 .n)
  obtain⟨⟨pg,cg,pm,cm,pq,cq,pi,ci⟩,h⟩:=h.xo
  have h:SH B w (bl xb (vT mb y1.e ⟨pg,cg,pm,cm,pq,cq,pi,ci⟩) 135::aU 44 1 (.slice pg y1.e.eG.length cg) y1.e.eG.length (y1.e.eG.map (Value.int .i64))::aU 44 1 (.slice pm y1.e.made.length cm) y1.e.made.length (y1.e.made.map (Value.int .i64))::aU 33 1 (.slice pq y1.e.cells.length cq) y1.e.cells.length (y1.e.cells.map (Value.int .i64))::aU 3 1 (.slice pi y1.e.dG.length ci) y1.e.dG.length (y1.e.dG.map (Value.int .i64))::cR mb y1.s::bl b4 (xC v2) 49::L):=h
  refine dZ [1,3,5,7,9,10,13,15,16] (by kernel_rfl) h (.c r6 .n) λw h=>tk (λW H=>mv rfl)<|tk (λW H=>mv rfl)<|tk (λW H=>gJ rfl (dK (H.b a0)) vD)<|tk (λW H=>nc rfl rfl)<|tk (λW H=>fa XT rfl)<|ff (so h rfl rfl rfl AU rfl (.s (.s (.s (.s (.s (.s (.s (.s (.s (.s (.s (.s (.s (.s (.s (.s (.s (.s (.s (.s (.s (.s (.s (.s (.s (.s (.s (.s (.s (.s (.s (.s (.s (.s (.s (.s (.s (.s (.s (.s (.r .d))))))))))))))))))))))))))))))))))))))))) u0)<|?_
  rintro _ w h
  refine⟨h.hs (.c r6 .n),?_⟩
  refine tk (λW H=>nc rfl rfl)<|tk (λW H=>fa XO rfl)<|ff (so h rfl rfl rfl oG rfl (.s (.s (.s (.s (.s (.s (.s (.s (.s (.s (.s (.s (.s (.s (.s (.s (.s (.s (.s (.s (.s (.s (.s (.s (.s (.s (.s (.s (.s (.s (.s (.s (.s (.s (.s (.s (.s (.s (.s (.s (.s (.r (.r (.r (.r (.r (.r (.r (.r .d))))))))))))))))))))))))))))))))))))))))))))))))) u0)<|?_
  rintro _ w h
  refine⟨h.hs (.c r6 .n),?_⟩
  refine xz<|?_
  refine rn (rK results70)<|?_
  rw[Ct.SJ (x:=x) (free:=free) q3 hd6];exact⟨rfl,SH.xi ⟨pg,cg,pm,cm,pq,cq,pi,ci⟩ ((h.fr (.c r6 .n)).drop),k.ended true _⟩
 ·have hd7:y1.e.aC=true:=(bI _).mp hd5
  refine cf rfl hd5<|sk<|?_
  refine rn (rK results70)<|?_
  rw[Ct.TQ (x:=x) (free:=free) q3 hd7];exact⟨rfl,h.drop,k⟩
end
variable{B w:World}{L:List As}
theorem Pq(xb mb:Nat)(x:Ct.X)(F:Nat)(h:SH B w (XA xb mb x::L))(hd:x.e.done=false)(k:Ct.Ok 60 (Ct.cD 1 x))(hx:(Ct.cD 1 x).left<F)(hF:F<=100000000000)(hm:x.e.call.aI<18446744073709551616)(hky:x.e.call.key.size<=9223372036854775807)(hk7:7<=x.e.call.kind)(hk12:x.e.call.kind<=12\/x.e.call.kind=14):
  Calls prog 33 #[↑xb] w λe w'=>e=.returned (.tuple #[])/\SH B w' (XA xb mb (Ct.bX (Ct.bY x.e.call F) 1 x)::L)/\Ct.Ok 50 (Ct.bX (Ct.bY x.e.call F) 1 x):=by
 refine bZ func33 ntmps33 h λw h=>?_
 refine st (ld (v:=.bool x.e.done) One.h rfl (h.xc a0 λ_=>rfl))<|go h λw h=>?_
 refine SS (Wr _ _ _ _ _ h.to k (by decide) hx hF hm hky hk7 hk12) λw h k=>?_
 refine rn (rK results33)<|go h λw h=>?_
 refine⟨rfl,h,k⟩
theorem XW(xb mb:Nat)(x:Ct.X)(h:SH B w (XA xb mb x::L))(hd:x.e.done=true):
  Calls prog 33 #[↑xb] w λe w'=>e=.returned (.tuple #[])/\SH B w' (XA xb mb x::L):=by
 refine bZ func33 ntmps33 h λw h=>?_
 refine st (ld (v:=.bool x.e.done) One.h rfl (h.xc a0 λ_=>rfl))<|go h λw h=>?_
 refine rn (rK results33)<|go h λw h=>?_
 refine⟨rfl,h⟩
theorem vH(xb mb:Nat)(x:Ct.X)(h:SH B w (XA xb mb x::L)):
  Calls prog 34 #[↑xb] w λe w'=>e=.returned ↑x.e.done/\SH B w' (XA xb mb x::L):=by
 refine bZ func34 ntmps34 h λw h=>?_
 refine st (ld (v:=.bool x.e.done) One.h rfl (h.xc a0 λ_=>rfl))<|go h λw h=>?_
 exact rz ⟨rfl,h⟩
theorem Kf(xb mb:Nat)(x:Ct.X)(h:SH B w (XA xb mb x::L)):
  Calls prog 101 #[↑xb] w λe w'=>e=.returned (.agg (xC x.e.result).toArray)/\SH B w' (XA xb mb x::L):=by
 refine bZ func101 ntmps101 h λw h=>?_
 refine jA h λb1 w h=>?_
 refine st (gJ (cs:=[↑x.e.result.err,↑x.e.result.found,.int .u64 (x.e.result.value:Int),↑x.e.result.key,↑x.e.result.count,↑x.e.result.ref,↑x.e.result.aE.root,↑x.e.result.aE.readOnly]) rfl (h.xr 41 a1 λ_=>rfl) Row.h)<|go h λw h=>?_
 exact rr (bP rfl rfl (h.b a0) Row.h)<|⟨rfl,h.drop⟩
end Go.Q9
end
section
namespace Go.Q9
open Go.Proofs.Tryz
open Go.RowKit Go.E
attribute [local irreducible] gB wpS Go.E.X XS C jU kP fin Y U F Ca jT bl rb aU bV ex ce pu sK gK bK zK gM fO dH gP nE rD
def Mod(v m:Int):Int:=v%18446744073709551616%m
theorem AK(v m:Int)(h:0<m):0<=Mod v m/\Mod v m<m:=⟨Int.emod_nonneg _ (by omega),Int.emod_lt_of_pos _ h⟩
theorem l7(v:Int):IntKind.u64.wrap v=v%18446744073709551616:=by rw[IntKind.wrap_u64]
theorem V'{m:Int}(h0:0<m)(h1:m<=9223372036854775807):IntKind.u64.wrap m=m:=by rw[IntKind.wrap_u64];omega
theorem B3(v m:Int)(h0:0<m):(v%18446744073709551616).tmod m=Mod v m:=by
 unfold Mod;rw[Int.tmod_eq_emod_of_nonneg (by omega)]
def Oe(b:Nat)(l:List Int)(i:Nat):As:=ex λpc:Option Addr×Nat=>se [bl b [.slice pc.1 l.length pc.2,↑(i:Int)] 112,bV 1 (.slice pc.1 l.length pc.2) l.length (l.map (Value.int .i64))]
def Nv(l:List Int)(i:Nat)(n:Int):Int:=if i<l.length then Mod (l.getD i 0) n else 0
def OM(l:List Int)(i:Nat):Nat:=if i<l.length then i+1 else i
theorem OZ(l:List Int)(i:Nat){n:Int}(h:0<n):0<=Nv l i n/\Nv l i n<n:=by
 unfold Nv;split
 ·exact AK _ _ h
 ·omega
section
attribute [local semireducible] gB wpS Go.E.X XS C jU kP fin Y U F Ca jT bl rb aU bV ex ce pu sK gK bK zK gM fO dH gP nE rD
attribute [local irreducible] gB wpS
theorem SL{w:World}(v m:Int)(h0:0<m)(h1:m<=9223372036854775807):
  Calls prog 67 #[↑v,↑m] w λe w'=>e=.returned (.int .i64 (Mod v m))/\w'=w:=by
 refine Ea (args:=[_,_]) func67 rfl ntmps67 rfl ?_
 refine sq<|rg<|st (sg rfl)<|xe<|nx<|sq<|rg<|st (mv rfl)<|st (QM Lw Gc rfl (l7 v))<|st (mv rfl)<|st (QM Lw Gc rfl (V' h0 h1))<|st (I8 rfl rfl (by omega) (B3 v m h0))<|st (QM Gc Lw rfl (B6 (by have:=AK v m h0;omega) (by have:=AK v m h0;omega)))<|st (sg rfl)<|xe<|nx<|rt<|?_
 refine rr (jP results67 rfl)<|⟨rfl,rfl⟩
end
variable{B w:World}{L:List As}
theorem OO(b:Nat)(l:List Int)(i:Nat)(n:Int)(h:SH B w (Oe b l i::L))(h0:0<n)(h1:n<=9223372036854775807):
  Calls prog 31 #[↑b,↑n] w λe w'=>e=.returned (.int .i64 (Nv l i n))/\SH B w' (Oe b l (OM l i)::L):=by
 obtain⟨⟨p,c⟩,h⟩:=h.ex
 have h:=h.se
 have hlm:=(h.rl a1).2
 unfold maxLen at hlm
 refine bZ func31 ntmps31 h λw h=>?_
 refine dZ [1,3,5,7,9,11,13,15,17,19] (by kernel_rfl) h (.c r0 .n) λw h=>go h λw h=>?_
 refine qc h (λhd1 w h=>?_) λhd1 w h=>?_
 have hg2:=eC hd1
 refine go h λw h=>?_
 exact rz ⟨by rw[Nv,if_neg (by omega)],by rw[OM,if_neg (by omega)];exact SH.dU (_,_) (SH.is (l:=[_,_]) (h))⟩
 have hg3:=cW hd1
 refine go h λw h=>?_
 obtain⟨b4,o5,rfl⟩:=h.fq a1 (by omega)
 refine dZ [1,3,5,7,9,11,13,15,17,19,21,23,24,26] (by kernel_rfl) h (.c r0 (.c r0 .n)) λw h=>go h λw h=>?_
 refine tk (λW H=>bs (i:Int))<|go h λw h=>?_
 refine sW h (SL _ _ h0 h1) λw h=>?_
 exact rz ⟨by rw[Nv,if_pos (by omega)],by rw[OM,if_pos (by omega)];exact SH.dU (_,_) (SH.is (l:=[_,_]) (h))⟩
theorem NV(b:Nat)(l:List Int)(i:Nat)(h:SH B w (Oe b l i::L)):
  Calls prog 30 #[↑b] w λe w'=>e=.returned (.bool (decide ((i:Int)<l.length)))/\SH B w' (Oe b l i::L):=by
 obtain⟨⟨p,c⟩,h⟩:=h.ex
 have h:=h.se
 have hlm:=(h.rl a1).2
 unfold maxLen at hlm
 refine bZ func30 ntmps30 h λw h=>?_
 refine dZ [1,3,5,7,9,11,13,15,17,19,20] (by kernel_rfl) h (.c r0 .n) λw h=>go h λw h=>?_
 exact rz ⟨rfl,SH.dU (_,_) (SH.is (l:=[_,_]) (h))⟩
theorem SD(l:List Int)(p:Option Addr)(c:Nat)(h:SH B w (bV 1 (.slice p l.length c) l.length (l.map (Value.int .i64))::L)):
  Calls prog 16 #[.slice p l.length c] w λe w'=>∃b,e=.returned (.pointer (some ⟨b,0,none⟩))/\SH B w' (Oe b l 0::L):=by
 refine bZ func16 ntmps16 h λw h=>?_
 refine jX h λb1 w h=>?_
 exact rz ⟨_,rfl,SH.dU (p,c) (SH.is (l:=[_,_]) (h))⟩
end Go.Q9
end
section
namespace Go.Q9
open Go.Proofs.Tryz
open Go.RowKit Go.E
attribute [local irreducible] gB wpS Go.E.X XS C jU kP fin Y U F Ca jT bl rb aU bV ex ce pu sK gK bK zK gM fO dH gP nE rD
def gQ(b:Nat)(l:List Int):As:=ex λi:Nat=>Oe b l i
variable{B w:World}{L:List As}
theorem fB(b:Nat)(l:List Int)(n:Int)(h:SH B w (gQ b l::L))(h0:0<n)(h1:n<=9223372036854775807):
  Calls prog 31 #[↑b,↑n] w λe w'=>∃j:Nat,(j:Int)<n/\e=.returned ↑(j:Int)/\SH B w' (gQ b l::L):=by
 obtain⟨i,h⟩:=SH.ex h
 refine(OO b l i n h h0 h1).mono ?_
 rintro _ w ⟨rfl,h⟩
 have nx:=OZ l i h0
 obtain⟨j,hj⟩:=BO nx.1
 exact⟨j,by omega,by rw[hj],SH.dU _ h⟩
theorem LV(b:Nat)(l:List Int)(h:SH B w (gQ b l::L)):
  Calls prog 30 #[↑b] w λe w'=>∃r:Bool,e=.returned ↑r/\SH B w' (gQ b l::L):=by
 obtain⟨i,h⟩:=SH.ex h
 refine(NV b l i h).mono ?_
 rintro _ w ⟨rfl,h⟩
 exact⟨_,rfl,SH.dU _ h⟩
theorem NS(l:List Int)(p:Option Addr)(c:Nat)(h:SH B w (bV 1 (.slice p l.length c) l.length (l.map (Value.int .i64))::L)):
  Calls prog 16 #[.slice p l.length c] w λe w'=>∃b,e=.returned (.pointer (some ⟨b,0,none⟩))/\SH B w' (gQ b l::L):=by
 refine(SD l p c h).mono ?_
 rintro _ w ⟨b,rfl,h⟩
 exact⟨b,rfl,SH.dU _ h⟩
structure Ks where
 k:ByteArray:=.empty
structure Ms where
 m:Nat:=0
def G6(s:Ks):List Value:=[↑s.k]
def G3(s:Ms):List Value:=[.int .u64 (s.m:Int)]
theorem RS(s:Ks):(G6 s).length=1:=rfl
theorem QY(s:Ms):(G3 s).length=1:=rfl
def j7:List Ks:=[{k:=⟨#[97]⟩},{k:=⟨#[98]⟩},{k:=⟨#[99]⟩},{k:=⟨#[100]⟩},{k:=⟨#[97,98]⟩},{k:=.empty},{k:=⟨#[98,48]⟩},{k:=⟨#[107,101,121]⟩}]
def VT:List Ms:=[{m:=18446744073709551615},{m:=0},{m:=1},{m:=64},{m:=63},{m:=4095},{m:=9223372036854775808},{m:=4032},{m:=3458764513820540928},{m:=18446744073709551615}]
theorem Jt{α:Type}{p:α->Prop}{d:α}(hd:p d):∀{l:List α},(∀x,x∈l->p x)->∀j,p (l.getD j d)
 |[],_,_=>hd
 |x::l,h,0=>h x (.head _)
 |x::l,h,j+1=>Jt hd (λy hy=>h y (.tail _ hy)) j
theorem OK(j:Nat):(j7.getD j {}).k.size<=8:=Jt (p:=λs:Ks=>s.k.size<=8) (by decide) (by decide) j
theorem RB(j:Nat):(VT.getD j {}).m<18446744073709551616:=Jt (p:=λs:Ms=>s.m<18446744073709551616) (by decide) (by decide) j
theorem VQ(b:Nat)(l:List Int)(h:SH B w (gQ b l::L)):
  Calls prog 54 #[↑b] w λe w'=>∃k:ByteArray,k.size<=8/\e=.returned (.string k)/\SH B w' (gQ b l::L):=by
 refine bZ func54 ntmps54 h λw h=>?_
 refine sf (bu [.string (⟨#[97]⟩),.string (⟨#[98]⟩),.string (⟨#[99]⟩),.string (⟨#[100]⟩),.string (⟨#[97,98]⟩),.string .empty,.string (⟨#[98,48]⟩),.string (⟨#[107,101,121]⟩)] h fR.h Ss.h rfl (by kernel_rfl) rfl (by decide) (by decide)) ?_
 rintro _ w ⟨b1,rfl,h⟩
 refine go h λw h=>?_
 have h:SH B w (aU 9 1 (.slice (some ⟨b1,0,none⟩) 8 8) 8 (j7.flatMap G6)::gQ b l::L):=h
 refine Pv (fB _ _ _ h.to (by omega) (by omega)) λj2 hj3 w h=>?_
 refine st (ld One.h rfl ((h.ro a1).x RS (by decide) (by show _<8;omega) {} 0 _ rfl))<|go h λw h=>?_
 exact rz ⟨_,OK _,rfl,h.to⟩
theorem WS(b:Nat)(l:List Int)(h:SH B w (gQ b l::L)):
  Calls prog 28 #[↑b] w λe w'=>∃m:Nat,m<18446744073709551616/\e=.returned (.int .u64 (m:Int))/\SH B w' (gQ b l::L):=by
 refine bZ func28 ntmps28 h λw h=>?_
 refine sf (bu [.int .u64 18446744073709551615,.int .u64 0,.int .u64 1,.int .u64 64,.int .u64 63,.int .u64 4095,.int .u64 9223372036854775808,.int .u64 4032,.int .u64 3458764513820540928,.int .u64 18446744073709551615] h fR.h Ss.h rfl (by kernel_rfl) rfl (by decide) (by decide)) ?_
 rintro _ w ⟨b1,rfl,h⟩
 refine go h λw h=>?_
 have h:SH B w (aU 28 1 (.slice (some ⟨b1,0,none⟩) 10 10) 10 (VT.flatMap G3)::gQ b l::L):=h
 refine Pv (fB _ _ _ h.to (by omega) (by omega)) λj2 hj3 w h=>?_
 refine st (ld One.h rfl ((h.ro a1).x QY (by decide) (by show _<10;omega) {} 0 _ rfl))<|go h λw h=>?_
 exact rz ⟨_,RB _,rfl,h.to⟩
end Go.Q9
end
section
namespace Go.E
open Go.Q9 Go.RowKit
variable{B w:World}{L:List As}
theorem Tu{α β:Type}{f:α->β}{M:List β}:∀{zs:List α} {i:Nat} (hi:i<zs.length),tY (zs.map f++M) (f zs[i]) ((zs.eraseIdx i).map f++M)
 |z::zs,0,_=>.z
 |z::zs,i+1,hi=>.s (Tu (by simpa using hi))
theorem zF{α β:Type}{f:α->β}{M:List β}{a:α}:∀{zs:List α} {i:Nat} (_:i<zs.length),tY ((zs.set i a).map f++M) (f a) ((zs.eraseIdx i).map f++M)
 |_::zs,0,_=>.z
 |_::zs,i+1,hi=>.s (zF (by simpa using hi))
theorem Bn{α:Type}{a:α}{M:List α}:∀{l:List α},tY (l++a::M) a (l++M)
 |[]=>.z
 |_::_=>.s Bn
def Jm(mb:Nat)(z:Nat×Ct.Ex):As:=VE z.1 mb z.2
def eV(mb:Nat)(zs:List (Nat×Ct.Ex)):As:=Go.E.se (zs.map (Jm mb))
theorem SH.ET{mb:Nat}{s:Ct.St}{zs:List (Nat×Ct.Ex)}{i:Nat}(hi:i<zs.length)(h:SH B w (eV mb zs::cR mb s::L)):SH B w (XA zs[i].1 mb ⟨zs[i].2,s⟩::eV mb (zs.eraseIdx i)::L):=by
 have h1:=(SH.se h).fr (.c (Tu hi) .n)
 have h2:SH B w ((zs.eraseIdx i).map (Jm mb)++Jm mb zs[i]::cR mb s::L):=SH.back (A:=Jm mb zs[i]) h1 Bn
 have h3:=(SH.is h2).fr (.c r1 (.c r1 .n))
 exact SH.is (l:=[VE zs[i].1 mb zs[i].2,cR mb s]) h3
theorem SH.Ut{mb:Nat}{s:Ct.St}{zs:List (Nat×Ct.Ex)}{i b:Nat}{e:Ct.Ex}(hi:i<zs.length)(h:SH B w (XA b mb ⟨e,s⟩::eV mb (zs.eraseIdx i)::L)):SH B w (eV mb (zs.set i (b,e))::cR mb s::L):=by
 have h1:=(SH.se (l:=[VE b mb e,cR mb s]) h).fr (.c r2 .n)
 have h2:SH B w (Jm mb (b,e)::((zs.eraseIdx i).map (Jm mb)++cR mb s::L)):=(SH.se h1).fr (.c Bn .n)
 exact SH.is (l:=(zs.set i (b,e)).map (Jm mb)) (SH.back (A:=Jm mb (b,e)) h2 (zF hi))
theorem SH.VH{mb:Nat}(h:SH B w L):SH B w (eV mb []::L):=SH.is (l:=[]) h
theorem SH.VL{mb:Nat}{s:Ct.St}{zs:List (Nat×Ct.Ex)}{b:Nat}{e:Ct.Ex}(h:SH B w (XA b mb ⟨e,s⟩::eV mb zs::L)):SH B w (eV mb (zs++[(b,e)])::cR mb s::L):=by
 have h1:=(SH.se (l:=[VE b mb e,cR mb s]) h).fr (.c r2 .n)
 have h2:SH B w (zs.map (Jm mb)++Jm mb (b,e)::cR mb s::L):=SH.se h1
 refine SH.is (l:=(zs++[(b,e)]).map (Jm mb)) ?_
 rw[An,Co];exact h2
theorem SH.QD{mb:Nat}{x:Ct.X}{b:Nat}(h:SH B w (XA b mb x::L)):SH B w (cR mb x.s::L):=(SH.se (l:=[VE b mb x.e,cR mb x.s]) h).drop
end Go.E
end
