/- Parts of a proof: Q7, Tt, Te, We. -/
import Derived.Test.YtnhdmcipglnkfaaGreatW39
import Derived.Laws.Bits64
set_option linter.unusedVariables false
set_option linter.unusedSimpArgs false
set_option maxRecDepth 100000
set_option maxHeartbeats 4000000
section
namespace Go.Q9
open Go.Proofs.Tryz
open Go.RowKit Go.E Go.Ct
attribute [local irreducible] gA wpS Go.E.X XS C kV lL fin Y U F Ca kU bl rb aV bS ex ce pu sK gK bK zK gG fE cZ gY mA rQ
variable{B w:World}{L:List As}
theorem FR(c:Ct.Call)(h:SH B w (L))(vE:c.key.size<=9223372036854775807):
  Calls prog 143 #[.agg [↑c.kind,↑c.aF.root,↑c.aF.readOnly,↑c.a,↑c.b,↑c.n,↑c.index,.int .u64 (c.hash:Int),.int .u64 (c.aI:Int),↑c.key,.int .u64 (c.value:Int),.int .u64 (c.expect:Int),↑c.bF,↑c.only,↑c.walk.started,.slice none 0 0,.slice none 0 0,↑c.answer.err,↑c.answer.found,.int .u64 (c.answer.value:Int),↑c.answer.key,↑c.answer.count,↑c.answer.ref,↑c.answer.aF.root,↑c.answer.aF.readOnly].toArray] w λe w'=>e=.returned (.int .i64 (Ct.refused c))/\SH B w' L:=by
 refine cN func143 ntmps143 h λw h=>?_
 refine jX h λb1 w h=>?_
 refine qc h (λcO w h=>?_) λcO w h=>?_
 ·have Lt:=eq_of_beq cO
  refine go h λw h=>?_
  refine cl (ca eF rfl) ((uV c.key _ (by omega)).mono ?_)
  rintro _ _ ⟨rfl,rfl⟩
  refine⟨_,rfl,?_⟩
  refine st (nt rfl)<|xe<|nx<|?_
  refine go h λw h=>?_
  refine qc h (λeB w h=>?_) λeB w h=>?_
  ·have dM:(Ct.bR c.key)=false:=(gZ _).mp eB
   refine go h λw h=>?_
   refine rz ?_
   refine⟨?_,h.drop⟩
   unfold Ct.refused;simp[cO,dM]
  ·have dJ:(Ct.bR c.key)=true:=(hU _).mp eB
   refine go h λw h=>?_
   refine rz ?_
   refine⟨?_,h.drop⟩
   unfold Ct.refused;simp[cO,dJ]
 ·have El:=bM cO
  refine go h λw h=>?_
  refine qc h (λfG w h=>?_) λfG w h=>?_
  ·have CY:=eq_of_beq fG
   refine go h λw h=>?_
   refine cl (ca eF rfl) ((uV c.key _ (by omega)).mono ?_)
   rintro _ _ ⟨rfl,rfl⟩
   refine⟨_,rfl,?_⟩
   refine st (nt rfl)<|xe<|nx<|?_
   refine go h λw h=>?_
   refine qc h (λdG w h=>?_) λdG w h=>?_
   ·have iT:(Ct.bR c.key)=false:=(gZ _).mp dG
    refine go h λw h=>?_
    refine rz ?_
    refine⟨?_,h.drop⟩
    unfold Ct.refused;simp[cO,fG,iT]
   ·have fO:(Ct.bR c.key)=true:=(hU _).mp dG
    refine go h λw h=>?_
    refine rz ?_
    refine⟨?_,h.drop⟩
    unfold Ct.refused;simp[cO,fG,fO]
  ·have N2:=bM fG
   refine go h λw h=>?_
   refine qc h (λgD w h=>?_) λgD w h=>?_
   ·have JS:=eq_of_beq gD
    refine go h λw h=>?_
    refine cl (ca eF rfl) ((uV c.key _ (by omega)).mono ?_)
    rintro _ _ ⟨rfl,rfl⟩
    refine⟨_,rfl,?_⟩
    refine st (nt rfl)<|st (mv rfl)<|?_
    refine go h λw h=>?_
    refine qg h (λAb w h=>?_) λAb w h=>?_
    ·have oR:(Ct.bR c.key)=false:=(gZ _).mp Ab
     refine go h λw h=>?_
     refine rz ?_
     refine⟨?_,h.drop⟩
     unfold Ct.refused;simp[cO,fG,gD,oR]
    ·have jJ:(Ct.bR c.key)=true:=(hU _).mp Ab
     refine go h λw h=>?_
     refine qg h (λiM w h=>?_) λiM w h=>?_
     ·have YK:=dH iM
      refine go h λw h=>?_
      refine rz ?_
      refine⟨?_,h.drop⟩
      unfold Ct.refused;simp[cO,fG,gD,jJ,show decide (0<=c.bF)=false from cI (by omega)]
     ·have QM:=dR iM
      refine go h λw h=>?_
      refine qc h (λmW w h=>?_) λmW w h=>?_
      ·have aAp:=dH mW
       refine go h λw h=>?_
       refine rz ?_
       refine⟨?_,h.drop⟩
       unfold Ct.refused;simp[cO,fG,gD,jJ,show decide (0<=c.bF)=true from gM (by omega),show decide (c.bF<=3)=false from cI (by omega)]
      ·have aAn:=dR mW
       refine go h λw h=>?_
       refine rz ?_
       refine⟨?_,h.drop⟩
       unfold Ct.refused;simp[cO,fG,gD,jJ,show decide (0<=c.bF)=true from gM (by omega),show decide (c.bF<=3)=true from gM (by omega)]
   ·have YV:=bM gD
    refine go h λw h=>?_
    refine qc h (λkQ w h=>?_) λkQ w h=>?_
    ·have aAf:=eq_of_beq kQ
     refine go h λw h=>?_
     refine qc h (λM8 w h=>?_) λM8 w h=>?_
     ·have CV:c.aF.readOnly=false:=(gZ _).mp M8
      refine go h λw h=>?_
      refine rz ?_
      refine⟨?_,h.drop⟩
      unfold Ct.refused;simp[cO,fG,gD,kQ,CV]
     ·have Mt:c.aF.readOnly=true:=(hU _).mp M8
      refine go h λw h=>?_
      refine rz ?_
      refine⟨?_,h.drop⟩
      unfold Ct.refused;simp[cO,fG,gD,kQ,Mt]
    ·have aP8:=bM kQ
     refine go h λw h=>?_
     refine qc h (λCS w h=>?_) λCS w h=>?_
     ·have aSg:=eq_of_beq CS
      refine go h λw h=>?_
      refine qc h (λmE w h=>?_) λmE w h=>?_
      ·have CO:c.aF.readOnly=false:=(gZ _).mp mE
       refine go h λw h=>?_
       refine rz ?_
       refine⟨?_,h.drop⟩
       unfold Ct.refused;simp[cO,fG,gD,kQ,CS,CO]
      ·have aFr:c.aF.readOnly=true:=(hU _).mp mE
       refine go h λw h=>?_
       refine rz ?_
       refine⟨?_,h.drop⟩
       unfold Ct.refused;simp[cO,fG,gD,kQ,CS,aFr]
     ·have aOy:=bM CS
      refine go h λw h=>?_
      refine rz ?_
      refine⟨?_,h.drop⟩
      unfold Ct.refused;simp[cO,fG,gD,kQ,CS]
section
attribute [local semireducible] gA wpS Go.E.X XS C kV lL fin Y U F Ca kU bl rb aV bS ex ce pu sK gK bK zK gG fE cZ gY mA rQ
attribute [local irreducible] gA wpS
variable{B w:World}{L:List As}
theorem Y8(xb mb:Nat)(x:Ct.X)(c:Ct.Call)(F:Nat)(h:SH B w (XA xb mb (Ct.X.of c x)::L))(k:Ct.Ok 60 (Ct.X.of c x))(hx:(Ct.X.of c x).left<F)(hF:F<=100000000000)(hm:c.aI<18446744073709551616)(vE:c.key.size<=9223372036854775807)(hk7:7<=c.kind)(PX:c.kind<=12\/c.kind<=12):
  Calls prog 102 #[↑xb] w λe w'=>∃y v,Ct.bC (Ct.cA c F) (Ct.X.of c x)=Ct.out y v/\e=.returned (.agg (Bn v).toArray)/\SH B w' (XA xb mb y::L)/\Ct.Ok 50 y:=by
 have hlen:=k.len
 refine Kk (args:=[_]) func102 rfl ntmps102 rfl ?_
 refine sq<|rg<|sf (al h Wb)<|?_
 rintro _ w ⟨b1,rfl,h⟩
 refine xe<|nx<|sq<|rg<|st (mv rfl)<|st (nc rfl rfl)<|st (fa zU rfl)<|st (kB (cs:=[↑c.kind,↑c.aF.root,↑c.aF.readOnly,↑c.a,↑c.b,↑c.n,↑c.index,.int .u64 (c.hash:Int),.int .u64 (c.aI:Int),↑c.key,.int .u64 (c.value:Int),.int .u64 (c.expect:Int),↑c.bF,↑c.only,↑c.walk.started,.slice none 0 0,.slice none 0 0,↑c.answer.err,↑c.answer.found,.int .u64 (c.answer.value:Int),↑c.answer.key,↑c.answer.count,↑c.answer.ref,↑c.answer.aF.root,↑c.answer.aF.readOnly]) rfl (h.xr 1 a1 λ_=>rfl) wV)<|sf (al h Ft)<|?_
 rintro _ w ⟨b2,rfl,h⟩
 refine sf (so h rfl rfl rfl Aa rfl (.r (.r (.r (.r (.r (.r (.r (.r (.r (.r (.r (.r (.r (.r (.r (.r (.r (.r (.r (.r (.r (.r (.r (.r (.r .d))))))))))))))))))))))))) u0)<|?_
 rintro _ w h
 refine xe<|nx<|sq<|sq<|rg<|st (kB rfl (eH (h.b a0)) wV)<|cl (ca eF rfl) ((FR c (h.fr .n) (by omega)).mono ?_)
 rintro _ w ⟨rfl,h⟩
 refine⟨_,rfl,?_⟩
 refine st (sg rfl)<|xe<|nx<|sq<|rg<|st (mv rfl)<|st (bi rfl rfl rfl)<|xe<|nx<|?_
 rcases dQ ((Ct.refused c:Int) != 0)with cJ|cJ
 ·have hr0:=bne_iff_ne.1 cJ
  have Tv:=bne_iff_ne.1 cJ
  refine ct rfl cJ<|sq<|rg<|st (mv rfl)<|st (bd [.int .i64 (Ct.refused c),↑false,.int .u64 0,.string .empty,.int .i64 0,.int .i64 0,.int .i64 0,↑false] aI4 rfl (by kernel_rfl))<|sf (so h rfl rfl rfl vZ rfl (.r (.r (.r (.r (.r (.r (.r (.r .d)))))))) u1)<|?_
  rintro _ w h
  refine xe<|nx<|rt<|tr<|?_
  refine rr (cD results102 rfl (h.b a1) yX)<|?_
  rw[Ct.SS hr0];exact⟨_,({err:=Ct.refused c}:Ct.Result),Ct.rR,rfl,h.drop.drop,k.less (by omega)⟩
 ·have h0:=eT cJ
  have Vu:=eT cJ
  refine cf rfl cJ<|sk<|nx<|sq<|sq<|rg<|st (fa AV rfl)<|st (ld jZ rfl (h.c a0 rfl))<|xe<|nx<|bk<|sq<|rg<|st (bi rfl rfl rfl)<|st (sg rfl)<|xe<|nx<|cf rfl (beq_eq_false_iff_ne.2 (by omega))<|sq<|rg<|st (bi rfl rfl rfl)<|st (sg rfl)<|xe<|nx<|cf rfl (beq_eq_false_iff_ne.2 (by omega))<|sq<|rg<|st (bi rfl rfl rfl)<|st (sg rfl)<|xe<|nx<|cf rfl (beq_eq_false_iff_ne.2 (by omega))<|sq<|rg<|st (bi rfl rfl rfl)<|st (sg rfl)<|xe<|nx<|cf rfl (beq_eq_false_iff_ne.2 (by omega))<|sq<|rg<|st (bi rfl rfl rfl)<|st (sg rfl)<|xe<|nx<|cf rfl (beq_eq_false_iff_ne.2 (by omega))<|sq<|rg<|st (bi rfl rfl rfl)<|st (sg rfl)<|xe<|nx<|cf rfl (beq_eq_false_iff_ne.2 (by omega))<|sq<|rg<|st (bi rfl rfl rfl)<|st (sg rfl)<|xe<|nx<|?_
  rcases dQ ((c.kind:Int)==7)with dJ|dJ
  ·have El:=eq_of_beq dJ
   refine ct rfl dJ<|sq<|rg<|st (mv rfl)<|cl (ca eF rfl) ((m5 xb mb x c F (h.fr (.c r2 .n)) (k.less (by omega)) (by omega) (by omega) hm vE).mono ?_)
   rintro _ w ⟨y8,v9,wI,rfl,h,k⟩
   obtain⟨z11,rfl⟩:=Ct.uG wI
   have aP3:=Ct.uA wI
   refine⟨_,rfl,?_⟩
   refine sf (so h rfl rfl rfl vZ rfl (.r (.r (.r (.r (.r (.r (.r (.r .d)))))))) u2)<|?_
   rintro _ w h
   refine xe<|nx<|rt<|bt<|tr<|?_
   refine rr (cD results102 rfl (h.b a2) yX)<|?_
   rw[Ct.RL h0 (by omega)];exact⟨_,v9,wI,rfl,(h.fr (.c r1 (.c r1 .n))).drop.drop,k.less (by omega)⟩
  ·have QK:=bM dJ
   refine cf rfl dJ<|sq<|rg<|st (bi rfl rfl rfl)<|st (sg rfl)<|xe<|nx<|?_
   rcases dQ ((c.kind:Int)==8)with eJ|eJ
   ·have CW:=eq_of_beq eJ
    refine ct rfl eJ<|sq<|rg<|st (mv rfl)<|cl (ca eF rfl) ((S9 xb mb x c F (h.fr (.c r2 .n)) (k.less (by omega)) hx hF hm (Ct.Ah h0 (by omega))).mono ?_)
    rintro _ w ⟨y15,v16,Vr,rfl,h,k⟩
    obtain⟨z18,rfl⟩:=Ct.uG Vr
    have aQ6:=Ct.uA Vr
    refine⟨_,rfl,?_⟩
    refine sf (so h rfl rfl rfl vZ rfl (.r (.r (.r (.r (.r (.r (.r (.r .d)))))))) u2)<|?_
    rintro _ w h
    refine xe<|nx<|rt<|bt<|tr<|?_
    refine rr (cD results102 rfl (h.b a2) yX)<|?_
    rw[Ct.RF h0 (by omega)];exact⟨_,v16,Vr,rfl,(h.fr (.c r1 (.c r1 .n))).drop.drop,k.less (by omega)⟩
   ·have aAt:=bM eJ
    refine cf rfl eJ<|sq<|rg<|st (bi rfl rfl rfl)<|st (sg rfl)<|xe<|nx<|?_
    rcases dQ ((c.kind:Int)==9)with jV|jV
    ·have QM:=eq_of_beq jV
     refine ct rfl jV<|sq<|rg<|st (mv rfl)<|cl (ca eF rfl) ((D9 xb mb x c F (h.fr (.c r2 .n)) (k.less (by omega)) hx hF hm (Ct.Ah h0 (by omega))).mono ?_)
     rintro _ w ⟨y22,v23,S3,rfl,h,k⟩
     obtain⟨z25,rfl⟩:=Ct.uG S3
     have bBf:=Ct.uA S3
     refine⟨_,rfl,?_⟩
     refine sf (so h rfl rfl rfl vZ rfl (.r (.r (.r (.r (.r (.r (.r (.r .d)))))))) u2)<|?_
     rintro _ w h
     refine xe<|nx<|rt<|bt<|tr<|?_
     refine rr (cD results102 rfl (h.b a2) yX)<|?_
     rw[Ct.SB h0 (by omega)];exact⟨_,v23,S3,rfl,(h.fr (.c r1 (.c r1 .n))).drop.drop,k.less (by omega)⟩
    ·have aOl:=bM jV
     refine cf rfl jV<|sq<|sq<|rg<|st (bi rfl rfl rfl)<|st (sg rfl)<|xe<|nx<|?_
     rcases dQ ((c.kind:Int)==10)with Mj|Mj
     ·have aAi:=eq_of_beq Mj
      refine ct rfl Mj<|sk<|nx<|ct rfl Mj<|sq<|rg<|st (mv rfl)<|st (fa AV rfl)<|st (ld jZ rfl (h.c a0 rfl))<|st (bi rfl rfl rfl)<|cl (ca eF rfl) ((Ha xb mb x c ((c.kind:Int)==11) F (h.fr (.c r2 .n)) (k.less (by omega)) hx).mono ?_)
      rintro _ w ⟨y29,v30,R7,rfl,h,k⟩
      obtain⟨z32,rfl⟩:=Ct.uG R7
      have aP4:=Ct.uA R7
      refine⟨_,rfl,?_⟩
      refine sf (so h rfl rfl rfl vZ rfl (.r (.r (.r (.r (.r (.r (.r (.r .d)))))))) u2)<|?_
      rintro _ w h
      refine xe<|nx<|rt<|bt<|tr<|?_
      refine rr (cD results102 rfl (h.b a2) yX)<|?_
      rw[show ((c.kind:Int)==11)=false from beq_eq_false_iff_ne.2 (by omega)]at R7
      rw[Ct.EQ h0 (by omega)];exact⟨_,v30,R7,rfl,(h.fr (.c r1 (.c r1 .n))).drop.drop,k⟩
     ·have aSg:=bM Mj
      refine cf rfl Mj<|rg<|st (bi rfl rfl rfl)<|st (sg rfl)<|xe<|nx<|?_
      rcases dQ ((c.kind:Int)==11)with mE|mE
      ·have aL5:=eq_of_beq mE
       refine ct rfl mE<|sq<|rg<|st (mv rfl)<|st (fa AV rfl)<|st (ld jZ rfl (h.c a0 rfl))<|st (bi rfl rfl rfl)<|cl (ca eF rfl) ((Ha xb mb x c ((c.kind:Int)==11) F (h.fr (.c r2 .n)) (k.less (by omega)) hx).mono ?_)
       rintro _ w ⟨y36,v37,q38,rfl,h,k⟩
       obtain⟨z39,rfl⟩:=Ct.uG q38
       have aYc:=Ct.uA q38
       refine⟨_,rfl,?_⟩
       refine sf (so h rfl rfl rfl vZ rfl (.r (.r (.r (.r (.r (.r (.r (.r .d)))))))) u2)<|?_
       rintro _ w h
       refine xe<|nx<|rt<|bt<|tr<|?_
       refine rr (cD results102 rfl (h.b a2) yX)<|?_
       rw[show ((c.kind:Int)==11)=true from beq_iff_eq.2 (by omega)]at q38
       rw[Ct.DS h0 (by omega)];exact⟨_,v37,q38,rfl,(h.fr (.c r1 (.c r1 .n))).drop.drop,k⟩
      ·have aRd:=bM mE
       refine cf rfl mE<|sq<|rg<|st (bi rfl rfl rfl)<|st (sg rfl)<|xe<|nx<|?_
       rcases dQ ((c.kind:Int)==12)with sQ|sQ
       ·have aGf:=eq_of_beq sQ
        refine ct rfl sQ<|sq<|rg<|st (mv rfl)<|cl (ca eF rfl) ((XF xb mb x c F (h.fr (.c r2 .n)) (k.less (by omega)) hx).mono ?_)
        rintro _ w ⟨y43,v44,q45,rfl,h,k⟩
        obtain⟨z46,rfl⟩:=Ct.uG q45
        have bDy:=Ct.uA q45
        refine⟨_,rfl,?_⟩
        refine sf (so h rfl rfl rfl vZ rfl (.r (.r (.r (.r (.r (.r (.r (.r .d)))))))) u2)<|?_
        rintro _ w h
        refine xe<|nx<|rt<|bt<|tr<|?_
        refine rr (cD results102 rfl (h.b a2) yX)<|?_
        rw[Ct.DP h0 (by omega)];exact⟨_,v44,q45,rfl,(h.fr (.c r1 (.c r1 .n))).drop.drop,k.less (by omega)⟩
       ·have aSi:=bM sQ
        exact absurd aSi (by omega)
end
section
attribute [local semireducible] gA wpS Go.E.X XS C kV lL fin Y U F Ca kU bl rb aV bS ex ce pu sK gK bK zK gG fE cZ gY mA rQ
attribute [local irreducible] gA wpS
variable{B w:World}{L:List As}
theorem Ta(xb mb:Nat)(x:Ct.X)(F free:Nat)(h:SH B w (XA xb mb x::L))(k:Ct.Ok 60 (Ct.cE free x))(ZP:free<=10)(hx:(Ct.cE free x).left<F)(hF:F<=100000000000)(hm:x.e.call.aI<18446744073709551616)(vE:x.e.call.key.size<=9223372036854775807)(hk7:7<=x.e.call.kind)(PX:x.e.call.kind<=12\/x.e.call.kind<=12):
  Calls prog 70 #[↑xb,↑(free:Int)] w λe w'=>e=.returned (.tuple #[])/\SH B w' (XA xb mb (Ct.cC (Ct.cA x.e.call F) free x)::L)/\Ct.Ok 50 (Ct.cC (Ct.cA x.e.call F) free x):=by
 refine Kk (args:=[_,_]) func70 rfl ntmps70 rfl ?_
 refine sq<|?_
 obtain⟨⟨pg,cg,pm,cm,pq,cq,pi,ci⟩,h⟩:=h.xo
 have h:SH B w (bl xb (Bl mb x.e ⟨pg,cg,pm,cm,pq,cq,pi,ci⟩) 135::aV 44 1 (.slice pg x.e.eV.length cg) x.e.eV.length (x.e.eV.map (Value.int .i64))::aV 44 1 (.slice pm x.e.made.length cm) x.e.made.length (x.e.made.map (Value.int .i64))::aV 33 1 (.slice pq x.e.cells.length cq) x.e.cells.length (x.e.cells.map (Value.int .i64))::aV 3 1 (.slice pi x.e.dU.length ci) x.e.dU.length (x.e.dU.map (Value.int .i64))::dX mb x.s::L):=h
 refine rg<|st (mv rfl)<|st (mv rfl)<|st (mv rfl)<|st (mv rfl)<|st (mv rfl)<|st (mv rfl)<|st (mv rfl)<|st (nc rfl rfl)<|st (fa D3 rfl)<|sf (so h rfl rfl rfl Gu rfl (.s (.s (.s (.s (.s (.s (.s (.s (.s (.s (.s (.s (.s (.s (.s (.s (.s (.s (.s (.s (.s (.s (.s (.s (.s (.s (.s (.s (.s (.s (.r .d))))))))))))))))))))))))))))))) u0)<|?_
 rintro _ w h
 refine st (nc rfl rfl)<|st (fa tK rfl)<|sf (so h rfl rfl rfl Gu rfl (.s (.s (.s (.s (.s (.s (.s (.s (.s (.s (.s (.s (.s (.s (.s (.s (.s (.s (.s (.s (.s (.s (.s (.s (.s (.s (.s (.s (.s (.s (.s (.r .d)))))))))))))))))))))))))))))))) u0)<|?_
 rintro _ w h
 refine st (nc rfl rfl)<|st (fa zW rfl)<|sf (so h rfl rfl rfl Gu rfl (.s (.s (.s (.s (.s (.s (.s (.s (.s (.s (.s (.s (.s (.s (.s (.s (.s (.s (.s (.s (.s (.s (.s (.s (.s (.s (.s (.s (.s (.s (.s (.s (.r .d))))))))))))))))))))))))))))))))) u0)<|?_
 rintro _ w h
 refine st (nc rfl rfl)<|st (fa zG rfl)<|sf (so h rfl rfl rfl Gu rfl (.s (.s (.s (.s (.s (.s (.s (.s (.s (.s (.s (.s (.s (.s (.s (.s (.s (.s (.s (.s (.s (.s (.s (.s (.s (.s (.s (.s (.s (.s (.s (.s (.s (.r .d)))))))))))))))))))))))))))))))))) u0)<|?_
 rintro _ w h
 refine st (nc rfl rfl)<|st (fa VG rfl)<|sf (so h rfl rfl rfl Gu rfl (.s (.s (.s (.s (.s (.s (.s (.s (.s (.s (.s (.s (.s (.s (.s (.s (.s (.s (.s (.s (.s (.s (.s (.s (.s (.s (.s (.s (.s (.s (.s (.s (.s (.s (.r .d))))))))))))))))))))))))))))))))))) u0)<|?_
 rintro _ w h
 refine st (nc rfl rfl)<|st (fa oL rfl)<|sf (so h rfl rfl rfl MQ rfl (.s (.s (.s (.s (.s (.s (.s (.s (.s (.s (.s (.s (.s (.s (.s (.s (.s (.s (.s (.s (.s (.s (.s (.s (.s (.s (.s (.s (.s (.s (.s (.s (.s (.s (.s (.r .d)))))))))))))))))))))))))))))))))))) u0)<|?_
 rintro _ w h
 refine xe<|nx<|sq<|?_
 have h:=h.fr (.c r0 (.c r0 (.c r0 (.c r0 (.c r0 (.c r0 .n))))))
 have h:SH B w (XA xb mb (Ct.cE free x)::L):=SH.xi ⟨pg,cg,pm,cm,pq,cq,pi,ci⟩ h
 refine rg<|st (mv rfl)<|cl (ca eF rfl) ((Y8 xb mb (Ct.cE free x) x.e.call F (h.fr (.c r0 .n)) k hx hF hm vE hk7 PX).mono ?_)
 rintro _ w ⟨y1,v2,q3,rfl,h,k⟩
 refine⟨_,rfl,?_⟩
 refine sf (al h Wb)<|?_
 rintro _ w ⟨b4,rfl,h⟩
 refine sf (so h rfl rfl rfl vZ rfl (.r (.r (.r (.r (.r (.r (.r (.r .d)))))))) u0)<|?_
 rintro _ w h
 refine xe<|nx<|sq<|rg<|st (mv rfl)<|st (nc rfl rfl)<|st (fa oL rfl)<|st (ld (v:=.bool y1.e.aD) Cx rfl (h.xc a1 λ_=>rfl))<|st (nt rfl)<|xe<|nx<|?_
 rcases dQ (!y1.e.aD)with dM|dM
 ·have dJ:y1.e.aD=false:=(gZ _).mp dM
  refine ct rfl dM<|?_
  have h:=h.fr (.c r1 .n)
  obtain⟨⟨pg,cg,pm,cm,pq,cq,pi,ci⟩,h⟩:=h.xo
  have h:SH B w (bl xb (Bl mb y1.e ⟨pg,cg,pm,cm,pq,cq,pi,ci⟩) 135::aV 44 1 (.slice pg y1.e.eV.length cg) y1.e.eV.length (y1.e.eV.map (Value.int .i64))::aV 44 1 (.slice pm y1.e.made.length cm) y1.e.made.length (y1.e.made.map (Value.int .i64))::aV 33 1 (.slice pq y1.e.cells.length cq) y1.e.cells.length (y1.e.cells.map (Value.int .i64))::aV 3 1 (.slice pi y1.e.dU.length ci) y1.e.dU.length (y1.e.dU.map (Value.int .i64))::dX mb y1.s::bl b4 (Bn v2) 49::L):=h
  refine fD [1,3,5,7,9,10,13,15,16] (by kernel_rfl) h (.c r6 .n) λw h=>tk (λW H=>mv rfl)<|tk (λW H=>mv rfl)<|tk (λW H=>kB rfl (eH (H.b a0)) yX)<|tk (λW H=>nc rfl rfl)<|tk (λW H=>fa VI rfl)<|ff (so h rfl rfl rfl MQ rfl (.s (.s (.s (.s (.s (.s (.s (.s (.s (.s (.s (.s (.s (.s (.s (.s (.s (.s (.s (.s (.s (.s (.s (.s (.s (.s (.s (.s (.s (.s (.s (.s (.s (.s (.s (.s (.s (.s (.s (.s (.r .d))))))))))))))))))))))))))))))))))))))))) u0)<|?_
  rintro _ w h
  refine⟨h.hs (.c r6 .n),?_⟩
  refine tk (λW H=>nc rfl rfl)<|tk (λW H=>fa UK rfl)<|ff (so h rfl rfl rfl vZ rfl (.s (.s (.s (.s (.s (.s (.s (.s (.s (.s (.s (.s (.s (.s (.s (.s (.s (.s (.s (.s (.s (.s (.s (.s (.s (.s (.s (.s (.s (.s (.s (.s (.s (.s (.s (.s (.s (.s (.s (.s (.s (.r (.r (.r (.r (.r (.r (.r (.r .d))))))))))))))))))))))))))))))))))))))))))))))))) u0)<|?_
  rintro _ w h
  refine⟨h.hs (.c r6 .n),?_⟩
  refine xz<|?_
  refine rn (wC results70)<|?_
  rw[Ct.F' (x:=x) (free:=free) q3 dJ];exact⟨rfl,SH.xi ⟨pg,cg,pm,cm,pq,cq,pi,ci⟩ ((h.fr (.c r6 .n)).drop),k.ended true _⟩
 ·have fF:y1.e.aD=true:=(hU _).mp dM
  refine cf rfl dM<|sk<|?_
  refine rn (wC results70)<|?_
  rw[Ct.T5 (x:=x) (free:=free) q3 fF];exact⟨rfl,h.drop,k⟩
end
variable{B w:World}{L:List As}
theorem G9(xb mb:Nat)(x:Ct.X)(F:Nat)(h:SH B w (XA xb mb x::L))(hd:x.e.done=false)(k:Ct.Ok 60 (Ct.cE 1 x))(hx:(Ct.cE 1 x).left<F)(hF:F<=100000000000)(hm:x.e.call.aI<18446744073709551616)(vE:x.e.call.key.size<=9223372036854775807)(hk7:7<=x.e.call.kind)(PX:x.e.call.kind<=12\/x.e.call.kind<=12):
  Calls prog 33 #[↑xb] w λe w'=>e=.returned (.tuple #[])/\SH B w' (XA xb mb (Ct.cC (Ct.cA x.e.call F) 1 x)::L)/\Ct.Ok 50 (Ct.cC (Ct.cA x.e.call F) 1 x):=by
 refine cN func33 ntmps33 h λw h=>?_
 refine st (ld (v:=.bool x.e.done) One.h rfl (h.xc a0 λ_=>rfl))<|go h λw h=>?_
 refine aDu (Ta _ _ _ _ _ h.to k (by decide) hx hF hm vE hk7 PX) λw h k=>?_
 refine rn (wC results33)<|go h λw h=>?_
 refine⟨rfl,h,k⟩
theorem aEf(xb mb:Nat)(x:Ct.X)(h:SH B w (XA xb mb x::L))(hd:x.e.done=true):
  Calls prog 33 #[↑xb] w λe w'=>e=.returned (.tuple #[])/\SH B w' (XA xb mb x::L):=by
 refine cN func33 ntmps33 h λw h=>?_
 refine st (ld (v:=.bool x.e.done) One.h rfl (h.xc a0 λ_=>rfl))<|go h λw h=>?_
 refine rn (wC results33)<|go h λw h=>?_
 refine⟨rfl,h⟩
theorem JM(xb mb:Nat)(x:Ct.X)(h:SH B w (XA xb mb x::L)):
  Calls prog 34 #[↑xb] w λe w'=>e=.returned ↑x.e.done/\SH B w' (XA xb mb x::L):=by
 refine cN func34 ntmps34 h λw h=>?_
 refine st (ld (v:=.bool x.e.done) One.h rfl (h.xc a0 λ_=>rfl))<|go h λw h=>?_
 exact rz ⟨rfl,h⟩
theorem LM(xb mb:Nat)(x:Ct.X)(h:SH B w (XA xb mb x::L)):
  Calls prog 101 #[↑xb] w λe w'=>e=.returned (.agg (Bn x.e.result).toArray)/\SH B w' (XA xb mb x::L):=by
 refine cN func101 ntmps101 h λw h=>?_
 refine jA h λb1 w h=>?_
 refine st (kB (cs:=[↑x.e.result.err,↑x.e.result.found,.int .u64 (x.e.result.value:Int),↑x.e.result.key,↑x.e.result.count,↑x.e.result.ref,↑x.e.result.aF.root,↑x.e.result.aF.readOnly]) rfl (h.xr 41 a1 λ_=>rfl) Row.h)<|go h λw h=>?_
 exact rr (cD rfl rfl (h.b a0) Row.h)<|⟨rfl,h.drop⟩
end Go.Q9
end
section
namespace Go.Q9
open Go.Proofs.Tryz
open Go.RowKit Go.E
attribute [local irreducible] gA wpS Go.E.X XS C kV lL fin Y U F Ca kU bl rb aV bS ex ce pu sK gK bK zK gG fE cZ gY mA rQ
def Mod(v m:Int):Int:=v%18446744073709551616%m
theorem OH(v m:Int)(h:0<m):0<=Mod v m/\Mod v m<m:=⟨Int.emod_nonneg _ (by omega),Int.emod_lt_of_pos _ h⟩
theorem aHw(v:Int):IntKind.u64.wrap v=v%18446744073709551616:=by rw[IntKind.wrap_u64]
theorem aJ9{m:Int}(h0:0<m)(h1:m<=9223372036854775807):IntKind.u64.wrap m=m:=by rw[IntKind.wrap_u64];omega
theorem aOj(v m:Int)(h0:0<m):(v%18446744073709551616).tmod m=Mod v m:=by
 unfold Mod;rw[Int.tmod_eq_emod_of_nonneg (by omega)]
def Xk(b:Nat)(l:List Int)(i:Nat):As:=ex λpc:Option Addr×Nat=>se [bl b [.slice pc.1 l.length pc.2,↑(i:Int)] 112,bS 1 (.slice pc.1 l.length pc.2) l.length (l.map (Value.int .i64))]
def Xi(l:List Int)(i:Nat)(n:Int):Int:=if i<l.length then Mod (l.getD i 0) n else 0
def ZX(l:List Int)(i:Nat):Nat:=if i<l.length then i+1 else i
theorem i6(l:List Int)(i:Nat){n:Int}(h:0<n):0<=Xi l i n/\Xi l i n<n:=by
 unfold Xi;split
 ·exact OH _ _ h
 ·omega
section
attribute [local semireducible] gA wpS Go.E.X XS C kV lL fin Y U F Ca kU bl rb aV bS ex ce pu sK gK bK zK gG fE cZ gY mA rQ
attribute [local irreducible] gA wpS
theorem T1{w:World}(v m:Int)(h0:0<m)(h1:m<=9223372036854775807):
  Calls prog 67 #[↑v,↑m] w λe w'=>e=.returned (.int .i64 (Mod v m))/\w'=w:=by
 refine Kk (args:=[_,_]) func67 rfl ntmps67 rfl ?_
 refine sq<|rg<|st (sg rfl)<|xe<|nx<|sq<|rg<|st (mv rfl)<|st (O8 Uo Cj rfl (aHw v))<|st (mv rfl)<|st (O8 Uo Cj rfl (aJ9 h0 h1))<|st (brw rfl rfl (by omega) (aOj v m h0))<|st (O8 Cj Uo rfl (w64 (by have:=OH v m h0;omega) (by have:=OH v m h0;omega)))<|st (sg rfl)<|xe<|nx<|rt<|?_
 refine rr (mC results67 rfl)<|⟨rfl,rfl⟩
end
variable{B w:World}{L:List As}
theorem z6(b:Nat)(l:List Int)(i:Nat)(n:Int)(h:SH B w (Xk b l i::L))(h0:0<n)(h1:n<=9223372036854775807):
  Calls prog 31 #[↑b,↑n] w λe w'=>e=.returned (.int .i64 (Xi l i n))/\SH B w' (Xk b l (ZX l i)::L):=by
 obtain⟨⟨p,c⟩,h⟩:=h.ex
 have h:=h.se
 have hlm:=(h.rl a1).2
 unfold maxLen at hlm
 refine cN func31 ntmps31 h λw h=>?_
 refine fD [1,3,5,7,9,11,13,15,17,19] (by kernel_rfl) h (.c r0 .n) λw h=>go h λw h=>?_
 refine qc h (λdF w h=>?_) λdF w h=>?_
 have xZ:=dH dF
 refine go h λw h=>?_
 exact rz ⟨by rw[Xi,if_neg (by omega)],by rw[ZX,if_neg (by omega)];exact SH.bX (_,_) (SH.is (l:=[_,_]) (h))⟩
 have Lt:=dR dF
 refine go h λw h=>?_
 obtain⟨b4,o5,rfl⟩:=h.fq a1 (by omega)
 refine fD [1,3,5,7,9,11,13,15,17,19,21,23,24,26] (by kernel_rfl) h (.c r0 (.c r0 .n)) λw h=>go h λw h=>?_
 refine tk (λW H=>bs (i:Int))<|go h λw h=>?_
 refine sW h (T1 _ _ h0 h1) λw h=>?_
 exact rz ⟨by rw[Xi,if_pos (by omega)],by rw[ZX,if_pos (by omega)];exact SH.bX (_,_) (SH.is (l:=[_,_]) (h))⟩
theorem D5(b:Nat)(l:List Int)(i:Nat)(h:SH B w (Xk b l i::L)):
  Calls prog 30 #[↑b] w λe w'=>e=.returned (.bool (decide ((i:Int)<l.length)))/\SH B w' (Xk b l i::L):=by
 obtain⟨⟨p,c⟩,h⟩:=h.ex
 have h:=h.se
 have hlm:=(h.rl a1).2
 unfold maxLen at hlm
 refine cN func30 ntmps30 h λw h=>?_
 refine fD [1,3,5,7,9,11,13,15,17,19,20] (by kernel_rfl) h (.c r0 .n) λw h=>go h λw h=>?_
 exact rz ⟨rfl,SH.bX (_,_) (SH.is (l:=[_,_]) (h))⟩
theorem U7(l:List Int)(p:Option Addr)(c:Nat)(h:SH B w (bS 1 (.slice p l.length c) l.length (l.map (Value.int .i64))::L)):
  Calls prog 16 #[.slice p l.length c] w λe w'=>∃b,e=.returned (.pointer (some ⟨b,0,none⟩))/\SH B w' (Xk b l 0::L):=by
 refine cN func16 ntmps16 h λw h=>?_
 refine jX h λb1 w h=>?_
 exact rz ⟨_,rfl,SH.bX (p,c) (SH.is (l:=[_,_]) (h))⟩
end Go.Q9
end
section
namespace Go.Q9
open Go.Proofs.Tryz
open Go.RowKit Go.E
attribute [local irreducible] gA wpS Go.E.X XS C kV lL fin Y U F Ca kU bl rb aV bS ex ce pu sK gK bK zK gG fE cZ gY mA rQ
def nO(b:Nat)(l:List Int):As:=ex λi:Nat=>Xk b l i
variable{B w:World}{L:List As}
theorem fZ(b:Nat)(l:List Int)(n:Int)(h:SH B w (nO b l::L))(h0:0<n)(h1:n<=9223372036854775807):
  Calls prog 31 #[↑b,↑n] w λe w'=>∃j:Nat,(j:Int)<n/\e=.returned ↑(j:Int)/\SH B w' (nO b l::L):=by
 obtain⟨i,h⟩:=SH.ex h
 refine(z6 b l i n h h0 h1).mono ?_
 rintro _ w ⟨rfl,h⟩
 have nx:=i6 l i h0
 obtain⟨j,hj⟩:=vL nx.1
 exact⟨j,by omega,by rw[hj],SH.bX _ h⟩
theorem aDe(b:Nat)(l:List Int)(h:SH B w (nO b l::L)):
  Calls prog 30 #[↑b] w λe w'=>∃r:Bool,e=.returned ↑r/\SH B w' (nO b l::L):=by
 obtain⟨i,h⟩:=SH.ex h
 refine(D5 b l i h).mono ?_
 rintro _ w ⟨rfl,h⟩
 exact⟨_,rfl,SH.bX _ h⟩
theorem aBb(l:List Int)(p:Option Addr)(c:Nat)(h:SH B w (bS 1 (.slice p l.length c) l.length (l.map (Value.int .i64))::L)):
  Calls prog 16 #[.slice p l.length c] w λe w'=>∃b,e=.returned (.pointer (some ⟨b,0,none⟩))/\SH B w' (nO b l::L):=by
 refine(U7 l p c h).mono ?_
 rintro _ w ⟨b,rfl,h⟩
 exact⟨b,rfl,SH.bX _ h⟩
structure Ks where
 k:ByteArray:=.empty
structure Ms where
 m:Nat:=0
def ksC(s:Ks):List Value:=[↑s.k]
def msC(s:Ms):List Value:=[.int .u64 (s.m:Int)]
theorem aA5(s:Ks):(ksC s).length=1:=rfl
theorem Y1(s:Ms):(msC s).length=1:=rfl
def aJr:List Ks:=[{k:=⟨#[97]⟩},{k:=⟨#[98]⟩},{k:=⟨#[99]⟩},{k:=⟨#[100]⟩},{k:=⟨#[97,98]⟩},{k:=.empty},{k:=⟨#[98,48]⟩},{k:=⟨#[107,101,121]⟩}]
def aC7:List Ms:=[{m:=18446744073709551615},{m:=0},{m:=1},{m:=64},{m:=63},{m:=4095},{m:=9223372036854775808},{m:=4032},{m:=3458764513820540928},{m:=18446744073709551615}]
theorem Pv{α:Type}{p:α->Prop}{d:α}(hd:p d):∀{l:List α},(∀x,x∈l->p x)->∀j,p (l.getD j d)
 |[],_,_=>hd
 |x::l,h,0=>h x (.head _)
 |x::l,h,j+1=>Pv hd (λy hy=>h y (.tail _ hy)) j
theorem D0(j:Nat):(aJr.getD j {}).k.size<=8:=Pv (p:=λs:Ks=>s.k.size<=8) (by decide) (by decide) j
theorem T0(j:Nat):(aC7.getD j {}).m<18446744073709551616:=Pv (p:=λs:Ms=>s.m<18446744073709551616) (by decide) (by decide) j
theorem aBm(b:Nat)(l:List Int)(h:SH B w (nO b l::L)):
  Calls prog 54 #[↑b] w λe w'=>∃k:ByteArray,k.size<=8/\e=.returned (.string k)/\SH B w' (nO b l::L):=by
 refine cN func54 ntmps54 h λw h=>?_
 refine sf (bu [.string (⟨#[97]⟩),.string (⟨#[98]⟩),.string (⟨#[99]⟩),.string (⟨#[100]⟩),.string (⟨#[97,98]⟩),.string .empty,.string (⟨#[98,48]⟩),.string (⟨#[107,101,121]⟩)] h gB.h Ss.h rfl (by kernel_rfl) rfl (by decide) (by decide)) ?_
 rintro _ w ⟨b1,rfl,h⟩
 refine go h λw h=>?_
 have h:SH B w (aV 9 1 (.slice (some ⟨b1,0,none⟩) 8 8) 8 (aJr.flatMap ksC)::nO b l::L):=h
 refine VX (fZ _ _ _ h.to (by omega) (by omega)) λj2 KT w h=>?_
 refine st (ld One.h rfl ((h.ro a1).x aA5 (by decide) (by show _<8;omega) {} 0 _ rfl))<|go h λw h=>?_
 exact rz ⟨_,D0 _,rfl,h.to⟩
theorem aE8(b:Nat)(l:List Int)(h:SH B w (nO b l::L)):
  Calls prog 28 #[↑b] w λe w'=>∃m:Nat,m<18446744073709551616/\e=.returned (.int .u64 (m:Int))/\SH B w' (nO b l::L):=by
 refine cN func28 ntmps28 h λw h=>?_
 refine sf (bu [.int .u64 18446744073709551615,.int .u64 0,.int .u64 1,.int .u64 64,.int .u64 63,.int .u64 4095,.int .u64 9223372036854775808,.int .u64 4032,.int .u64 3458764513820540928,.int .u64 18446744073709551615] h gB.h Ss.h rfl (by kernel_rfl) rfl (by decide) (by decide)) ?_
 rintro _ w ⟨b1,rfl,h⟩
 refine go h λw h=>?_
 have h:SH B w (aV 28 1 (.slice (some ⟨b1,0,none⟩) 10 10) 10 (aC7.flatMap msC)::nO b l::L):=h
 refine VX (fZ _ _ _ h.to (by omega) (by omega)) λj2 KT w h=>?_
 refine st (ld One.h rfl ((h.ro a1).x Y1 (by decide) (by show _<10;omega) {} 0 _ rfl))<|go h λw h=>?_
 exact rz ⟨_,T0 _,rfl,h.to⟩
end Go.Q9
end
section
namespace Go.E
open Go.Q9 Go.RowKit
variable{B w:World}{L:List As}
theorem QN{α β:Type}{f:α->β}{M:List β}:∀{zs:List α} {i:Nat} (hi:i<zs.length),xG (zs.map f++M) (f zs[i]) ((zs.eraseIdx i).map f++M)
 |z::zs,0,_=>.z
 |z::zs,i+1,hi=>.s (QN (by simpa using hi))
theorem Ry{α β:Type}{f:α->β}{M:List β}{a:α}:∀{zs:List α} {i:Nat} (_:i<zs.length),xG ((zs.set i a).map f++M) (f a) ((zs.eraseIdx i).map f++M)
 |_::zs,0,_=>.z
 |_::zs,i+1,hi=>.s (Ry (by simpa using hi))
theorem BT{α:Type}{a:α}{M:List α}:∀{l:List α},xG (l++a::M) a (l++M)
 |[]=>.z
 |_::_=>.s BT
def Oq(mb:Nat)(z:Nat×Ct.Ex):As:=exA z.1 mb z.2
def lU(mb:Nat)(zs:List (Nat×Ct.Ex)):As:=Go.E.se (zs.map (Oq mb))
theorem SH.aJn{mb:Nat}{s:Ct.St}{zs:List (Nat×Ct.Ex)}{i:Nat}(hi:i<zs.length)(h:SH B w (lU mb zs::dX mb s::L)):SH B w (XA zs[i].1 mb ⟨zs[i].2,s⟩::lU mb (zs.eraseIdx i)::L):=by
 have h1:=(SH.se h).fr (.c (QN hi) .n)
 have h2:SH B w ((zs.eraseIdx i).map (Oq mb)++Oq mb zs[i]::dX mb s::L):=SH.back (A:=Oq mb zs[i]) h1 BT
 have h3:=(SH.is h2).fr (.c r1 (.c r1 .n))
 exact SH.is (l:=[exA zs[i].1 mb zs[i].2,dX mb s]) h3
theorem SH.aBf{mb:Nat}{s:Ct.St}{zs:List (Nat×Ct.Ex)}{i b:Nat}{e:Ct.Ex}(hi:i<zs.length)(h:SH B w (XA b mb ⟨e,s⟩::lU mb (zs.eraseIdx i)::L)):SH B w (lU mb (zs.set i (b,e))::dX mb s::L):=by
 have h1:=(SH.se (l:=[exA b mb e,dX mb s]) h).fr (.c r2 .n)
 have h2:SH B w (Oq mb (b,e)::((zs.eraseIdx i).map (Oq mb)++dX mb s::L)):=(SH.se h1).fr (.c BT .n)
 exact SH.is (l:=(zs.set i (b,e)).map (Oq mb)) (SH.back (A:=Oq mb (b,e)) h2 (Ry hi))
theorem SH.aI0{mb:Nat}(h:SH B w L):SH B w (lU mb []::L):=SH.is (l:=[]) h
theorem SH.aHx{mb:Nat}{s:Ct.St}{zs:List (Nat×Ct.Ex)}{b:Nat}{e:Ct.Ex}(h:SH B w (XA b mb ⟨e,s⟩::lU mb zs::L)):SH B w (lU mb (zs++[(b,e)])::dX mb s::L):=by
 have h1:=(SH.se (l:=[exA b mb e,dX mb s]) h).fr (.c r2 .n)
 have h2:SH B w (zs.map (Oq mb)++Oq mb (b,e)::dX mb s::L):=SH.se h1
 refine SH.is (l:=(zs++[(b,e)]).map (Oq mb)) ?_
 rw[Md,zA];exact h2
theorem SH.MZ{mb:Nat}{x:Ct.X}{b:Nat}(h:SH B w (XA b mb x::L)):SH B w (dX mb x.s::L):=(SH.se (l:=[exA b mb x.e,dX mb x.s]) h).drop
end Go.E
end
