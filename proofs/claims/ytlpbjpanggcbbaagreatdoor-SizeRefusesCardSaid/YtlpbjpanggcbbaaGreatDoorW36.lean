/- Parts of a proof: Q6, Q7, Tt, Te. -/
import Derived.Test.YtlpbjpanggcbbaaGreatDoorW35
import Derived.Laws.Bits64
set_option linter.unusedVariables false
set_option linter.unusedSimpArgs false
set_option maxRecDepth 100000
set_option maxHeartbeats 4000000
section
namespace Go.Q9
open Go.Proofs.Tryz
open Go.RowKit Go.E Go.Ct
attribute [local irreducible] gB wpS Go.E.X XS C jU kP fin Y U F Ca jT bl rb aU bV ex ce pu sK gK bK zK
variable{B w:World}{L:List As}
theorem Ib(xb mb:Nat)(x:Ct.X)(m:Int)(h:SH B w (XA xb mb x::L))(k:Ct.Ok 60 x):
  Calls prog 146 #[↑xb,↑m] w λe w'=>∃y v,Ct.aX (Ct.wK m) x=Ct.out y v/\e=.returned (.agg (xC v).toArray)/\SH B w' (XA xb mb y::L)/\Ct.Ok 50 y:=by
 have hlen:=k.len
 refine bZ func146 ntmps146 h λw h=>?_
 refine jA h λb1 w h=>?_
 refine dE (MG (j:=59) xb mb x h.to (k.less (by omega))) λy2 v3 q4 w h k=>?_
 have lq4:=Ct.A8 q4
 refine go h λw h=>?_
 refine dE (dS (j:=58) xb mb y2 ({kind:=2,gen:=v3}) {} m (SH.eE ({kind:=2,gen:=v3}) rfl rfl h.to) (k.less (by omega)) (Ct.bG _ 2 v3 0 0 0)) λy5 v6 q7 w h ⟨k,hly5⟩=>?_
 have lq7:=Ct.Gq q7
 refine go h λw h=>?_
 refine dE (AL (j:=57) xb mb y5 v6 h.to (k.less (by omega))) λy8 v9 q10 w h k=>?_
 have lq10:=Ct.B7 q10
 refine go h λw h=>?_
 exact rr (bP rfl rfl (h.b a1) Row.h)<|⟨_,({found:=true,aE:={root:=v9}}:Ct.Result),Ct.rG q4<|Ct.rA q7<|Ct.rE q10<|Ct.rR,rfl,h.to,(k.less (by omega))⟩
theorem ID(xb mb:Nat)(x:Ct.X)(c:Ct.Call)(F:Nat)(h:SH B w (XA xb mb (Ct.X.of c x)::L))(k:Ct.Ok 60 (Ct.X.of c x))(hx:(Ct.X.of c x).left<F):
  Calls prog 105 #[↑xb] w λe w'=>∃y v,Ct.aX (Ct.vK c.aE F) (Ct.X.of c x)=Ct.out y v/\e=.returned (.agg (xC v).toArray)/\SH B w' (XA xb mb y::L)/\Ct.Ok 60 y:=by
 have hlen:=k.len
 refine bZ func105 ntmps105 h λw h=>?_
 refine jA h λb1 w h=>?_
 refine st (gJ (cs:=cU c.aE) rfl (h.xr 2 a1 λ_=>rfl) Row.h)<|go h λw h=>?_
 refine jA h λb2 w h=>?_
 refine lp (α:=Ct.X×Nat) (λρ=>(.c 0 ↑xb (.c 2 ↑b1 (.c 3 ↑b2 .n)))) (λρ w=>SH B w (XA xb mb (Ct.X.of c ρ.1)::bl b2 (cU c.aE) 35::bl b1 ([.int .i64 0,↑false,.int .u64 0,.string .empty,.int .i64 0,.int .i64 0,.int .i64 0,↑false]) 45::L)/\(Ct.aX (Ct.vK c.aE F) (Ct.X.of c x)=Ct.aX (Ct.vK c.aE ρ.2) (Ct.X.of c ρ.1))/\(Ct.Ok 60 (Ct.X.of c ρ.1))/\((Ct.X.of c ρ.1).e.aC=true\/(Ct.X.of c ρ.1).left<ρ.2)) (λρ=>ρ.2) (x,F) ⟨rfl,rfl,rfl,trivial⟩ ⟨h.to,(rfl),k,(.inr (by(try dsimp only);omega))⟩ ?_
 rintro⟨y,n⟩ w ⟨h,hq,k,hn⟩
 dsimp only at *
 refine go h λw h=>?_
 refine st (ld (v:=.bool (Ct.X.of c y).e.aC) One.h rfl (h.xc a0 λ_=>rfl))<|go h λw h=>?_
 refine qc h (λhd3 w h=>?_) λhd3 w h=>?_
 have hd4:(Ct.X.of c y).e.aC=false:=by simpa using hd3
 refine go h λw h=>?_
 obtain⟨n,rfl⟩:∃k,n=k+1:=⟨n-1,by have:=hn.resolve_left (by rw[hd4];decide);omega⟩
 replace hn:=hn.resolve_left (by rw[hd4];decide)
 refine go h λw h=>?_
 have kb5:=k
 refine dE (nV xb mb (Ct.X.of c y) c.aE h.to (k.less (by omega))) λy6 v7 q8 w h k=>?_
 obtain⟨z9,rfl⟩:=Ct.mB q8
 have lq8:=Ct.nY q8
 have ltq8:=Ct.pY kb5 (by omega) q8
 have mq8:=Ct.UJ q8
 refine go h λw h=>?_
 have kb10:=k
 refine dE (hU xb mb (Ct.X.of c z9) c.aE v7 h.to (k.less (by omega))) λy11 v12 q13 w h k=>?_
 obtain⟨z14,rfl⟩:=Ct.mB q13
 have lq13:=Ct.nY q13
 have ltq13:=Ct.oK kb10 q13
 have mq13:=Ct.UJ q13
 refine go h λw h=>?_
 refine dE (dS (j:=59) xb mb (Ct.X.of c z14) ({kind:=3}) {} 0 (SH.eE ({kind:=3}) rfl rfl h.to) (k.less (by omega)) (Ct.fY _)) λy15 v16 q17 w h ⟨k,hly15⟩=>?_
 obtain⟨z18,rfl⟩:=Ct.Lg q17
 have lq17:=Ct.Gq q17
 have mq17:=Ct.w8 q17
 refine go h λw h=>?_
 refine dE (MG (j:=58) xb mb (Ct.X.of c z18) h.to (k.less (by omega))) λy19 v20 q21 w h k=>?_
 obtain⟨z22,rfl⟩:=Ct.G5 q21
 have lq21:=Ct.A8 q21
 have mq21:=Ct.J1 q21
 refine go h λw h=>?_
 refine dZ [1,3,5,7,9,11,13,15,16,18] (by kernel_rfl) h (.c r1 .n) λw h=>go h λw h=>?_
 refine mF (dS (j:=57) xb mb (Ct.X.of c z22) ({kind:=2,gen:=v20}) {} v16 (SH.eE ({kind:=2,gen:=v20}) rfl rfl h.to) (k.less (by omega)) (Ct.bG _ 2 v20 0 0 0)) λy23 v24 q25 w h ⟨k,hly23⟩=>?_
 obtain⟨z26,rfl⟩:=Ct.Lg q25
 have lq25:=Ct.Gq q25
 have mq25:=Ct.w8 q25
 refine go h λw h=>?_
 refine mF (No xb mb (Ct.X.of c z26) c.aE v7 v12 v24 h.to (k.less (by omega))) λy27 v28 q29 w h k=>?_
 obtain⟨z30,rfl⟩:=Ct.mB q29
 have lq29:=Ct.nY q29
 have mq29:=Ct.UJ q29
 refine go h λw h=>?_
 refine qc h (λhd31 w h=>?_) λhd31 w h=>?_
 exact rc h ⟨_,({found:=true}:Ct.Result),hq.trans<|Ct.rB q8<|Ct.rB q13<|Ct.rA q17<|Ct.rG q21<|Ct.rA q25<|Ct.rB q29<|Ct.rT hd31<|Ct.rR,rfl,h.to,k⟩
 exact⟨(z30,n),⟨rfl,rfl,rfl,trivial⟩,⟨h,(hq.trans<|Ct.rB q8<|Ct.rB q13<|Ct.rA q17<|Ct.rG q21<|Ct.rA q25<|Ct.rB q29<|Ct.rF hd31<|rfl),k,(ltq8.elim (λhz=>.inl (Ct.o0 q29 (Ct.y0 q25 (Ct.I9 q21 (Ct.y0 q17 (Ct.o0 q13 hz)))))) λhz=>.inr (by have:=hz.2;(try dsimp only);omega))⟩,by(try dsimp only);omega⟩
 have hd32:(Ct.X.of c y).e.aC=true:=by simpa using hd3
 refine go h λw h=>?_
 exact rc h ⟨_,({}:Ct.Result),hq.trans<|Ct.rS hd32,rfl,h.to,(k.stop hd32)⟩
theorem Bw(xb mb:Nat)(x:Ct.X)(c:Ct.Call)(fz:Bool)(F:Nat)(h:SH B w (XA xb mb (Ct.X.of c x)::L))(k:Ct.Ok 60 (Ct.X.of c x))(hx:(Ct.X.of c x).left<F):
  Calls prog 104 #[↑xb,↑fz] w λe w'=>∃y v,Ct.aX (Ct.iL c.aE fz F) (Ct.X.of c x)=Ct.out y v/\e=.returned (.agg (xC v).toArray)/\SH B w' (XA xb mb y::L)/\Ct.Ok 50 y:=by
 have hlen:=k.len
 refine bZ func104 ntmps104 h λw h=>?_
 refine jA h λb1 w h=>?_
 refine st (gJ (cs:=cU c.aE) rfl (h.xr 2 a1 λ_=>rfl) Row.h)<|go h λw h=>?_
 refine jA h λb2 w h=>?_
 refine qc h (λhd3 w h=>?_) λhd3 w h=>?_
 refine dE (mU xb mb (Ct.X.of c x) c.aE.root h.to (k.less (by omega))) λy4 v5 q6 w h k=>?_
 obtain⟨z7,rfl⟩:=Ct.J2 q6
 have lq6:=Ct.M8 q6
 have mq6:=Ct.K1 q6
 refine go h λw h=>?_
 refine qc h (λhd8 w h=>?_) λhd8 w h=>?_
 refine dE (AL (j:=89) xb mb (Ct.X.of c z7) v5 h.to (k.less (by omega))) λy9 v10 q11 w h k=>?_
 obtain⟨z12,rfl⟩:=Ct.F5 q11
 have lq11:=Ct.B7 q11
 have mq11:=Ct.I6 q11
 refine go h λw h=>?_
 exact rc h ⟨_,({found:=true,aE:={root:=v10,readOnly:=true}}:Ct.Result),Ct.rT hd3<|Ct.rL q6<|Ct.rT hd8<|Ct.rE q11<|Ct.rR,rfl,h.to,(k.less (by omega))⟩
 have kb13:=k
 refine dE (hU xb mb (Ct.X.of c z7) c.aE v5 h.to (k.less (by omega))) λy14 v15 q16 w h k=>?_
 obtain⟨z17,rfl⟩:=Ct.mB q16
 have lq16:=Ct.nY q16
 have ltq16:=Ct.oK kb13 q16
 have mq16:=Ct.UJ q16
 refine go h λw h=>?_
 refine dE (Ib xb mb (Ct.X.of c z17) v15 h.to (k.less (by omega))) λy18 v19 q20 w h k=>?_
 obtain⟨z21,rfl⟩:=Ct.mB q20
 have lq20:=Ct.nY q20
 have mq20:=Ct.UJ q20
 refine go h λw h=>?_
 exact rc h ⟨_,v19,Ct.rT hd3<|Ct.rL q6<|Ct.rF hd8<|Ct.rB q16<|q20,rfl,h.to,k⟩
 refine lp (α:=Ct.X×Nat) (λρ=>(.c 0 ↑xb (.c 1 ↑fz (.c 4 ↑b1 (.c 5 ↑b2 .n))))) (λρ w=>SH B w (XA xb mb (Ct.X.of c ρ.1)::bl b2 (cU c.aE) 35::bl b1 ([.int .i64 0,↑false,.int .u64 0,.string .empty,.int .i64 0,.int .i64 0,.int .i64 0,↑false]) 45::L)/\(Ct.aX (Ct.iL c.aE fz F) (Ct.X.of c x)=Ct.aX (Ct.Xl c.aE fz ρ.2) (Ct.X.of c ρ.1))/\(Ct.Ok 60 (Ct.X.of c ρ.1))/\((Ct.X.of c ρ.1).e.aC=true\/(Ct.X.of c ρ.1).left<ρ.2)) (λρ=>ρ.2) (x,F) ⟨rfl,rfl,rfl,rfl,trivial⟩ ⟨h.to,(Ct.rF hd3<|rfl),k,(.inr (by(try dsimp only);omega))⟩ ?_
 rintro⟨y,n⟩ w ⟨h,hq,k,hn⟩
 dsimp only at *
 refine go h λw h=>?_
 refine st (ld (v:=.bool (Ct.X.of c y).e.aC) One.h rfl (h.xc a0 λ_=>rfl))<|go h λw h=>?_
 refine qc h (λhd22 w h=>?_) λhd22 w h=>?_
 have hd23:(Ct.X.of c y).e.aC=false:=by simpa using hd22
 refine go h λw h=>?_
 obtain⟨n,rfl⟩:∃k,n=k+1:=⟨n-1,by have:=hn.resolve_left (by rw[hd23];decide);omega⟩
 replace hn:=hn.resolve_left (by rw[hd23];decide)
 refine go h λw h=>?_
 have kb24:=k
 refine dE (nV xb mb (Ct.X.of c y) c.aE h.to (k.less (by omega))) λy25 v26 q27 w h k=>?_
 obtain⟨z28,rfl⟩:=Ct.mB q27
 have lq27:=Ct.nY q27
 have ltq27:=Ct.pY kb24 (by omega) q27
 have mq27:=Ct.UJ q27
 refine go h λw h=>?_
 have kb29:=k
 refine dE (hU xb mb (Ct.X.of c z28) c.aE v26 h.to (k.less (by omega))) λy30 v31 q32 w h k=>?_
 obtain⟨z33,rfl⟩:=Ct.mB q32
 have lq32:=Ct.nY q32
 have ltq32:=Ct.oK kb29 q32
 have mq32:=Ct.UJ q32
 refine go h λw h=>?_
 refine dE (MG (j:=59) xb mb (Ct.X.of c z33) h.to (k.less (by omega))) λy34 v35 q36 w h k=>?_
 obtain⟨z37,rfl⟩:=Ct.G5 q36
 have lq36:=Ct.A8 q36
 have mq36:=Ct.J1 q36
 refine go h λw h=>?_
 refine dZ [1,3,5,7,9,11,13,15,16,18,21] (by kernel_rfl) h (.c r1 .n) λw h=>go h λw h=>?_
 refine mF (dS (j:=58) xb mb (Ct.X.of c z37) ({kind:=2,gen:=v35}) {} v31 (SH.eE ({kind:=2,gen:=v35}) rfl rfl h.to) (k.less (by omega)) (Ct.bG _ 2 v35 0 0 0)) λy38 v39 q40 w h ⟨k,hly38⟩=>?_
 obtain⟨z41,rfl⟩:=Ct.Lg q40
 have lq40:=Ct.Gq q40
 have mq40:=Ct.w8 q40
 refine go h λw h=>?_
 refine mF (No xb mb (Ct.X.of c z41) c.aE v26 v31 v39 h.to (k.less (by omega))) λy42 v43 q44 w h k=>?_
 obtain⟨z45,rfl⟩:=Ct.mB q44
 have lq44:=Ct.nY q44
 have mq44:=Ct.UJ q44
 refine go h λw h=>?_
 refine qc h (λhd46 w h=>?_) λhd46 w h=>?_
 have hd47:v43=false:=by simpa using hd46
 refine go h λw h=>?_
 exact⟨(z45,n),⟨rfl,rfl,rfl,rfl,trivial⟩,⟨h,(hq.trans<|Ct.rB q27<|Ct.rB q32<|Ct.rG q36<|Ct.rA q40<|Ct.rB q44<|Ct.Zo hd47<|rfl),k,(ltq27.elim (λhz=>.inl (Ct.o0 q44 (Ct.y0 q40 (Ct.I9 q36 (Ct.o0 q32 hz))))) λhz=>.inr (by have:=hz.2;(try dsimp only);omega))⟩,by(try dsimp only);omega⟩
 have hd48:v43=true:=by simpa using hd46
 refine go h λw h=>?_
 refine qc h (λhd49 w h=>?_) λhd49 w h=>?_
 refine dE (AL (j:=59) xb mb (Ct.X.of c z45) v26 h.to (k.less (by omega))) λy50 v51 q52 w h k=>?_
 obtain⟨z53,rfl⟩:=Ct.F5 q52
 have lq52:=Ct.B7 q52
 have mq52:=Ct.I6 q52
 refine go h λw h=>?_
 exact rc h ⟨_,({found:=true,aE:={root:=v51,readOnly:=true}}:Ct.Result),hq.trans<|Ct.rB q27<|Ct.rB q32<|Ct.rG q36<|Ct.rA q40<|Ct.rB q44<|Ct.wF hd48<|Ct.rT hd49<|Ct.rE q52<|Ct.rR,rfl,h.to,(k.less (by omega))⟩
 refine dE (Ib xb mb (Ct.X.of c z45) v31 h.to (k.less (by omega))) λy54 v55 q56 w h k=>?_
 obtain⟨z57,rfl⟩:=Ct.mB q56
 have lq56:=Ct.nY q56
 have mq56:=Ct.UJ q56
 refine go h λw h=>?_
 exact rc h ⟨_,v55,hq.trans<|Ct.rB q27<|Ct.rB q32<|Ct.rG q36<|Ct.rA q40<|Ct.rB q44<|Ct.wF hd48<|Ct.rF hd49<|q56,rfl,h.to,k⟩
 have hd58:(Ct.X.of c y).e.aC=true:=by simpa using hd22
 refine go h λw h=>?_
 exact rc h ⟨_,({}:Ct.Result),hq.trans<|Ct.rS hd58,rfl,h.to,(k.stop hd58)⟩
end Go.Q9
end
section
namespace Go.Q9
open Go.Proofs.Tryz
open Go.RowKit Go.E Go.Ct
attribute [local irreducible] gB wpS Go.E.X XS C jU kP fin Y U F Ca jT bl rb aU bV ex ce pu sK gK bK zK gM fO dH
variable{B w:World}{L:List As}
theorem Yu(c:Ct.Call)(h:SH B w (L))(hky:c.key.size<=9223372036854775807):
  Calls prog 93 #[.agg [↑c.kind,↑c.aE.root,↑c.aE.readOnly,↑c.a,↑c.b,↑c.n,↑c.index,.int .u64 (c.hash:Int),.int .u64 (c.aI:Int),↑c.key,.int .u64 (c.value:Int),.int .u64 (c.expect:Int),↑c.bF,↑c.only,↑c.walk.started,.slice none 0 0,.slice none 0 0,↑c.answer.err,↑c.answer.found,.int .u64 (c.answer.value:Int),↑c.answer.key,↑c.answer.count,↑c.answer.ref,↑c.answer.aE.root,↑c.answer.aE.readOnly].toArray] w λe w'=>e=.returned (.int .i64 (Ct.refused c))/\SH B w' L:=by
 refine bZ func93 ntmps93 h λw h=>?_
 refine jX h λb1 w h=>?_
 refine qc h (λhd2 w h=>?_) λhd2 w h=>?_
 refine cl (ca eF rfl) ((qZ c.key _ (by omega)).mono ?_)
 rintro _ _ ⟨rfl,rfl⟩
 refine⟨_,rfl,?_⟩
 refine st (nt rfl)<|xe<|nx<|?_
 refine qc h (λhd4 w h=>?_) λhd4 w h=>?_
 have hd5:(Ct.bU c.key)=false:=by simpa using hd4
 refine rz ?_
 refine⟨?_,h.drop⟩
 unfold Ct.refused;simp[hd2,hd5]
 have hd6:(Ct.bU c.key)=true:=by simpa using hd4
 refine rz ?_
 refine⟨?_,h.drop⟩
 unfold Ct.refused;simp[hd2,hd6]
 refine qc h (λhd8 w h=>?_) λhd8 w h=>?_
 refine cl (ca eF rfl) ((qZ c.key _ (by omega)).mono ?_)
 rintro _ _ ⟨rfl,rfl⟩
 refine⟨_,rfl,?_⟩
 refine st (nt rfl)<|xe<|nx<|?_
 refine qc h (λhd10 w h=>?_) λhd10 w h=>?_
 have hd11:(Ct.bU c.key)=false:=by simpa using hd10
 refine rz ?_
 refine⟨?_,h.drop⟩
 unfold Ct.refused;simp[hd2,hd8,hd11]
 have hd12:(Ct.bU c.key)=true:=by simpa using hd10
 refine rz ?_
 refine⟨?_,h.drop⟩
 unfold Ct.refused;simp[hd2,hd8,hd12]
 refine qc h (λhd14 w h=>?_) λhd14 w h=>?_
 refine cl (ca eF rfl) ((qZ c.key _ (by omega)).mono ?_)
 rintro _ _ ⟨rfl,rfl⟩
 refine⟨_,rfl,?_⟩
 refine st (nt rfl)<|st (mv rfl)<|?_
 refine qg h (λhd16 w h=>?_) λhd16 w h=>?_
 have hd17:(Ct.bU c.key)=false:=by simpa using hd16
 refine rz ?_
 refine⟨?_,h.drop⟩
 unfold Ct.refused;simp[hd2,hd8,hd14,hd17]
 have hd18:(Ct.bU c.key)=true:=by simpa using hd16
 refine qg h (λhd19 w h=>?_) λhd19 w h=>?_
 have hg20:=dA hd19
 refine go h λw h=>?_
 refine rz ?_
 refine⟨?_,h.drop⟩
 unfold Ct.refused;simp[hd2,hd8,hd14,hd18,show decide (0<=c.bF)=false from cW (by omega)]
 have hg21:=dP hd19
 refine go h λw h=>?_
 refine qc h (λhd22 w h=>?_) λhd22 w h=>?_
 have hg23:=dA hd22
 refine go h λw h=>?_
 refine rz ?_
 refine⟨?_,h.drop⟩
 unfold Ct.refused;simp[hd2,hd8,hd14,hd18,show decide (0<=c.bF)=true from eC (by omega),show decide (c.bF<=3)=false from cW (by omega)]
 have hg24:=dP hd22
 refine go h λw h=>?_
 refine rz ?_
 refine⟨?_,h.drop⟩
 unfold Ct.refused;simp[hd2,hd8,hd14,hd18,show decide (0<=c.bF)=true from eC (by omega),show decide (c.bF<=3)=true from eC (by omega)]
 refine qc h (λhd26 w h=>?_) λhd26 w h=>?_
 refine qc h (λhd28 w h=>?_) λhd28 w h=>?_
 have hd29:c.aE.readOnly=false:=by simpa using hd28
 refine rz ?_
 refine⟨?_,h.drop⟩
 unfold Ct.refused;simp[hd2,hd8,hd14,hd26,hd29]
 have hd30:c.aE.readOnly=true:=by simpa using hd28
 refine rz ?_
 refine⟨?_,h.drop⟩
 unfold Ct.refused;simp[hd2,hd8,hd14,hd26,hd30]
 refine qc h (λhd32 w h=>?_) λhd32 w h=>?_
 refine qc h (λhd34 w h=>?_) λhd34 w h=>?_
 have hd35:c.aE.readOnly=false:=by simpa using hd34
 refine rz ?_
 refine⟨?_,h.drop⟩
 unfold Ct.refused;simp[hd2,hd8,hd14,hd26,hd32,hd35]
 have hd36:c.aE.readOnly=true:=by simpa using hd34
 refine rz ?_
 refine⟨?_,h.drop⟩
 unfold Ct.refused;simp[hd2,hd8,hd14,hd26,hd32,hd36]
 refine rz ?_
 refine⟨?_,h.drop⟩
 unfold Ct.refused;simp[hd2,hd8,hd14,hd26,hd32]
theorem TJ(xb mb:Nat)(x:Ct.X)(c:Ct.Call)(F:Nat)(h:SH B w (XA xb mb (Ct.X.of c x)::L))(k:Ct.Ok 60 (Ct.X.of c x))(hx:(Ct.X.of c x).left<F)(hF:F<=100000000000)(hm:c.aI<18446744073709551616)(hky:c.key.size<=9223372036854775807)(hk7:7<=c.kind)(hk12:c.kind<=12):
  Calls prog 69 #[↑xb] w λe w'=>∃y v,Ct.aX (Ct.bY c F) (Ct.X.of c x)=Ct.out y v/\e=.returned (.agg (xC v).toArray)/\SH B w' (XA xb mb y::L)/\Ct.Ok 50 y:=by
 refine bZ func69 ntmps69 h λw h=>?_
 refine jA h λb1 w h=>?_
 refine st (gJ (cs:=[↑c.kind,↑c.aE.root,↑c.aE.readOnly,↑c.a,↑c.b,↑c.n,↑c.index,.int .u64 (c.hash:Int),.int .u64 (c.aI:Int),↑c.key,.int .u64 (c.value:Int),.int .u64 (c.expect:Int),↑c.bF,↑c.only,↑c.walk.started,.slice none 0 0,.slice none 0 0,↑c.answer.err,↑c.answer.found,.int .u64 (c.answer.value:Int),↑c.answer.key,↑c.answer.count,↑c.answer.ref,↑c.answer.aE.root,↑c.answer.aE.readOnly]) rfl (h.xr 1 a1 λ_=>rfl) Row.h)<|go h λw h=>?_
 refine jA h λb2 w h=>?_
 refine bA (Yu c h.to (by omega)) λw h=>?_
 refine qc h (λhd3 w h=>?_) λhd3 w h=>?_
 ·have hr0:=bne_iff_ne.1 hd3
  refine rr (bP rfl rfl (h.b a1) Row.h) ?_
  rw[Ct.EJ hr0];exact⟨_,({err:=Ct.refused c}:Ct.Result),Ct.rR,rfl,h.drop.drop,k.less (by omega)⟩
 ·have h0:=eS hd3
  refine qc h (λhd6 w h=>?_) λhd6 w h=>?_
  ·have hg7:=eq_of_beq hd6
   refine go h λw h=>?_
   refine dE (QA xb mb x c F h.to (k.less (by omega)) (by omega) (by omega) hm hky) λy8 v9 q10 w h k=>?_
   obtain⟨z11,rfl⟩:=Ct.mB q10
   have lq10:=Ct.nY q10
   refine go h λw h=>?_
   refine rr (bP rfl rfl (h.b a2) Row.h) ?_
   rw[Ct.FR h0 (by omega)];exact⟨_,v9,q10,rfl,(h.fr (.c r1 (.c r1 .n))).drop.drop,k.less (by omega)⟩
  ·have hg12:=mD hd6
   refine go h λw h=>?_
   refine qc h (λhd13 w h=>?_) λhd13 w h=>?_
   ·have hg14:=eq_of_beq hd13
    refine go h λw h=>?_
    refine dE (UB _ _ _ c _ h.to (k.less (by omega)) hx hF hm (Ct.vW h0 (by omega))) λy15 v16 q17 w h k=>?_
    obtain⟨z18,rfl⟩:=Ct.mB q17
    have lq17:=Ct.nY q17
    refine go h λw h=>?_
    refine rr (bP rfl rfl (h.b a2) Row.h) ?_
    rw[Ct.EF h0 (by omega)];exact⟨_,v16,q17,rfl,(h.fr (.c r1 (.c r1 .n))).drop.drop,k.less (by omega)⟩
   ·have hg19:=mD hd13
    refine go h λw h=>?_
    refine qc h (λhd20 w h=>?_) λhd20 w h=>?_
    ·have hg21:=eq_of_beq hd20
     refine go h λw h=>?_
     refine dE (OJ _ _ _ c _ h.to (k.less (by omega)) hx hF hm (Ct.vW h0 (by omega))) λy22 v23 q24 w h k=>?_
     obtain⟨z25,rfl⟩:=Ct.mB q24
     have lq24:=Ct.nY q24
     refine go h λw h=>?_
     refine rr (bP rfl rfl (h.b a2) Row.h) ?_
     rw[Ct.ER h0 (by omega)];exact⟨_,v23,q24,rfl,(h.fr (.c r1 (.c r1 .n))).drop.drop,k.less (by omega)⟩
    ·have hg26:=mD hd20
     refine go h λw h=>?_
     refine qc h (λhd27 w h=>?_) λhd27 w h=>?_
     ·have hg28:=eq_of_beq hd27
      refine go h λw h=>?_
      refine dE (Bw _ _ _ c _ _ h.to (k.less (by omega)) hx) λy29 v30 q31 w h k=>?_
      obtain⟨z32,rfl⟩:=Ct.mB q31
      have lq31:=Ct.nY q31
      refine go h λw h=>?_
      refine rr (bP rfl rfl (h.b a2) Row.h) ?_
      rw[show ((c.kind:Int)==11)=false from beq_eq_false_iff_ne.2 (by omega)]at q31
      rw[Ct.Xo h0 (by omega)];exact⟨_,v30,q31,rfl,(h.fr (.c r1 (.c r1 .n))).drop.drop,k⟩
     ·have hg33:=mD hd27
      refine go h λw h=>?_
      refine qc h (λhd34 w h=>?_) λhd34 w h=>?_
      ·have hg35:=eq_of_beq hd34
       refine go h λw h=>?_
       refine dE (Bw _ _ _ c _ _ h.to (k.less (by omega)) hx) λy36 v37 q38 w h k=>?_
       obtain⟨z39,rfl⟩:=Ct.mB q38
       have lq38:=Ct.nY q38
       refine go h λw h=>?_
       refine rr (bP rfl rfl (h.b a2) Row.h) ?_
       rw[show ((c.kind:Int)==11)=true from beq_iff_eq.2 (by omega)]at q38
       rw[Ct.Vj h0 (by omega)];exact⟨_,v37,q38,rfl,(h.fr (.c r1 (.c r1 .n))).drop.drop,k⟩
      ·have hg40:=mD hd34
       refine go h λw h=>?_
       refine go h λw h=>?_
       refine dE (ID _ _ _ c _ h.to (k.less (by omega)) hx) λy41 v42 q43 w h k=>?_
       obtain⟨z44,rfl⟩:=Ct.mB q43
       have lq43:=Ct.nY q43
       refine go h λw h=>?_
       refine rr (bP rfl rfl (h.b a2) Row.h) ?_
       rw[Ct.Uk h0 (by omega)];exact⟨_,v42,q43,rfl,(h.fr (.c r1 (.c r1 .n))).drop.drop,k.less (by omega)⟩
section
attribute [local semireducible] gB wpS Go.E.X XS C jU kP fin Y U F Ca jT bl rb aU bV ex ce pu sK gK bK zK gM fO dH
attribute [local irreducible] gB wpS
variable{B w:World}{L:List As}
theorem Kn(xb mb:Nat)(x:Ct.X)(F free:Nat)(h:SH B w (XA xb mb x::L))(k:Ct.Ok 60 (Ct.cD free x))(hfr:free<=10)(hx:(Ct.cD free x).left<F)(hF:F<=100000000000)(hm:x.e.call.aI<18446744073709551616)(hky:x.e.call.key.size<=9223372036854775807)(hk7:7<=x.e.call.kind)(hk12:x.e.call.kind<=12):
  Calls prog 47 #[↑xb,↑(free:Int)] w λe w'=>e=.returned (.tuple #[])/\SH B w' (XA xb mb (Ct.bX (Ct.bY x.e.call F) free x)::L)/\Ct.Ok 50 (Ct.bX (Ct.bY x.e.call F) free x):=by
 refine Ea (args:=[_,_]) func47 rfl ntmps47 rfl ?_
 refine sq<|?_
 obtain⟨⟨pg,cg,pm,cm,pq,cq,pi,ci⟩,h⟩:=h.xo
 have h:SH B w (bl xb (vT mb x.e ⟨pg,cg,pm,cm,pq,cq,pi,ci⟩) 109::aU 43 1 (.slice pg x.e.eG.length cg) x.e.eG.length (x.e.eG.map (Value.int .i64))::aU 43 1 (.slice pm x.e.made.length cm) x.e.made.length (x.e.made.map (Value.int .i64))::aU 33 1 (.slice pq x.e.cells.length cq) x.e.cells.length (x.e.cells.map (Value.int .i64))::aU 3 1 (.slice pi x.e.dG.length ci) x.e.dG.length (x.e.dG.map (Value.int .i64))::cR mb x.s::L):=h
 refine rg<|st (mv rfl)<|st (mv rfl)<|st (mv rfl)<|st (mv rfl)<|st (mv rfl)<|st (mv rfl)<|st (mv rfl)<|st (nc rfl rfl)<|st (fa LK rfl)<|sf (so h rfl rfl rfl Bf rfl (.s (.s (.s (.s (.s (.s (.s (.s (.s (.s (.s (.s (.s (.s (.s (.s (.s (.s (.s (.s (.s (.s (.s (.s (.s (.s (.s (.s (.s (.s (.r .d))))))))))))))))))))))))))))))) u0)<|?_
 rintro _ w h
 refine st (nc rfl rfl)<|st (fa sI rfl)<|sf (so h rfl rfl rfl Bf rfl (.s (.s (.s (.s (.s (.s (.s (.s (.s (.s (.s (.s (.s (.s (.s (.s (.s (.s (.s (.s (.s (.s (.s (.s (.s (.s (.s (.s (.s (.s (.s (.r .d)))))))))))))))))))))))))))))))) u0)<|?_
 rintro _ w h
 refine st (nc rfl rfl)<|st (fa xO rfl)<|sf (so h rfl rfl rfl Bf rfl (.s (.s (.s (.s (.s (.s (.s (.s (.s (.s (.s (.s (.s (.s (.s (.s (.s (.s (.s (.s (.s (.s (.s (.s (.s (.s (.s (.s (.s (.s (.s (.s (.r .d))))))))))))))))))))))))))))))))) u0)<|?_
 rintro _ w h
 refine st (nc rfl rfl)<|st (fa xP rfl)<|sf (so h rfl rfl rfl Bf rfl (.s (.s (.s (.s (.s (.s (.s (.s (.s (.s (.s (.s (.s (.s (.s (.s (.s (.s (.s (.s (.s (.s (.s (.s (.s (.s (.s (.s (.s (.s (.s (.s (.s (.r .d)))))))))))))))))))))))))))))))))) u0)<|?_
 rintro _ w h
 refine st (nc rfl rfl)<|st (fa DT rfl)<|sf (so h rfl rfl rfl Bf rfl (.s (.s (.s (.s (.s (.s (.s (.s (.s (.s (.s (.s (.s (.s (.s (.s (.s (.s (.s (.s (.s (.s (.s (.s (.s (.s (.s (.s (.s (.s (.s (.s (.s (.s (.r .d))))))))))))))))))))))))))))))))))) u0)<|?_
 rintro _ w h
 refine st (nc rfl rfl)<|st (fa nL rfl)<|sf (so h rfl rfl rfl AU rfl (.s (.s (.s (.s (.s (.s (.s (.s (.s (.s (.s (.s (.s (.s (.s (.s (.s (.s (.s (.s (.s (.s (.s (.s (.s (.s (.s (.s (.s (.s (.s (.s (.s (.s (.s (.r .d)))))))))))))))))))))))))))))))))))) u0)<|?_
 rintro _ w h
 refine xe<|nx<|sq<|?_
 have h:=h.fr (.c r0 (.c r0 (.c r0 (.c r0 (.c r0 (.c r0 .n))))))
 have h:SH B w (XA xb mb (Ct.cD free x)::L):=SH.xi ⟨pg,cg,pm,cm,pq,cq,pi,ci⟩ h
 refine rg<|st (mv rfl)<|cl (ca eF rfl) ((TJ xb mb (Ct.cD free x) x.e.call F (h.fr (.c r0 .n)) k hx hF hm hky hk7 hk12).mono ?_)
 rintro _ w ⟨y1,v2,q3,rfl,h,k⟩
 refine⟨_,rfl,?_⟩
 refine sf (al h i6)<|?_
 rintro _ w ⟨b4,rfl,h⟩
 refine sf (so h rfl rfl rfl Ak rfl (.r (.r (.r (.r (.r (.r (.r (.r .d)))))))) u0)<|?_
 rintro _ w h
 refine xe<|nx<|sq<|rg<|st (mv rfl)<|st (nc rfl rfl)<|st (fa nL rfl)<|st (ld (v:=.bool y1.e.aC) xN rfl (h.xc a1 λ_=>rfl))<|st (nt rfl)<|xe<|nx<|?_
 rcases bI (!y1.e.aC)with hd5|hd5
 ·have hd6:y1.e.aC=false:=by simpa using hd5
  refine ct rfl hd5<|?_
  have h:=h.fr (.c r1 .n)
  obtain⟨⟨pg,cg,pm,cm,pq,cq,pi,ci⟩,h⟩:=h.xo
  have h:SH B w (bl xb (vT mb y1.e ⟨pg,cg,pm,cm,pq,cq,pi,ci⟩) 109::aU 43 1 (.slice pg y1.e.eG.length cg) y1.e.eG.length (y1.e.eG.map (Value.int .i64))::aU 43 1 (.slice pm y1.e.made.length cm) y1.e.made.length (y1.e.made.map (Value.int .i64))::aU 33 1 (.slice pq y1.e.cells.length cq) y1.e.cells.length (y1.e.cells.map (Value.int .i64))::aU 3 1 (.slice pi y1.e.dG.length ci) y1.e.dG.length (y1.e.dG.map (Value.int .i64))::cR mb y1.s::bl b4 (xC v2) 45::L):=h
  refine dZ [1,3,5,7,9,10,13,15,16] (by kernel_rfl) h (.c r6 .n) λw h=>tk (λW H=>mv rfl)<|tk (λW H=>mv rfl)<|tk (λW H=>gJ rfl (dK (H.b a0)) XP)<|tk (λW H=>nc rfl rfl)<|tk (λW H=>fa HG rfl)<|ff (so h rfl rfl rfl AU rfl (.s (.s (.s (.s (.s (.s (.s (.s (.s (.s (.s (.s (.s (.s (.s (.s (.s (.s (.s (.s (.s (.s (.s (.s (.s (.s (.s (.s (.s (.s (.s (.s (.s (.s (.s (.s (.s (.s (.s (.s (.r .d))))))))))))))))))))))))))))))))))))))))) u0)<|?_
  rintro _ w h
  refine⟨h.hs (.c r6 .n),?_⟩
  refine tk (λW H=>nc rfl rfl)<|tk (λW H=>fa HN rfl)<|ff (so h rfl rfl rfl Ak rfl (.s (.s (.s (.s (.s (.s (.s (.s (.s (.s (.s (.s (.s (.s (.s (.s (.s (.s (.s (.s (.s (.s (.s (.s (.s (.s (.s (.s (.s (.s (.s (.s (.s (.s (.s (.s (.s (.s (.s (.s (.s (.r (.r (.r (.r (.r (.r (.r (.r .d))))))))))))))))))))))))))))))))))))))))))))))))) u0)<|?_
  rintro _ w h
  refine⟨h.hs (.c r6 .n),?_⟩
  refine xz<|?_
  refine rn (rK results47)<|?_
  rw[Ct.SJ (x:=x) (free:=free) q3 hd6];exact⟨rfl,SH.xi ⟨pg,cg,pm,cm,pq,cq,pi,ci⟩ ((h.fr (.c r6 .n)).drop),k.ended true _⟩
 ·have hd7:y1.e.aC=true:=by simpa using hd5
  refine cf rfl hd5<|sk<|?_
  refine rn (rK results47)<|?_
  rw[Ct.TQ (x:=x) (free:=free) q3 hd7];exact⟨rfl,h.drop,k⟩
end
variable{B w:World}{L:List As}
theorem Pq(xb mb:Nat)(x:Ct.X)(F:Nat)(h:SH B w (XA xb mb x::L))(hd:x.e.done=false)(k:Ct.Ok 60 (Ct.cD 1 x))(hx:(Ct.cD 1 x).left<F)(hF:F<=100000000000)(hm:x.e.call.aI<18446744073709551616)(hky:x.e.call.key.size<=9223372036854775807)(hk7:7<=x.e.call.kind)(hk12:x.e.call.kind<=12):
  Calls prog 33 #[↑xb] w λe w'=>e=.returned (.tuple #[])/\SH B w' (XA xb mb (Ct.bX (Ct.bY x.e.call F) 1 x)::L)/\Ct.Ok 50 (Ct.bX (Ct.bY x.e.call F) 1 x):=by
 refine bZ func33 ntmps33 h λw h=>?_
 refine st (ld (v:=.bool x.e.done) One.h rfl (h.xc a0 λ_=>rfl))<|go h λw h=>?_
 refine SS (Kn _ _ _ _ _ h.to k (by decide) hx hF hm hky hk7 hk12) λw h k=>?_
 refine rn (rK results33)<|go h λw h=>?_
 refine⟨rfl,h,k⟩
theorem XW(xb mb:Nat)(x:Ct.X)(h:SH B w (XA xb mb x::L))(hd:x.e.done=true):
  Calls prog 33 #[↑xb] w λe w'=>e=.returned (.tuple #[])/\SH B w' (XA xb mb x::L):=by
 refine bZ func33 ntmps33 h λw h=>?_
 refine st (ld (v:=.bool x.e.done) One.h rfl (h.xc a0 λ_=>rfl))<|go h λw h=>?_
 refine rn (rK results33)<|go h λw h=>?_
 refine⟨rfl,h⟩
theorem vH(xb mb:Nat)(x:Ct.X)(h:SH B w (XA xb mb x::L)):
  Calls prog 21 #[↑xb] w λe w'=>e=.returned ↑x.e.done/\SH B w' (XA xb mb x::L):=by
 refine bZ func21 ntmps21 h λw h=>?_
 refine st (ld (v:=.bool x.e.done) One.h rfl (h.xc a0 λ_=>rfl))<|go h λw h=>?_
 exact rz ⟨rfl,h⟩
theorem Kf(xb mb:Nat)(x:Ct.X)(h:SH B w (XA xb mb x::L)):
  Calls prog 23 #[↑xb] w λe w'=>e=.returned (.agg (xC x.e.result).toArray)/\SH B w' (XA xb mb x::L):=by
 refine bZ func23 ntmps23 h λw h=>?_
 refine jA h λb1 w h=>?_
 refine st (gJ (cs:=[↑x.e.result.err,↑x.e.result.found,.int .u64 (x.e.result.value:Int),↑x.e.result.key,↑x.e.result.count,↑x.e.result.ref,↑x.e.result.aE.root,↑x.e.result.aE.readOnly]) rfl (h.xr 41 a1 λ_=>rfl) Row.h)<|go h λw h=>?_
 exact rr (bP rfl rfl (h.b a0) Row.h)<|⟨rfl,h.drop⟩
end Go.Q9
end
section
namespace Go.Q9
open Go.Proofs.Tryz
open Go.RowKit Go.E
attribute [local irreducible] gB wpS Go.E.X XS C jU kP fin Y U F Ca jT bl rb aU bV ex ce pu sK gK bK zK gM fO dH
def Mod(v m:Int):Int:=v%18446744073709551616%m
theorem AK(v m:Int)(h:0<m):0<=Mod v m/\Mod v m<m:=⟨Int.emod_nonneg _ (by omega),Int.emod_lt_of_pos _ h⟩
theorem l7(v:Int):IntKind.u64.wrap v=v%18446744073709551616:=by rw[IntKind.wrap_u64]
theorem i0{m:Int}(h0:0<m)(h1:m<=9223372036854775807):IntKind.u64.wrap m=m:=by rw[IntKind.wrap_u64];omega
theorem B3(v m:Int)(h0:0<m):(v%18446744073709551616).tmod m=Mod v m:=by
 unfold Mod;rw[Int.tmod_eq_emod_of_nonneg (by omega)]
def Oe(b:Nat)(l:List Int)(i:Nat):As:=ex λpc:Option Addr×Nat=>se [bl b [.slice pc.1 l.length pc.2,↑(i:Int)] 116,bV 1 (.slice pc.1 l.length pc.2) l.length (l.map (Value.int .i64))]
def Nv(l:List Int)(i:Nat)(n:Int):Int:=if i<l.length then Mod (l.getD i 0) n else 0
def OM(l:List Int)(i:Nat):Nat:=if i<l.length then i+1 else i
theorem OZ(l:List Int)(i:Nat){n:Int}(h:0<n):0<=Nv l i n/\Nv l i n<n:=by
 unfold Nv;split
 ·exact AK _ _ h
 ·omega
section
attribute [local semireducible] gB wpS Go.E.X XS C jU kP fin Y U F Ca jT bl rb aU bV ex ce pu sK gK bK zK gM fO dH
attribute [local irreducible] gB wpS
theorem SL{w:World}(v m:Int)(h0:0<m)(h1:m<=9223372036854775807):
  Calls prog 55 #[↑v,↑m] w λe w'=>e=.returned (.int .i64 (Mod v m))/\w'=w:=by
 refine Ea (args:=[_,_]) func55 rfl ntmps55 rfl ?_
 refine sq<|rg<|st (sg rfl)<|xe<|nx<|sq<|rg<|st (mv rfl)<|st (QM Lw Au rfl (l7 v))<|st (mv rfl)<|st (QM Lw Au rfl (i0 h0 h1))<|st (I8 rfl rfl (by omega) (B3 v m h0))<|st (QM Au Lw rfl (B6 (by have:=AK v m h0;omega) (by have:=AK v m h0;omega)))<|st (sg rfl)<|xe<|nx<|rt<|?_
 refine rr (jP results55 rfl)<|⟨rfl,rfl⟩
end
variable{B w:World}{L:List As}
theorem OO(b:Nat)(l:List Int)(i:Nat)(n:Int)(h:SH B w (Oe b l i::L))(h0:0<n)(h1:n<=9223372036854775807):
  Calls prog 30 #[↑b,↑n] w λe w'=>e=.returned (.int .i64 (Nv l i n))/\SH B w' (Oe b l (OM l i)::L):=by
 obtain⟨⟨p,c⟩,h⟩:=h.ex
 have h:=h.se
 have hlm:=(h.rl a1).2
 unfold maxLen at hlm
 refine bZ func30 ntmps30 h λw h=>?_
 refine dZ [1,3,5,7,9,11,13,15,17,19] (by kernel_rfl) h (.c r0 .n) λw h=>go h λw h=>?_
 refine qc h (λhd1 w h=>?_) λhd1 w h=>?_
 have hg2:=dA hd1
 refine go h λw h=>?_
 exact rz ⟨by rw[Nv,if_neg (by omega)],by rw[OM,if_neg (by omega)];exact SH.dU (_,_) (SH.is (l:=[_,_]) (h))⟩
 have hg3:=dP hd1
 refine go h λw h=>?_
 obtain⟨b4,o5,rfl⟩:=h.fq a1 (by omega)
 refine dZ [1,3,5,7,9,11,13,15,17,19,21,23,24,26] (by kernel_rfl) h (.c r0 (.c r0 .n)) λw h=>go h λw h=>?_
 refine tk (λW H=>bs (i:Int))<|go h λw h=>?_
 refine sW h (SL _ _ h0 h1) λw h=>?_
 exact rz ⟨by rw[Nv,if_pos (by omega)],by rw[OM,if_pos (by omega)];exact SH.dU (_,_) (SH.is (l:=[_,_]) (h))⟩
theorem NV(b:Nat)(l:List Int)(i:Nat)(h:SH B w (Oe b l i::L)):
  Calls prog 29 #[↑b] w λe w'=>e=.returned (.bool (decide ((i:Int)<l.length)))/\SH B w' (Oe b l i::L):=by
 obtain⟨⟨p,c⟩,h⟩:=h.ex
 have h:=h.se
 have hlm:=(h.rl a1).2
 unfold maxLen at hlm
 refine bZ func29 ntmps29 h λw h=>?_
 refine dZ [1,3,5,7,9,11,13,15,17,19,20] (by kernel_rfl) h (.c r0 .n) λw h=>go h λw h=>?_
 exact rz ⟨rfl,SH.dU (_,_) (SH.is (l:=[_,_]) (h))⟩
theorem SD(l:List Int)(p:Option Addr)(c:Nat)(h:SH B w (bV 1 (.slice p l.length c) l.length (l.map (Value.int .i64))::L)):
  Calls prog 25 #[.slice p l.length c] w λe w'=>∃b,e=.returned (.pointer (some ⟨b,0,none⟩))/\SH B w' (Oe b l 0::L):=by
 refine bZ func25 ntmps25 h λw h=>?_
 refine jX h λb1 w h=>?_
 exact rz ⟨_,rfl,SH.dU (p,c) (SH.is (l:=[_,_]) (h))⟩
end Go.Q9
end
section
namespace Go.Q9
open Go.Proofs.Tryz
open Go.RowKit Go.E
attribute [local irreducible] gB wpS Go.E.X XS C jU kP fin Y U F Ca jT bl rb aU bV ex ce pu sK gK bK zK gM fO dH
def gQ(b:Nat)(l:List Int):As:=ex λi:Nat=>Oe b l i
variable{B w:World}{L:List As}
theorem fB(b:Nat)(l:List Int)(n:Int)(h:SH B w (gQ b l::L))(h0:0<n)(h1:n<=9223372036854775807):
  Calls prog 30 #[↑b,↑n] w λe w'=>∃j:Nat,(j:Int)<n/\e=.returned ↑(j:Int)/\SH B w' (gQ b l::L):=by
 obtain⟨i,h⟩:=SH.ex h
 refine(OO b l i n h h0 h1).mono ?_
 rintro _ w ⟨rfl,h⟩
 have nx:=OZ l i h0
 obtain⟨j,hj⟩:=xY nx.1
 exact⟨j,by omega,by rw[hj],SH.dU _ h⟩
theorem LV(b:Nat)(l:List Int)(h:SH B w (gQ b l::L)):
  Calls prog 29 #[↑b] w λe w'=>∃r:Bool,e=.returned ↑r/\SH B w' (gQ b l::L):=by
 obtain⟨i,h⟩:=SH.ex h
 refine(NV b l i h).mono ?_
 rintro _ w ⟨rfl,h⟩
 exact⟨_,rfl,SH.dU _ h⟩
theorem NS(l:List Int)(p:Option Addr)(c:Nat)(h:SH B w (bV 1 (.slice p l.length c) l.length (l.map (Value.int .i64))::L)):
  Calls prog 25 #[.slice p l.length c] w λe w'=>∃b,e=.returned (.pointer (some ⟨b,0,none⟩))/\SH B w' (gQ b l::L):=by
 refine(SD l p c h).mono ?_
 rintro _ w ⟨b,rfl,h⟩
 exact⟨b,rfl,SH.dU _ h⟩
structure Ks where
 k:ByteArray:=.empty
structure Ms where
 m:Nat:=0
def G6(s:Ks):List Value:=[↑s.k]
def G3(s:Ms):List Value:=[.int .u64 (s.m:Int)]
theorem RS(s:Ks):(G6 s).length=1:=rfl
theorem QY(s:Ms):(G3 s).length=1:=rfl
def j7:List Ks:=[{k:=⟨#[97]⟩},{k:=⟨#[98]⟩},{k:=⟨#[99]⟩},{k:=⟨#[100]⟩},{k:=⟨#[97,98]⟩},{k:=.empty},{k:=⟨#[98,48]⟩},{k:=⟨#[107,101,121]⟩}]
def VT:List Ms:=[{m:=18446744073709551615},{m:=0},{m:=1},{m:=64},{m:=63},{m:=4095},{m:=9223372036854775808},{m:=4032},{m:=3458764513820540928},{m:=18446744073709551615}]
theorem Jt{α:Type}{p:α->Prop}{d:α}(hd:p d):∀{l:List α},(∀x,x∈l->p x)->∀j,p (l.getD j d)
 |[],_,_=>hd
 |x::l,h,0=>h x (.head _)
 |x::l,h,j+1=>Jt hd (λy hy=>h y (.tail _ hy)) j
theorem OK(j:Nat):(j7.getD j {}).k.size<=8:=Jt (p:=λs:Ks=>s.k.size<=8) (by decide) (by decide) j
theorem RB(j:Nat):(VT.getD j {}).m<18446744073709551616:=Jt (p:=λs:Ms=>s.m<18446744073709551616) (by decide) (by decide) j
theorem VQ(b:Nat)(l:List Int)(h:SH B w (gQ b l::L)):
  Calls prog 56 #[↑b] w λe w'=>∃k:ByteArray,k.size<=8/\e=.returned (.string k)/\SH B w' (gQ b l::L):=by
 refine bZ func56 ntmps56 h λw h=>?_
 refine sf (bu [.string (⟨#[97]⟩),.string (⟨#[98]⟩),.string (⟨#[99]⟩),.string (⟨#[100]⟩),.string (⟨#[97,98]⟩),.string .empty,.string (⟨#[98,48]⟩),.string (⟨#[107,101,121]⟩)] h fR.h Ss.h rfl (by kernel_rfl) rfl (by decide) (by decide)) ?_
 rintro _ w ⟨b1,rfl,h⟩
 refine go h λw h=>?_
 have h:SH B w (aU 9 1 (.slice (some ⟨b1,0,none⟩) 8 8) 8 (j7.flatMap G6)::gQ b l::L):=h
 refine Pv (fB _ _ _ h.to (by omega) (by omega)) λj2 hj3 w h=>?_
 refine st (ld One.h rfl ((h.ro a1).x RS (by decide) (by show _<8;omega) {} 0 _ rfl))<|go h λw h=>?_
 exact rz ⟨_,OK _,rfl,h.to⟩
theorem WS(b:Nat)(l:List Int)(h:SH B w (gQ b l::L)):
  Calls prog 27 #[↑b] w λe w'=>∃m:Nat,m<18446744073709551616/\e=.returned (.int .u64 (m:Int))/\SH B w' (gQ b l::L):=by
 refine bZ func27 ntmps27 h λw h=>?_
 refine sf (bu [.int .u64 18446744073709551615,.int .u64 0,.int .u64 1,.int .u64 64,.int .u64 63,.int .u64 4095,.int .u64 9223372036854775808,.int .u64 4032,.int .u64 3458764513820540928,.int .u64 18446744073709551615] h fR.h Ss.h rfl (by kernel_rfl) rfl (by decide) (by decide)) ?_
 rintro _ w ⟨b1,rfl,h⟩
 refine go h λw h=>?_
 have h:SH B w (aU 28 1 (.slice (some ⟨b1,0,none⟩) 10 10) 10 (VT.flatMap G3)::gQ b l::L):=h
 refine Pv (fB _ _ _ h.to (by omega) (by omega)) λj2 hj3 w h=>?_
 refine st (ld One.h rfl ((h.ro a1).x QY (by decide) (by show _<10;omega) {} 0 _ rfl))<|go h λw h=>?_
 exact rz ⟨_,RB _,rfl,h.to⟩
end Go.Q9
end
