/- Parts of a proof: Q5. -/
import Derived.Test.YtnhdmcipglnkfaaGreatW39
set_option linter.unusedVariables false
set_option linter.unusedSimpArgs false
set_option maxRecDepth 100000
set_option maxHeartbeats 4000000
section
namespace Go.Q9
open Go.Proofs.Tryz
open Go.RowKit Go.E Go.Ct
attribute [local irreducible] gB wpS Go.E.X XS C jU kP fin Y U F Ca jT bl rb aU bV ex ce pu sK gK bK zK
variable{B w:World}{L:List As}
theorem Aq(xb mb:Nat)(x:Ct.X)(c:Ct.Call)(i m:Int)(ha:Nat)(lv:Int)(h:SH B w (XA xb mb (Ct.X.of c x)::L))(k:Ct.Ok 60 (Ct.X.of c x))(hh:ha<18446744073709551616):
  Calls prog 194 #[↑xb,↑i,↑m,.int .u64 (ha:Int),↑lv] w λe w'=>∃y v,Ct.aX (Ct.kT c i m ha lv) (Ct.X.of c x)=Ct.out y v/\e=.returned (.tuple #[.agg (xC v.1).toArray,.int .i64 v.2])/\SH B w' (XA xb mb y::L)/\Ct.Ok 60 y:=by
 have hlen:=k.len
 refine bZ func194 ntmps194 h λw h=>?_
 refine jA h λb1 w h=>?_
 refine XL (F:=[XA xb mb (Ct.X.of c x)]) [1,3,7,9,11,13,15] 2 8 [16,18,20] [4,18,20] (by kernel_rfl) h (λw h=>(hC (h.at_ a1) hN)) λw h=>go h λw h=>?_
 refine tk (λW H=>ld (v:=.string c.key) One.h rfl (H.xc a0 λ_=>rfl))<|go h λw h=>?_
 refine YJ ?_ ?_
 refine lH (aN _ _ _ _ h.to k.dR) λp2 w h=>?_
 have f3:=k.lN m
 have bf3:=k.len
 refine go h λw h=>?_
 refine jB h λb4 w h=>?_
 refine qc h (λhd5 w h=>?_) λhd5 w h=>?_
 have hg6:=eq_of_beq hd5
 refine go h λw h=>?_
 have h:=h.fr (.c r1 .n)
 have h:=SH.se (l:=[aY ((Ct.X.of c x).node m) p2,cH ((Ct.X.of c x).node m) p2]) h
 have hpv:=(Ct.fJ (((Ct.Node.Fit.nf f3 (by omega))).v6 (eq_of_beq hd5))).kG (eq_of_beq hd5)
 have hpl:=((Ct.Node.Fit.nf f3 (by omega))).pr
 refine go h λw h=>?_
 refine bA (oY _ _ _ _ h.to hpv (by omega)) λw h=>?_
 have h:=SH.is (l:=[aY ((Ct.X.of c x).node m) p2,cH ((Ct.X.of c x).node m) p2]) (h.fr (.c r1 (.c r0 .n)))
 refine go h λw h=>?_
 refine qg h (λhd7 w h=>?_) λhd7 w h=>?_
 have hd8:(Ct.bB ((Ct.X.of c x).node m).aF c.key).2=false:=by simpa using hd7
 refine go h λw h=>?_
 refine bA (dJ _ _ h.to) λw h=>?_
 exact rr (cL rfl rfl (h.b a3) Row.h rfl)<|⟨_,(Ct.cC (Ct.bB ((Ct.X.of c x).node m).aF c.key).2 (Ct.bB ((Ct.X.of c x).node m).aF c.key).1,1),Ct.rN<|Ct.rT hd5<|Ct.Zo hd8<|Ct.rR,rfl,h.to,k⟩
 have hd9:(Ct.bB ((Ct.X.of c x).node m).aF c.key).2=true:=by simpa using hd7
 refine go h λw h=>?_
 refine st (ld (v:=.bool c.only) One.h rfl (h.xc a2 λ_=>rfl))<|go h λw h=>?_
 refine qg h (λhd10 w h=>?_) λhd10 w h=>?_
 refine st (ld (v:=.int .u64 (c.expect:Int)) One.h rfl (h.xc a2 λ_=>rfl))<|go h λw h=>?_
 refine qc h (λhd11 w h=>?_) λhd11 w h=>?_
 have hg12:=bne_iff_ne.1 hd11
 refine go h λw h=>?_
 refine bA (dJ _ _ h.to) λw h=>?_
 exact rr (cL rfl rfl (h.b a3) Row.h rfl)<|⟨_,(Ct.cC (Ct.bB ((Ct.X.of c x).node m).aF c.key).2 (Ct.bB ((Ct.X.of c x).node m).aF c.key).1,1),Ct.rN<|Ct.rT hd5<|Ct.wF hd9<|Ct.rT (by rw[hd10,<- Ct.vE];exact hd11)<|Ct.rR,rfl,h.to,k⟩
 have hg13:=eS hd11
 refine go h λw h=>?_
 refine cG (qL _ _ _ _ _ _ h.to (Ct.Node.Fit.nf f3 (by omega)) (Ct.vZ hd5 (((Ct.Node.Fit.nf f3 (by omega))).v6 (eq_of_beq hd5)))) λq14 w h=>?_
 refine jA h λb15 w h=>?_
 refine QS (F:=[ce xb 2 (.int .i64 c.aE.root),ce xb 3 (.bool c.aE.readOnly),bl b15 (aL (Ct.gC ((Ct.X.of c x).node m) c.key).1 q14) 53]) [1,3,5,7,9,11,13,15,17,19,21,23,29,24,26,30,33,35,36,38] (by kernel_rfl) h (λw h=>(hC (h.eJ a4 λ_=>rfl) (hC (h.eJ a4 λ_=>rfl) (hC (h.at_ a0) hN)))) λw h=>go h λw h=>?_
 refine tk (λW H=>gJ (cs:=cU c.aE) rfl (lF (H.ce a0) (H.ce a1)) Row.h)<|go h λw h=>?_
 refine cs (ca eF rfl) ((dS (j:=59) xb mb (Ct.X.of c x) (Ct.gC ((Ct.X.of c x).node m) c.key).1 q14 m ((SH.Gs (h.fr (.c r1 (.c r3 .n))) .z).fr (.c r0 (.c r1 .n))) (k.less (by omega)) ((Ct.pH f3 c.key).mono (by omega))).mono ?_)
 rintro _ w ⟨y16,v17,q18,rfl,h,k,hly16⟩
 obtain⟨z19,rfl⟩:=Ct.Lg q18
 have lq18:=Ct.Gq q18
 refine⟨_,rfl,(hC (h.eJ a0 λ_=>rfl) (hC (h.eJ a0 λ_=>rfl) (hC (h.at_ a2) hN))),?_⟩
 refine go h λw h=>?_
 refine cs (ca eF rfl) ((gH xb mb (Ct.X.of c z19) c.aE i m v17 (h.fr (.c r0 .n)) (k.less (by omega))).mono ?_)
 rintro _ w ⟨y20,v21,q22,rfl,h,k⟩
 obtain⟨z23,rfl⟩:=Ct.mB q22
 have lq22:=Ct.nY q22
 refine⟨_,rfl,(hC (h.eJ a0 λ_=>rfl) (hC (h.eJ a0 λ_=>rfl) (hC (h.at_ a2) hN))),?_⟩
 refine go h λw h=>?_
 refine cs (ca eF rfl) ((eM _ v21 true (Ct.bB ((Ct.X.of c x).node m).aF c.key).1 (h.fr .n)).mono ?_)
 rintro _ w ⟨rfl,h⟩
 refine⟨_,rfl,(hC (h.eJ a0 λ_=>rfl) (hC (h.eJ a0 λ_=>rfl) (hC (h.at_ a2) hN))),?_⟩
 refine tk (λW H=>xr rfl rfl)<|tk (λW H=>xr rfl rfl)<|?_
 refine ff (so h rfl rfl rfl oG rfl (.r (.r (.r (.r (.r (.r (.r (.r .d)))))))) u5)<|?_
 rintro _ w h
 refine⟨(hC (h.eJ a0 λ_=>rfl) (hC (h.eJ a0 λ_=>rfl) (hC (h.at_ a2) hN))),?_⟩
 refine ef (sg rfl) ((hC (h.eJ a0 λ_=>rfl) (hC (h.eJ a0 λ_=>rfl) (hC (h.at_ a2) hN))))<|xz<|nx<|rt<|tr<|?_
 refine go h λw h=>?_
 exact rr (cL rfl rfl (h.b a5) Row.h rfl)<|⟨_,(Ct.dL true (Ct.bB ((Ct.X.of c x).node m).aF c.key).1,(bif v21 then 1 else 0)),Ct.rN<|Ct.rT hd5<|Ct.wF hd9<|Ct.rF (by rw[hd10,<- Ct.vE];exact hd11)<|Ct.rA q18<|Ct.rB q22<|Ct.rR,rfl,h.to,k⟩
 refine cG (qL _ _ _ _ _ _ h.to (Ct.Node.Fit.nf f3 (by omega)) (Ct.vZ hd5 (((Ct.Node.Fit.nf f3 (by omega))).v6 (eq_of_beq hd5)))) λq24 w h=>?_
 refine jA h λb25 w h=>?_
 refine QS (F:=[ce xb 2 (.int .i64 c.aE.root),ce xb 3 (.bool c.aE.readOnly),bl b25 (aL (Ct.gC ((Ct.X.of c x).node m) c.key).1 q24) 53]) [1,3,5,7,9,11,13,15,17,19,21,23,29,24,26,30,33,35,36,38] (by kernel_rfl) h (λw h=>(hC (h.eJ a4 λ_=>rfl) (hC (h.eJ a4 λ_=>rfl) (hC (h.at_ a0) hN)))) λw h=>go h λw h=>?_
 refine tk (λW H=>gJ (cs:=cU c.aE) rfl (lF (H.ce a0) (H.ce a1)) Row.h)<|go h λw h=>?_
 refine cs (ca eF rfl) ((dS (j:=59) xb mb (Ct.X.of c x) (Ct.gC ((Ct.X.of c x).node m) c.key).1 q24 m ((SH.Gs (h.fr (.c r1 (.c r3 .n))) .z).fr (.c r0 (.c r1 .n))) (k.less (by omega)) ((Ct.pH f3 c.key).mono (by omega))).mono ?_)
 rintro _ w ⟨y26,v27,q28,rfl,h,k,hly26⟩
 obtain⟨z29,rfl⟩:=Ct.Lg q28
 have lq28:=Ct.Gq q28
 refine⟨_,rfl,(hC (h.eJ a0 λ_=>rfl) (hC (h.eJ a0 λ_=>rfl) (hC (h.at_ a2) hN))),?_⟩
 refine go h λw h=>?_
 refine cs (ca eF rfl) ((gH xb mb (Ct.X.of c z29) c.aE i m v27 (h.fr (.c r0 .n)) (k.less (by omega))).mono ?_)
 rintro _ w ⟨y30,v31,q32,rfl,h,k⟩
 obtain⟨z33,rfl⟩:=Ct.mB q32
 have lq32:=Ct.nY q32
 refine⟨_,rfl,(hC (h.eJ a0 λ_=>rfl) (hC (h.eJ a0 λ_=>rfl) (hC (h.at_ a2) hN))),?_⟩
 refine go h λw h=>?_
 refine cs (ca eF rfl) ((eM _ v31 true (Ct.bB ((Ct.X.of c x).node m).aF c.key).1 (h.fr .n)).mono ?_)
 rintro _ w ⟨rfl,h⟩
 refine⟨_,rfl,(hC (h.eJ a0 λ_=>rfl) (hC (h.eJ a0 λ_=>rfl) (hC (h.at_ a2) hN))),?_⟩
 refine tk (λW H=>xr rfl rfl)<|tk (λW H=>xr rfl rfl)<|?_
 refine ff (so h rfl rfl rfl oG rfl (.r (.r (.r (.r (.r (.r (.r (.r .d)))))))) u5)<|?_
 rintro _ w h
 refine⟨(hC (h.eJ a0 λ_=>rfl) (hC (h.eJ a0 λ_=>rfl) (hC (h.at_ a2) hN))),?_⟩
 refine ef (sg rfl) ((hC (h.eJ a0 λ_=>rfl) (hC (h.eJ a0 λ_=>rfl) (hC (h.at_ a2) hN))))<|xz<|nx<|rt<|tr<|?_
 refine go h λw h=>?_
 exact rr (cL rfl rfl (h.b a5) Row.h rfl)<|⟨_,(Ct.dL true (Ct.bB ((Ct.X.of c x).node m).aF c.key).1,(bif v31 then 1 else 0)),Ct.rN<|Ct.rT hd5<|Ct.wF hd9<|Ct.rF (by rw[hd10];rfl)<|Ct.rA q28<|Ct.rB q32<|Ct.rR,rfl,h.to,k⟩
 have hg34:=dP hd5
 refine go h λw h=>?_
 refine cl (ca eF rfl) ((eH ha lv _ (by omega)).mono ?_)
 rintro _ _ ⟨rfl,rfl⟩
 refine⟨_,rfl,?_⟩
 refine st (sg rfl)<|xe<|nx<|sq<|rg<|st (gJ rfl (dK (h.b a0)) iR)<|st (mv rfl)<|?_
 refine go h λw h=>?_
 refine bA (fG _ _ _ _ _ _ h.to (Ct.Node.Fit.nf f3 (by omega))) λw h=>?_
 refine cG (aN _ _ _ _ h.to k.dR) λp35 w h=>?_
 have f36:=k.lN (Ct.aB ((Ct.X.of c x).node m) (Ct.slice ha lv)).1
 have bf36:=k.len
 refine go h λw h=>?_
 refine jA h λb37 w h=>?_
 refine qg h (λhd38 w h=>?_) λhd38 w h=>?_
 refine qc h (λhd39 w h=>?_) λhd39 w h=>?_
 have hg40:=eq_of_beq hd39
 refine go h λw h=>?_
 exact rr (cL rfl rfl (h.b a5) Row.h rfl)<|⟨_,({},2),Ct.rN<|Ct.rF hd5<|Ct.rN<|Ct.rT (by rw[hd38,hd39];rfl)<|Ct.rR,rfl,h.to,k⟩
 have hg41:=dP hd39
 refine go h λw h=>?_
 refine qc h (λhd42 w h=>?_) λhd42 w h=>?_
 refine bA (dJ _ _ h.to) λw h=>?_
 exact rr (cL rfl rfl (h.b a5) Row.h rfl)<|⟨_,(Ct.cC false 0,1),Ct.rN<|Ct.rF hd5<|Ct.rN<|Ct.rF (by rw[hd38,hd39];rfl)<|Ct.wF hd38<|Ct.rT hd42<|Ct.rR,rfl,h.to,k⟩
 rcases dA c.only with hd43|hd43<;>refine go h λw h=>?_
 refine dZ [1,3,5,7,9,11,13,15,17,19,21,23,25,27,29,30] (by kernel_rfl) h (.c r2 (.c r0 .n)) λw h=>go h λw h=>?_
 refine tk (λW H=>ld (v:=.bool c.only) One.h rfl (H.xc a0 λ_=>rfl))<|go h λw h=>?_
 refine tk (λW H=>ld (v:=.int .u64 (c.expect:Int)) One.h rfl (H.xc a0 λ_=>rfl))<|go h λw h=>?_
 refine qc h (λhd44 w h=>?_) λhd44 w h=>?_
 have hg45:=bne_iff_ne.1 hd44
 refine go h λw h=>?_
 refine bA (dJ _ _ h.to) λw h=>?_
 exact rr (cL rfl rfl (h.b a5) Row.h rfl)<|⟨_,(Ct.cC true ((Ct.X.of c x).node (Ct.aB ((Ct.X.of c x).node m) (Ct.slice ha lv)).1).value,1),Ct.rN<|Ct.rF hd5<|Ct.rN<|Ct.rF (by rw[hd38,hd39];rfl)<|Ct.wF hd38<|Ct.rF hd42<|Ct.rT (by rw[hd43,<- Ct.vE];exact hd44)<|Ct.rR,rfl,h.to,k⟩
 have hg46:=eS hd44
 refine go h λw h=>?_
 refine cG (oL _ _ _ h.to (Ct.Node.Fit.nf f3 (by omega))) λq47 w h=>?_
 refine jA h λb48 w h=>?_
 refine bA (rJ _ _ _ _ _ h.to (Ct.Node.Fit.nf (Ct.eW f3 (Ct.slice ha lv)) (by omega))) λw h=>?_
 refine QS (F:=[ce xb 2 (.int .i64 c.aE.root),ce xb 3 (.bool c.aE.readOnly),bl b48 (aL (Ct.bL ((Ct.X.of c x).node m) (Ct.slice ha lv)).1 q47) 53,bl b37 (aL ((Ct.X.of c x).node (Ct.aB ((Ct.X.of c x).node m) (Ct.slice ha lv)).1) p35) 53]) [1,3,5,7,9,11,13,15,17,19,21,23,25,27,33,39,41,28,30,34,36,42,45,47,48,50] (by kernel_rfl) h (λw h=>(hC (h.eJ a5 λ_=>rfl) (hC (h.eJ a5 λ_=>rfl) (hC (h.at_ a1) (hC (h.at_ a3) hN))))) λw h=>go h λw h=>?_
 refine tk (λW H=>gJ (cs:=cU c.aE) rfl (lF (H.ce a0) (H.ce a1)) Row.h)<|go h λw h=>?_
 refine cs (ca eF rfl) ((aN xb mb (Ct.X.of c x) (Ct.fF (Ct.bL ((Ct.X.of c x).node m) (Ct.slice ha lv)).1).1 (h.fr (.c r5 .n)) k.dR).mono ?_)
 rintro _ w ⟨p49,rfl,h⟩
 have f50:=k.lN (Ct.fF (Ct.bL ((Ct.X.of c x).node m) (Ct.slice ha lv)).1).1
 have bf50:=k.len
 refine⟨_,rfl,(hC (h.eJ a1 λ_=>rfl) (hC (h.eJ a1 λ_=>rfl) (hC (h.at_ a3) (hC (h.at_ a5) hN)))),?_⟩
 refine go h λw h=>?_
 refine cs (ca eF rfl) ((jC (Ct.bL ((Ct.X.of c x).node m) (Ct.slice ha lv)).1 q47 lv ((Ct.X.of c x).node (Ct.fF (Ct.bL ((Ct.X.of c x).node m) (Ct.slice ha lv)).1).1) p49 (h.fr (.c r2 (.c r0 .n))) (Ct.Node.Fit.nf (Ct.eW f3 (Ct.slice ha lv)) (by omega))).mono ?_)
 rintro _ w ⟨q51,rfl,h⟩
 refine⟨_,rfl,(hC (h.eJ a3 λ_=>rfl) (hC (h.eJ a3 λ_=>rfl) (hC (h.at_ a4) (hC (h.at_ a6) hN)))),?_⟩
 refine go h λw h=>?_
 refine cs (ca eF rfl) ((dS (j:=59) xb mb (Ct.X.of c x) (Ct.bQ (Ct.bL ((Ct.X.of c x).node m) (Ct.slice ha lv)).1 lv ((Ct.X.of c x).node (Ct.fF (Ct.bL ((Ct.X.of c x).node m) (Ct.slice ha lv)).1).1)) q51 m ((SH.Gs (h.fr (.c r0 (.c r2 .n))) .z).fr (.c r0 (.c r1 .n))) (k.less (by omega)) (Ct.fA ((Ct.eW f3 (Ct.slice ha lv)).mono (by omega)) (f50.mono (by omega)) lv)).mono ?_)
 rintro _ w ⟨y52,v53,q54,rfl,h,k,hly52⟩
 obtain⟨z55,rfl⟩:=Ct.Lg q54
 have lq54:=Ct.Gq q54
 refine⟨_,rfl,(hC (h.eJ a0 λ_=>rfl) (hC (h.eJ a0 λ_=>rfl) (hC (h.at_ a4) (hC (h.at_ a6) hN)))),?_⟩
 refine go h λw h=>?_
 refine cs (ca eF rfl) ((gH xb mb (Ct.X.of c z55) c.aE i m v53 (h.fr (.c r0 .n)) (k.less (by omega))).mono ?_)
 rintro _ w ⟨y56,v57,q58,rfl,h,k⟩
 obtain⟨z59,rfl⟩:=Ct.mB q58
 have lq58:=Ct.nY q58
 refine⟨_,rfl,(hC (h.eJ a0 λ_=>rfl) (hC (h.eJ a0 λ_=>rfl) (hC (h.at_ a4) (hC (h.at_ a6) hN)))),?_⟩
 refine go h λw h=>?_
 refine cs (ca eF rfl) ((eM _ v57 true ((Ct.X.of c x).node (Ct.aB ((Ct.X.of c x).node m) (Ct.slice ha lv)).1).value (h.fr .n)).mono ?_)
 rintro _ w ⟨rfl,h⟩
 refine⟨_,rfl,(hC (h.eJ a0 λ_=>rfl) (hC (h.eJ a0 λ_=>rfl) (hC (h.at_ a4) (hC (h.at_ a6) hN)))),?_⟩
 refine tk (λW H=>xr rfl rfl)<|tk (λW H=>xr rfl rfl)<|?_
 refine ff (so h rfl rfl rfl oG rfl (.r (.r (.r (.r (.r (.r (.r (.r .d)))))))) u9)<|?_
 rintro _ w h
 refine⟨(hC (h.eJ a0 λ_=>rfl) (hC (h.eJ a0 λ_=>rfl) (hC (h.at_ a4) (hC (h.at_ a6) hN)))),?_⟩
 refine ef (sg rfl) ((hC (h.eJ a0 λ_=>rfl) (hC (h.eJ a0 λ_=>rfl) (hC (h.at_ a4) (hC (h.at_ a6) hN)))))<|xz<|nx<|rt<|?_
 refine go h λw h=>?_
 exact rr (cL rfl rfl (h.b a9) Row.h rfl)<|⟨_,(Ct.dL true ((Ct.X.of c x).node (Ct.aB ((Ct.X.of c x).node m) (Ct.slice ha lv)).1).value,(bif v57 then 1 else 0)),Ct.rN<|Ct.rF hd5<|Ct.rN<|Ct.rF (by rw[hd38,hd39];rfl)<|Ct.wF hd38<|Ct.rF hd42<|Ct.rF (by rw[hd43,<- Ct.vE];exact hd44)<|Ct.rN<|Ct.rA q54<|Ct.rB q58<|Ct.rR,rfl,h.to,k⟩
 refine dZ [1,3,5,7,9,11,13,15,17,19,21,23,25,27,29,30] (by kernel_rfl) h (.c r2 .n) λw h=>go h λw h=>?_
 refine tk (λW H=>ld (v:=.bool c.only) One.h rfl (H.xc a0 λ_=>rfl))<|go h λw h=>?_
 refine cG (oL _ _ _ h.to (Ct.Node.Fit.nf f3 (by omega))) λq60 w h=>?_
 refine jA h λb61 w h=>?_
 refine bA (rJ _ _ _ _ _ h.to (Ct.Node.Fit.nf (Ct.eW f3 (Ct.slice ha lv)) (by omega))) λw h=>?_
 refine QS (F:=[ce xb 2 (.int .i64 c.aE.root),ce xb 3 (.bool c.aE.readOnly),bl b61 (aL (Ct.bL ((Ct.X.of c x).node m) (Ct.slice ha lv)).1 q60) 53,bl b37 (aL ((Ct.X.of c x).node (Ct.aB ((Ct.X.of c x).node m) (Ct.slice ha lv)).1) p35) 53]) [1,3,5,7,9,11,13,15,17,19,21,23,25,27,33,39,41,28,30,34,36,42,45,47,48,50] (by kernel_rfl) h (λw h=>(hC (h.eJ a5 λ_=>rfl) (hC (h.eJ a5 λ_=>rfl) (hC (h.at_ a1) (hC (h.at_ a3) hN))))) λw h=>go h λw h=>?_
 refine tk (λW H=>gJ (cs:=cU c.aE) rfl (lF (H.ce a0) (H.ce a1)) Row.h)<|go h λw h=>?_
 refine cs (ca eF rfl) ((aN xb mb (Ct.X.of c x) (Ct.fF (Ct.bL ((Ct.X.of c x).node m) (Ct.slice ha lv)).1).1 (h.fr (.c r5 .n)) k.dR).mono ?_)
 rintro _ w ⟨p62,rfl,h⟩
 have f63:=k.lN (Ct.fF (Ct.bL ((Ct.X.of c x).node m) (Ct.slice ha lv)).1).1
 have bf63:=k.len
 refine⟨_,rfl,(hC (h.eJ a1 λ_=>rfl) (hC (h.eJ a1 λ_=>rfl) (hC (h.at_ a3) (hC (h.at_ a5) hN)))),?_⟩
 refine go h λw h=>?_
 refine cs (ca eF rfl) ((jC (Ct.bL ((Ct.X.of c x).node m) (Ct.slice ha lv)).1 q60 lv ((Ct.X.of c x).node (Ct.fF (Ct.bL ((Ct.X.of c x).node m) (Ct.slice ha lv)).1).1) p62 (h.fr (.c r2 (.c r0 .n))) (Ct.Node.Fit.nf (Ct.eW f3 (Ct.slice ha lv)) (by omega))).mono ?_)
 rintro _ w ⟨q64,rfl,h⟩
 refine⟨_,rfl,(hC (h.eJ a3 λ_=>rfl) (hC (h.eJ a3 λ_=>rfl) (hC (h.at_ a4) (hC (h.at_ a6) hN)))),?_⟩
 refine go h λw h=>?_
 refine cs (ca eF rfl) ((dS (j:=59) xb mb (Ct.X.of c x) (Ct.bQ (Ct.bL ((Ct.X.of c x).node m) (Ct.slice ha lv)).1 lv ((Ct.X.of c x).node (Ct.fF (Ct.bL ((Ct.X.of c x).node m) (Ct.slice ha lv)).1).1)) q64 m ((SH.Gs (h.fr (.c r0 (.c r2 .n))) .z).fr (.c r0 (.c r1 .n))) (k.less (by omega)) (Ct.fA ((Ct.eW f3 (Ct.slice ha lv)).mono (by omega)) (f63.mono (by omega)) lv)).mono ?_)
 rintro _ w ⟨y65,v66,q67,rfl,h,k,hly65⟩
 obtain⟨z68,rfl⟩:=Ct.Lg q67
 have lq67:=Ct.Gq q67
 refine⟨_,rfl,(hC (h.eJ a0 λ_=>rfl) (hC (h.eJ a0 λ_=>rfl) (hC (h.at_ a4) (hC (h.at_ a6) hN)))),?_⟩
 refine go h λw h=>?_
 refine cs (ca eF rfl) ((gH xb mb (Ct.X.of c z68) c.aE i m v66 (h.fr (.c r0 .n)) (k.less (by omega))).mono ?_)
 rintro _ w ⟨y69,v70,q71,rfl,h,k⟩
 obtain⟨z72,rfl⟩:=Ct.mB q71
 have lq71:=Ct.nY q71
 refine⟨_,rfl,(hC (h.eJ a0 λ_=>rfl) (hC (h.eJ a0 λ_=>rfl) (hC (h.at_ a4) (hC (h.at_ a6) hN)))),?_⟩
 refine go h λw h=>?_
 refine cs (ca eF rfl) ((eM _ v70 true ((Ct.X.of c x).node (Ct.aB ((Ct.X.of c x).node m) (Ct.slice ha lv)).1).value (h.fr .n)).mono ?_)
 rintro _ w ⟨rfl,h⟩
 refine⟨_,rfl,(hC (h.eJ a0 λ_=>rfl) (hC (h.eJ a0 λ_=>rfl) (hC (h.at_ a4) (hC (h.at_ a6) hN)))),?_⟩
 refine tk (λW H=>xr rfl rfl)<|tk (λW H=>xr rfl rfl)<|?_
 refine ff (so h rfl rfl rfl oG rfl (.r (.r (.r (.r (.r (.r (.r (.r .d)))))))) u9)<|?_
 rintro _ w h
 refine⟨(hC (h.eJ a0 λ_=>rfl) (hC (h.eJ a0 λ_=>rfl) (hC (h.at_ a4) (hC (h.at_ a6) hN)))),?_⟩
 refine ef (sg rfl) ((hC (h.eJ a0 λ_=>rfl) (hC (h.eJ a0 λ_=>rfl) (hC (h.at_ a4) (hC (h.at_ a6) hN)))))<|xz<|nx<|rt<|?_
 refine go h λw h=>?_
 exact rr (cL rfl rfl (h.b a9) Row.h rfl)<|⟨_,(Ct.dL true ((Ct.X.of c x).node (Ct.aB ((Ct.X.of c x).node m) (Ct.slice ha lv)).1).value,(bif v70 then 1 else 0)),Ct.rN<|Ct.rF hd5<|Ct.rN<|Ct.rF (by rw[hd38,hd39];rfl)<|Ct.wF hd38<|Ct.rF hd42<|Ct.rF (by rw[hd43];rfl)<|Ct.rN<|Ct.rA q67<|Ct.rB q71<|Ct.rR,rfl,h.to,k⟩
 refine bA (dJ _ _ h.to) λw h=>?_
 exact rr (cL rfl rfl (h.b a5) Row.h rfl)<|⟨_,(Ct.cC false 0,1),Ct.rN<|Ct.rF hd5<|Ct.rN<|Ct.rF (by rw[hd38];rfl)<|Ct.Zo hd38<|Ct.rR,rfl,h.to,k⟩
 refine jB h λb73 w h=>?_
 refine lH (aN _ _ _ _ h.to k.dR) λp74 w h=>?_
 have f75:=k.lN m
 have bf75:=k.len
 refine go h λw h=>?_
 refine qc h (λhd76 w h=>?_) λhd76 w h=>?_
 have hg77:=eq_of_beq hd76
 refine go h λw h=>?_
 have h:=SH.se (l:=[aY ((Ct.X.of c x).node m) p74,cH ((Ct.X.of c x).node m) p74]) h
 have hpv:=(Ct.fJ (((Ct.Node.Fit.nf f75 (by omega))).v6 (eq_of_beq hd76))).kG (eq_of_beq hd76)
 have hpl:=((Ct.Node.Fit.nf f75 (by omega))).pr
 refine go h λw h=>?_
 refine bA (oY _ _ _ _ h.to hpv (by omega)) λw h=>?_
 have h:=SH.is (l:=[aY ((Ct.X.of c x).node m) p74,cH ((Ct.X.of c x).node m) p74]) (h.fr (.c r1 (.c r0 .n)))
 refine go h λw h=>?_
 refine qg h (λhd78 w h=>?_) λhd78 w h=>?_
 have hd79:(Ct.bB ((Ct.X.of c x).node m).aF c.key).2=false:=by simpa using hd78
 refine go h λw h=>?_
 refine bA (dJ _ _ h.to) λw h=>?_
 exact rr (cL rfl rfl (h.b a3) Row.h rfl)<|⟨_,(Ct.cC (Ct.bB ((Ct.X.of c x).node m).aF c.key).2 (Ct.bB ((Ct.X.of c x).node m).aF c.key).1,1),Ct.rN<|Ct.rT hd76<|Ct.Zo hd79<|Ct.rR,rfl,h.to,k⟩
 have hd80:(Ct.bB ((Ct.X.of c x).node m).aF c.key).2=true:=by simpa using hd78
 refine go h λw h=>?_
 refine st (ld (v:=.bool c.only) One.h rfl (h.xc a1 λ_=>rfl))<|go h λw h=>?_
 refine qg h (λhd81 w h=>?_) λhd81 w h=>?_
 refine st (ld (v:=.int .u64 (c.expect:Int)) One.h rfl (h.xc a1 λ_=>rfl))<|go h λw h=>?_
 refine qc h (λhd82 w h=>?_) λhd82 w h=>?_
 have hg83:=bne_iff_ne.1 hd82
 refine go h λw h=>?_
 refine bA (dJ _ _ h.to) λw h=>?_
 exact rr (cL rfl rfl (h.b a3) Row.h rfl)<|⟨_,(Ct.cC (Ct.bB ((Ct.X.of c x).node m).aF c.key).2 (Ct.bB ((Ct.X.of c x).node m).aF c.key).1,1),Ct.rN<|Ct.rT hd76<|Ct.wF hd80<|Ct.rT (by rw[hd81,<- Ct.vE];exact hd82)<|Ct.rR,rfl,h.to,k⟩
 have hg84:=eS hd82
 refine go h λw h=>?_
 refine cG (qL _ _ _ _ _ _ h.to (Ct.Node.Fit.nf f75 (by omega)) (Ct.vZ hd76 (((Ct.Node.Fit.nf f75 (by omega))).v6 (eq_of_beq hd76)))) λq85 w h=>?_
 refine jA h λb86 w h=>?_
 refine QS (F:=[ce xb 2 (.int .i64 c.aE.root),ce xb 3 (.bool c.aE.readOnly),bl b86 (aL (Ct.gC ((Ct.X.of c x).node m) c.key).1 q85) 53]) [1,3,5,7,9,11,13,15,17,19,21,23,29,24,26,30,33,35,36,38] (by kernel_rfl) h (λw h=>(hC (h.eJ a3 λ_=>rfl) (hC (h.eJ a3 λ_=>rfl) (hC (h.at_ a0) hN)))) λw h=>go h λw h=>?_
 refine tk (λW H=>gJ (cs:=cU c.aE) rfl (lF (H.ce a0) (H.ce a1)) Row.h)<|go h λw h=>?_
 refine cs (ca eF rfl) ((dS (j:=59) xb mb (Ct.X.of c x) (Ct.gC ((Ct.X.of c x).node m) c.key).1 q85 m ((SH.Gs (h.fr (.c r1 (.c r2 .n))) .z).fr (.c r0 (.c r1 .n))) (k.less (by omega)) ((Ct.pH f75 c.key).mono (by omega))).mono ?_)
 rintro _ w ⟨y87,v88,q89,rfl,h,k,hly87⟩
 obtain⟨z90,rfl⟩:=Ct.Lg q89
 have lq89:=Ct.Gq q89
 refine⟨_,rfl,(hC (h.eJ a0 λ_=>rfl) (hC (h.eJ a0 λ_=>rfl) (hC (h.at_ a2) hN))),?_⟩
 refine go h λw h=>?_
 refine cs (ca eF rfl) ((gH xb mb (Ct.X.of c z90) c.aE i m v88 (h.fr (.c r0 .n)) (k.less (by omega))).mono ?_)
 rintro _ w ⟨y91,v92,q93,rfl,h,k⟩
 obtain⟨z94,rfl⟩:=Ct.mB q93
 have lq93:=Ct.nY q93
 refine⟨_,rfl,(hC (h.eJ a0 λ_=>rfl) (hC (h.eJ a0 λ_=>rfl) (hC (h.at_ a2) hN))),?_⟩
 refine go h λw h=>?_
 refine cs (ca eF rfl) ((eM _ v92 true (Ct.bB ((Ct.X.of c x).node m).aF c.key).1 (h.fr .n)).mono ?_)
 rintro _ w ⟨rfl,h⟩
 refine⟨_,rfl,(hC (h.eJ a0 λ_=>rfl) (hC (h.eJ a0 λ_=>rfl) (hC (h.at_ a2) hN))),?_⟩
 refine tk (λW H=>xr rfl rfl)<|tk (λW H=>xr rfl rfl)<|?_
 refine ff (so h rfl rfl rfl oG rfl (.r (.r (.r (.r (.r (.r (.r (.r .d)))))))) u5)<|?_
 rintro _ w h
 refine⟨(hC (h.eJ a0 λ_=>rfl) (hC (h.eJ a0 λ_=>rfl) (hC (h.at_ a2) hN))),?_⟩
 refine ef (sg rfl) ((hC (h.eJ a0 λ_=>rfl) (hC (h.eJ a0 λ_=>rfl) (hC (h.at_ a2) hN))))<|xz<|nx<|rt<|tr<|?_
 refine go h λw h=>?_
 exact rr (cL rfl rfl (h.b a5) Row.h rfl)<|⟨_,(Ct.dL true (Ct.bB ((Ct.X.of c x).node m).aF c.key).1,(bif v92 then 1 else 0)),Ct.rN<|Ct.rT hd76<|Ct.wF hd80<|Ct.rF (by rw[hd81,<- Ct.vE];exact hd82)<|Ct.rA q89<|Ct.rB q93<|Ct.rR,rfl,h.to,k⟩
 refine cG (qL _ _ _ _ _ _ h.to (Ct.Node.Fit.nf f75 (by omega)) (Ct.vZ hd76 (((Ct.Node.Fit.nf f75 (by omega))).v6 (eq_of_beq hd76)))) λq95 w h=>?_
 refine jA h λb96 w h=>?_
 refine QS (F:=[ce xb 2 (.int .i64 c.aE.root),ce xb 3 (.bool c.aE.readOnly),bl b96 (aL (Ct.gC ((Ct.X.of c x).node m) c.key).1 q95) 53]) [1,3,5,7,9,11,13,15,17,19,21,23,29,24,26,30,33,35,36,38] (by kernel_rfl) h (λw h=>(hC (h.eJ a3 λ_=>rfl) (hC (h.eJ a3 λ_=>rfl) (hC (h.at_ a0) hN)))) λw h=>go h λw h=>?_
 refine tk (λW H=>gJ (cs:=cU c.aE) rfl (lF (H.ce a0) (H.ce a1)) Row.h)<|go h λw h=>?_
 refine cs (ca eF rfl) ((dS (j:=59) xb mb (Ct.X.of c x) (Ct.gC ((Ct.X.of c x).node m) c.key).1 q95 m ((SH.Gs (h.fr (.c r1 (.c r2 .n))) .z).fr (.c r0 (.c r1 .n))) (k.less (by omega)) ((Ct.pH f75 c.key).mono (by omega))).mono ?_)
 rintro _ w ⟨y97,v98,q99,rfl,h,k,hly97⟩
 obtain⟨z100,rfl⟩:=Ct.Lg q99
 have lq99:=Ct.Gq q99
 refine⟨_,rfl,(hC (h.eJ a0 λ_=>rfl) (hC (h.eJ a0 λ_=>rfl) (hC (h.at_ a2) hN))),?_⟩
 refine go h λw h=>?_
 refine cs (ca eF rfl) ((gH xb mb (Ct.X.of c z100) c.aE i m v98 (h.fr (.c r0 .n)) (k.less (by omega))).mono ?_)
 rintro _ w ⟨y101,v102,q103,rfl,h,k⟩
 obtain⟨z104,rfl⟩:=Ct.mB q103
 have lq103:=Ct.nY q103
 refine⟨_,rfl,(hC (h.eJ a0 λ_=>rfl) (hC (h.eJ a0 λ_=>rfl) (hC (h.at_ a2) hN))),?_⟩
 refine go h λw h=>?_
 refine cs (ca eF rfl) ((eM _ v102 true (Ct.bB ((Ct.X.of c x).node m).aF c.key).1 (h.fr .n)).mono ?_)
 rintro _ w ⟨rfl,h⟩
 refine⟨_,rfl,(hC (h.eJ a0 λ_=>rfl) (hC (h.eJ a0 λ_=>rfl) (hC (h.at_ a2) hN))),?_⟩
 refine tk (λW H=>xr rfl rfl)<|tk (λW H=>xr rfl rfl)<|?_
 refine ff (so h rfl rfl rfl oG rfl (.r (.r (.r (.r (.r (.r (.r (.r .d)))))))) u5)<|?_
 rintro _ w h
 refine⟨(hC (h.eJ a0 λ_=>rfl) (hC (h.eJ a0 λ_=>rfl) (hC (h.at_ a2) hN))),?_⟩
 refine ef (sg rfl) ((hC (h.eJ a0 λ_=>rfl) (hC (h.eJ a0 λ_=>rfl) (hC (h.at_ a2) hN))))<|xz<|nx<|rt<|tr<|?_
 refine go h λw h=>?_
 exact rr (cL rfl rfl (h.b a5) Row.h rfl)<|⟨_,(Ct.dL true (Ct.bB ((Ct.X.of c x).node m).aF c.key).1,(bif v102 then 1 else 0)),Ct.rN<|Ct.rT hd76<|Ct.wF hd80<|Ct.rF (by rw[hd81];rfl)<|Ct.rA q99<|Ct.rB q103<|Ct.rR,rfl,h.to,k⟩
 have hg105:=dP hd76
 refine go h λw h=>?_
 refine cl (ca eF rfl) ((eH ha lv _ (by omega)).mono ?_)
 rintro _ _ ⟨rfl,rfl⟩
 refine⟨_,rfl,?_⟩
 refine st (sg rfl)<|xe<|nx<|sq<|rg<|st (gJ rfl (dK (h.b a2)) iR)<|st (mv rfl)<|?_
 refine go h λw h=>?_
 refine bA (fG _ _ _ _ _ _ h.to (Ct.Node.Fit.nf f75 (by omega))) λw h=>?_
 refine cG (aN _ _ _ _ h.to k.dR) λp106 w h=>?_
 have f107:=k.lN (Ct.aB ((Ct.X.of c x).node m) (Ct.slice ha lv)).1
 have bf107:=k.len
 refine go h λw h=>?_
 refine jA h λb108 w h=>?_
 refine qg h (λhd109 w h=>?_) λhd109 w h=>?_
 refine qc h (λhd110 w h=>?_) λhd110 w h=>?_
 have hg111:=eq_of_beq hd110
 refine go h λw h=>?_
 exact rr (cL rfl rfl (h.b a5) Row.h rfl)<|⟨_,({},2),Ct.rN<|Ct.rF hd76<|Ct.rN<|Ct.rT (by rw[hd109,hd110];rfl)<|Ct.rR,rfl,h.to,k⟩
 have hg112:=dP hd110
 refine go h λw h=>?_
 refine qc h (λhd113 w h=>?_) λhd113 w h=>?_
 refine bA (dJ _ _ h.to) λw h=>?_
 exact rr (cL rfl rfl (h.b a5) Row.h rfl)<|⟨_,(Ct.cC false 0,1),Ct.rN<|Ct.rF hd76<|Ct.rN<|Ct.rF (by rw[hd109,hd110];rfl)<|Ct.wF hd109<|Ct.rT hd113<|Ct.rR,rfl,h.to,k⟩
 rcases dA c.only with hd114|hd114<;>refine go h λw h=>?_
 refine dZ [1,3,5,7,9,11,13,15,17,19,21,23,25,27,29,30] (by kernel_rfl) h (.c r2 (.c r0 .n)) λw h=>go h λw h=>?_
 refine tk (λW H=>ld (v:=.bool c.only) One.h rfl (H.xc a0 λ_=>rfl))<|go h λw h=>?_
 refine tk (λW H=>ld (v:=.int .u64 (c.expect:Int)) One.h rfl (H.xc a0 λ_=>rfl))<|go h λw h=>?_
 refine qc h (λhd115 w h=>?_) λhd115 w h=>?_
 have hg116:=bne_iff_ne.1 hd115
 refine go h λw h=>?_
 refine bA (dJ _ _ h.to) λw h=>?_
 exact rr (cL rfl rfl (h.b a5) Row.h rfl)<|⟨_,(Ct.cC true ((Ct.X.of c x).node (Ct.aB ((Ct.X.of c x).node m) (Ct.slice ha lv)).1).value,1),Ct.rN<|Ct.rF hd76<|Ct.rN<|Ct.rF (by rw[hd109,hd110];rfl)<|Ct.wF hd109<|Ct.rF hd113<|Ct.rT (by rw[hd114,<- Ct.vE];exact hd115)<|Ct.rR,rfl,h.to,k⟩
 have hg117:=eS hd115
 refine go h λw h=>?_
 refine cG (oL _ _ _ h.to (Ct.Node.Fit.nf f75 (by omega))) λq118 w h=>?_
 refine jA h λb119 w h=>?_
 refine bA (rJ _ _ _ _ _ h.to (Ct.Node.Fit.nf (Ct.eW f75 (Ct.slice ha lv)) (by omega))) λw h=>?_
 refine QS (F:=[ce xb 2 (.int .i64 c.aE.root),ce xb 3 (.bool c.aE.readOnly),bl b119 (aL (Ct.bL ((Ct.X.of c x).node m) (Ct.slice ha lv)).1 q118) 53,bl b108 (aL ((Ct.X.of c x).node (Ct.aB ((Ct.X.of c x).node m) (Ct.slice ha lv)).1) p106) 53]) [1,3,5,7,9,11,13,15,17,19,21,23,25,27,33,39,41,28,30,34,36,42,45,47,48,50] (by kernel_rfl) h (λw h=>(hC (h.eJ a5 λ_=>rfl) (hC (h.eJ a5 λ_=>rfl) (hC (h.at_ a1) (hC (h.at_ a3) hN))))) λw h=>go h λw h=>?_
 refine tk (λW H=>gJ (cs:=cU c.aE) rfl (lF (H.ce a0) (H.ce a1)) Row.h)<|go h λw h=>?_
 refine cs (ca eF rfl) ((aN xb mb (Ct.X.of c x) (Ct.fF (Ct.bL ((Ct.X.of c x).node m) (Ct.slice ha lv)).1).1 (h.fr (.c r5 .n)) k.dR).mono ?_)
 rintro _ w ⟨p120,rfl,h⟩
 have f121:=k.lN (Ct.fF (Ct.bL ((Ct.X.of c x).node m) (Ct.slice ha lv)).1).1
 have bf121:=k.len
 refine⟨_,rfl,(hC (h.eJ a1 λ_=>rfl) (hC (h.eJ a1 λ_=>rfl) (hC (h.at_ a3) (hC (h.at_ a5) hN)))),?_⟩
 refine go h λw h=>?_
 refine cs (ca eF rfl) ((jC (Ct.bL ((Ct.X.of c x).node m) (Ct.slice ha lv)).1 q118 lv ((Ct.X.of c x).node (Ct.fF (Ct.bL ((Ct.X.of c x).node m) (Ct.slice ha lv)).1).1) p120 (h.fr (.c r2 (.c r0 .n))) (Ct.Node.Fit.nf (Ct.eW f75 (Ct.slice ha lv)) (by omega))).mono ?_)
 rintro _ w ⟨q122,rfl,h⟩
 refine⟨_,rfl,(hC (h.eJ a3 λ_=>rfl) (hC (h.eJ a3 λ_=>rfl) (hC (h.at_ a4) (hC (h.at_ a6) hN)))),?_⟩
 refine go h λw h=>?_
 refine cs (ca eF rfl) ((dS (j:=59) xb mb (Ct.X.of c x) (Ct.bQ (Ct.bL ((Ct.X.of c x).node m) (Ct.slice ha lv)).1 lv ((Ct.X.of c x).node (Ct.fF (Ct.bL ((Ct.X.of c x).node m) (Ct.slice ha lv)).1).1)) q122 m ((SH.Gs (h.fr (.c r0 (.c r2 .n))) .z).fr (.c r0 (.c r1 .n))) (k.less (by omega)) (Ct.fA ((Ct.eW f75 (Ct.slice ha lv)).mono (by omega)) (f121.mono (by omega)) lv)).mono ?_)
 rintro _ w ⟨y123,v124,q125,rfl,h,k,hly123⟩
 obtain⟨z126,rfl⟩:=Ct.Lg q125
 have lq125:=Ct.Gq q125
 refine⟨_,rfl,(hC (h.eJ a0 λ_=>rfl) (hC (h.eJ a0 λ_=>rfl) (hC (h.at_ a4) (hC (h.at_ a6) hN)))),?_⟩
 refine go h λw h=>?_
 refine cs (ca eF rfl) ((gH xb mb (Ct.X.of c z126) c.aE i m v124 (h.fr (.c r0 .n)) (k.less (by omega))).mono ?_)
 rintro _ w ⟨y127,v128,q129,rfl,h,k⟩
 obtain⟨z130,rfl⟩:=Ct.mB q129
 have lq129:=Ct.nY q129
 refine⟨_,rfl,(hC (h.eJ a0 λ_=>rfl) (hC (h.eJ a0 λ_=>rfl) (hC (h.at_ a4) (hC (h.at_ a6) hN)))),?_⟩
 refine go h λw h=>?_
 refine cs (ca eF rfl) ((eM _ v128 true ((Ct.X.of c x).node (Ct.aB ((Ct.X.of c x).node m) (Ct.slice ha lv)).1).value (h.fr .n)).mono ?_)
 rintro _ w ⟨rfl,h⟩
 refine⟨_,rfl,(hC (h.eJ a0 λ_=>rfl) (hC (h.eJ a0 λ_=>rfl) (hC (h.at_ a4) (hC (h.at_ a6) hN)))),?_⟩
 refine tk (λW H=>xr rfl rfl)<|tk (λW H=>xr rfl rfl)<|?_
 refine ff (so h rfl rfl rfl oG rfl (.r (.r (.r (.r (.r (.r (.r (.r .d)))))))) u9)<|?_
 rintro _ w h
 refine⟨(hC (h.eJ a0 λ_=>rfl) (hC (h.eJ a0 λ_=>rfl) (hC (h.at_ a4) (hC (h.at_ a6) hN)))),?_⟩
 refine ef (sg rfl) ((hC (h.eJ a0 λ_=>rfl) (hC (h.eJ a0 λ_=>rfl) (hC (h.at_ a4) (hC (h.at_ a6) hN)))))<|xz<|nx<|rt<|?_
 refine go h λw h=>?_
 exact rr (cL rfl rfl (h.b a9) Row.h rfl)<|⟨_,(Ct.dL true ((Ct.X.of c x).node (Ct.aB ((Ct.X.of c x).node m) (Ct.slice ha lv)).1).value,(bif v128 then 1 else 0)),Ct.rN<|Ct.rF hd76<|Ct.rN<|Ct.rF (by rw[hd109,hd110];rfl)<|Ct.wF hd109<|Ct.rF hd113<|Ct.rF (by rw[hd114,<- Ct.vE];exact hd115)<|Ct.rN<|Ct.rA q125<|Ct.rB q129<|Ct.rR,rfl,h.to,k⟩
 refine dZ [1,3,5,7,9,11,13,15,17,19,21,23,25,27,29,30] (by kernel_rfl) h (.c r2 .n) λw h=>go h λw h=>?_
 refine tk (λW H=>ld (v:=.bool c.only) One.h rfl (H.xc a0 λ_=>rfl))<|go h λw h=>?_
 refine cG (oL _ _ _ h.to (Ct.Node.Fit.nf f75 (by omega))) λq131 w h=>?_
 refine jA h λb132 w h=>?_
 refine bA (rJ _ _ _ _ _ h.to (Ct.Node.Fit.nf (Ct.eW f75 (Ct.slice ha lv)) (by omega))) λw h=>?_
 refine QS (F:=[ce xb 2 (.int .i64 c.aE.root),ce xb 3 (.bool c.aE.readOnly),bl b132 (aL (Ct.bL ((Ct.X.of c x).node m) (Ct.slice ha lv)).1 q131) 53,bl b108 (aL ((Ct.X.of c x).node (Ct.aB ((Ct.X.of c x).node m) (Ct.slice ha lv)).1) p106) 53]) [1,3,5,7,9,11,13,15,17,19,21,23,25,27,33,39,41,28,30,34,36,42,45,47,48,50] (by kernel_rfl) h (λw h=>(hC (h.eJ a5 λ_=>rfl) (hC (h.eJ a5 λ_=>rfl) (hC (h.at_ a1) (hC (h.at_ a3) hN))))) λw h=>go h λw h=>?_
 refine tk (λW H=>gJ (cs:=cU c.aE) rfl (lF (H.ce a0) (H.ce a1)) Row.h)<|go h λw h=>?_
 refine cs (ca eF rfl) ((aN xb mb (Ct.X.of c x) (Ct.fF (Ct.bL ((Ct.X.of c x).node m) (Ct.slice ha lv)).1).1 (h.fr (.c r5 .n)) k.dR).mono ?_)
 rintro _ w ⟨p133,rfl,h⟩
 have f134:=k.lN (Ct.fF (Ct.bL ((Ct.X.of c x).node m) (Ct.slice ha lv)).1).1
 have bf134:=k.len
 refine⟨_,rfl,(hC (h.eJ a1 λ_=>rfl) (hC (h.eJ a1 λ_=>rfl) (hC (h.at_ a3) (hC (h.at_ a5) hN)))),?_⟩
 refine go h λw h=>?_
 refine cs (ca eF rfl) ((jC (Ct.bL ((Ct.X.of c x).node m) (Ct.slice ha lv)).1 q131 lv ((Ct.X.of c x).node (Ct.fF (Ct.bL ((Ct.X.of c x).node m) (Ct.slice ha lv)).1).1) p133 (h.fr (.c r2 (.c r0 .n))) (Ct.Node.Fit.nf (Ct.eW f75 (Ct.slice ha lv)) (by omega))).mono ?_)
 rintro _ w ⟨q135,rfl,h⟩
 refine⟨_,rfl,(hC (h.eJ a3 λ_=>rfl) (hC (h.eJ a3 λ_=>rfl) (hC (h.at_ a4) (hC (h.at_ a6) hN)))),?_⟩
 refine go h λw h=>?_
 refine cs (ca eF rfl) ((dS (j:=59) xb mb (Ct.X.of c x) (Ct.bQ (Ct.bL ((Ct.X.of c x).node m) (Ct.slice ha lv)).1 lv ((Ct.X.of c x).node (Ct.fF (Ct.bL ((Ct.X.of c x).node m) (Ct.slice ha lv)).1).1)) q135 m ((SH.Gs (h.fr (.c r0 (.c r2 .n))) .z).fr (.c r0 (.c r1 .n))) (k.less (by omega)) (Ct.fA ((Ct.eW f75 (Ct.slice ha lv)).mono (by omega)) (f134.mono (by omega)) lv)).mono ?_)
 rintro _ w ⟨y136,v137,q138,rfl,h,k,hly136⟩
 obtain⟨z139,rfl⟩:=Ct.Lg q138
 have lq138:=Ct.Gq q138
 refine⟨_,rfl,(hC (h.eJ a0 λ_=>rfl) (hC (h.eJ a0 λ_=>rfl) (hC (h.at_ a4) (hC (h.at_ a6) hN)))),?_⟩
 refine go h λw h=>?_
 refine cs (ca eF rfl) ((gH xb mb (Ct.X.of c z139) c.aE i m v137 (h.fr (.c r0 .n)) (k.less (by omega))).mono ?_)
 rintro _ w ⟨y140,v141,q142,rfl,h,k⟩
 obtain⟨z143,rfl⟩:=Ct.mB q142
 have lq142:=Ct.nY q142
 refine⟨_,rfl,(hC (h.eJ a0 λ_=>rfl) (hC (h.eJ a0 λ_=>rfl) (hC (h.at_ a4) (hC (h.at_ a6) hN)))),?_⟩
 refine go h λw h=>?_
 refine cs (ca eF rfl) ((eM _ v141 true ((Ct.X.of c x).node (Ct.aB ((Ct.X.of c x).node m) (Ct.slice ha lv)).1).value (h.fr .n)).mono ?_)
 rintro _ w ⟨rfl,h⟩
 refine⟨_,rfl,(hC (h.eJ a0 λ_=>rfl) (hC (h.eJ a0 λ_=>rfl) (hC (h.at_ a4) (hC (h.at_ a6) hN)))),?_⟩
 refine tk (λW H=>xr rfl rfl)<|tk (λW H=>xr rfl rfl)<|?_
 refine ff (so h rfl rfl rfl oG rfl (.r (.r (.r (.r (.r (.r (.r (.r .d)))))))) u9)<|?_
 rintro _ w h
 refine⟨(hC (h.eJ a0 λ_=>rfl) (hC (h.eJ a0 λ_=>rfl) (hC (h.at_ a4) (hC (h.at_ a6) hN)))),?_⟩
 refine ef (sg rfl) ((hC (h.eJ a0 λ_=>rfl) (hC (h.eJ a0 λ_=>rfl) (hC (h.at_ a4) (hC (h.at_ a6) hN)))))<|xz<|nx<|rt<|?_
 refine go h λw h=>?_
 exact rr (cL rfl rfl (h.b a9) Row.h rfl)<|⟨_,(Ct.dL true ((Ct.X.of c x).node (Ct.aB ((Ct.X.of c x).node m) (Ct.slice ha lv)).1).value,(bif v141 then 1 else 0)),Ct.rN<|Ct.rF hd76<|Ct.rN<|Ct.rF (by rw[hd109,hd110];rfl)<|Ct.wF hd109<|Ct.rF hd113<|Ct.rF (by rw[hd114];rfl)<|Ct.rN<|Ct.rA q138<|Ct.rB q142<|Ct.rR,rfl,h.to,k⟩
 refine bA (dJ _ _ h.to) λw h=>?_
 exact rr (cL rfl rfl (h.b a5) Row.h rfl)<|⟨_,(Ct.cC false 0,1),Ct.rN<|Ct.rF hd76<|Ct.rN<|Ct.rF (by rw[hd109];rfl)<|Ct.Zo hd109<|Ct.rR,rfl,h.to,k⟩
theorem NH(xb mb:Nat)(x:Ct.X)(c:Ct.Call)(path:List Int)(ha:Nat)(p:Option Addr)(cp:Nat)(h:SH B w (XA xb mb (Ct.X.of c x)::bV 1 (.slice p path.length cp) path.length (path.map (Value.int .i64))::L))(k:Ct.Ok 60 (Ct.X.of c x))(hh:ha<18446744073709551616)(hp:1<=path.length)(hp2:path.length<=1000000000000):
  Calls prog 195 #[↑xb,.slice p path.length cp,.int .u64 (ha:Int)] w λe w'=>∃y v,Ct.aX (Ct.QP c.aE path ha (path.length-1)) (Ct.X.of c x)=Ct.out y v/\e=.returned (.tuple #[])/\SH B w' (XA xb mb y::bV 1 (.slice p path.length cp) path.length (path.map (Value.int .i64))::L)/\Ct.Ok 60 y:=by
 refine bZ func195 ntmps195 h λw h=>?_
 refine st (bs ((path.length-1:Nat):Int))<|go h λw h=>?_
 refine lp (α:=Ct.X×Nat) (λρ=>(.c 0 ↑xb (.c 1 (.slice p path.length cp) (.c 2 (.int .u64 (ha:Int)) (.c 6 (.int .i64 (ρ.2:Int)) .n))))) (λρ w=>SH B w (XA xb mb (Ct.X.of c ρ.1)::bV 1 (.slice p path.length cp) path.length (path.map (Value.int .i64))::L)/\(Ct.aX (Ct.QP c.aE path ha (path.length-1)) (Ct.X.of c x)=Ct.aX (Ct.QP c.aE path ha ρ.2) (Ct.X.of c ρ.1))/\(Ct.Ok 60 (Ct.X.of c ρ.1))/\(ρ.2<=path.length-1)) (λρ=>ρ.2) (x,path.length-1) ⟨rfl,rfl,rfl,rfl,trivial⟩ ⟨h,rfl,k,JV _⟩ ?_
 rintro⟨y,l⟩ w ⟨h,hq,k,hl⟩
 refine go h λw h=>?_
 refine qg h (λhd1 w h=>?_) λhd1 w h=>?_
 have hg2:=eC hd1
 refine go h λw h=>?_
 refine st (ld (v:=.bool (Ct.X.of c y).e.aC) One.h rfl (h.xc a0 λ_=>rfl))<|go h λw h=>?_
 refine qc h (λhd3 w h=>?_) λhd3 w h=>?_
 have hd4:(Ct.X.of c y).e.aC=false:=by simpa using hd3
 refine go h λw h=>?_
 obtain⟨l,rfl⟩:∃k,l=k+1:=⟨l-1,by omega⟩
 obtain⟨b5,o6,rfl⟩:=h.fq a1 (by omega)
 refine QS (F:=[ce xb 2 (.int .i64 c.aE.root),ce xb 3 (.bool c.aE.readOnly),bV 1 (.slice (some ⟨b5,o6,none⟩) path.length cp) path.length (path.map (Value.int .i64))]) [1,3,5,7,9,11,13,15,17,19,20,22] (by kernel_rfl) h (λw h=>(hC (h.eJ a0 λ_=>rfl) (hC (h.eJ a0 λ_=>rfl) (hC (h.at_ a1) hN)))) λw h=>go h λw h=>?_
 refine tk (λW H=>gJ (cs:=cU c.aE) rfl (lF (H.ce a0) (H.ce a1)) Row.h)<|go h λw h=>?_
 refine cs (ca eF rfl) ((hU xb mb (Ct.X.of c y) c.aE (path.getD (l+1) 0) (h.fr (.c r0 .n)) (k.less (by omega))).mono ?_)
 rintro _ w ⟨y7,v8,q9,rfl,h,k⟩
 obtain⟨z10,rfl⟩:=Ct.mB q9
 refine⟨_,rfl,(hC (h.eJ a0 λ_=>rfl) (hC (h.eJ a0 λ_=>rfl) (hC (h.at_ a1) hN))),?_⟩
 refine ef (sg rfl) ((hC (h.eJ a0 λ_=>rfl) (hC (h.eJ a0 λ_=>rfl) (hC (h.at_ a1) hN))))<|xz<|nx<|sq<|sq<|rg<|st (mv rfl)<|st (nc rfl rfl)<|st (fa nB rfl)<|?_
 refine st (ld (v:=.bool (Ct.X.of c z10).e.aC) One.h rfl (h.xc a0 λ_=>rfl))<|go h λw h=>?_
 refine qg h (λhd11 w h=>?_) λhd11 w h=>?_
 refine rr (rK results195)<|⟨_,(),hq.trans<|Ct.rB q9<|Ct.rS hd11,rfl,h,k.stop hd11⟩
 refine cG (aN _ _ _ _ h.to k.dR) λp12 w h=>?_
 refine qc h (λhd14 w h=>?_) λhd14 w h=>?_
 refine rr (rK results195)<|⟨_,(),hq.trans<|Ct.rB q9<|Ct.rN<|Ct.rT hd14<|Ct.rR,rfl,h.drop,k⟩
 refine QS (F:=[ce xb 2 (.int .i64 c.aE.root),ce xb 3 (.bool c.aE.readOnly),bV 1 (.slice (some ⟨b5,o6,none⟩) path.length cp) path.length (path.map (Value.int .i64))]) [1,3,5,7,9,11,13,15,17,19,21,23,25,27,29,31,33,35,36] (by kernel_rfl) h (λw h=>(hC (h.eJ a1 λ_=>rfl) (hC (h.eJ a1 λ_=>rfl) (hC (h.at_ a2) hN)))) λw h=>go h λw h=>?_
 refine tk (λW H=>gJ (cs:=cU c.aE) rfl (lF (H.ce a0) (H.ce a1)) Row.h)<|go h λw h=>?_
 refine tk (λW H=>bs (l:Int))<|go h λw h=>?_
 refine tk (λW H=>bs (l:Int))<|go h λw h=>?_
 refine cs (ca eF rfl) ((rI xb mb (Ct.X.of c z10) c.aE (path.getD l 0) (path.getD (l+1) 0) ha (l:Int) (h.fr (.c r1 .n)) (k.less (by omega)) hh).mono ?_)
 rintro _ w ⟨y17,v18,q19,rfl,h,k⟩
 obtain⟨z20,rfl⟩:=Ct.mB q19
 refine⟨_,rfl,(hC (h.eJ a0 λ_=>rfl) (hC (h.eJ a0 λ_=>rfl) (hC (h.at_ a2) hN))),?_⟩
 refine xz<|bn<|nx<|rg<|st (mv rfl)<|?_
 refine st (bs (l:Int))<|go h λw h=>?_
 exact⟨(z20,l),⟨rfl,rfl,rfl,rfl,trivial⟩,⟨h.to,hq.trans<|Ct.rB q9<|Ct.rN<|Ct.rF hd14<|Ct.rB q19<|rfl,k,by(try dsimp only);omega⟩,by(try dsimp only);omega⟩
 have hd21:(Ct.X.of c y).e.aC=true:=by simpa using hd3
 refine rn (rK results195)<|go h λw h=>?_
 refine⟨_,(),hq.trans<|Ct.rS hd21,rfl,h,k.stop hd21⟩
 have hg22:=cW hd1
 refine go h λw h=>?_
 refine rn (rK rfl) ?_
 obtain rfl:l=0:=by omega
 exact⟨_,(),hq.trans Ct.rR,rfl,h,k⟩
theorem OJ(xb mb:Nat)(x:Ct.X)(c:Ct.Call)(F:Nat)(h:SH B w (XA xb mb (Ct.X.of c x)::L))(k:Ct.Ok 60 (Ct.X.of c x))(hx:(Ct.X.of c x).left<F)(hF:F<=100000000000)(hm:c.aI<18446744073709551616)(hky:c.key.size<=64):
  Calls prog 153 #[↑xb] w λe w'=>∃y v,Ct.aX (Ct.pE c F F) (Ct.X.of c x)=Ct.out y v/\e=.returned (.agg (xC v).toArray)/\SH B w' (XA xb mb y::L)/\Ct.Ok 60 y:=by
 have hh:=Ct.eI c.key c.aI
 have hlen:=k.len
 refine bZ func153 ntmps153 h λw h=>?_
 refine jA h λb1 w h=>?_
 refine XL (F:=[XA xb mb (Ct.X.of c x)]) [1,3,5,7,9,11,13,15,17,19,21,23,25,27,29] 15 16 [32,34,36] [30,34,36] (by kernel_rfl) h (λw h=>(hC (h.at_ a1) hN)) λw h=>go h λw h=>?_
 refine tk (λW H=>gJ (cs:=cU c.aE) rfl (H.xr 2 a0 λ_=>rfl) Row.h)<|go h λw h=>?_
 refine tk (λW H=>ld (v:=.string c.key) One.h rfl (H.xc a0 λ_=>rfl))<|go h λw h=>?_
 refine tk (λW H=>ld (v:=.int .u64 (c.aI:Int)) One.h rfl (H.xc a0 λ_=>rfl))<|go h λw h=>?_
 refine YJ ?_ ?_
 refine cs (ca eF rfl) ((pA c.key c.aI _ (by omega) (by omega)).mono ?_)
 rintro _ _ ⟨rfl,rfl⟩
 refine⟨_,rfl,(hC (h.at_ a1) hN),?_⟩
 refine go h λw h=>?_
 refine jB h λb2 w h=>?_
 refine lp (α:=Ct.X×Nat) (λρ=>(.c 0 ↑xb (.c 2 ↑b1 (.c 3 ↑b2 (.c 4 (.int .u64 ((Ct.aH c.key c.aI:Nat):Int)) .n))))) (λρ w=>SH B w (XA xb mb (Ct.X.of c ρ.1)::bl b2 (cU c.aE) 35::bl b1 ([.int .i64 0,↑false,.int .u64 0,.string .empty,.int .i64 0,.int .i64 0,.int .i64 0,↑false]) 49::L)/\(Ct.aX (Ct.pE c F F) (Ct.X.of c x)=Ct.aX (Ct.pE c F ρ.2) (Ct.X.of c ρ.1))/\(Ct.Ok 60 (Ct.X.of c ρ.1))/\((Ct.X.of c ρ.1).e.aC=true\/(Ct.X.of c ρ.1).left<ρ.2)/\(ρ.2<=F)) (λρ=>ρ.2) (x,F) ⟨rfl,rfl,rfl,rfl,trivial⟩ ⟨h.to,rfl,k,(.inr (by(try dsimp only);omega)),JV _⟩ ?_
 rintro⟨y,n⟩ w ⟨h,hq,k,hn,hnF⟩
 dsimp only at *
 refine go h λw h=>?_
 refine st (ld (v:=.bool (Ct.X.of c y).e.aC) One.h rfl (h.xc a0 λ_=>rfl))<|go h λw h=>?_
 refine qc h (λhd3 w h=>?_) λhd3 w h=>?_
 have hd4:(Ct.X.of c y).e.aC=false:=by simpa using hd3
 refine go h λw h=>?_
 obtain⟨n,rfl⟩:∃k,n=k+1:=⟨n-1,by have:=hn.resolve_left (by rw[hd4];decide);omega⟩
 replace hn:=hn.resolve_left (by rw[hd4];decide)
 rw[Ct.zL]at hq
 refine go h λw h=>?_
 have kb5:=k
 refine dE (nV _ _ _ _ h.to (k.less (by omega))) λy6 v7 q8 w h k=>?_
 obtain⟨z9,rfl⟩:=Ct.mB q8
 have lq8:=Ct.nY q8
 have ltq8:=Ct.pY kb5 (by omega) q8
 refine go h λw h=>?_
 refine cG (aN _ _ _ _ h.to k.dR) λp10 w h=>?_
 have f11:=k.lN v7
 have bf11:=k.len
 refine go h λw h=>?_
 refine sf (bu [↑v7] h fR.h Ss.h rfl (by kernel_rfl) rfl (by decide) (by decide)) ?_
 rintro _ w ⟨b12,rfl,h⟩
 refine go h λw h=>?_
 refine lp (α:=Ct.X×Nat×List Int×Int×Int×Option Addr×Nat×Nat) (λρ=>(.c 0 ↑xb (.c 2 ↑b1 (.c 3 ↑b2 (.c 4 (.int .u64 ((Ct.aH c.key c.aI:Nat):Int)) (.c 5 (.int .i64 ρ.2.2.2.1) (.c 6 (.int .i64 ((Ct.X.of c z9).node v7).gen) (.c 7 (.slice ρ.2.2.2.2.2.1 ρ.2.2.2.2.2.2.1 ρ.2.2.2.2.2.2.2) (.c 8 (.int .i64 ρ.2.2.2.2.1) .n))))))))) (λρ w=>SH B w (XA xb mb (Ct.X.of c ρ.1)::aU 44 1 (.slice ρ.2.2.2.2.2.1 ρ.2.2.2.2.2.2.1 ρ.2.2.2.2.2.2.2) ρ.2.2.2.2.2.2.1 (ρ.2.2.1.map (Value.int .i64))::bl b2 (cU c.aE) 35::bl b1 ([.int .i64 0,↑false,.int .u64 0,.string .empty,.int .i64 0,.int .i64 0,.int .i64 0,↑false]) 49::L)/\(Ct.aX (Ct.pE c F F) (Ct.X.of c x)=Ct.aX ((Ct.sY c (Ct.aH c.key c.aI) ((Ct.X.of c z9).node v7).gen ρ.2.1 ρ.2.2.1 ρ.2.2.2.1 ρ.2.2.2.2.1).bind (Ct.OI c F n)) (Ct.X.of c ρ.1))/\(Ct.Ok 60 (Ct.X.of c ρ.1))/\((Ct.X.of c ρ.1).e.aC=true\/(Ct.X.of c ρ.1).left<ρ.2.1)/\((Ct.X.of c ρ.1).e.aC=true\/(Ct.X.of c ρ.1).left<n)/\(0<=ρ.2.2.2.2.1/\ρ.2.2.2.2.1+(ρ.2.1:Int)<=(F:Int))/\(ρ.2.2.1.length=ρ.2.2.2.2.2.2.1/\(ρ.2.2.2.2.2.2.1:Int)=ρ.2.2.2.2.1+1)) (λρ=>ρ.2.1) (z9,F,[v7],v7,0,some ⟨b12,0,none⟩,1,1) ⟨rfl,rfl,rfl,rfl,rfl,rfl,rfl,rfl,trivial⟩ ⟨(h.to.fr (.c r1 (.c r0 (.c r0 (.c r0 .n))))),(hq.trans<|Ct.rB q8<|Ct.rN<|rfl),k,(ltq8.imp id λh=>by have:=h.2;(try dsimp only);omega),(ltq8.imp id λh=>by have:=h.2;(try dsimp only);omega),⟨by(try dsimp only);omega,by(try dsimp only);omega⟩,⟨rfl,by(try dsimp only);omega⟩⟩ ?_
 rintro⟨yi,kk,path,i,l,p,m,cp⟩ w ⟨h,hq,k,hn,ho,hl,hpl⟩
 dsimp only at *
 refine go h λw h=>?_
 refine st (ld (v:=.bool (Ct.X.of c yi).e.aC) One.h rfl (h.xc a0 λ_=>rfl))<|go h λw h=>?_
 refine qc h (λhd13 w h=>?_) λhd13 w h=>?_
 have hd14:(Ct.X.of c yi).e.aC=false:=by simpa using hd13
 refine go h λw h=>?_
 obtain⟨kk,rfl⟩:∃k,kk=k+1:=⟨kk-1,by have:=hn.resolve_left (by rw[hd14];decide);omega⟩
 replace hn:=hn.resolve_left (by rw[hd14];decide)
 replace ho:=ho.resolve_left (by rw[hd14];decide)
 refine go h λw h=>?_
 have kb15:=k
 refine dE (hU _ _ _ _ _ h.to (k.less (by omega))) λy16 v17 q18 w h k=>?_
 obtain⟨z19,rfl⟩:=Ct.mB q18
 have lq18:=Ct.nY q18
 have ltq18:=Ct.oK kb15 q18
 refine go h λw h=>?_
 refine st (ld (v:=.bool (Ct.X.of c z19).e.aC) One.h rfl (h.xc a0 λ_=>rfl))<|go h λw h=>?_
 refine qc h (λhd20 w h=>?_) λhd20 w h=>?_
 exact⟨(z19,n),⟨rfl,rfl,rfl,rfl,trivial⟩,⟨h.to,(hq.trans<|Ct.lB q18<|Ct.QT hd20),k,(.inl hd20),by(try dsimp only);omega⟩,by(try dsimp only);omega⟩
 refine cG (aN _ _ _ _ h.to k.dR) λp21 w h=>?_
 have f22:=k.lN v17
 have bf22:=k.len
 refine go h λw h=>?_
 refine qc h (λhd23 w h=>?_) λhd23 w h=>?_
 have hg24:=eq_of_beq hd23
 refine go h λw h=>?_
 obtain⟨b25,rfl⟩:=h.fp a2 (by omega)
 refine dZ [1,3,5,7,9,11,13,15,17,19,21,23,24] (by kernel_rfl) h (.c r3 (.c r2 .n)) λw h=>go h λw h=>?_
 refine tk (λW H=>bw rfl rfl (zW (c:=l-1) (by omega) (by omega) (by omega)))<|tk (λW H=>mx rfl rfl (by omega))<|tk (λW H=>ix (j:=(l-1).toNat) jG Bh rfl rfl (by omega))<|?_
 refine tk (λW H=>ld iO rfl ((H.ro a1).i (by omega)))<|tk (λW H=>mv rfl)<|tk (λW H=>mv rfl)<|tk (λW H=>mv rfl)<|?_
 refine go h λw h=>?_
 refine tk (λW H=>bs (l-1))<|go h λw h=>?_
 have kb26:=k
 refine mF (rI _ _ _ _ _ _ _ _ h.to (k.less (by omega)) hh) λy27 v28 q29 w h k=>?_
 obtain⟨z30,rfl⟩:=Ct.mB q29
 have lq29:=Ct.nY q29
 have ltq29:=Ct.lL (Ct.jW _ _ _ _ _) kb26 (by omega) q29
 refine go h λw h=>?_
 exact⟨(z30,n),⟨rfl,rfl,rfl,rfl,trivial⟩,⟨h.to,(hq.trans<|Ct.lB q18<|Ct.Ds<|Ct.Mv hd23<|Ct.lB q29<|rfl),k,(.inr (by have:=(ltq18.resolve_left (by rw[hd20];decide)).2;have:=ltq29;(try dsimp only);omega)),by(try dsimp only);omega⟩,by(try dsimp only);omega⟩
 have hg31:=dP hd23
 refine go h λw h=>?_
 have kb32:=k
 refine dE (Aq _ _ _ c _ _ _ _ h.to (k.less (by omega)) hh) λy33 v34 q35 w h k=>?_
 obtain⟨z36,rfl⟩:=Ct.mB q35
 have lq35:=Ct.nY q35
 have ltq35:=Ct.lL (Ct.qM c _ _ _ _) kb32 (by omega) q35
 refine go h λw h=>?_
 refine jA h λb37 w h=>?_
 refine st (ld (v:=.bool (Ct.X.of c z36).e.aC) One.h rfl (h.xc a1 λ_=>rfl))<|go h λw h=>?_
 refine qc h (λhd38 w h=>?_) λhd38 w h=>?_
 exact⟨(z36,n),⟨rfl,rfl,rfl,rfl,trivial⟩,⟨h.to,(hq.trans<|Ct.lB q18<|Ct.Ds<|Ct.oV hd23<|Ct.lB q35<|Ct.QT hd38),k,(.inl hd38),by(try dsimp only);omega⟩,by(try dsimp only);omega⟩
 refine qc h (λhd39 w h=>?_) λhd39 w h=>?_
 have hg40:=eq_of_beq hd39
 refine go h λw h=>?_
 refine qc h (λhd41 w h=>?_) λhd41 w h=>?_
 have hg42:=eq_of_beq hd41
 refine go h λw h=>?_
 obtain rfl:=hpl.1
 refine dE (NH _ _ _ c _ _ _ _ ((SH.fz (h.to.fr (.c r1 .n))).fr (.c r1 .n)) (k.less (by omega)) hh (by omega) (by omega)) λy43 v44 q45 w h k=>?_
 obtain⟨z46,rfl⟩:=Ct.mB q45
 have lq45:=Ct.nY q45
 refine go h λw h=>?_
 exact rr (bP rfl rfl (h.b a5) Row.h)<|⟨_,v34.1,hq.trans<|Ct.lB q18<|Ct.Ds<|Ct.oV hd23<|Ct.lB q35<|Ct.Mv hd39<|Ct.Mv hd41<|Ct.lB q45<|Ct.rR,rfl,h.to,k⟩
 have hg47:=dP hd41
 refine go h λw h=>?_
 exact rr (bP rfl rfl (h.b a5) Row.h)<|⟨_,v34.1,hq.trans<|Ct.lB q18<|Ct.Ds<|Ct.oV hd23<|Ct.lB q35<|Ct.Mv hd39<|Ct.oV hd41<|Ct.rR,rfl,h.to,k⟩
 have hg48:=dP hd39
 refine go h λw h=>?_
 refine qc h (λhd49 w h=>?_) λhd49 w h=>?_
 have hg50:=eq_of_beq hd49
 refine go h λw h=>?_
 exact⟨(z36,n),⟨rfl,rfl,rfl,rfl,trivial⟩,⟨h.to,(hq.trans<|Ct.lB q18<|Ct.Ds<|Ct.oV hd23<|Ct.lB q35<|Ct.oV hd39<|Ct.Mv hd49<|rfl),k,(.inr (by have:=(ltq18.resolve_left (by rw[hd20];decide)).2;have:=ltq35;(try dsimp only);omega)),by(try dsimp only);omega⟩,by(try dsimp only);omega⟩
 have hg51:=dP hd49
 refine go h λw h=>?_
 refine cl (ca eF rfl) ((eH (Ct.aH c.key c.aI) l _ (by omega)).mono ?_)
 rintro _ _ ⟨rfl,rfl⟩
 refine⟨_,rfl,?_⟩
 refine st (mv rfl)<|?_
 refine go h λw h=>?_
 have kb52:=k
 refine dE (wO _ _ _ c _ _ _ _ h.to (k.less (by omega))) λy53 v54 q55 w h k=>?_
 obtain⟨z56,rfl⟩:=Ct.mB q55
 have lq55:=Ct.nY q55
 have ltq55:=Ct.lL (Ct.mW _ _ _ _ _) kb52 (by omega) q55
 refine go h λw h=>?_
 refine qc h (λhd57 w h=>?_) λhd57 w h=>?_
 have hg58:=eq_of_beq hd57
 refine go h λw h=>?_
 exact⟨(z56,n),⟨rfl,rfl,rfl,rfl,trivial⟩,⟨h.to,(hq.trans<|Ct.lB q18<|Ct.Ds<|Ct.oV hd23<|Ct.lB q35<|Ct.oV hd39<|Ct.oV hd49<|Ct.lB q55<|Ct.Mv hd57<|rfl),k,(.inr (by have:=(ltq18.resolve_left (by rw[hd20];decide)).2;have:=ltq35;have:=ltq55;(try dsimp only);omega)),by(try dsimp only);omega⟩,by(try dsimp only);omega⟩
 have hg59:=dP hd57
 refine go h λw h=>?_
 refine sf (bu [↑v54] h fR.h Ss.h rfl (by kernel_rfl) rfl (by decide) (by decide)) ?_
 rintro _ w ⟨b60,rfl,h⟩
 refine go h λw h=>?_
 refine sf (ap h fR.h rfl Ss.h rfl (by decide) rfl rfl (λ_=>u4) (h.ro a0) (by simp[Value.oneCell']) rfl (gI _ _) (by unfold maxLen;omega) (by omega)) ?_
 rintro _ w ⟨p61,c62,rfl,h⟩
 refine go h λw h=>?_
 refine st (ba (l+1))<|go h λw h=>?_
 exact⟨(z56,kk,path++[v54],v54,l+1,p61,m+1,c62),⟨rfl,rfl,rfl,rfl,rfl,rfl,rfl,rfl,trivial⟩,⟨h.to,(hq.trans<|Ct.lB q18<|Ct.Ds<|Ct.oV hd23<|Ct.lB q35<|Ct.oV hd39<|Ct.oV hd49<|Ct.lB q55<|Ct.oV hd57<|rfl),k,(.inr (by have:=(ltq18.resolve_left (by rw[hd20];decide)).2;have:=ltq35;have:=ltq55;(try dsimp only);omega)),(.inr (by have:=(ltq18.resolve_left (by rw[hd20];decide)).2;have:=ltq35;have:=ltq55;(try dsimp only);omega)),⟨by(try dsimp only);omega,by(try dsimp only);omega⟩,⟨by(try dsimp only);rw[cO,hpl.1];rfl,by(try dsimp only);omega⟩⟩,by(try dsimp only);omega⟩
 have hd63:(Ct.X.of c yi).e.aC=true:=by simpa using hd13
 refine go h λw h=>?_
 exact⟨(yi,n),⟨rfl,rfl,rfl,rfl,trivial⟩,⟨h.to,(hq.trans<|Ct.QT hd63),k,(.inl hd63),by(try dsimp only);omega⟩,by(try dsimp only);omega⟩
 have hd64:(Ct.X.of c y).e.aC=true:=by simpa using hd3
 refine go h λw h=>?_
 exact rr (bP rfl rfl (h.b a2) Row.h)<|⟨_,{},hq.trans<|Ct.rS hd64,rfl,h.to,(k.stop hd64)⟩
 refine jB h λb65 w h=>?_
 refine cs (ca eF rfl) ((pA c.key c.aI _ (by omega) (by omega)).mono ?_)
 rintro _ _ ⟨rfl,rfl⟩
 refine⟨_,rfl,(hC (h.at_ a2) hN),?_⟩
 refine ff (so h rfl rfl rfl Ba rfl (.r (.r .d)) u0)<|?_
 rintro _ w h
 refine⟨(hC (h.at_ a2) hN),?_⟩
 refine ef (sg rfl) ((hC (h.at_ a2) hN))<|xz<|nx<|sq<|bk<|?_
 refine go h λw h=>?_
 refine lp (α:=Ct.X×Nat) (λρ=>(.c 0 ↑xb (.c 2 ↑b1 (.c 3 ↑b65 (.c 4 (.int .u64 ((Ct.aH c.key c.aI:Nat):Int)) .n))))) (λρ w=>SH B w (XA xb mb (Ct.X.of c ρ.1)::bl b65 (cU c.aE) 35::bl b1 ([.int .i64 0,↑false,.int .u64 0,.string .empty,.int .i64 0,.int .i64 0,.int .i64 0,↑false]) 49::L)/\(Ct.aX (Ct.pE c F F) (Ct.X.of c x)=Ct.aX (Ct.pE c F ρ.2) (Ct.X.of c ρ.1))/\(Ct.Ok 60 (Ct.X.of c ρ.1))/\((Ct.X.of c ρ.1).e.aC=true\/(Ct.X.of c ρ.1).left<ρ.2)/\(ρ.2<=F)) (λρ=>ρ.2) (x,F) ⟨rfl,rfl,rfl,rfl,trivial⟩ ⟨h.to,rfl,k,(.inr (by(try dsimp only);omega)),JV _⟩ ?_
 rintro⟨y,n⟩ w ⟨h,hq,k,hn,hnF⟩
 dsimp only at *
 refine go h λw h=>?_
 refine st (ld (v:=.bool (Ct.X.of c y).e.aC) One.h rfl (h.xc a0 λ_=>rfl))<|go h λw h=>?_
 refine qc h (λhd66 w h=>?_) λhd66 w h=>?_
 have hd67:(Ct.X.of c y).e.aC=false:=by simpa using hd66
 refine go h λw h=>?_
 obtain⟨n,rfl⟩:∃k,n=k+1:=⟨n-1,by have:=hn.resolve_left (by rw[hd67];decide);omega⟩
 replace hn:=hn.resolve_left (by rw[hd67];decide)
 rw[Ct.zL]at hq
 refine go h λw h=>?_
 have kb68:=k
 refine dE (nV _ _ _ _ h.to (k.less (by omega))) λy69 v70 q71 w h k=>?_
 obtain⟨z72,rfl⟩:=Ct.mB q71
 have lq71:=Ct.nY q71
 have ltq71:=Ct.pY kb68 (by omega) q71
 refine go h λw h=>?_
 refine cG (aN _ _ _ _ h.to k.dR) λp73 w h=>?_
 have f74:=k.lN v70
 have bf74:=k.len
 refine go h λw h=>?_
 refine sf (bu [↑v70] h fR.h Ss.h rfl (by kernel_rfl) rfl (by decide) (by decide)) ?_
 rintro _ w ⟨b75,rfl,h⟩
 refine go h λw h=>?_
 refine lp (α:=Ct.X×Nat×List Int×Int×Int×Option Addr×Nat×Nat) (λρ=>(.c 0 ↑xb (.c 2 ↑b1 (.c 3 ↑b65 (.c 4 (.int .u64 ((Ct.aH c.key c.aI:Nat):Int)) (.c 5 (.int .i64 ρ.2.2.2.1) (.c 6 (.int .i64 ((Ct.X.of c z72).node v70).gen) (.c 7 (.slice ρ.2.2.2.2.2.1 ρ.2.2.2.2.2.2.1 ρ.2.2.2.2.2.2.2) (.c 8 (.int .i64 ρ.2.2.2.2.1) .n))))))))) (λρ w=>SH B w (XA xb mb (Ct.X.of c ρ.1)::aU 44 1 (.slice ρ.2.2.2.2.2.1 ρ.2.2.2.2.2.2.1 ρ.2.2.2.2.2.2.2) ρ.2.2.2.2.2.2.1 (ρ.2.2.1.map (Value.int .i64))::bl b65 (cU c.aE) 35::bl b1 ([.int .i64 0,↑false,.int .u64 0,.string .empty,.int .i64 0,.int .i64 0,.int .i64 0,↑false]) 49::L)/\(Ct.aX (Ct.pE c F F) (Ct.X.of c x)=Ct.aX ((Ct.sY c (Ct.aH c.key c.aI) ((Ct.X.of c z72).node v70).gen ρ.2.1 ρ.2.2.1 ρ.2.2.2.1 ρ.2.2.2.2.1).bind (Ct.OI c F n)) (Ct.X.of c ρ.1))/\(Ct.Ok 60 (Ct.X.of c ρ.1))/\((Ct.X.of c ρ.1).e.aC=true\/(Ct.X.of c ρ.1).left<ρ.2.1)/\((Ct.X.of c ρ.1).e.aC=true\/(Ct.X.of c ρ.1).left<n)/\(0<=ρ.2.2.2.2.1/\ρ.2.2.2.2.1+(ρ.2.1:Int)<=(F:Int))/\(ρ.2.2.1.length=ρ.2.2.2.2.2.2.1/\(ρ.2.2.2.2.2.2.1:Int)=ρ.2.2.2.2.1+1)) (λρ=>ρ.2.1) (z72,F,[v70],v70,0,some ⟨b75,0,none⟩,1,1) ⟨rfl,rfl,rfl,rfl,rfl,rfl,rfl,rfl,trivial⟩ ⟨(h.to.fr (.c r1 (.c r0 (.c r0 (.c r0 .n))))),(hq.trans<|Ct.rB q71<|Ct.rN<|rfl),k,(ltq71.imp id λh=>by have:=h.2;(try dsimp only);omega),(ltq71.imp id λh=>by have:=h.2;(try dsimp only);omega),⟨by(try dsimp only);omega,by(try dsimp only);omega⟩,⟨rfl,by(try dsimp only);omega⟩⟩ ?_
 rintro⟨yi,kk,path,i,l,p,m,cp⟩ w ⟨h,hq,k,hn,ho,hl,hpl⟩
 dsimp only at *
 refine go h λw h=>?_
 refine st (ld (v:=.bool (Ct.X.of c yi).e.aC) One.h rfl (h.xc a0 λ_=>rfl))<|go h λw h=>?_
 refine qc h (λhd76 w h=>?_) λhd76 w h=>?_
 have hd77:(Ct.X.of c yi).e.aC=false:=by simpa using hd76
 refine go h λw h=>?_
 obtain⟨kk,rfl⟩:∃k,kk=k+1:=⟨kk-1,by have:=hn.resolve_left (by rw[hd77];decide);omega⟩
 replace hn:=hn.resolve_left (by rw[hd77];decide)
 replace ho:=ho.resolve_left (by rw[hd77];decide)
 refine go h λw h=>?_
 have kb78:=k
 refine dE (hU _ _ _ _ _ h.to (k.less (by omega))) λy79 v80 q81 w h k=>?_
 obtain⟨z82,rfl⟩:=Ct.mB q81
 have lq81:=Ct.nY q81
 have ltq81:=Ct.oK kb78 q81
 refine go h λw h=>?_
 refine st (ld (v:=.bool (Ct.X.of c z82).e.aC) One.h rfl (h.xc a0 λ_=>rfl))<|go h λw h=>?_
 refine qc h (λhd83 w h=>?_) λhd83 w h=>?_
 exact⟨(z82,n),⟨rfl,rfl,rfl,rfl,trivial⟩,⟨h.to,(hq.trans<|Ct.lB q81<|Ct.QT hd83),k,(.inl hd83),by(try dsimp only);omega⟩,by(try dsimp only);omega⟩
 refine cG (aN _ _ _ _ h.to k.dR) λp84 w h=>?_
 have f85:=k.lN v80
 have bf85:=k.len
 refine go h λw h=>?_
 refine qc h (λhd86 w h=>?_) λhd86 w h=>?_
 have hg87:=eq_of_beq hd86
 refine go h λw h=>?_
 obtain⟨b88,rfl⟩:=h.fp a2 (by omega)
 refine dZ [1,3,5,7,9,11,13,15,17,19,21,23,24] (by kernel_rfl) h (.c r3 (.c r2 .n)) λw h=>go h λw h=>?_
 refine tk (λW H=>bw rfl rfl (zW (c:=l-1) (by omega) (by omega) (by omega)))<|tk (λW H=>mx rfl rfl (by omega))<|tk (λW H=>ix (j:=(l-1).toNat) jG Bh rfl rfl (by omega))<|?_
 refine tk (λW H=>ld iO rfl ((H.ro a1).i (by omega)))<|tk (λW H=>mv rfl)<|tk (λW H=>mv rfl)<|tk (λW H=>mv rfl)<|?_
 refine go h λw h=>?_
 refine tk (λW H=>bs (l-1))<|go h λw h=>?_
 have kb89:=k
 refine mF (rI _ _ _ _ _ _ _ _ h.to (k.less (by omega)) hh) λy90 v91 q92 w h k=>?_
 obtain⟨z93,rfl⟩:=Ct.mB q92
 have lq92:=Ct.nY q92
 have ltq92:=Ct.lL (Ct.jW _ _ _ _ _) kb89 (by omega) q92
 refine go h λw h=>?_
 exact⟨(z93,n),⟨rfl,rfl,rfl,rfl,trivial⟩,⟨h.to,(hq.trans<|Ct.lB q81<|Ct.Ds<|Ct.Mv hd86<|Ct.lB q92<|rfl),k,(.inr (by have:=(ltq81.resolve_left (by rw[hd83];decide)).2;have:=ltq92;(try dsimp only);omega)),by(try dsimp only);omega⟩,by(try dsimp only);omega⟩
 have hg94:=dP hd86
 refine go h λw h=>?_
 have kb95:=k
 refine dE (Aq _ _ _ c _ _ _ _ h.to (k.less (by omega)) hh) λy96 v97 q98 w h k=>?_
 obtain⟨z99,rfl⟩:=Ct.mB q98
 have lq98:=Ct.nY q98
 have ltq98:=Ct.lL (Ct.qM c _ _ _ _) kb95 (by omega) q98
 refine go h λw h=>?_
 refine jA h λb100 w h=>?_
 refine st (ld (v:=.bool (Ct.X.of c z99).e.aC) One.h rfl (h.xc a1 λ_=>rfl))<|go h λw h=>?_
 refine qc h (λhd101 w h=>?_) λhd101 w h=>?_
 exact⟨(z99,n),⟨rfl,rfl,rfl,rfl,trivial⟩,⟨h.to,(hq.trans<|Ct.lB q81<|Ct.Ds<|Ct.oV hd86<|Ct.lB q98<|Ct.QT hd101),k,(.inl hd101),by(try dsimp only);omega⟩,by(try dsimp only);omega⟩
 refine qc h (λhd102 w h=>?_) λhd102 w h=>?_
 have hg103:=eq_of_beq hd102
 refine go h λw h=>?_
 refine qc h (λhd104 w h=>?_) λhd104 w h=>?_
 have hg105:=eq_of_beq hd104
 refine go h λw h=>?_
 obtain rfl:=hpl.1
 refine dE (NH _ _ _ c _ _ _ _ ((SH.fz (h.to.fr (.c r1 .n))).fr (.c r1 .n)) (k.less (by omega)) hh (by omega) (by omega)) λy106 v107 q108 w h k=>?_
 obtain⟨z109,rfl⟩:=Ct.mB q108
 have lq108:=Ct.nY q108
 refine go h λw h=>?_
 exact rr (bP rfl rfl (h.b a5) Row.h)<|⟨_,v97.1,hq.trans<|Ct.lB q81<|Ct.Ds<|Ct.oV hd86<|Ct.lB q98<|Ct.Mv hd102<|Ct.Mv hd104<|Ct.lB q108<|Ct.rR,rfl,h.to,k⟩
 have hg110:=dP hd104
 refine go h λw h=>?_
 exact rr (bP rfl rfl (h.b a5) Row.h)<|⟨_,v97.1,hq.trans<|Ct.lB q81<|Ct.Ds<|Ct.oV hd86<|Ct.lB q98<|Ct.Mv hd102<|Ct.oV hd104<|Ct.rR,rfl,h.to,k⟩
 have hg111:=dP hd102
 refine go h λw h=>?_
 refine qc h (λhd112 w h=>?_) λhd112 w h=>?_
 have hg113:=eq_of_beq hd112
 refine go h λw h=>?_
 exact⟨(z99,n),⟨rfl,rfl,rfl,rfl,trivial⟩,⟨h.to,(hq.trans<|Ct.lB q81<|Ct.Ds<|Ct.oV hd86<|Ct.lB q98<|Ct.oV hd102<|Ct.Mv hd112<|rfl),k,(.inr (by have:=(ltq81.resolve_left (by rw[hd83];decide)).2;have:=ltq98;(try dsimp only);omega)),by(try dsimp only);omega⟩,by(try dsimp only);omega⟩
 have hg114:=dP hd112
 refine go h λw h=>?_
 refine cl (ca eF rfl) ((eH (Ct.aH c.key c.aI) l _ (by omega)).mono ?_)
 rintro _ _ ⟨rfl,rfl⟩
 refine⟨_,rfl,?_⟩
 refine st (mv rfl)<|?_
 refine go h λw h=>?_
 have kb115:=k
 refine dE (wO _ _ _ c _ _ _ _ h.to (k.less (by omega))) λy116 v117 q118 w h k=>?_
 obtain⟨z119,rfl⟩:=Ct.mB q118
 have lq118:=Ct.nY q118
 have ltq118:=Ct.lL (Ct.mW _ _ _ _ _) kb115 (by omega) q118
 refine go h λw h=>?_
 refine qc h (λhd120 w h=>?_) λhd120 w h=>?_
 have hg121:=eq_of_beq hd120
 refine go h λw h=>?_
 exact⟨(z119,n),⟨rfl,rfl,rfl,rfl,trivial⟩,⟨h.to,(hq.trans<|Ct.lB q81<|Ct.Ds<|Ct.oV hd86<|Ct.lB q98<|Ct.oV hd102<|Ct.oV hd112<|Ct.lB q118<|Ct.Mv hd120<|rfl),k,(.inr (by have:=(ltq81.resolve_left (by rw[hd83];decide)).2;have:=ltq98;have:=ltq118;(try dsimp only);omega)),by(try dsimp only);omega⟩,by(try dsimp only);omega⟩
 have hg122:=dP hd120
 refine go h λw h=>?_
 refine sf (bu [↑v117] h fR.h Ss.h rfl (by kernel_rfl) rfl (by decide) (by decide)) ?_
 rintro _ w ⟨b123,rfl,h⟩
 refine go h λw h=>?_
 refine sf (ap h fR.h rfl Ss.h rfl (by decide) rfl rfl (λ_=>u4) (h.ro a0) (by simp[Value.oneCell']) rfl (gI _ _) (by unfold maxLen;omega) (by omega)) ?_
 rintro _ w ⟨p124,c125,rfl,h⟩
 refine go h λw h=>?_
 refine st (ba (l+1))<|go h λw h=>?_
 exact⟨(z119,kk,path++[v117],v117,l+1,p124,m+1,c125),⟨rfl,rfl,rfl,rfl,rfl,rfl,rfl,rfl,trivial⟩,⟨h.to,(hq.trans<|Ct.lB q81<|Ct.Ds<|Ct.oV hd86<|Ct.lB q98<|Ct.oV hd102<|Ct.oV hd112<|Ct.lB q118<|Ct.oV hd120<|rfl),k,(.inr (by have:=(ltq81.resolve_left (by rw[hd83];decide)).2;have:=ltq98;have:=ltq118;(try dsimp only);omega)),(.inr (by have:=(ltq81.resolve_left (by rw[hd83];decide)).2;have:=ltq98;have:=ltq118;(try dsimp only);omega)),⟨by(try dsimp only);omega,by(try dsimp only);omega⟩,⟨by(try dsimp only);rw[cO,hpl.1];rfl,by(try dsimp only);omega⟩⟩,by(try dsimp only);omega⟩
 have hd126:(Ct.X.of c yi).e.aC=true:=by simpa using hd76
 refine go h λw h=>?_
 exact⟨(yi,n),⟨rfl,rfl,rfl,rfl,trivial⟩,⟨h.to,(hq.trans<|Ct.QT hd126),k,(.inl hd126),by(try dsimp only);omega⟩,by(try dsimp only);omega⟩
 have hd127:(Ct.X.of c y).e.aC=true:=by simpa using hd66
 refine go h λw h=>?_
 exact rr (bP rfl rfl (h.b a2) Row.h)<|⟨_,{},hq.trans<|Ct.rS hd127,rfl,h.to,(k.stop hd127)⟩
end Go.Q9
end
