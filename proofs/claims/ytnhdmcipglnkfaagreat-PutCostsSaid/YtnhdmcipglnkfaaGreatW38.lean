/- Parts of a proof: Q5. -/
import Derived.Test.YtnhdmcipglnkfaaGreatW37
set_option linter.unusedVariables false
set_option linter.unusedSimpArgs false
set_option maxRecDepth 100000
set_option maxHeartbeats 4000000
section
namespace Go.Q9
open Go.Proofs.Tryz
open Go.RowKit Go.E Go.Ct
attribute [local irreducible] gA wpS Go.E.X XS C kV lL fin Y U F Ca kU bl rb aV bS ex ce pu sK gK bK zK
variable{B w:World}{L:List As}
theorem CE(xb mb:Nat)(x:Ct.X)(c:Ct.Call)(i m:Int)(ha:Nat)(lv:Int)(h:SH B w (XA xb mb (Ct.X.of c x)::L))(k:Ct.Ok 60 (Ct.X.of c x))(hh:ha<18446744073709551616):
  Calls prog 194 #[↑xb,↑i,↑m,.int .u64 (ha:Int),↑lv] w λe w'=>∃y v,Ct.bC (Ct.nG c i m ha lv) (Ct.X.of c x)=Ct.out y v/\e=.returned (.tuple #[.agg (Bn v.1).toArray,.int .i64 v.2])/\SH B w' (XA xb mb y::L)/\Ct.Ok 60 y:=by
 have hlen:=k.len
 refine cN func194 ntmps194 h λw h=>?_
 refine sf (al h Wb)<|?_
 rintro _ w ⟨b1,rfl,h⟩
 refine st (sg rfl)<|xe<|nx<|?_
 refine sm (λe w=>∃b4:Nat,∃p2:Lq,Sub 173 e (.c 0 ↑xb (.c 1 ↑i (.c 2 ↑m (.c 3 (.int .u64 (ha:Int)) (.c 4 ↑lv (.c 10 ↑b1 (.c 12 ↑b4 (.c 13 (.string c.key) .n))))))))/\SH B w (bl b4 (aK ((Ct.X.of c x).node m) p2) 53::aL ((Ct.X.of c x).node m) p2::XA xb mb (Ct.X.of c x)::bl b1 ([.int .i64 0,↑false,.int .u64 0,.string .empty,.int .i64 0,.int .i64 0,.int .i64 0,↑false]) 49::L)) ?_ ?_
 refine drB (F:=[XA xb mb (Ct.X.of c x)]) [1,3,7,9,11,13,15] 2 8 [16,18,20] [4,18,20] (by kernel_rfl) h (λw h=>(hC (h.at_ a1) hN)) λw h=>go h λw h=>?_
 refine tk (λW H=>ld (v:=.string c.key) One.h rfl (H.xc a0 λ_=>rfl))<|go h λw h=>?_
 refine W3 ?_ ?_
 refine nP (aQ _ _ _ _ h.to k.eY) λp2 w h=>?_
 have f3:=k.qJ m
 have bf3:=k.len
 refine go h λw h=>?_
 refine jB h λb4 w h=>?_
 exact⟨b4,p2,⟨rfl,rfl,rfl,rfl,rfl,rfl,rfl,rfl,trivial⟩,h⟩
 refine jB h λb5 w h=>?_
 refine nP (aQ _ _ _ _ h.to k.eY) λp6 w h=>?_
 have f7:=k.qJ m
 have bf7:=k.len
 refine go h λw h=>?_
 exact⟨b5,p6,⟨rfl,rfl,rfl,rfl,rfl,rfl,rfl,rfl,trivial⟩,h.to⟩
 rintro e w ⟨b4,p2,hE,h⟩
 refine C.sub hE ?_
 clear hE e
 have f3:=k.qJ m
 have bf3:=k.len
 refine go h λw h=>?_
 refine qc h (λfG w h=>?_) λfG w h=>?_
 have CY:=eq_of_beq fG
 refine go h λw h=>?_
 have h:=h.fr (.c r1 .n)
 have h:=SH.se (l:=[bE ((Ct.X.of c x).node m) p2,cP ((Ct.X.of c x).node m) p2]) h
 have KW:=(Ct.iW (((Ct.Node.Fit.nf f3 (by omega))).v6 (eq_of_beq fG))).pJ (eq_of_beq fG)
 have hpl:=((Ct.Node.Fit.nf f3 (by omega))).pr
 refine go h λw h=>?_
 refine bQ (Bb _ _ _ _ h.to KW (by omega)) λw h=>?_
 have h:=SH.is (l:=[bE ((Ct.X.of c x).node m) p2,cP ((Ct.X.of c x).node m) p2]) (h.fr (.c r1 (.c r0 .n)))
 refine go h λw h=>?_
 refine qg h (λdG w h=>?_) λdG w h=>?_
 have iT:(Ct.bN ((Ct.X.of c x).node m).aH c.key).2=false:=(gZ _).mp dG
 refine go h λw h=>?_
 refine bQ (fJ _ _ h.to) λw h=>?_
 exact rr (dS rfl rfl (h.b a3) Row.h rfl)<|⟨_,(Ct.dN (Ct.bN ((Ct.X.of c x).node m).aH c.key).2 (Ct.bN ((Ct.X.of c x).node m).aH c.key).1,1),Ct.rN<|Ct.rT fG<|Ct.US iT<|Ct.rR,rfl,h.to,k⟩
 have fO:(Ct.bN ((Ct.X.of c x).node m).aH c.key).2=true:=(hU _).mp dG
 refine go h λw h=>?_
 refine st (ld (v:=.bool c.only) One.h rfl (h.xc a2 λ_=>rfl))<|go h λw h=>?_
 refine qg h (λeJ w h=>?_) λeJ w h=>?_
 refine st (ld (v:=.int .u64 (c.expect:Int)) One.h rfl (h.xc a2 λ_=>rfl))<|go h λw h=>?_
 refine qc h (λgD w h=>?_) λgD w h=>?_
 have JS:=bne_iff_ne.1 gD
 refine go h λw h=>?_
 refine bQ (fJ _ _ h.to) λw h=>?_
 exact rr (dS rfl rfl (h.b a3) Row.h rfl)<|⟨_,(Ct.dN (Ct.bN ((Ct.X.of c x).node m).aH c.key).2 (Ct.bN ((Ct.X.of c x).node m).aH c.key).1,1),Ct.rN<|Ct.rT fG<|Ct.Nn fO<|Ct.rT (by rw[eJ,<- Ct.CN];exact gD)<|Ct.rR,rfl,h.to,k⟩
 have JW:=eT gD
 refine go h λw h=>?_
 refine cS (Ky _ _ _ _ _ _ h.to (Ct.Node.Fit.nf f3 (by omega)) (Ct.Np fG (((Ct.Node.Fit.nf f3 (by omega))).v6 (eq_of_beq fG)))) λVr w h=>?_
 refine jA h λb18 w h=>?_
 refine drC (F:=[ce xb 2 (.int .i64 c.aF.root),ce xb 3 (.bool c.aF.readOnly),bl b18 (aK (Ct.jH ((Ct.X.of c x).node m) c.key).1 Vr) 53]) [1,3,5,7,9,11,13,15,17,19,21,23,29,24,26,30,33,35,36,38] (by kernel_rfl) h (λw h=>(hC (h.kX a4 λ_=>rfl) (hC (h.kX a4 λ_=>rfl) (hC (h.at_ a0) hN)))) λw h=>go h λw h=>?_
 refine tk (λW H=>kB (cs:=dV c.aF) rfl (vI (H.ce a0) (H.ce a1)) Row.h)<|go h λw h=>?_
 refine cs (ca eF rfl) ((fA (j:=59) xb mb (Ct.X.of c x) (Ct.jH ((Ct.X.of c x).node m) c.key).1 Vr m ((SH.Wr (h.fr (.c r1 (.c r3 .n))) .z).fr (.c r0 (.c r1 .n))) (k.less (by omega)) ((Ct.xJ f3 c.key).mono (by omega))).mono ?_)
 rintro _ w ⟨y19,v20,ZF,rfl,h,k,aUd⟩
 obtain⟨z22,rfl⟩:=Ct.IQ ZF
 have aQk:=Ct.AX ZF
 refine⟨_,rfl,(hC (h.kX a0 λ_=>rfl) (hC (h.kX a0 λ_=>rfl) (hC (h.at_ a2) hN))),?_⟩
 refine go h λw h=>?_
 refine cs (ca eF rfl) ((lH xb mb (Ct.X.of c z22) c.aF i m v20 (h.fr (.c r0 .n)) (k.less (by omega))).mono ?_)
 rintro _ w ⟨y23,v24,ZL,rfl,h,k⟩
 obtain⟨z26,rfl⟩:=Ct.uG ZL
 have aQ0:=Ct.uA ZL
 refine⟨_,rfl,(hC (h.kX a0 λ_=>rfl) (hC (h.kX a0 λ_=>rfl) (hC (h.at_ a2) hN))),?_⟩
 refine go h λw h=>?_
 refine cs (ca eF rfl) ((iQ _ v24 true (Ct.bN ((Ct.X.of c x).node m).aH c.key).1 (h.fr .n)).mono ?_)
 rintro _ w ⟨rfl,h⟩
 refine⟨_,rfl,(hC (h.kX a0 λ_=>rfl) (hC (h.kX a0 λ_=>rfl) (hC (h.at_ a2) hN))),?_⟩
 refine tk (λW H=>xr rfl rfl)<|tk (λW H=>xr rfl rfl)<|?_
 refine ff (so h rfl rfl rfl vZ rfl (.r (.r (.r (.r (.r (.r (.r (.r .d)))))))) u5)<|?_
 rintro _ w h
 refine⟨(hC (h.kX a0 λ_=>rfl) (hC (h.kX a0 λ_=>rfl) (hC (h.at_ a2) hN))),?_⟩
 refine ef (sg rfl) ((hC (h.kX a0 λ_=>rfl) (hC (h.kX a0 λ_=>rfl) (hC (h.at_ a2) hN))))<|xz<|nx<|rt<|tr<|?_
 refine go h λw h=>?_
 exact rr (dS rfl rfl (h.b a5) Row.h rfl)<|⟨_,(Ct.dL true (Ct.bN ((Ct.X.of c x).node m).aH c.key).1,(bif v24 then 1 else 0)),Ct.rN<|Ct.rT fG<|Ct.Nn fO<|Ct.rF (by rw[eJ,<- Ct.CN];exact gD)<|Ct.rA ZF<|Ct.rB ZL<|Ct.rR,rfl,h.to,k⟩
 refine cS (Ky _ _ _ _ _ _ h.to (Ct.Node.Fit.nf f3 (by omega)) (Ct.Np fG (((Ct.Node.Fit.nf f3 (by omega))).v6 (eq_of_beq fG)))) λUB w h=>?_
 refine jA h λP7 w h=>?_
 refine drC (F:=[ce xb 2 (.int .i64 c.aF.root),ce xb 3 (.bool c.aF.readOnly),bl P7 (aK (Ct.jH ((Ct.X.of c x).node m) c.key).1 UB) 53]) [1,3,5,7,9,11,13,15,17,19,21,23,29,24,26,30,33,35,36,38] (by kernel_rfl) h (λw h=>(hC (h.kX a4 λ_=>rfl) (hC (h.kX a4 λ_=>rfl) (hC (h.at_ a0) hN)))) λw h=>go h λw h=>?_
 refine tk (λW H=>kB (cs:=dV c.aF) rfl (vI (H.ce a0) (H.ce a1)) Row.h)<|go h λw h=>?_
 refine cs (ca eF rfl) ((fA (j:=59) xb mb (Ct.X.of c x) (Ct.jH ((Ct.X.of c x).node m) c.key).1 UB m ((SH.Wr (h.fr (.c r1 (.c r3 .n))) .z).fr (.c r0 (.c r1 .n))) (k.less (by omega)) ((Ct.xJ f3 c.key).mono (by omega))).mono ?_)
 rintro _ w ⟨y29,v30,R7,rfl,h,k,aVb⟩
 obtain⟨z32,rfl⟩:=Ct.IQ R7
 have aP4:=Ct.AX R7
 refine⟨_,rfl,(hC (h.kX a0 λ_=>rfl) (hC (h.kX a0 λ_=>rfl) (hC (h.at_ a2) hN))),?_⟩
 refine go h λw h=>?_
 refine cs (ca eF rfl) ((lH xb mb (Ct.X.of c z32) c.aF i m v30 (h.fr (.c r0 .n)) (k.less (by omega))).mono ?_)
 rintro _ w ⟨y33,v34,q35,rfl,h,k⟩
 obtain⟨z36,rfl⟩:=Ct.uG q35
 have bAv:=Ct.uA q35
 refine⟨_,rfl,(hC (h.kX a0 λ_=>rfl) (hC (h.kX a0 λ_=>rfl) (hC (h.at_ a2) hN))),?_⟩
 refine go h λw h=>?_
 refine cs (ca eF rfl) ((iQ _ v34 true (Ct.bN ((Ct.X.of c x).node m).aH c.key).1 (h.fr .n)).mono ?_)
 rintro _ w ⟨rfl,h⟩
 refine⟨_,rfl,(hC (h.kX a0 λ_=>rfl) (hC (h.kX a0 λ_=>rfl) (hC (h.at_ a2) hN))),?_⟩
 refine tk (λW H=>xr rfl rfl)<|tk (λW H=>xr rfl rfl)<|?_
 refine ff (so h rfl rfl rfl vZ rfl (.r (.r (.r (.r (.r (.r (.r (.r .d)))))))) u5)<|?_
 rintro _ w h
 refine⟨(hC (h.kX a0 λ_=>rfl) (hC (h.kX a0 λ_=>rfl) (hC (h.at_ a2) hN))),?_⟩
 refine ef (sg rfl) ((hC (h.kX a0 λ_=>rfl) (hC (h.kX a0 λ_=>rfl) (hC (h.at_ a2) hN))))<|xz<|nx<|rt<|tr<|?_
 refine go h λw h=>?_
 exact rr (dS rfl rfl (h.b a5) Row.h rfl)<|⟨_,(Ct.dL true (Ct.bN ((Ct.X.of c x).node m).aH c.key).1,(bif v34 then 1 else 0)),Ct.rN<|Ct.rT fG<|Ct.Nn fO<|Ct.rF (by rw[eJ];rfl)<|Ct.rA R7<|Ct.rB q35<|Ct.rR,rfl,h.to,k⟩
 have aOy:=bM fG
 refine go h λw h=>?_
 refine cl (ca eF rfl) ((iV ha lv _ (by omega)).mono ?_)
 rintro _ _ ⟨rfl,rfl⟩
 refine⟨_,rfl,?_⟩
 refine st (sg rfl)<|xe<|nx<|sq<|rg<|st (kB rfl (eH (h.b a0)) iK)<|st (mv rfl)<|?_
 refine go h λw h=>?_
 refine bQ (iO _ _ _ _ _ _ h.to (Ct.Node.Fit.nf f3 (by omega))) λw h=>?_
 refine cS (aQ _ _ _ _ h.to k.eY) λp38 w h=>?_
 have f39:=k.qJ (Ct.aB ((Ct.X.of c x).node m) (Ct.slice ha lv)).1
 have bEi:=k.len
 refine go h λw h=>?_
 refine jA h λb40 w h=>?_
 refine qg h (λsQ w h=>?_) λsQ w h=>?_
 refine qc h (λHt w h=>?_) λHt w h=>?_
 have aFs:=eq_of_beq Ht
 refine go h λw h=>?_
 exact rr (dS rfl rfl (h.b a5) Row.h rfl)<|⟨_,({},2),Ct.rN<|Ct.rF fG<|Ct.rN<|Ct.rT (by rw[sQ,Ht];rfl)<|Ct.rR,rfl,h.to,k⟩
 have bBn:=bM Ht
 refine go h λw h=>?_
 refine qc h (λK7 w h=>?_) λK7 w h=>?_
 refine bQ (fJ _ _ h.to) λw h=>?_
 exact rr (dS rfl rfl (h.b a5) Row.h rfl)<|⟨_,(Ct.dN false 0,1),Ct.rN<|Ct.rF fG<|Ct.rN<|Ct.rF (by rw[sQ,Ht];rfl)<|Ct.Nn sQ<|Ct.rT K7<|Ct.rR,rfl,h.to,k⟩
 rcases dQ c.only with JR|JR<;>refine go h λw h=>?_
 refine fD [1,3,5,7,9,11,13,15,17,19,21,23,25,27,29,30] (by kernel_rfl) h (.c r2 (.c r0 .n)) λw h=>go h λw h=>?_
 refine tk (λW H=>ld (v:=.bool c.only) One.h rfl (H.xc a0 λ_=>rfl))<|go h λw h=>?_
 refine tk (λW H=>ld (v:=.int .u64 (c.expect:Int)) One.h rfl (H.xc a0 λ_=>rfl))<|go h λw h=>?_
 refine qc h (λQB w h=>?_) λQB w h=>?_
 have aPy:=bne_iff_ne.1 QB
 refine go h λw h=>?_
 refine bQ (fJ _ _ h.to) λw h=>?_
 exact rr (dS rfl rfl (h.b a5) Row.h rfl)<|⟨_,(Ct.dN true ((Ct.X.of c x).node (Ct.aB ((Ct.X.of c x).node m) (Ct.slice ha lv)).1).value,1),Ct.rN<|Ct.rF fG<|Ct.rN<|Ct.rF (by rw[sQ,Ht];rfl)<|Ct.Nn sQ<|Ct.rF K7<|Ct.rT (by rw[JR,<- Ct.CN];exact QB)<|Ct.rR,rfl,h.to,k⟩
 have aKi:=eT QB
 refine go h λw h=>?_
 refine cS (Hj _ _ _ h.to (Ct.Node.Fit.nf f3 (by omega))) λq50 w h=>?_
 refine jA h λb51 w h=>?_
 refine bQ (Iq _ _ _ _ _ h.to (Ct.Node.Fit.nf (Ct.mQ f3 (Ct.slice ha lv)) (by omega))) λw h=>?_
 refine drC (F:=[ce xb 2 (.int .i64 c.aF.root),ce xb 3 (.bool c.aF.readOnly),bl b51 (aK (Ct.cG ((Ct.X.of c x).node m) (Ct.slice ha lv)).1 q50) 53,bl b40 (aK ((Ct.X.of c x).node (Ct.aB ((Ct.X.of c x).node m) (Ct.slice ha lv)).1) p38) 53]) [1,3,5,7,9,11,13,15,17,19,21,23,25,27,33,39,41,28,30,34,36,42,45,47,48,50] (by kernel_rfl) h (λw h=>(hC (h.kX a5 λ_=>rfl) (hC (h.kX a5 λ_=>rfl) (hC (h.at_ a1) (hC (h.at_ a3) hN))))) λw h=>go h λw h=>?_
 refine tk (λW H=>kB (cs:=dV c.aF) rfl (vI (H.ce a0) (H.ce a1)) Row.h)<|go h λw h=>?_
 refine cs (ca eF rfl) ((aQ xb mb (Ct.X.of c x) (Ct.iP (Ct.cG ((Ct.X.of c x).node m) (Ct.slice ha lv)).1).1 (h.fr (.c r5 .n)) k.eY).mono ?_)
 rintro _ w ⟨p52,rfl,h⟩
 have f53:=k.qJ (Ct.iP (Ct.cG ((Ct.X.of c x).node m) (Ct.slice ha lv)).1).1
 have bCj:=k.len
 refine⟨_,rfl,(hC (h.kX a1 λ_=>rfl) (hC (h.kX a1 λ_=>rfl) (hC (h.at_ a3) (hC (h.at_ a5) hN)))),?_⟩
 refine go h λw h=>?_
 refine cs (ca eF rfl) ((rX (Ct.cG ((Ct.X.of c x).node m) (Ct.slice ha lv)).1 q50 lv ((Ct.X.of c x).node (Ct.iP (Ct.cG ((Ct.X.of c x).node m) (Ct.slice ha lv)).1).1) p52 (h.fr (.c r2 (.c r0 .n))) (Ct.Node.Fit.nf (Ct.mQ f3 (Ct.slice ha lv)) (by omega))).mono ?_)
 rintro _ w ⟨q54,rfl,h⟩
 refine⟨_,rfl,(hC (h.kX a3 λ_=>rfl) (hC (h.kX a3 λ_=>rfl) (hC (h.at_ a4) (hC (h.at_ a6) hN)))),?_⟩
 refine go h λw h=>?_
 refine cs (ca eF rfl) ((fA (j:=59) xb mb (Ct.X.of c x) (Ct.bI (Ct.cG ((Ct.X.of c x).node m) (Ct.slice ha lv)).1 lv ((Ct.X.of c x).node (Ct.iP (Ct.cG ((Ct.X.of c x).node m) (Ct.slice ha lv)).1).1)) q54 m ((SH.Wr (h.fr (.c r0 (.c r2 .n))) .z).fr (.c r0 (.c r1 .n))) (k.less (by omega)) (Ct.iU ((Ct.mQ f3 (Ct.slice ha lv)).mono (by omega)) (f53.mono (by omega)) lv)).mono ?_)
 rintro _ w ⟨y55,v56,q57,rfl,h,k,aTy⟩
 obtain⟨z58,rfl⟩:=Ct.IQ q57
 have bAp:=Ct.AX q57
 refine⟨_,rfl,(hC (h.kX a0 λ_=>rfl) (hC (h.kX a0 λ_=>rfl) (hC (h.at_ a4) (hC (h.at_ a6) hN)))),?_⟩
 refine go h λw h=>?_
 refine cs (ca eF rfl) ((lH xb mb (Ct.X.of c z58) c.aF i m v56 (h.fr (.c r0 .n)) (k.less (by omega))).mono ?_)
 rintro _ w ⟨y59,v60,q61,rfl,h,k⟩
 obtain⟨z62,rfl⟩:=Ct.uG q61
 have bCc:=Ct.uA q61
 refine⟨_,rfl,(hC (h.kX a0 λ_=>rfl) (hC (h.kX a0 λ_=>rfl) (hC (h.at_ a4) (hC (h.at_ a6) hN)))),?_⟩
 refine go h λw h=>?_
 refine cs (ca eF rfl) ((iQ _ v60 true ((Ct.X.of c x).node (Ct.aB ((Ct.X.of c x).node m) (Ct.slice ha lv)).1).value (h.fr .n)).mono ?_)
 rintro _ w ⟨rfl,h⟩
 refine⟨_,rfl,(hC (h.kX a0 λ_=>rfl) (hC (h.kX a0 λ_=>rfl) (hC (h.at_ a4) (hC (h.at_ a6) hN)))),?_⟩
 refine tk (λW H=>xr rfl rfl)<|tk (λW H=>xr rfl rfl)<|?_
 refine ff (so h rfl rfl rfl vZ rfl (.r (.r (.r (.r (.r (.r (.r (.r .d)))))))) u9)<|?_
 rintro _ w h
 refine⟨(hC (h.kX a0 λ_=>rfl) (hC (h.kX a0 λ_=>rfl) (hC (h.at_ a4) (hC (h.at_ a6) hN)))),?_⟩
 refine ef (sg rfl) ((hC (h.kX a0 λ_=>rfl) (hC (h.kX a0 λ_=>rfl) (hC (h.at_ a4) (hC (h.at_ a6) hN)))))<|xz<|nx<|rt<|?_
 refine go h λw h=>?_
 exact rr (dS rfl rfl (h.b a9) Row.h rfl)<|⟨_,(Ct.dL true ((Ct.X.of c x).node (Ct.aB ((Ct.X.of c x).node m) (Ct.slice ha lv)).1).value,(bif v60 then 1 else 0)),Ct.rN<|Ct.rF fG<|Ct.rN<|Ct.rF (by rw[sQ,Ht];rfl)<|Ct.Nn sQ<|Ct.rF K7<|Ct.rF (by rw[JR,<- Ct.CN];exact QB)<|Ct.rN<|Ct.rA q57<|Ct.rB q61<|Ct.rR,rfl,h.to,k⟩
 refine fD [1,3,5,7,9,11,13,15,17,19,21,23,25,27,29,30] (by kernel_rfl) h (.c r2 .n) λw h=>go h λw h=>?_
 refine tk (λW H=>ld (v:=.bool c.only) One.h rfl (H.xc a0 λ_=>rfl))<|go h λw h=>?_
 refine cS (Hj _ _ _ h.to (Ct.Node.Fit.nf f3 (by omega))) λq63 w h=>?_
 refine jA h λb64 w h=>?_
 refine bQ (Iq _ _ _ _ _ h.to (Ct.Node.Fit.nf (Ct.mQ f3 (Ct.slice ha lv)) (by omega))) λw h=>?_
 refine drC (F:=[ce xb 2 (.int .i64 c.aF.root),ce xb 3 (.bool c.aF.readOnly),bl b64 (aK (Ct.cG ((Ct.X.of c x).node m) (Ct.slice ha lv)).1 q63) 53,bl b40 (aK ((Ct.X.of c x).node (Ct.aB ((Ct.X.of c x).node m) (Ct.slice ha lv)).1) p38) 53]) [1,3,5,7,9,11,13,15,17,19,21,23,25,27,33,39,41,28,30,34,36,42,45,47,48,50] (by kernel_rfl) h (λw h=>(hC (h.kX a5 λ_=>rfl) (hC (h.kX a5 λ_=>rfl) (hC (h.at_ a1) (hC (h.at_ a3) hN))))) λw h=>go h λw h=>?_
 refine tk (λW H=>kB (cs:=dV c.aF) rfl (vI (H.ce a0) (H.ce a1)) Row.h)<|go h λw h=>?_
 refine cs (ca eF rfl) ((aQ xb mb (Ct.X.of c x) (Ct.iP (Ct.cG ((Ct.X.of c x).node m) (Ct.slice ha lv)).1).1 (h.fr (.c r5 .n)) k.eY).mono ?_)
 rintro _ w ⟨p65,rfl,h⟩
 have f66:=k.qJ (Ct.iP (Ct.cG ((Ct.X.of c x).node m) (Ct.slice ha lv)).1).1
 have aZi:=k.len
 refine⟨_,rfl,(hC (h.kX a1 λ_=>rfl) (hC (h.kX a1 λ_=>rfl) (hC (h.at_ a3) (hC (h.at_ a5) hN)))),?_⟩
 refine go h λw h=>?_
 refine cs (ca eF rfl) ((rX (Ct.cG ((Ct.X.of c x).node m) (Ct.slice ha lv)).1 q63 lv ((Ct.X.of c x).node (Ct.iP (Ct.cG ((Ct.X.of c x).node m) (Ct.slice ha lv)).1).1) p65 (h.fr (.c r2 (.c r0 .n))) (Ct.Node.Fit.nf (Ct.mQ f3 (Ct.slice ha lv)) (by omega))).mono ?_)
 rintro _ w ⟨q67,rfl,h⟩
 refine⟨_,rfl,(hC (h.kX a3 λ_=>rfl) (hC (h.kX a3 λ_=>rfl) (hC (h.at_ a4) (hC (h.at_ a6) hN)))),?_⟩
 refine go h λw h=>?_
 refine cs (ca eF rfl) ((fA (j:=59) xb mb (Ct.X.of c x) (Ct.bI (Ct.cG ((Ct.X.of c x).node m) (Ct.slice ha lv)).1 lv ((Ct.X.of c x).node (Ct.iP (Ct.cG ((Ct.X.of c x).node m) (Ct.slice ha lv)).1).1)) q67 m ((SH.Wr (h.fr (.c r0 (.c r2 .n))) .z).fr (.c r0 (.c r1 .n))) (k.less (by omega)) (Ct.iU ((Ct.mQ f3 (Ct.slice ha lv)).mono (by omega)) (f66.mono (by omega)) lv)).mono ?_)
 rintro _ w ⟨y68,v69,q70,rfl,h,k,aWx⟩
 obtain⟨z71,rfl⟩:=Ct.IQ q70
 have bC2:=Ct.AX q70
 refine⟨_,rfl,(hC (h.kX a0 λ_=>rfl) (hC (h.kX a0 λ_=>rfl) (hC (h.at_ a4) (hC (h.at_ a6) hN)))),?_⟩
 refine go h λw h=>?_
 refine cs (ca eF rfl) ((lH xb mb (Ct.X.of c z71) c.aF i m v69 (h.fr (.c r0 .n)) (k.less (by omega))).mono ?_)
 rintro _ w ⟨y72,v73,q74,rfl,h,k⟩
 obtain⟨z75,rfl⟩:=Ct.uG q74
 have aZ4:=Ct.uA q74
 refine⟨_,rfl,(hC (h.kX a0 λ_=>rfl) (hC (h.kX a0 λ_=>rfl) (hC (h.at_ a4) (hC (h.at_ a6) hN)))),?_⟩
 refine go h λw h=>?_
 refine cs (ca eF rfl) ((iQ _ v73 true ((Ct.X.of c x).node (Ct.aB ((Ct.X.of c x).node m) (Ct.slice ha lv)).1).value (h.fr .n)).mono ?_)
 rintro _ w ⟨rfl,h⟩
 refine⟨_,rfl,(hC (h.kX a0 λ_=>rfl) (hC (h.kX a0 λ_=>rfl) (hC (h.at_ a4) (hC (h.at_ a6) hN)))),?_⟩
 refine tk (λW H=>xr rfl rfl)<|tk (λW H=>xr rfl rfl)<|?_
 refine ff (so h rfl rfl rfl vZ rfl (.r (.r (.r (.r (.r (.r (.r (.r .d)))))))) u9)<|?_
 rintro _ w h
 refine⟨(hC (h.kX a0 λ_=>rfl) (hC (h.kX a0 λ_=>rfl) (hC (h.at_ a4) (hC (h.at_ a6) hN)))),?_⟩
 refine ef (sg rfl) ((hC (h.kX a0 λ_=>rfl) (hC (h.kX a0 λ_=>rfl) (hC (h.at_ a4) (hC (h.at_ a6) hN)))))<|xz<|nx<|rt<|?_
 refine go h λw h=>?_
 exact rr (dS rfl rfl (h.b a9) Row.h rfl)<|⟨_,(Ct.dL true ((Ct.X.of c x).node (Ct.aB ((Ct.X.of c x).node m) (Ct.slice ha lv)).1).value,(bif v73 then 1 else 0)),Ct.rN<|Ct.rF fG<|Ct.rN<|Ct.rF (by rw[sQ,Ht];rfl)<|Ct.Nn sQ<|Ct.rF K7<|Ct.rF (by rw[JR];rfl)<|Ct.rN<|Ct.rA q70<|Ct.rB q74<|Ct.rR,rfl,h.to,k⟩
 refine bQ (fJ _ _ h.to) λw h=>?_
 exact rr (dS rfl rfl (h.b a5) Row.h rfl)<|⟨_,(Ct.dN false 0,1),Ct.rN<|Ct.rF fG<|Ct.rN<|Ct.rF (by rw[sQ];rfl)<|Ct.US sQ<|Ct.rR,rfl,h.to,k⟩
theorem aDa(xb mb:Nat)(x:Ct.X)(c:Ct.Call)(path:List Int)(ha:Nat)(p:Option Addr)(cp:Nat)(h:SH B w (XA xb mb (Ct.X.of c x)::bS 1 (.slice p path.length cp) path.length (path.map (Value.int .i64))::L))(k:Ct.Ok 60 (Ct.X.of c x))(hh:ha<18446744073709551616)(hp:1<=path.length)(hp2:path.length<=1000000000000):
  Calls prog 195 #[↑xb,.slice p path.length cp,.int .u64 (ha:Int)] w λe w'=>∃y v,Ct.bC (Ct.O9 c.aF path ha (path.length-1)) (Ct.X.of c x)=Ct.out y v/\e=.returned (.tuple #[])/\SH B w' (XA xb mb y::bS 1 (.slice p path.length cp) path.length (path.map (Value.int .i64))::L)/\Ct.Ok 60 y:=by
 have hlen:=k.len
 refine cN func195 ntmps195 h λw h=>?_
 refine st (bs ((path.length-1:Nat):Int))<|go h λw h=>?_
 refine lp (α:=Ct.X×Nat) (λρ=>(.c 0 ↑xb (.c 1 (.slice p path.length cp) (.c 2 (.int .u64 (ha:Int)) (.c 6 (.int .i64 (ρ.2:Int)) .n))))) (λρ w=>SH B w (XA xb mb (Ct.X.of c ρ.1)::bS 1 (.slice p path.length cp) path.length (path.map (Value.int .i64))::L)/\(Ct.bC (Ct.O9 c.aF path ha (path.length-1)) (Ct.X.of c x)=Ct.bC (Ct.O9 c.aF path ha ρ.2) (Ct.X.of c ρ.1))/\(Ct.Ok 60 (Ct.X.of c ρ.1))/\(ρ.2<=path.length-1)) (λρ=>ρ.2) (x,path.length-1) ⟨rfl,rfl,rfl,rfl,trivial⟩ ⟨h,rfl,k,aW _⟩ ?_
 rintro⟨y,l⟩ w ⟨h,hq,k,hl⟩
 dsimp only at *
 refine go h λw h=>?_
 refine qg h (λdF w h=>?_) λdF w h=>?_
 have xZ:=dH dF
 refine go h λw h=>?_
 refine st (ld (v:=.bool (Ct.X.of c y).e.aD) One.h rfl (h.xc a0 λ_=>rfl))<|go h λw h=>?_
 refine qc h (λcJ w h=>?_) λcJ w h=>?_
 have eB:(Ct.X.of c y).e.aD=false:=(gZ _).mp cJ
 refine go h λw h=>?_
 obtain⟨l,rfl⟩:∃k,l=k+1:=⟨l-1,by omega⟩
 obtain⟨b5,o6,rfl⟩:=h.fq a1 (by omega)
 refine drC (F:=[ce xb 2 (.int .i64 c.aF.root),ce xb 3 (.bool c.aF.readOnly),bS 1 (.slice (some ⟨b5,o6,none⟩) path.length cp) path.length (path.map (Value.int .i64))]) [1,3,5,7,9,11,13,15,17,19,20,22] (by kernel_rfl) h (λw h=>(hC (h.kX a0 λ_=>rfl) (hC (h.kX a0 λ_=>rfl) (hC (h.at_ a1) hN)))) λw h=>go h λw h=>?_
 refine tk (λW H=>kB (cs:=dV c.aF) rfl (vI (H.ce a0) (H.ce a1)) Row.h)<|go h λw h=>?_
 refine cs (ca eF rfl) ((mR xb mb (Ct.X.of c y) c.aF (path.getD (l+1) 0) (h.fr (.c r0 .n)) (k.less (by omega))).mono ?_)
 rintro _ w ⟨y7,v8,q9,rfl,h,k⟩
 obtain⟨P9,rfl⟩:=Ct.uG q9
 have lq9:=Ct.uA q9
 refine⟨_,rfl,(hC (h.kX a0 λ_=>rfl) (hC (h.kX a0 λ_=>rfl) (hC (h.at_ a1) hN))),?_⟩
 refine ef (sg rfl) ((hC (h.kX a0 λ_=>rfl) (hC (h.kX a0 λ_=>rfl) (hC (h.at_ a1) hN))))<|xz<|nx<|sq<|sq<|rg<|st (mv rfl)<|st (nc rfl rfl)<|st (fa oL rfl)<|?_
 refine go h λw h=>?_
 refine st (ld (v:=.bool (Ct.X.of c P9).e.aD) One.h rfl (h.xc a0 λ_=>rfl))<|go h λw h=>?_
 refine qg h (λiT w h=>?_) λiT w h=>?_
 refine rr (wC results195)<|⟨_,(),hq.trans<|Ct.rB q9<|Ct.rS iT,rfl,h,k.stop iT⟩
 refine cS (aQ _ _ _ _ h.to k.eY) λp12 w h=>?_
 have f13:=k.qJ v8
 have bA2:=k.len
 refine go h λw h=>?_
 refine qc h (λgD w h=>?_) λgD w h=>?_
 have JS:=bne_iff_ne.1 gD
 refine go h λw h=>?_
 refine rr (wC results195)<|⟨_,(),hq.trans<|Ct.rB q9<|Ct.rN<|Ct.rT gD<|Ct.rR,rfl,h.drop,k⟩
 have JW:=eT gD
 refine go h λw h=>?_
 refine drC (F:=[ce xb 2 (.int .i64 c.aF.root),ce xb 3 (.bool c.aF.readOnly),bS 1 (.slice (some ⟨b5,o6,none⟩) path.length cp) path.length (path.map (Value.int .i64))]) [1,3,5,7,9,11,13,15,17,19,21,23,25,27,29,31,33,35,36] (by kernel_rfl) h (λw h=>(hC (h.kX a1 λ_=>rfl) (hC (h.kX a1 λ_=>rfl) (hC (h.at_ a2) hN)))) λw h=>go h λw h=>?_
 refine tk (λW H=>kB (cs:=dV c.aF) rfl (vI (H.ce a0) (H.ce a1)) Row.h)<|go h λw h=>?_
 refine tk (λW H=>bs (l:Int))<|go h λw h=>?_
 refine tk (λW H=>bs (l:Int))<|go h λw h=>?_
 refine cs (ca eF rfl) ((Ip xb mb (Ct.X.of c P9) c.aF (path.getD l 0) (path.getD (l+1) 0) ha (l:Int) (h.fr (.c r1 .n)) (k.less (by omega)) hh).mono ?_)
 rintro _ w ⟨y17,v18,Bk,rfl,h,k⟩
 obtain⟨z20,rfl⟩:=Ct.uG Bk
 have aL1:=Ct.uA Bk
 refine⟨_,rfl,(hC (h.kX a0 λ_=>rfl) (hC (h.kX a0 λ_=>rfl) (hC (h.at_ a2) hN))),?_⟩
 refine xz<|bn<|nx<|rg<|st (mv rfl)<|?_
 refine go h λw h=>?_
 refine st (bs (l:Int))<|go h λw h=>?_
 exact⟨(z20,l),⟨rfl,rfl,rfl,rfl,trivial⟩,⟨h.to,hq.trans<|Ct.rB q9<|Ct.rN<|Ct.rF gD<|Ct.rB Bk<|rfl,k,by(try dsimp only);omega⟩,by(try dsimp only);omega⟩
 have nX:(Ct.X.of c y).e.aD=true:=(hU _).mp cJ
 refine go h λw h=>?_
 refine rn (wC results195)<|go h λw h=>?_
 refine⟨_,(),hq.trans<|Ct.rS nX,rfl,h,k.stop nX⟩
 have L5:=dR dF
 refine go h λw h=>?_
 refine rn (wC rfl) ?_
 obtain rfl:l=0:=by omega
 exact⟨_,(),hq.trans Ct.rR,rfl,h,k⟩
theorem D9(xb mb:Nat)(x:Ct.X)(c:Ct.Call)(F:Nat)(h:SH B w (XA xb mb (Ct.X.of c x)::L))(k:Ct.Ok 60 (Ct.X.of c x))(hx:(Ct.X.of c x).left<F)(hF:F<=100000000000)(hm:c.aI<18446744073709551616)(vE:c.key.size<=64):
  Calls prog 153 #[↑xb] w λe w'=>∃y v,Ct.bC (Ct.vM c F F) (Ct.X.of c x)=Ct.out y v/\e=.returned (.agg (Bn v).toArray)/\SH B w' (XA xb mb y::L)/\Ct.Ok 60 y:=by
 have hh:=Ct.eS c.key c.aI
 have hlen:=k.len
 refine cN func153 ntmps153 h λw h=>?_
 refine sf (al h Wb)<|?_
 rintro _ w ⟨b1,rfl,h⟩
 refine xe<|nx<|?_
 refine sm (λe w=>∃b2:Nat,Sub 115 e (.c 0 ↑xb (.c 2 ↑b1 (.c 3 ↑b2 (.c 4 (.int .u64 ((Ct.aE c.key c.aI:Nat):Int)) .n))))/\SH B w (bl b2 (dV c.aF) 35::bl b1 ([.int .i64 0,↑false,.int .u64 0,.string .empty,.int .i64 0,.int .i64 0,.int .i64 0,↑false]) 49::XA xb mb (Ct.X.of c x)::L)) ?_ ?_
 refine drB (F:=[XA xb mb (Ct.X.of c x)]) [1,3,5,7,9,11,13,15,17,19,21,23,25,27,29] 15 16 [32,34,36] [30,34,36] (by kernel_rfl) h (λw h=>(hC (h.at_ a1) hN)) λw h=>go h λw h=>?_
 refine tk (λW H=>kB (cs:=dV c.aF) rfl (H.xr 2 a0 λ_=>rfl) Row.h)<|go h λw h=>?_
 refine tk (λW H=>ld (v:=.string c.key) One.h rfl (H.xc a0 λ_=>rfl))<|go h λw h=>?_
 refine tk (λW H=>ld (v:=.int .u64 (c.aI:Int)) One.h rfl (H.xc a0 λ_=>rfl))<|go h λw h=>?_
 refine W3 ?_ ?_
 refine cs (ca eF rfl) ((sX c.key c.aI _ (by omega) (by omega)).mono ?_)
 rintro _ _ ⟨rfl,rfl⟩
 refine⟨_,rfl,(hC (h.at_ a1) hN),?_⟩
 refine go h λw h=>?_
 refine jB h λb2 w h=>?_
 exact⟨b2,⟨rfl,rfl,rfl,rfl,trivial⟩,h⟩
 refine jB h λb3 w h=>?_
 refine cs (ca eF rfl) ((sX c.key c.aI _ (by omega) (by omega)).mono ?_)
 rintro _ _ ⟨rfl,rfl⟩
 refine⟨_,rfl,(hC (h.at_ a2) hN),?_⟩
 refine ff (so h rfl rfl rfl Kc rfl (.r (.r .d)) u0)<|?_
 rintro _ w h
 refine⟨(hC (h.at_ a2) hN),?_⟩
 refine ef (sg rfl) ((hC (h.at_ a2) hN))<|xz<|nx<|?_
 refine go h λw h=>?_
 exact⟨b3,⟨rfl,rfl,rfl,rfl,trivial⟩,h⟩
 rintro e w ⟨b2,hE,h⟩
 refine C.sub hE ?_
 clear hE e
 refine go h λw h=>?_
 refine lp (α:=Ct.X×Nat) (λρ=>(.c 0 ↑xb (.c 2 ↑b1 (.c 3 ↑b2 (.c 4 (.int .u64 ((Ct.aE c.key c.aI:Nat):Int)) .n))))) (λρ w=>SH B w (XA xb mb (Ct.X.of c ρ.1)::bl b2 (dV c.aF) 35::bl b1 ([.int .i64 0,↑false,.int .u64 0,.string .empty,.int .i64 0,.int .i64 0,.int .i64 0,↑false]) 49::L)/\(Ct.bC (Ct.vM c F F) (Ct.X.of c x)=Ct.bC (Ct.vM c F ρ.2) (Ct.X.of c ρ.1))/\(Ct.Ok 60 (Ct.X.of c ρ.1))/\((Ct.X.of c ρ.1).e.aD=true\/(Ct.X.of c ρ.1).left<ρ.2)/\(ρ.2<=F)) (λρ=>ρ.2) (x,F) ⟨rfl,rfl,rfl,rfl,trivial⟩ ⟨h.to,rfl,k,(.inr (by(try dsimp only);omega)),aW _⟩ ?_
 rintro⟨y,n⟩ w ⟨h,hq,k,hn,hnF⟩
 dsimp only at *
 refine go h λw h=>?_
 refine st (ld (v:=.bool (Ct.X.of c y).e.aD) One.h rfl (h.xc a0 λ_=>rfl))<|go h λw h=>?_
 refine qc h (λeB w h=>?_) λeB w h=>?_
 have dM:(Ct.X.of c y).e.aD=false:=(gZ _).mp eB
 refine go h λw h=>?_
 obtain⟨n,rfl⟩:∃k,n=k+1:=⟨n-1,by have:=hn.resolve_left (by rw[dM];decide);omega⟩
 replace hn:=hn.resolve_left (by rw[dM];decide)
 rw[Ct.Tl]at hq
 refine go h λw h=>?_
 have kb6:=k
 refine eI (zV _ _ _ _ h.to (k.less (by omega))) λy7 v8 q9 w h k=>?_
 obtain⟨P9,rfl⟩:=Ct.uG q9
 have lq9:=Ct.uA q9
 have K5:=Ct.Ev kb6 (by omega) q9
 refine go h λw h=>?_
 refine cS (aQ _ _ _ _ h.to k.eY) λp11 w h=>?_
 have f12:=k.qJ v8
 have aRz:=k.len
 refine go h λw h=>?_
 refine sf (bu [↑v8] h gB.h Ss.h rfl (by kernel_rfl) rfl (by decide) (by decide)) ?_
 rintro _ w ⟨QI,rfl,h⟩
 refine go h λw h=>?_
 refine lp (α:=Ct.X×Nat×List Int×Int×Int×Option Addr×Nat×Nat) (λρ=>(.c 0 ↑xb (.c 2 ↑b1 (.c 3 ↑b2 (.c 4 (.int .u64 ((Ct.aE c.key c.aI:Nat):Int)) (.c 5 (.int .i64 ρ.2.2.2.1) (.c 6 (.int .i64 ((Ct.X.of c P9).node v8).gen) (.c 7 (.slice ρ.2.2.2.2.2.1 ρ.2.2.2.2.2.2.1 ρ.2.2.2.2.2.2.2) (.c 8 (.int .i64 ρ.2.2.2.2.1) .n))))))))) (λρ w=>SH B w (XA xb mb (Ct.X.of c ρ.1)::aV 44 1 (.slice ρ.2.2.2.2.2.1 ρ.2.2.2.2.2.2.1 ρ.2.2.2.2.2.2.2) ρ.2.2.2.2.2.2.1 (ρ.2.2.1.map (Value.int .i64))::bl b2 (dV c.aF) 35::bl b1 ([.int .i64 0,↑false,.int .u64 0,.string .empty,.int .i64 0,.int .i64 0,.int .i64 0,↑false]) 49::L)/\(Ct.bC (Ct.vM c F F) (Ct.X.of c x)=Ct.bC ((Ct.zC c (Ct.aE c.key c.aI) ((Ct.X.of c P9).node v8).gen ρ.2.1 ρ.2.2.1 ρ.2.2.2.1 ρ.2.2.2.2.1).bind (Ct.aBq c F n)) (Ct.X.of c ρ.1))/\(Ct.Ok 60 (Ct.X.of c ρ.1))/\((Ct.X.of c ρ.1).e.aD=true\/(Ct.X.of c ρ.1).left<ρ.2.1)/\((Ct.X.of c ρ.1).e.aD=true\/(Ct.X.of c ρ.1).left<n)/\(0<=ρ.2.2.2.2.1/\ρ.2.2.2.2.1+(ρ.2.1:Int)<=(F:Int))/\(ρ.2.2.1.length=ρ.2.2.2.2.2.2.1/\(ρ.2.2.2.2.2.2.1:Int)=ρ.2.2.2.2.1+1)) (λρ=>ρ.2.1) (P9,F,[v8],v8,0,some ⟨QI,0,none⟩,1,1) ⟨rfl,rfl,rfl,rfl,rfl,rfl,rfl,rfl,trivial⟩ ⟨(h.to.fr (.c r1 (.c r0 (.c r0 (.c r0 .n))))),(hq.trans<|Ct.rB q9<|Ct.rN<|rfl),k,(K5.imp id λh=>by have:=h.2;(try dsimp only);omega),(K5.imp id λh=>by have:=h.2;(try dsimp only);omega),⟨by(try dsimp only);omega,by(try dsimp only);omega⟩,⟨rfl,by(try dsimp only);omega⟩⟩ ?_
 rintro⟨yi,kk,path,i,l,p,m,cp⟩ w ⟨h,hq,k,hn,ho,hl,hpl⟩
 dsimp only at *
 refine go h λw h=>?_
 refine st (ld (v:=.bool (Ct.X.of c yi).e.aD) One.h rfl (h.xc a0 λ_=>rfl))<|go h λw h=>?_
 refine qc h (λgD w h=>?_) λgD w h=>?_
 have jI:(Ct.X.of c yi).e.aD=false:=(gZ _).mp gD
 refine go h λw h=>?_
 obtain⟨kk,rfl⟩:∃k,kk=k+1:=⟨kk-1,by have:=hn.resolve_left (by rw[jI];decide);omega⟩
 replace hn:=hn.resolve_left (by rw[jI];decide)
 replace ho:=ho.resolve_left (by rw[jI];decide)
 refine go h λw h=>?_
 have aQn:=k
 refine eI (mR _ _ _ _ _ h.to (k.less (by omega))) λy17 v18 Bk w h k=>?_
 obtain⟨z20,rfl⟩:=Ct.uG Bk
 have aL1:=Ct.uA Bk
 have JQ:=Ct.Ao aQn Bk
 refine go h λw h=>?_
 refine st (ld (v:=.bool (Ct.X.of c z20).e.aD) One.h rfl (h.xc a0 λ_=>rfl))<|go h λw h=>?_
 refine qc h (λnX w h=>?_) λnX w h=>?_
 exact⟨(z20,n),⟨rfl,rfl,rfl,rfl,trivial⟩,⟨h.to,(hq.trans<|Ct.Bv Bk<|Ct.rst nX),k,(.inl nX),by(try dsimp only);omega⟩,by(try dsimp only);omega⟩
 refine cS (aQ _ _ _ _ h.to k.eY) λp22 w h=>?_
 have f23:=k.qJ v18
 have bCe:=k.len
 refine go h λw h=>?_
 refine qc h (λrY w h=>?_) λrY w h=>?_
 have YV:=eq_of_beq rY
 refine go h λw h=>?_
 obtain⟨b26,rfl⟩:=h.fp a2 (by omega)
 refine fD [1,3,5,7,9,11,13,15,17,19,21,23,24] (by kernel_rfl) h (.c r3 (.c r2 .n)) λw h=>go h λw h=>?_
 refine tk (λW H=>bw rfl rfl (Jb (c:=l-1) (by omega) (by omega) (by omega)))<|tk (λW H=>mx rfl rfl (by omega))<|tk (λW H=>ix (j:=(l-1).toNat) gN uM rfl rfl (by omega))<|?_
 refine tk (λW H=>ld jE rfl ((H.ro a1).i (by omega)))<|tk (λW H=>mv rfl)<|tk (λW H=>mv rfl)<|tk (λW H=>mv rfl)<|?_
 refine go h λw h=>?_
 refine tk (λW H=>bs (l-1))<|go h λw h=>?_
 have aPo:=k
 refine pO (Ip _ _ _ _ _ _ _ _ h.to (k.less (by omega)) hh) λy28 v29 QG w h k=>?_
 obtain⟨z31,rfl⟩:=Ct.uG QG
 have bB6:=Ct.uA QG
 have aLl:=Ct.Ap (Ct.qQ _ _ _ _ _) aPo (by omega) QG
 refine go h λw h=>?_
 exact⟨(z31,n),⟨rfl,rfl,rfl,rfl,trivial⟩,⟨h.to,(hq.trans<|Ct.Bv Bk<|Ct.WB<|Ct.O7 rY<|Ct.Bv QG<|rfl),k,(.inr (by have:=(JQ.resolve_left (by rw[nX];decide)).2;have:=aLl;(try dsimp only);omega)),by(try dsimp only);omega⟩,by(try dsimp only);omega⟩
 have aQz:=bM rY
 refine go h λw h=>?_
 have aPa:=k
 refine eI (CE _ _ _ c _ _ _ _ h.to (k.less (by omega)) hh) λy34 v35 KJ w h k=>?_
 obtain⟨z37,rfl⟩:=Ct.uG KJ
 have aPi:=Ct.uA KJ
 have TS:=Ct.Ap (Ct.Ck c _ _ _ _) aPa (by omega) KJ
 refine go h λw h=>?_
 refine jA h λb38 w h=>?_
 refine st (ld (v:=.bool (Ct.X.of c z37).e.aD) One.h rfl (h.xc a1 λ_=>rfl))<|go h λw h=>?_
 refine qc h (λaGl w h=>?_) λaGl w h=>?_
 exact⟨(z37,n),⟨rfl,rfl,rfl,rfl,trivial⟩,⟨h.to,(hq.trans<|Ct.Bv Bk<|Ct.WB<|Ct.Ng rY<|Ct.Bv KJ<|Ct.rst aGl),k,(.inl aGl),by(try dsimp only);omega⟩,by(try dsimp only);omega⟩
 refine qc h (λBy w h=>?_) λBy w h=>?_
 have aPl:=eq_of_beq By
 refine go h λw h=>?_
 refine qc h (λHt w h=>?_) λHt w h=>?_
 have aFs:=eq_of_beq Ht
 refine go h λw h=>?_
 obtain rfl:=hpl.1
 refine eI (aDa _ _ _ c _ _ _ _ ((SH.fz (h.to.fr (.c r1 .n))).fr (.c r1 .n)) (k.less (by omega)) hh (by omega) (by omega)) λy44 v45 q46 w h k=>?_
 obtain⟨z47,rfl⟩:=Ct.uG q46
 have aZr:=Ct.uA q46
 refine go h λw h=>?_
 exact rr (cD rfl rfl (h.b a5) Row.h)<|⟨_,v35.1,hq.trans<|Ct.Bv Bk<|Ct.WB<|Ct.Ng rY<|Ct.Bv KJ<|Ct.O7 By<|Ct.O7 Ht<|Ct.Bv q46<|Ct.rR,rfl,h.to,k⟩
 have aPy:=bM Ht
 refine go h λw h=>?_
 exact rr (cD rfl rfl (h.b a5) Row.h)<|⟨_,v35.1,hq.trans<|Ct.Bv Bk<|Ct.WB<|Ct.Ng rY<|Ct.Bv KJ<|Ct.O7 By<|Ct.Ng Ht<|Ct.rR,rfl,h.to,k⟩
 have aKi:=bM By
 refine go h λw h=>?_
 refine qc h (λYP w h=>?_) λYP w h=>?_
 have aPh:=eq_of_beq YP
 refine go h λw h=>?_
 exact⟨(z37,n),⟨rfl,rfl,rfl,rfl,trivial⟩,⟨h.to,(hq.trans<|Ct.Bv Bk<|Ct.WB<|Ct.Ng rY<|Ct.Bv KJ<|Ct.Ng By<|Ct.O7 YP<|rfl),k,(.inr (by have:=(JQ.resolve_left (by rw[nX];decide)).2;have:=TS;(try dsimp only);omega)),by(try dsimp only);omega⟩,by(try dsimp only);omega⟩
 have bC3:=bM YP
 refine go h λw h=>?_
 refine cl (ca eF rfl) ((iV (Ct.aE c.key c.aI) l _ (by omega)).mono ?_)
 rintro _ _ ⟨rfl,rfl⟩
 refine⟨_,rfl,?_⟩
 refine st (mv rfl)<|?_
 refine go h λw h=>?_
 have aSj:=k
 refine eI (Yf _ _ _ c _ _ _ _ h.to (k.less (by omega))) λy54 v55 P5 w h k=>?_
 obtain⟨z57,rfl⟩:=Ct.uG P5
 have aP5:=Ct.uA P5
 have O5:=Ct.Ap (Ct.xK _ _ _ _ _) aSj (by omega) P5
 refine go h λw h=>?_
 refine qc h (λJY w h=>?_) λJY w h=>?_
 have aQe:=eq_of_beq JY
 refine go h λw h=>?_
 exact⟨(z57,n),⟨rfl,rfl,rfl,rfl,trivial⟩,⟨h.to,(hq.trans<|Ct.Bv Bk<|Ct.WB<|Ct.Ng rY<|Ct.Bv KJ<|Ct.Ng By<|Ct.Ng YP<|Ct.Bv P5<|Ct.O7 JY<|rfl),k,(.inr (by have:=(JQ.resolve_left (by rw[nX];decide)).2;have:=TS;have:=O5;(try dsimp only);omega)),by(try dsimp only);omega⟩,by(try dsimp only);omega⟩
 have aS5:=bM JY
 refine go h λw h=>?_
 refine sf (bu [↑v55] h gB.h Ss.h rfl (by kernel_rfl) rfl (by decide) (by decide)) ?_
 rintro _ w ⟨b61,rfl,h⟩
 refine go h λw h=>?_
 refine sf (ap h gB.h rfl Ss.h rfl (by decide) rfl rfl (λ_=>u4) (h.ro a0) (by simp[Value.oneCell']) rfl (fK _ _) (by unfold maxLen;omega) (by omega)) ?_
 rintro _ w ⟨p62,c63,rfl,h⟩
 refine go h λw h=>?_
 refine st (ba (l+1))<|go h λw h=>?_
 exact⟨(z57,kk,path++[v55],v55,l+1,p62,m+1,c63),⟨rfl,rfl,rfl,rfl,rfl,rfl,rfl,rfl,trivial⟩,⟨h.to,(hq.trans<|Ct.Bv Bk<|Ct.WB<|Ct.Ng rY<|Ct.Bv KJ<|Ct.Ng By<|Ct.Ng YP<|Ct.Bv P5<|Ct.Ng JY<|rfl),k,(.inr (by have:=(JQ.resolve_left (by rw[nX];decide)).2;have:=TS;have:=O5;(try dsimp only);omega)),(.inr (by have:=(JQ.resolve_left (by rw[nX];decide)).2;have:=TS;have:=O5;(try dsimp only);omega)),⟨by(try dsimp only);omega,by(try dsimp only);omega⟩,⟨by(try dsimp only);rw[cV,hpl.1];rfl,by(try dsimp only);omega⟩⟩,by(try dsimp only);omega⟩
 have aAk:(Ct.X.of c yi).e.aD=true:=(hU _).mp gD
 refine go h λw h=>?_
 exact⟨(yi,n),⟨rfl,rfl,rfl,rfl,trivial⟩,⟨h.to,(hq.trans<|Ct.rst aAk),k,(.inl aAk),by(try dsimp only);omega⟩,by(try dsimp only);omega⟩
 have aFu:(Ct.X.of c y).e.aD=true:=(hU _).mp eB
 refine go h λw h=>?_
 exact rr (cD rfl rfl (h.b a2) Row.h)<|⟨_,{},hq.trans<|Ct.rS aFu,rfl,h.to,(k.stop aFu)⟩
end Go.Q9
end
