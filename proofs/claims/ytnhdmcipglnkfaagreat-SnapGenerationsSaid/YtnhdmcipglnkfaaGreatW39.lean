/- Parts of a proof: Q4. -/
import Derived.Test.YtnhdmcipglnkfaaGreatW33
import Derived.Test.YtnhdmcipglnkfaaGreatW38
set_option linter.unusedVariables false
set_option linter.unusedSimpArgs false
set_option maxRecDepth 100000
set_option maxHeartbeats 4000000
section
namespace Go.Q9
open Go.Proofs.Tryz
open Go.RowKit Go.E Go.Ct
attribute [local irreducible] gB wpS Go.E.X XS C jU kP fin Y U F Ca jT bl rb aU bV ex ce pu sK gK bK zK
variable{B w:World}{L:List As}
theorem Eg(xb mb:Nat)(x:Ct.X)(c:Ct.Call)(i m:Int)(ha:Nat)(lv gen:Int)(h:SH B w (XA xb mb (Ct.X.of c x)::L))(k:Ct.Ok 60 (Ct.X.of c x))(hh:ha<18446744073709551616)(hky:c.key.size<=64)(hl:0<=lv)(hl2:lv<=900000000000):
  Calls prog 192 #[↑xb,↑i,↑m,.int .u64 (ha:Int),↑lv,↑gen] w λe w'=>∃y v,Ct.aX (Ct.lJ c i m ha lv gen) (Ct.X.of c x)=Ct.out y v/\e=.returned (.tuple #[.agg (xC v.1).toArray,.int .i64 v.2])/\SH B w' (XA xb mb y::L)/\Ct.Ok 60 y:=by
 have hlen:=k.len
 refine bZ func192 ntmps192 h λw h=>?_
 refine jA h λb1 w h=>?_
 refine dZ [1,3,5,7,9,11,13,15,17,19,21,23,25,27,29,30,32,34,36] (by kernel_rfl) h (.c r1 .n) λw h=>go h λw h=>?_
 refine tk (λW H=>gJ (cs:=cU c.aE) rfl (H.xr 2 a0 λ_=>rfl) Row.h)<|go h λw h=>?_
 refine tk (λW H=>ld (v:=.string c.key) One.h rfl (H.xc a0 λ_=>rfl))<|go h λw h=>?_
 refine tk (λW H=>ld (v:=.int .u64 (c.value:Int)) One.h rfl (H.xc a0 λ_=>rfl))<|go h λw h=>?_
 refine jB h λb2 w h=>?_
 refine cG (aN xb mb (Ct.X.of c x) m h.to k.dR) λp3 w h=>?_
 have f4:=k.lN m
 have bf4:=k.len
 refine go h λw h=>?_
 refine jA h λb5 w h=>?_
 refine qc h (λhd6 w h=>?_) λhd6 w h=>?_
 have hg7:=eq_of_beq hd6
 refine go h λw h=>?_
 have h:=h.fr (.c r1 .n)
 have h:=SH.se (l:=[aY ((Ct.X.of c x).node m) p3,cH ((Ct.X.of c x).node m) p3]) h
 have hpv:=(Ct.fJ (((Ct.Node.Fit.nf f4 (by omega))).v6 (eq_of_beq hd6))).kG (eq_of_beq hd6)
 have hpl:=((Ct.Node.Fit.nf f4 (by omega))).pr
 refine go h λw h=>?_
 refine bA (oY ((Ct.X.of c x).node m).aF _ _ c.key h.to hpv (by omega)) λw h=>?_
 have h:=SH.is (l:=[aY ((Ct.X.of c x).node m) p3,cH ((Ct.X.of c x).node m) p3]) (h.fr (.c r1 (.c r0 .n)))
 refine go h λw h=>?_
 refine bA (qE xb mb x c (Ct.bB ((Ct.X.of c x).node m).aF c.key).2 (Ct.bB ((Ct.X.of c x).node m).aF c.key).1 h.to) λw h=>?_
 refine qc h (λhd8 w h=>?_) λhd8 w h=>?_
 have hd9:(Ct.cS c (Ct.bB ((Ct.X.of c x).node m).aF c.key).2 (Ct.bB ((Ct.X.of c x).node m).aF c.key).1)=false:=by simpa using hd8
 refine go h λw h=>?_
 refine bA (dJ (Ct.bB ((Ct.X.of c x).node m).aF c.key).2 (Ct.bB ((Ct.X.of c x).node m).aF c.key).1 h.to) λw h=>?_
 exact rr (cL rfl rfl (h.b a4) Row.h rfl)<|⟨_,(Ct.cC (Ct.bB ((Ct.X.of c x).node m).aF c.key).2 (Ct.bB ((Ct.X.of c x).node m).aF c.key).1,1),Ct.rN<|Ct.rT hd6<|Ct.Zo hd9<|Ct.rR,rfl,h.to,k⟩
 have hd10:(Ct.cS c (Ct.bB ((Ct.X.of c x).node m).aF c.key).2 (Ct.bB ((Ct.X.of c x).node m).aF c.key).1)=true:=by simpa using hd8
 refine go h λw h=>?_
 refine cG (CB ((Ct.X.of c x).node m) p3 c.key c.value h.to (Ct.Node.Fit.nf f4 (by omega))) λq11 w h=>?_
 refine jA h λb12 w h=>?_
 refine dZ [1,3,5,7,9,11,13,15,21,23,16,18,24,27,29,30,32] (by kernel_rfl) h (.c r5 (.c r0 .n)) λw h=>go h λw h=>?_
 refine mF (dS (j:=59) xb mb (Ct.X.of c x) (Ct.grown ((Ct.X.of c x).node m) c.key c.value).1 q11 m ((SH.Gs h.to .z).fr (.c r0 (.c r1 .n))) (k.less (by omega)) ((Ct.Ch f4 c.key c.value).mono (by omega))) λy13 v14 q15 w h ⟨k,hly13⟩=>?_
 obtain⟨z16,rfl⟩:=Ct.Lg q15
 have lq15:=Ct.Gq q15
 refine go h λw h=>?_
 refine mF (gH xb mb (Ct.X.of c z16) c.aE i m v14 h.to (k.less (by omega))) λy17 v18 q19 w h k=>?_
 obtain⟨z20,rfl⟩:=Ct.mB q19
 have lq19:=Ct.nY q19
 refine go h λw h=>?_
 refine gO (eM _ v18 (Ct.bB ((Ct.X.of c x).node m).aF c.key).2 (Ct.bB ((Ct.X.of c x).node m).aF c.key).1 h.to) λw h=>?_
 exact rr (cL rfl rfl (h.b a6) Row.h rfl)<|⟨_,(Ct.dL (Ct.bB ((Ct.X.of c x).node m).aF c.key).2 (Ct.bB ((Ct.X.of c x).node m).aF c.key).1,(bif v18 then 1 else 0)),Ct.rN<|Ct.rT hd6<|Ct.wF hd10<|Ct.rA q15<|Ct.rB q19<|Ct.rR,rfl,h.to,k⟩
 have hg21:=dP hd6
 refine go h λw h=>?_
 refine cl (ca eF rfl) ((eH ha lv _ (by omega)).mono ?_)
 rintro _ _ ⟨rfl,rfl⟩
 refine⟨_,rfl,?_⟩
 refine st (sg rfl)<|xe<|nx<|sq<|rg<|st (mv rfl)<|st (mv rfl)<|st (mv rfl)<|st (bd [.int .i64 4,.int .i64 0,.int .i64 0,.int .u64 0,.slice none 0 0,.int .u64 (ha:Int),↑c.key,.int .u64 (c.value:Int),.slice none 0 0,.int .i64 0,.int .i64 0,.int .i64 0,.int .i64 0,.int .i64 0] Ic rfl (by kernel_rfl))<|?_
 refine go h λw h=>?_
 refine jA h λb22 w h=>?_
 refine bA (fG ((Ct.X.of c x).node m) p3.pb p3.cb p3.pp p3.cp (Ct.slice ha lv) h.to (Ct.Node.Fit.nf f4 (by omega))) λw h=>?_
 refine qg h (λhd23 w h=>?_) λhd23 w h=>?_
 refine cG (aN xb mb (Ct.X.of c x) (Ct.aB ((Ct.X.of c x).node m) (Ct.slice ha lv)).1 h.to k.dR) λp24 w h=>?_
 have f25:=k.lN (Ct.aB ((Ct.X.of c x).node m) (Ct.slice ha lv)).1
 have bf25:=k.len
 refine go h λw h=>?_
 refine qc h (λhd26 w h=>?_) λhd26 w h=>?_
 have hg27:=eq_of_beq hd26
 refine go h λw h=>?_
 exact rr (cL rfl rfl (h.b a6) Row.h rfl)<|⟨_,({},2),Ct.rN<|Ct.rF hd6<|Ct.rN<|Ct.rT (by rw[hd23,hd26];rfl)<|Ct.rR,rfl,h.to,k⟩
 have hg28:=dP hd26
 refine go h λw h=>?_
 refine cG (aN xb mb (Ct.X.of c x) (Ct.aB ((Ct.X.of c x).node m) (Ct.slice ha lv)).1 h.to k.dR) λp29 w h=>?_
 have f30:=k.lN (Ct.aB ((Ct.X.of c x).node m) (Ct.slice ha lv)).1
 have bf30:=k.len
 refine go h λw h=>?_
 refine cG (aN xb mb (Ct.X.of c x) (Ct.aB ((Ct.X.of c x).node m) (Ct.slice ha lv)).1 h.to k.dR) λp31 w h=>?_
 have f32:=k.lN (Ct.aB ((Ct.X.of c x).node m) (Ct.slice ha lv)).1
 have bf32:=k.len
 refine go h λw h=>?_
 refine qc h (λhd33 w h=>?_) λhd33 w h=>?_
 have hd34:(((Ct.X.of c x).node (Ct.aB ((Ct.X.of c x).node m) (Ct.slice ha lv)).1).key.toList==c.key.toList)=false:=by simpa using hd33
 refine go h λw h=>?_
 refine bA (qE xb mb x c (((Ct.X.of c x).node (Ct.aB ((Ct.X.of c x).node m) (Ct.slice ha lv)).1).key.toList==c.key.toList) 0 h.to) λw h=>?_
 refine qc h (λhd35 w h=>?_) λhd35 w h=>?_
 have hd36:(Ct.cS c (((Ct.X.of c x).node (Ct.aB ((Ct.X.of c x).node m) (Ct.slice ha lv)).1).key.toList==c.key.toList) 0)=false:=by simpa using hd35
 refine go h λw h=>?_
 refine bA (dJ (((Ct.X.of c x).node (Ct.aB ((Ct.X.of c x).node m) (Ct.slice ha lv)).1).key.toList==c.key.toList) 0 h.to) λw h=>?_
 exact rr (cL rfl rfl (h.b a8) Row.h rfl)<|⟨_,(Ct.cC false 0,1),Ct.rN<|Ct.rF hd6<|Ct.rN<|Ct.rF (by rw[hd23,hd26];rfl)<|Ct.rF (by rw[hd23];exact hd34)<|Ct.Zo (by simpa only[hd34]using hd36)<|Ct.rR,(by rw[hd34];first|done|rfl),h.to,k⟩
 have hd37:(Ct.cS c (((Ct.X.of c x).node (Ct.aB ((Ct.X.of c x).node m) (Ct.slice ha lv)).1).key.toList==c.key.toList) 0)=true:=by simpa using hd35
 refine go h λw h=>?_
 refine st (ba (lv+1))<|go h λw h=>?_
 refine dE (QE xb mb x c (Ct.aB ((Ct.X.of c x).node m) (Ct.slice ha lv)).1 ha (lv+1) gen h.to (k.less (by omega)) hh hky (Ct.pV hd23) (by omega) (by omega) hd34) λy38 v39 q40 w h k=>?_
 obtain⟨z41,rfl⟩:=Ct.mB q40
 have lq40:=Ct.nY q40
 refine go h λw h=>?_
 refine dE (dS (j:=35) xb mb (Ct.X.of c z41) ({kind:=2,gen:=gen}) {} v39 (SH.eE ({kind:=2,gen:=gen}) rfl rfl h.to) (k.less (by omega)) (Ct.bG _ 2 gen 0 0 0)) λy42 v43 q44 w h ⟨k,hly42⟩=>?_
 obtain⟨z45,rfl⟩:=Ct.Lg q44
 have lq44:=Ct.Gq q44
 refine go h λw h=>?_
 refine dZ [1,3,5,7,9,11,13,15,17,18,20,22,25,27,28,30] (by kernel_rfl) h (.c r7 .n) λw h=>go h λw h=>?_
 refine mF (uG (j:=34) xb mb (Ct.X.of c z45) m (Ct.slice ha lv) v43 h.to (k.less (by omega))) λy46 v47 q48 w h k=>?_
 obtain⟨z49,rfl⟩:=Ct.mB q48
 have lq48:=Ct.nY q48
 refine go h λw h=>?_
 refine mF (gH xb mb (Ct.X.of c z49) c.aE i m v47 h.to (k.less (by omega))) λy50 v51 q52 w h k=>?_
 obtain⟨z53,rfl⟩:=Ct.mB q52
 have lq52:=Ct.nY q52
 refine go h λw h=>?_
 refine gO (eM _ v51 false 0 h.to) λw h=>?_
 exact rr (cL rfl rfl (h.b a8) Row.h rfl)<|⟨_,(Ct.dL false 0,(bif v51 then 1 else 0)),Ct.rN<|Ct.rF hd6<|Ct.rN<|Ct.rF (by rw[hd23,hd26];rfl)<|Ct.rF (by rw[hd23];exact hd34)<|Ct.wF (by simpa only[hd34]using hd37)<|Ct.wF hd23<|Ct.rB q40<|Ct.rA q44<|Ct.rB q48<|Ct.rB q52<|Ct.rR,rfl,h.to,k⟩
 have hd54:(((Ct.X.of c x).node (Ct.aB ((Ct.X.of c x).node m) (Ct.slice ha lv)).1).key.toList==c.key.toList)=true:=by simpa using hd33
 refine go h λw h=>?_
 refine bA (qE xb mb x c (((Ct.X.of c x).node (Ct.aB ((Ct.X.of c x).node m) (Ct.slice ha lv)).1).key.toList==c.key.toList) ((Ct.X.of c x).node (Ct.aB ((Ct.X.of c x).node m) (Ct.slice ha lv)).1).value h.to) λw h=>?_
 refine qc h (λhd55 w h=>?_) λhd55 w h=>?_
 have hd56:(Ct.cS c (((Ct.X.of c x).node (Ct.aB ((Ct.X.of c x).node m) (Ct.slice ha lv)).1).key.toList==c.key.toList) ((Ct.X.of c x).node (Ct.aB ((Ct.X.of c x).node m) (Ct.slice ha lv)).1).value)=false:=by simpa using hd55
 refine go h λw h=>?_
 refine bA (dJ (((Ct.X.of c x).node (Ct.aB ((Ct.X.of c x).node m) (Ct.slice ha lv)).1).key.toList==c.key.toList) ((Ct.X.of c x).node (Ct.aB ((Ct.X.of c x).node m) (Ct.slice ha lv)).1).value h.to) λw h=>?_
 exact rr (cL rfl rfl (h.b a8) Row.h rfl)<|⟨_,(Ct.cC true ((Ct.X.of c x).node (Ct.aB ((Ct.X.of c x).node m) (Ct.slice ha lv)).1).value,1),Ct.rN<|Ct.rF hd6<|Ct.rN<|Ct.rF (by rw[hd23,hd26];rfl)<|Ct.rT (by rw[hd23];exact hd54)<|Ct.Zo (by simpa only[hd54]using hd56)<|Ct.rR,(by rw[hd54];first|done|rfl),h.to,k⟩
 have hd57:(Ct.cS c (((Ct.X.of c x).node (Ct.aB ((Ct.X.of c x).node m) (Ct.slice ha lv)).1).key.toList==c.key.toList) ((Ct.X.of c x).node (Ct.aB ((Ct.X.of c x).node m) (Ct.slice ha lv)).1).value)=true:=by simpa using hd55
 refine go h λw h=>?_
 refine dZ [1,3,5,7,9,11,13,15,17,19,27,20,22,24,28,31,33,34,36] (by kernel_rfl) h (.c r7 (.c r5 .n)) λw h=>go h λw h=>?_
 refine mF (dS (j:=59) xb mb (Ct.X.of c x) ({kind:=4,hash:=ha,key:=c.key,value:=c.value}) {} 0 (SH.eE ({kind:=4,hash:=ha,key:=c.key,value:=c.value}) rfl rfl h.to) (k.less (by omega)) (Ct.iF _ 4 _ _ _ (by decide) hh hky)) λy58 v59 q60 w h ⟨k,hly58⟩=>?_
 obtain⟨z61,rfl⟩:=Ct.Lg q60
 have lq60:=Ct.Gq q60
 refine go h λw h=>?_
 refine mF (uG (j:=58) xb mb (Ct.X.of c z61) m (Ct.slice ha lv) v59 h.to (k.less (by omega))) λy62 v63 q64 w h k=>?_
 obtain⟨z65,rfl⟩:=Ct.mB q64
 have lq64:=Ct.nY q64
 refine go h λw h=>?_
 refine mF (gH xb mb (Ct.X.of c z65) c.aE i m v63 h.to (k.less (by omega))) λy66 v67 q68 w h k=>?_
 obtain⟨z69,rfl⟩:=Ct.mB q68
 have lq68:=Ct.nY q68
 refine go h λw h=>?_
 refine gO (eM _ v67 true ((Ct.X.of c x).node (Ct.aB ((Ct.X.of c x).node m) (Ct.slice ha lv)).1).value h.to) λw h=>?_
 exact rr (cL rfl rfl (h.b a8) Row.h rfl)<|⟨_,(Ct.dL true ((Ct.X.of c x).node (Ct.aB ((Ct.X.of c x).node m) (Ct.slice ha lv)).1).value,(bif v67 then 1 else 0)),Ct.rN<|Ct.rF hd6<|Ct.rN<|Ct.rF (by rw[hd23,hd26];rfl)<|Ct.rT (by rw[hd23];exact hd54)<|Ct.wF (by simpa only[hd54]using hd57)<|Ct.rA q60<|Ct.rB q64<|Ct.rB q68<|Ct.rR,rfl,h.to,k⟩
 refine cG (aN xb mb (Ct.X.of c x) (Ct.aB ((Ct.X.of c x).node m) (Ct.slice ha lv)).1 h.to k.dR) λp70 w h=>?_
 have f71:=k.lN (Ct.aB ((Ct.X.of c x).node m) (Ct.slice ha lv)).1
 have bf71:=k.len
 refine go h λw h=>?_
 refine bA (qE xb mb x c false 0 h.to) λw h=>?_
 refine qc h (λhd72 w h=>?_) λhd72 w h=>?_
 have hd73:(Ct.cS c false 0)=false:=by simpa using hd72
 refine go h λw h=>?_
 refine bA (dJ false 0 h.to) λw h=>?_
 exact rr (cL rfl rfl (h.b a6) Row.h rfl)<|⟨_,(Ct.cC false 0,1),Ct.rN<|Ct.rF hd6<|Ct.rN<|Ct.rF (by rw[hd23];rfl)<|Ct.rF (by rw[hd23];rfl)<|Ct.Zo hd73<|Ct.rR,rfl,h.to,k⟩
 have hd74:(Ct.cS c false 0)=true:=by simpa using hd72
 refine go h λw h=>?_
 refine VS (F:=[bl b5 (aL ((Ct.X.of c x).node m) p3) 53,bl b22 ([.int .i64 4,.int .i64 0,.int .i64 0,.int .u64 0,.slice none 0 0,.int .u64 (ha:Int),↑c.key,.int .u64 (c.value:Int),.slice none 0 0,.int .i64 0,.int .i64 0,.int .i64 0,.int .i64 0,.int .i64 0]) 53]) (.op 0 true (.op 1 true (.op 2 true (.op 3 true (.fork 4 9 (.fork 5 9 (.op 6 true (.op 7 true (.op 8 true (.op 9 false (.op 10 false (.op 11 false .stop)))))) (.op 5 false (.op 6 true (.op 7 true (.op 8 true (.op 10 false (.op 11 false .stop))))))) (.op 4 false (.op 5 false (.op 6 true (.op 7 true (.op 8 true (.op 10 false (.op 11 false .stop)))))))))))) (by kernel_rfl) h (λw h=>(hC (h.at_ a4) (hC (h.at_ a3) hN))) λw h=>go h λw h=>?_
 refine Mg ?_ ?_
 refine mF (dS (j:=59) xb mb (Ct.X.of c x) ({kind:=4,hash:=ha,key:=c.key,value:=c.value}) {} 0 (SH.eE ({kind:=4,hash:=ha,key:=c.key,value:=c.value}) rfl rfl h.to) (k.less (by omega)) (Ct.iF _ 4 _ _ _ (by decide) hh hky)) λy75 v76 q77 w h ⟨k,hly75⟩=>?_
 obtain⟨z78,rfl⟩:=Ct.Lg q77
 have lq77:=Ct.Gq q77
 refine go h λw h=>?_
 refine Mg ?_ ?_
 refine lH (qU ((Ct.X.of c x).node m) p3 (Ct.slice ha lv) v76 h.to (Ct.Node.Fit.nf f4 (by omega))) λq79 w h=>?_
 refine jB h λb80 w h=>?_
 refine dZ [1,3,5,7,9,11,13,15,16,18,20,23,25,26,28] (by kernel_rfl) h (.c r7 (.c r0 .n)) λw h=>go h λw h=>?_
 refine mF (dS (j:=58) xb mb (Ct.X.of c z78) (Ct.aS ((Ct.X.of c x).node m) (Ct.slice ha lv) v76).1 q79 m ((SH.Gs h.to .z).fr (.c r0 (.c r1 .n))) (k.less (by omega)) ((Ct.eB f4 (Ct.slice ha lv) v76).mono (by omega))) λy81 v82 q83 w h ⟨k,hly81⟩=>?_
 obtain⟨z84,rfl⟩:=Ct.Lg q83
 have lq83:=Ct.Gq q83
 refine go h λw h=>?_
 refine mF (gH xb mb (Ct.X.of c z84) c.aE i m v82 h.to (k.less (by omega))) λy85 v86 q87 w h k=>?_
 obtain⟨z88,rfl⟩:=Ct.mB q87
 have lq87:=Ct.nY q87
 refine go h λw h=>?_
 refine gO (eM _ v86 false 0 h.to) λw h=>?_
 exact rr (cL rfl rfl (h.b a8) Row.h rfl)<|⟨_,(Ct.dL false 0,(bif v86 then 1 else 0)),Ct.rN<|Ct.rF hd6<|Ct.rN<|Ct.rF (by rw[hd23];rfl)<|Ct.rF (by rw[hd23];rfl)<|Ct.wF hd74<|Ct.Zo hd23<|Ct.rA q77<|Ct.rA q83<|Ct.rB q87<|Ct.rR,rfl,h.to,k⟩
 refine jB h λb89 w h=>?_
 refine lH (qU ((Ct.X.of c x).node m) p3 (Ct.slice ha lv) v76 h.to (Ct.Node.Fit.nf f4 (by omega))) λq90 w h=>?_
 refine dZ [1,3,5,7,9,11,13,15,16,18,20,23,25,26,28] (by kernel_rfl) h (.c r7 (.c r2 .n)) λw h=>go h λw h=>?_
 refine mF (dS (j:=58) xb mb (Ct.X.of c z78) (Ct.aS ((Ct.X.of c x).node m) (Ct.slice ha lv) v76).1 q90 m ((SH.Gs h.to .z).fr (.c r0 (.c r1 .n))) (k.less (by omega)) ((Ct.eB f4 (Ct.slice ha lv) v76).mono (by omega))) λy91 v92 q93 w h ⟨k,hly91⟩=>?_
 obtain⟨z94,rfl⟩:=Ct.Lg q93
 have lq93:=Ct.Gq q93
 refine go h λw h=>?_
 refine mF (gH xb mb (Ct.X.of c z94) c.aE i m v92 h.to (k.less (by omega))) λy95 v96 q97 w h k=>?_
 obtain⟨z98,rfl⟩:=Ct.mB q97
 have lq97:=Ct.nY q97
 refine go h λw h=>?_
 refine gO (eM _ v96 false 0 h.to) λw h=>?_
 exact rr (cL rfl rfl (h.b a8) Row.h rfl)<|⟨_,(Ct.dL false 0,(bif v96 then 1 else 0)),Ct.rN<|Ct.rF hd6<|Ct.rN<|Ct.rF (by rw[hd23];rfl)<|Ct.rF (by rw[hd23];rfl)<|Ct.wF hd74<|Ct.Zo hd23<|Ct.rA q77<|Ct.rA q93<|Ct.rB q97<|Ct.rR,rfl,h.to,k⟩
 refine jB h λb99 w h=>?_
 refine mF (dS (j:=59) xb mb (Ct.X.of c x) ({kind:=4,hash:=ha,key:=c.key,value:=c.value}) {} 0 (SH.eE ({kind:=4,hash:=ha,key:=c.key,value:=c.value}) rfl rfl h.to) (k.less (by omega)) (Ct.iF _ 4 _ _ _ (by decide) hh hky)) λy100 RW q102 w h ⟨k,hly100⟩=>?_
 obtain⟨z103,rfl⟩:=Ct.Lg q102
 have lq102:=Ct.Gq q102
 refine go h λw h=>?_
 refine lH (qU ((Ct.X.of c x).node m) p3 (Ct.slice ha lv) RW h.to (Ct.Node.Fit.nf f4 (by omega))) λq104 w h=>?_
 refine dZ [1,3,5,7,9,11,13,15,16,18,20,23,25,26,28] (by kernel_rfl) h (.c r7 (.c r3 .n)) λw h=>go h λw h=>?_
 refine mF (dS (j:=58) xb mb (Ct.X.of c z103) (Ct.aS ((Ct.X.of c x).node m) (Ct.slice ha lv) RW).1 q104 m ((SH.Gs h.to .z).fr (.c r0 (.c r1 .n))) (k.less (by omega)) ((Ct.eB f4 (Ct.slice ha lv) RW).mono (by omega))) λy105 v106 q107 w h ⟨k,hly105⟩=>?_
 obtain⟨z108,rfl⟩:=Ct.Lg q107
 have lq107:=Ct.Gq q107
 refine go h λw h=>?_
 refine mF (gH xb mb (Ct.X.of c z108) c.aE i m v106 h.to (k.less (by omega))) λy109 YQ q111 w h k=>?_
 obtain⟨z112,rfl⟩:=Ct.mB q111
 have lq111:=Ct.nY q111
 refine go h λw h=>?_
 refine gO (eM _ YQ false 0 h.to) λw h=>?_
 exact rr (cL rfl rfl (h.b a8) Row.h rfl)<|⟨_,(Ct.dL false 0,(bif YQ then 1 else 0)),Ct.rN<|Ct.rF hd6<|Ct.rN<|Ct.rF (by rw[hd23];rfl)<|Ct.rF (by rw[hd23];rfl)<|Ct.wF hd74<|Ct.Zo hd23<|Ct.rA q102<|Ct.rA q107<|Ct.rB q111<|Ct.rR,rfl,h.to,k⟩
theorem wO(xb mb:Nat)(x:Ct.X)(c:Ct.Call)(i m ix gen:Int)(h:SH B w (XA xb mb (Ct.X.of c x)::L))(k:Ct.Ok 60 (Ct.X.of c x)):
  Calls prog 193 #[↑xb,↑i,↑m,↑ix,↑gen] w λe w'=>∃y v,Ct.aX (Ct.qS c.aE i m ix gen) (Ct.X.of c x)=Ct.out y v/\e=.returned (.int .i64 v)/\SH B w' (XA xb mb y::L)/\Ct.Ok 60 y:=by
 have hlen:=k.len
 refine bZ func193 ntmps193 h λw h=>?_
 refine cG (aN _ _ _ _ h.to k.dR) λp1 w h=>?_
 have f2:=k.lN m
 have bf2:=k.len
 refine go h λw h=>?_
 refine bA (fG _ _ _ _ _ _ h.to (Ct.Node.Fit.nf f2 (by omega))) λw h=>?_
 refine st (ld (v:=.bool (Ct.X.of c x).e.aC) One.h rfl (h.xc a1 λ_=>rfl))<|go h λw h=>?_
 refine qg h (λhd3 w h=>?_) λhd3 w h=>?_
 exact rz ⟨_,(Ct.aB ((Ct.X.of c x).node m) ix).1,Ct.rN<|Ct.rS hd3,rfl,h.drop,(k.stop hd3)⟩
 refine cG (aN _ _ _ _ h.to k.dR) λp4 w h=>?_
 have f5:=k.lN (Ct.aB ((Ct.X.of c x).node m) ix).1
 have bf5:=k.len
 refine go h λw h=>?_
 refine qc h (λhd6 w h=>?_) λhd6 w h=>?_
 have hg7:=eq_of_beq hd6
 refine go h λw h=>?_
 exact rz ⟨_,(Ct.aB ((Ct.X.of c x).node m) ix).1,Ct.rN<|Ct.rN<|Ct.rT hd6<|Ct.rR,rfl,h.to,k⟩
 have hg8:=dP hd6
 refine go h λw h=>?_
 refine st (gJ (cs:=cU c.aE) rfl (h.xr 2 a1 λ_=>rfl) Row.h)<|go h λw h=>?_
 refine dE (JL _ _ _ _ _ _ _ h.to (k.less (by omega))) λy9 v10 q11 w h k=>?_
 obtain⟨z12,rfl⟩:=Ct.mB q11
 have lq11:=Ct.nY q11
 refine go h λw h=>?_
 exact rz ⟨_,v10,Ct.rN<|Ct.rN<|Ct.rF hd6<|q11,rfl,h.to,k⟩
theorem UB(xb mb:Nat)(x:Ct.X)(c:Ct.Call)(F:Nat)(h:SH B w (XA xb mb (Ct.X.of c x)::L))(k:Ct.Ok 60 (Ct.X.of c x))(hx:(Ct.X.of c x).left<F)(hF:F<=100000000000)(hm:c.aI<18446744073709551616)(hky:c.key.size<=64):
  Calls prog 152 #[↑xb] w λe w'=>∃y v,Ct.aX (Ct.yN c F F) (Ct.X.of c x)=Ct.out y v/\e=.returned (.agg (xC v).toArray)/\SH B w' (XA xb mb y::L)/\Ct.Ok 60 y:=by
 have hh:=Ct.eI c.key c.aI
 refine bZ func152 ntmps152 h λw h=>?_
 refine jA h λb1 w h=>?_
 refine XL (F:=[XA xb mb (Ct.X.of c x)]) [1,3,5,7,9,11,13,15,17,19,21,23,25,27,29] 15 16 [32,34,36] [30,34,36] (by kernel_rfl) h (λw h=>(hC (h.at_ a1) hN)) λw h=>go h λw h=>?_
 refine tk (λW H=>gJ (cs:=cU c.aE) rfl (H.xr 2 a0 λ_=>rfl) Row.h)<|go h λw h=>?_
 refine tk (λW H=>ld (v:=.string c.key) One.h rfl (H.xc a0 λ_=>rfl))<|go h λw h=>?_
 refine tk (λW H=>ld (v:=.int .u64 (c.aI:Int)) One.h rfl (H.xc a0 λ_=>rfl))<|go h λw h=>?_
 refine YJ ?_ ?_
 refine cs (ca eF rfl) ((pA c.key c.aI _ (by omega) (by omega)).mono ?_)
 rintro _ _ ⟨rfl,rfl⟩
 refine⟨_,rfl,(hC (h.at_ a1) hN),?_⟩
 refine jB h λb2 w h=>?_
 refine lp (α:=Ct.X×Nat) (λρ=>(.c 0 ↑xb (.c 2 ↑b1 (.c 3 ↑b2 (.c 4 (.int .u64 ((Ct.aH c.key c.aI:Nat):Int)) .n))))) (λρ w=>SH B w (XA xb mb (Ct.X.of c ρ.1)::bl b2 (cU c.aE) 35::bl b1 ([.int .i64 0,↑false,.int .u64 0,.string .empty,.int .i64 0,.int .i64 0,.int .i64 0,↑false]) 49::L)/\(Ct.aX (Ct.yN c F F) (Ct.X.of c x)=Ct.aX (Ct.yN c F ρ.2) (Ct.X.of c ρ.1))/\(Ct.Ok 60 (Ct.X.of c ρ.1))/\((Ct.X.of c ρ.1).e.aC=true\/(Ct.X.of c ρ.1).left<ρ.2)/\(ρ.2<=F)) (λρ=>ρ.2) (x,F) ⟨rfl,rfl,rfl,rfl,trivial⟩ ⟨h.to,rfl,k,(.inr (by(try dsimp only);omega)),JV _⟩ ?_
 rintro⟨y,n⟩ w ⟨h,hq,k,hn,hnF⟩
 refine go h λw h=>?_
 refine st (ld (v:=.bool (Ct.X.of c y).e.aC) One.h rfl (h.xc a0 λ_=>rfl))<|go h λw h=>?_
 refine qc h (λhd3 w h=>?_) λhd3 w h=>?_
 have hd4:(Ct.X.of c y).e.aC=false:=by simpa using hd3
 obtain⟨n,rfl⟩:∃k,n=k+1:=⟨n-1,by have:=hn.resolve_left (by rw[hd4];decide);omega⟩
 replace hn:=hn.resolve_left (by rw[hd4];decide)
 rw[Ct.Kt]at hq
 have kb5:=k
 refine dE (nV _ _ _ _ h.to (k.less (by omega))) λy6 v7 q8 w h k=>?_
 obtain⟨z9,rfl⟩:=Ct.mB q8
 have ltq8:=Ct.pY kb5 (by omega) q8
 refine cG (aN _ _ _ _ h.to k.dR) λp10 w h=>?_
 refine lp (α:=Ct.X×Nat×Int×Int×Int) (λρ=>(.c 0 ↑xb (.c 2 ↑b1 (.c 3 ↑b2 (.c 4 (.int .u64 ((Ct.aH c.key c.aI:Nat):Int)) (.c 5 (.int .i64 ρ.2.2.2.1) (.c 6 (.int .i64 ((Ct.X.of c z9).node v7).gen) (.c 7 (.int .i64 ρ.2.2.1) (.c 8 (.int .i64 ρ.2.2.2.2) .n))))))))) (λρ w=>SH B w (XA xb mb (Ct.X.of c ρ.1)::bl b2 (cU c.aE) 35::bl b1 ([.int .i64 0,↑false,.int .u64 0,.string .empty,.int .i64 0,.int .i64 0,.int .i64 0,↑false]) 49::L)/\(Ct.aX (Ct.yN c F F) (Ct.X.of c x)=Ct.aX ((Ct.Dx c (Ct.aH c.key c.aI) ((Ct.X.of c z9).node v7).gen ρ.2.1 ρ.2.2.1 ρ.2.2.2.1 ρ.2.2.2.2).bind (Ct.WC c F n)) (Ct.X.of c ρ.1))/\(Ct.Ok 60 (Ct.X.of c ρ.1))/\((Ct.X.of c ρ.1).e.aC=true\/(Ct.X.of c ρ.1).left<ρ.2.1)/\((Ct.X.of c ρ.1).e.aC=true\/(Ct.X.of c ρ.1).left<n)/\(0<=ρ.2.2.2.2/\ρ.2.2.2.2+(ρ.2.1:Int)<=(F:Int))) (λρ=>ρ.2.1) (z9,F,0,v7,0) ⟨rfl,rfl,rfl,rfl,rfl,rfl,rfl,rfl,trivial⟩ ⟨h.drop,(hq.trans<|Ct.rB q8<|Ct.rN<|rfl),k,(ltq8.imp id λh=>by have:=h.2;(try dsimp only);omega),(ltq8.imp id λh=>by have:=h.2;(try dsimp only);omega),⟨by(try dsimp only);omega,by(try dsimp only);omega⟩⟩ ?_
 rintro⟨yi,kk,pa,i,l⟩ w ⟨h,hq,k,hn,ho,hl⟩
 dsimp only at *
 refine go h λw h=>?_
 refine st (ld (v:=.bool (Ct.X.of c yi).e.aC) One.h rfl (h.xc a0 λ_=>rfl))<|go h λw h=>?_
 refine qc h (λhd12 w h=>?_) λhd12 w h=>?_
 have hd13:(Ct.X.of c yi).e.aC=false:=by simpa using hd12
 refine go h λw h=>?_
 obtain⟨kk,rfl⟩:∃k,kk=k+1:=⟨kk-1,by have:=hn.resolve_left (by rw[hd13];decide);omega⟩
 replace hn:=hn.resolve_left (by rw[hd13];decide)
 replace ho:=ho.resolve_left (by rw[hd13];decide)
 have kb14:=k
 refine dE (hU _ _ _ _ _ h.to (k.less (by omega))) λy15 v16 q17 w h k=>?_
 obtain⟨z18,rfl⟩:=Ct.mB q17
 have ltq17:=Ct.oK kb14 q17
 refine st (ld (v:=.bool (Ct.X.of c z18).e.aC) One.h rfl (h.xc a0 λ_=>rfl))<|go h λw h=>?_
 refine qc h (λhd19 w h=>?_) λhd19 w h=>?_
 exact⟨(z18,n),⟨rfl,rfl,rfl,rfl,trivial⟩,⟨h,(hq.trans<|Ct.lB q17<|Ct.QT hd19),k,(.inl hd19),by(try dsimp only);omega⟩,by(try dsimp only);omega⟩
 refine cG (aN _ _ _ _ h.to k.dR) λp20 w h=>?_
 refine qc h (λhd22 w h=>?_) λhd22 w h=>?_
 have hg23:=eq_of_beq hd22
 refine go h λw h=>?_
 refine st (bs (l-1))<|go h λw h=>?_
 have kb24:=k
 refine dE (rI _ _ _ _ _ _ _ _ h.to (k.less (by omega)) hh) λy25 v26 q27 w h k=>?_
 obtain⟨z28,rfl⟩:=Ct.mB q27
 have ltq27:=Ct.lL (Ct.jW _ _ _ _ _) kb24 (by omega) q27
 exact⟨(z28,n),⟨rfl,rfl,rfl,rfl,trivial⟩,⟨h.to,(hq.trans<|Ct.lB q17<|Ct.Ds<|Ct.Mv hd22<|Ct.lB q27<|rfl),k,(.inr (by have:=(ltq17.resolve_left (by rw[hd19];decide)).2;have:=ltq27;(try dsimp only);omega)),by(try dsimp only);omega⟩,by(try dsimp only);omega⟩
 have kb30:=k
 refine dE (Eg _ _ _ c _ _ _ _ _ h.to (k.less (by omega)) hh hky (by omega) (by omega)) λy31 v32 q33 w h k=>?_
 obtain⟨z34,rfl⟩:=Ct.mB q33
 have ltq33:=Ct.lL (Ct.sU c _ _ _ _ _ hky hh (by omega)) kb30 (by omega) q33
 refine jA h λb35 w h=>?_
 refine st (ld (v:=.bool (Ct.X.of c z34).e.aC) One.h rfl (h.xc a1 λ_=>rfl))<|go h λw h=>?_
 refine qg h (λhd36 w h=>?_) λhd36 w h=>?_
 exact rc h ⟨_,v32.1,hq.trans<|Ct.lB q17<|Ct.Ds<|Ct.oV hd22<|Ct.lB q33<|Ct.rS hd36,rfl,h.to,(k.stop hd36)⟩
 refine qc h (λhd37 w h=>?_) λhd37 w h=>?_
 exact rc h ⟨_,v32.1,hq.trans<|Ct.lB q17<|Ct.Ds<|Ct.oV hd22<|Ct.lB q33<|Ct.Mv hd37<|Ct.rR,rfl,h.to,k⟩
 refine qc h (λhd40 w h=>?_) λhd40 w h=>?_
 exact⟨(z34,n),⟨rfl,rfl,rfl,rfl,trivial⟩,⟨h.to,(hq.trans<|Ct.lB q17<|Ct.Ds<|Ct.oV hd22<|Ct.lB q33<|Ct.oV hd37<|Ct.Mv hd40<|rfl),k,(.inr (by have:=(ltq17.resolve_left (by rw[hd19];decide)).2;have:=ltq33;(try dsimp only);omega)),by(try dsimp only);omega⟩,by(try dsimp only);omega⟩
 refine cl (ca eF rfl) ((eH (Ct.aH c.key c.aI) l _ (by omega)).mono ?_)
 rintro _ _ ⟨rfl,rfl⟩
 refine⟨_,rfl,?_⟩
 refine st (mv rfl)<|?_
 have kb43:=k
 refine dE (wO _ _ _ c _ _ _ _ h.to (k.less (by omega))) λy44 v45 q46 w h k=>?_
 obtain⟨z47,rfl⟩:=Ct.mB q46
 have ltq46:=Ct.lL (Ct.mW _ _ _ _ _) kb43 (by omega) q46
 refine qc h (λhd48 w h=>?_) λhd48 w h=>?_
 exact⟨(z47,n),⟨rfl,rfl,rfl,rfl,trivial⟩,⟨h.to,(hq.trans<|Ct.lB q17<|Ct.Ds<|Ct.oV hd22<|Ct.lB q33<|Ct.oV hd37<|Ct.oV hd40<|Ct.lB q46<|Ct.Mv hd48<|rfl),k,(.inr (by have:=(ltq17.resolve_left (by rw[hd19];decide)).2;have:=ltq33;have:=ltq46;(try dsimp only);omega)),by(try dsimp only);omega⟩,by(try dsimp only);omega⟩
 have hg50:=dP hd48
 refine go h λw h=>?_
 refine st (ba (l+1))<|go h λw h=>?_
 exact⟨(z47,kk,i,v45,l+1),⟨rfl,rfl,rfl,rfl,rfl,rfl,rfl,rfl,trivial⟩,⟨h.to,(hq.trans<|Ct.lB q17<|Ct.Ds<|Ct.oV hd22<|Ct.lB q33<|Ct.oV hd37<|Ct.oV hd40<|Ct.lB q46<|Ct.oV hd48<|rfl),k,(.inr (by have:=(ltq17.resolve_left (by rw[hd19];decide)).2;have:=ltq33;have:=ltq46;(try dsimp only);omega)),(.inr (by have:=(ltq17.resolve_left (by rw[hd19];decide)).2;have:=ltq33;have:=ltq46;(try dsimp only);omega)),⟨by(try dsimp only);omega,by(try dsimp only);omega⟩⟩,by(try dsimp only);omega⟩
 have hd51:(Ct.X.of c yi).e.aC=true:=by simpa using hd12
 exact⟨(yi,n),⟨rfl,rfl,rfl,rfl,trivial⟩,⟨h,(hq.trans<|Ct.QT hd51),k,(.inl hd51),by(try dsimp only);omega⟩,by(try dsimp only);omega⟩
 have hd52:(Ct.X.of c y).e.aC=true:=by simpa using hd3
 exact rc h ⟨_,{},hq.trans<|Ct.rS hd52,rfl,h.to,(k.stop hd52)⟩
 refine jB h λb53 w h=>?_
 refine cs (ca eF rfl) ((pA c.key c.aI _ (by omega) (by omega)).mono ?_)
 rintro _ _ ⟨rfl,rfl⟩
 refine⟨_,rfl,(hC (h.at_ a2) hN),?_⟩
 refine ff (so h rfl rfl rfl Ba rfl (.r (.r .d)) u0)<|?_
 rintro _ w h
 refine⟨(hC (h.at_ a2) hN),?_⟩
 refine ef (sg rfl) ((hC (h.at_ a2) hN))<|xz<|nx<|sq<|bk<|?_
 refine lp (α:=Ct.X×Nat) (λρ=>(.c 0 ↑xb (.c 2 ↑b1 (.c 3 ↑b53 (.c 4 (.int .u64 ((Ct.aH c.key c.aI:Nat):Int)) .n))))) (λρ w=>SH B w (XA xb mb (Ct.X.of c ρ.1)::bl b53 (cU c.aE) 35::bl b1 ([.int .i64 0,↑false,.int .u64 0,.string .empty,.int .i64 0,.int .i64 0,.int .i64 0,↑false]) 49::L)/\(Ct.aX (Ct.yN c F F) (Ct.X.of c x)=Ct.aX (Ct.yN c F ρ.2) (Ct.X.of c ρ.1))/\(Ct.Ok 60 (Ct.X.of c ρ.1))/\((Ct.X.of c ρ.1).e.aC=true\/(Ct.X.of c ρ.1).left<ρ.2)/\(ρ.2<=F)) (λρ=>ρ.2) (x,F) ⟨rfl,rfl,rfl,rfl,trivial⟩ ⟨h.to,rfl,k,(.inr (by(try dsimp only);omega)),JV _⟩ ?_
 rintro⟨y,n⟩ w ⟨h,hq,k,hn,hnF⟩
 refine go h λw h=>?_
 refine st (ld (v:=.bool (Ct.X.of c y).e.aC) One.h rfl (h.xc a0 λ_=>rfl))<|go h λw h=>?_
 refine qc h (λhd54 w h=>?_) λhd54 w h=>?_
 have hd55:(Ct.X.of c y).e.aC=false:=by simpa using hd54
 obtain⟨n,rfl⟩:∃k,n=k+1:=⟨n-1,by have:=hn.resolve_left (by rw[hd55];decide);omega⟩
 replace hn:=hn.resolve_left (by rw[hd55];decide)
 rw[Ct.Kt]at hq
 have kb56:=k
 refine dE (nV _ _ _ _ h.to (k.less (by omega))) λy57 v58 q59 w h k=>?_
 obtain⟨z60,rfl⟩:=Ct.mB q59
 have ltq59:=Ct.pY kb56 (by omega) q59
 refine cG (aN _ _ _ _ h.to k.dR) λp61 w h=>?_
 refine lp (α:=Ct.X×Nat×Int×Int×Int) (λρ=>(.c 0 ↑xb (.c 2 ↑b1 (.c 3 ↑b53 (.c 4 (.int .u64 ((Ct.aH c.key c.aI:Nat):Int)) (.c 5 (.int .i64 ρ.2.2.2.1) (.c 6 (.int .i64 ((Ct.X.of c z60).node v58).gen) (.c 7 (.int .i64 ρ.2.2.1) (.c 8 (.int .i64 ρ.2.2.2.2) .n))))))))) (λρ w=>SH B w (XA xb mb (Ct.X.of c ρ.1)::bl b53 (cU c.aE) 35::bl b1 ([.int .i64 0,↑false,.int .u64 0,.string .empty,.int .i64 0,.int .i64 0,.int .i64 0,↑false]) 49::L)/\(Ct.aX (Ct.yN c F F) (Ct.X.of c x)=Ct.aX ((Ct.Dx c (Ct.aH c.key c.aI) ((Ct.X.of c z60).node v58).gen ρ.2.1 ρ.2.2.1 ρ.2.2.2.1 ρ.2.2.2.2).bind (Ct.WC c F n)) (Ct.X.of c ρ.1))/\(Ct.Ok 60 (Ct.X.of c ρ.1))/\((Ct.X.of c ρ.1).e.aC=true\/(Ct.X.of c ρ.1).left<ρ.2.1)/\((Ct.X.of c ρ.1).e.aC=true\/(Ct.X.of c ρ.1).left<n)/\(0<=ρ.2.2.2.2/\ρ.2.2.2.2+(ρ.2.1:Int)<=(F:Int))) (λρ=>ρ.2.1) (z60,F,0,v58,0) ⟨rfl,rfl,rfl,rfl,rfl,rfl,rfl,rfl,trivial⟩ ⟨h.drop,(hq.trans<|Ct.rB q59<|Ct.rN<|rfl),k,(ltq59.imp id λh=>by have:=h.2;(try dsimp only);omega),(ltq59.imp id λh=>by have:=h.2;(try dsimp only);omega),⟨by(try dsimp only);omega,by(try dsimp only);omega⟩⟩ ?_
 rintro⟨yi,kk,pa,i,l⟩ w ⟨h,hq,k,hn,ho,hl⟩
 dsimp only at *
 refine go h λw h=>?_
 refine st (ld (v:=.bool (Ct.X.of c yi).e.aC) One.h rfl (h.xc a0 λ_=>rfl))<|go h λw h=>?_
 refine qc h (λhd63 w h=>?_) λhd63 w h=>?_
 have hd64:(Ct.X.of c yi).e.aC=false:=by simpa using hd63
 refine go h λw h=>?_
 obtain⟨kk,rfl⟩:∃k,kk=k+1:=⟨kk-1,by have:=hn.resolve_left (by rw[hd64];decide);omega⟩
 replace hn:=hn.resolve_left (by rw[hd64];decide)
 replace ho:=ho.resolve_left (by rw[hd64];decide)
 have kb65:=k
 refine dE (hU _ _ _ _ _ h.to (k.less (by omega))) λy66 v67 q68 w h k=>?_
 obtain⟨z69,rfl⟩:=Ct.mB q68
 have ltq68:=Ct.oK kb65 q68
 refine st (ld (v:=.bool (Ct.X.of c z69).e.aC) One.h rfl (h.xc a0 λ_=>rfl))<|go h λw h=>?_
 refine qc h (λhd70 w h=>?_) λhd70 w h=>?_
 exact⟨(z69,n),⟨rfl,rfl,rfl,rfl,trivial⟩,⟨h,(hq.trans<|Ct.lB q68<|Ct.QT hd70),k,(.inl hd70),by(try dsimp only);omega⟩,by(try dsimp only);omega⟩
 refine cG (aN _ _ _ _ h.to k.dR) λp71 w h=>?_
 refine qc h (λhd73 w h=>?_) λhd73 w h=>?_
 have hg74:=eq_of_beq hd73
 refine go h λw h=>?_
 refine st (bs (l-1))<|go h λw h=>?_
 have kb75:=k
 refine dE (rI _ _ _ _ _ _ _ _ h.to (k.less (by omega)) hh) λy76 v77 q78 w h k=>?_
 obtain⟨z79,rfl⟩:=Ct.mB q78
 have ltq78:=Ct.lL (Ct.jW _ _ _ _ _) kb75 (by omega) q78
 exact⟨(z79,n),⟨rfl,rfl,rfl,rfl,trivial⟩,⟨h.to,(hq.trans<|Ct.lB q68<|Ct.Ds<|Ct.Mv hd73<|Ct.lB q78<|rfl),k,(.inr (by have:=(ltq68.resolve_left (by rw[hd70];decide)).2;have:=ltq78;(try dsimp only);omega)),by(try dsimp only);omega⟩,by(try dsimp only);omega⟩
 have kb81:=k
 refine dE (Eg _ _ _ c _ _ _ _ _ h.to (k.less (by omega)) hh hky (by omega) (by omega)) λy82 v83 q84 w h k=>?_
 obtain⟨z85,rfl⟩:=Ct.mB q84
 have ltq84:=Ct.lL (Ct.sU c _ _ _ _ _ hky hh (by omega)) kb81 (by omega) q84
 refine jA h λb86 w h=>?_
 refine st (ld (v:=.bool (Ct.X.of c z85).e.aC) One.h rfl (h.xc a1 λ_=>rfl))<|go h λw h=>?_
 refine qg h (λhd87 w h=>?_) λhd87 w h=>?_
 exact rc h ⟨_,v83.1,hq.trans<|Ct.lB q68<|Ct.Ds<|Ct.oV hd73<|Ct.lB q84<|Ct.rS hd87,rfl,h.to,(k.stop hd87)⟩
 refine qc h (λhd88 w h=>?_) λhd88 w h=>?_
 exact rc h ⟨_,v83.1,hq.trans<|Ct.lB q68<|Ct.Ds<|Ct.oV hd73<|Ct.lB q84<|Ct.Mv hd88<|Ct.rR,rfl,h.to,k⟩
 refine qc h (λhd91 w h=>?_) λhd91 w h=>?_
 exact⟨(z85,n),⟨rfl,rfl,rfl,rfl,trivial⟩,⟨h.to,(hq.trans<|Ct.lB q68<|Ct.Ds<|Ct.oV hd73<|Ct.lB q84<|Ct.oV hd88<|Ct.Mv hd91<|rfl),k,(.inr (by have:=(ltq68.resolve_left (by rw[hd70];decide)).2;have:=ltq84;(try dsimp only);omega)),by(try dsimp only);omega⟩,by(try dsimp only);omega⟩
 refine cl (ca eF rfl) ((eH (Ct.aH c.key c.aI) l _ (by omega)).mono ?_)
 rintro _ _ ⟨rfl,rfl⟩
 refine⟨_,rfl,?_⟩
 refine st (mv rfl)<|?_
 have kb94:=k
 refine dE (wO _ _ _ c _ _ _ _ h.to (k.less (by omega))) λy95 v96 q97 w h k=>?_
 obtain⟨z98,rfl⟩:=Ct.mB q97
 have ltq97:=Ct.lL (Ct.mW _ _ _ _ _) kb94 (by omega) q97
 refine qc h (λhd99 w h=>?_) λhd99 w h=>?_
 exact⟨(z98,n),⟨rfl,rfl,rfl,rfl,trivial⟩,⟨h.to,(hq.trans<|Ct.lB q68<|Ct.Ds<|Ct.oV hd73<|Ct.lB q84<|Ct.oV hd88<|Ct.oV hd91<|Ct.lB q97<|Ct.Mv hd99<|rfl),k,(.inr (by have:=(ltq68.resolve_left (by rw[hd70];decide)).2;have:=ltq84;have:=ltq97;(try dsimp only);omega)),by(try dsimp only);omega⟩,by(try dsimp only);omega⟩
 have hg101:=dP hd99
 refine go h λw h=>?_
 refine st (ba (l+1))<|go h λw h=>?_
 exact⟨(z98,kk,i,v96,l+1),⟨rfl,rfl,rfl,rfl,rfl,rfl,rfl,rfl,trivial⟩,⟨h.to,(hq.trans<|Ct.lB q68<|Ct.Ds<|Ct.oV hd73<|Ct.lB q84<|Ct.oV hd88<|Ct.oV hd91<|Ct.lB q97<|Ct.oV hd99<|rfl),k,(.inr (by have:=(ltq68.resolve_left (by rw[hd70];decide)).2;have:=ltq84;have:=ltq97;(try dsimp only);omega)),(.inr (by have:=(ltq68.resolve_left (by rw[hd70];decide)).2;have:=ltq84;have:=ltq97;(try dsimp only);omega)),⟨by(try dsimp only);omega,by(try dsimp only);omega⟩⟩,by(try dsimp only);omega⟩
 have hd102:(Ct.X.of c yi).e.aC=true:=by simpa using hd63
 exact⟨(yi,n),⟨rfl,rfl,rfl,rfl,trivial⟩,⟨h,(hq.trans<|Ct.QT hd102),k,(.inl hd102),by(try dsimp only);omega⟩,by(try dsimp only);omega⟩
 have hd103:(Ct.X.of c y).e.aC=true:=by simpa using hd54
 exact rc h ⟨_,{},hq.trans<|Ct.rS hd103,rfl,h.to,(k.stop hd103)⟩
end Go.Q9
end
