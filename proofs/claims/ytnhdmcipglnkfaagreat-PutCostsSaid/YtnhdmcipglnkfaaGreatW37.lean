/- Parts of a proof: Q4. -/
import Derived.Test.YtnhdmcipglnkfaaGreatW36
set_option linter.unusedVariables false
set_option linter.unusedSimpArgs false
set_option maxRecDepth 100000
set_option maxHeartbeats 4000000
section
namespace Go.Q9
open Go.Proofs.Tryz
open Go.RowKit Go.E Go.Ct
attribute [local irreducible] gA wpS Go.E.X XS C kV lL fin Y U F Ca kU bl rb aV bS ex ce pu sK gK bK zK
variable{B w:World}{L:List As}
theorem ED(xb mb:Nat)(x:Ct.X)(c:Ct.Call)(i m:Int)(ha:Nat)(lv gen:Int)(h:SH B w (XA xb mb (Ct.X.of c x)::L))(k:Ct.Ok 60 (Ct.X.of c x))(hh:ha<18446744073709551616)(vE:c.key.size<=64)(hl:0<=lv)(YH:lv<=900000000000):
  Calls prog 192 #[↑xb,↑i,↑m,.int .u64 (ha:Int),↑lv,↑gen] w λe w'=>∃y v,Ct.bC (Ct.nR c i m ha lv gen) (Ct.X.of c x)=Ct.out y v/\e=.returned (.tuple #[.agg (Bn v.1).toArray,.int .i64 v.2])/\SH B w' (XA xb mb y::L)/\Ct.Ok 60 y:=by
 have hlen:=k.len
 refine cN func192 ntmps192 h λw h=>?_
 refine jA h λb1 w h=>?_
 refine fD [1,3,5,7,9,11,13,15,17,19,21,23,25,27,29,30,32,34,36] (by kernel_rfl) h (.c r1 .n) λw h=>go h λw h=>?_
 refine tk (λW H=>kB (cs:=dV c.aF) rfl (H.xr 2 a0 λ_=>rfl) Row.h)<|go h λw h=>?_
 refine tk (λW H=>ld (v:=.string c.key) One.h rfl (H.xc a0 λ_=>rfl))<|go h λw h=>?_
 refine tk (λW H=>ld (v:=.int .u64 (c.value:Int)) One.h rfl (H.xc a0 λ_=>rfl))<|go h λw h=>?_
 refine jB h λb2 w h=>?_
 refine cS (aQ xb mb (Ct.X.of c x) m h.to k.eY) λp3 w h=>?_
 have f4:=k.qJ m
 have bf4:=k.len
 refine go h λw h=>?_
 refine jA h λb5 w h=>?_
 refine qc h (λdJ w h=>?_) λdJ w h=>?_
 have El:=eq_of_beq dJ
 refine go h λw h=>?_
 have h:=h.fr (.c r1 .n)
 have h:=SH.se (l:=[bE ((Ct.X.of c x).node m) p3,cP ((Ct.X.of c x).node m) p3]) h
 have KW:=(Ct.iW (((Ct.Node.Fit.nf f4 (by omega))).v6 (eq_of_beq dJ))).pJ (eq_of_beq dJ)
 have hpl:=((Ct.Node.Fit.nf f4 (by omega))).pr
 refine go h λw h=>?_
 refine bQ (Bb ((Ct.X.of c x).node m).aH _ _ c.key h.to KW (by omega)) λw h=>?_
 have h:=SH.is (l:=[bE ((Ct.X.of c x).node m) p3,cP ((Ct.X.of c x).node m) p3]) (h.fr (.c r1 (.c r0 .n)))
 refine go h λw h=>?_
 refine bQ (uO xb mb x c (Ct.bN ((Ct.X.of c x).node m).aH c.key).2 (Ct.bN ((Ct.X.of c x).node m).aH c.key).1 h.to) λw h=>?_
 refine qc h (λfG w h=>?_) λfG w h=>?_
 have wE:(Ct.cB c (Ct.bN ((Ct.X.of c x).node m).aH c.key).2 (Ct.bN ((Ct.X.of c x).node m).aH c.key).1)=false:=(gZ _).mp fG
 refine go h λw h=>?_
 refine bQ (fJ (Ct.bN ((Ct.X.of c x).node m).aH c.key).2 (Ct.bN ((Ct.X.of c x).node m).aH c.key).1 h.to) λw h=>?_
 exact rr (dS rfl rfl (h.b a4) Row.h rfl)<|⟨_,(Ct.dN (Ct.bN ((Ct.X.of c x).node m).aH c.key).2 (Ct.bN ((Ct.X.of c x).node m).aH c.key).1,1),Ct.rN<|Ct.rT dJ<|Ct.US wE<|Ct.rR,rfl,h.to,k⟩
 have dG:(Ct.cB c (Ct.bN ((Ct.X.of c x).node m).aH c.key).2 (Ct.bN ((Ct.X.of c x).node m).aH c.key).1)=true:=(hU _).mp fG
 refine go h λw h=>?_
 refine cS (MP ((Ct.X.of c x).node m) p3 c.key c.value h.to (Ct.Node.Fit.nf f4 (by omega))) λUg w h=>?_
 refine jA h λZM w h=>?_
 refine fD [1,3,5,7,9,11,13,15,21,23,16,18,24,27,29,30,32] (by kernel_rfl) h (.c r5 (.c r0 .n)) λw h=>go h λw h=>?_
 refine pO (fA (j:=59) xb mb (Ct.X.of c x) (Ct.grown ((Ct.X.of c x).node m) c.key c.value).1 Ug m ((SH.Wr h.to .z).fr (.c r0 (.c r1 .n))) (k.less (by omega)) ((Ct.vH f4 c.key c.value).mono (by omega))) λy13 v14 q15 w h ⟨k,aV4⟩=>?_
 obtain⟨z16,rfl⟩:=Ct.IQ q15
 have aZk:=Ct.AX q15
 refine go h λw h=>?_
 refine pO (lH xb mb (Ct.X.of c z16) c.aF i m v14 h.to (k.less (by omega))) λy17 v18 Bk w h k=>?_
 obtain⟨z20,rfl⟩:=Ct.uG Bk
 have aL1:=Ct.uA Bk
 refine go h λw h=>?_
 refine qB (iQ _ v18 (Ct.bN ((Ct.X.of c x).node m).aH c.key).2 (Ct.bN ((Ct.X.of c x).node m).aH c.key).1 h.to) λw h=>?_
 exact rr (dS rfl rfl (h.b a6) Row.h rfl)<|⟨_,(Ct.dL (Ct.bN ((Ct.X.of c x).node m).aH c.key).2 (Ct.bN ((Ct.X.of c x).node m).aH c.key).1,(bif v18 then 1 else 0)),Ct.rN<|Ct.rT dJ<|Ct.Nn dG<|Ct.rA q15<|Ct.rB Bk<|Ct.rR,rfl,h.to,k⟩
 have QM:=bM dJ
 refine go h λw h=>?_
 refine cl (ca eF rfl) ((iV ha lv _ (by omega)).mono ?_)
 rintro _ _ ⟨rfl,rfl⟩
 refine⟨_,rfl,?_⟩
 refine st (sg rfl)<|xe<|nx<|sq<|rg<|st (mv rfl)<|st (mv rfl)<|st (mv rfl)<|st (bd [.int .i64 4,.int .i64 0,.int .i64 0,.int .u64 0,.slice none 0 0,.int .u64 (ha:Int),↑c.key,.int .u64 (c.value:Int),.slice none 0 0,.int .i64 0,.int .i64 0,.int .i64 0,.int .i64 0,.int .i64 0] Cp rfl (by kernel_rfl))<|?_
 refine go h λw h=>?_
 refine jA h λb22 w h=>?_
 refine bQ (iO ((Ct.X.of c x).node m) p3.pb p3.cb p3.pp p3.cp (Ct.slice ha lv) h.to (Ct.Node.Fit.nf f4 (by omega))) λw h=>?_
 refine qg h (λfP w h=>?_) λfP w h=>?_
 refine cS (aQ xb mb (Ct.X.of c x) (Ct.aB ((Ct.X.of c x).node m) (Ct.slice ha lv)).1 h.to k.eY) λp24 w h=>?_
 have f25:=k.qJ (Ct.aB ((Ct.X.of c x).node m) (Ct.slice ha lv)).1
 have bE9:=k.len
 refine go h λw h=>?_
 refine qc h (λkQ w h=>?_) λkQ w h=>?_
 have aAf:=eq_of_beq kQ
 refine go h λw h=>?_
 exact rr (dS rfl rfl (h.b a6) Row.h rfl)<|⟨_,({},2),Ct.rN<|Ct.rF dJ<|Ct.rN<|Ct.rT (by rw[fP,kQ];rfl)<|Ct.rR,rfl,h.to,k⟩
 have aAi:=bM kQ
 refine go h λw h=>?_
 refine cS (aQ xb mb (Ct.X.of c x) (Ct.aB ((Ct.X.of c x).node m) (Ct.slice ha lv)).1 h.to k.eY) λp29 w h=>?_
 have f30:=k.qJ (Ct.aB ((Ct.X.of c x).node m) (Ct.slice ha lv)).1
 have bA5:=k.len
 refine go h λw h=>?_
 refine cS (aQ xb mb (Ct.X.of c x) (Ct.aB ((Ct.X.of c x).node m) (Ct.slice ha lv)).1 h.to k.eY) λp31 w h=>?_
 have f32:=k.qJ (Ct.aB ((Ct.X.of c x).node m) (Ct.slice ha lv)).1
 have bCz:=k.len
 refine go h λw h=>?_
 refine qc h (λVt w h=>?_) λVt w h=>?_
 have mE:(((Ct.X.of c x).node (Ct.aB ((Ct.X.of c x).node m) (Ct.slice ha lv)).1).key.toList==c.key.toList)=false:=(gZ _).mp Vt
 refine go h λw h=>?_
 refine bQ (uO xb mb x c (((Ct.X.of c x).node (Ct.aB ((Ct.X.of c x).node m) (Ct.slice ha lv)).1).key.toList==c.key.toList) 0 h.to) λw h=>?_
 refine qc h (λCO w h=>?_) λCO w h=>?_
 have aFr:(Ct.cB c (((Ct.X.of c x).node (Ct.aB ((Ct.X.of c x).node m) (Ct.slice ha lv)).1).key.toList==c.key.toList) 0)=false:=(gZ _).mp CO
 refine go h λw h=>?_
 refine bQ (fJ (((Ct.X.of c x).node (Ct.aB ((Ct.X.of c x).node m) (Ct.slice ha lv)).1).key.toList==c.key.toList) 0 h.to) λw h=>?_
 exact rr (dS rfl rfl (h.b a8) Row.h rfl)<|⟨_,(Ct.dN false 0,1),Ct.rN<|Ct.rF dJ<|Ct.rN<|Ct.rF (by rw[fP,kQ];rfl)<|Ct.rF (by rw[fP];exact mE)<|Ct.US (by simpa only[mE]using aFr)<|Ct.rR,(by rw[mE];first|done|rfl),h.to,k⟩
 have KF:(Ct.cB c (((Ct.X.of c x).node (Ct.aB ((Ct.X.of c x).node m) (Ct.slice ha lv)).1).key.toList==c.key.toList) 0)=true:=(hU _).mp CO
 refine go h λw h=>?_
 refine st (ba (lv+1))<|go h λw h=>?_
 refine eI (B3 xb mb x c (Ct.aB ((Ct.X.of c x).node m) (Ct.slice ha lv)).1 ha (lv+1) gen h.to (k.less (by omega)) hh vE (Ct.uR fP) (by omega) (by omega) mE) λy38 v39 K3 w h k=>?_
 obtain⟨z41,rfl⟩:=Ct.uG K3
 have aPk:=Ct.uA K3
 refine go h λw h=>?_
 refine eI (fA (j:=35) xb mb (Ct.X.of c z41) ({kind:=2,gen:=gen}) {} v39 (SH.fI ({kind:=2,gen:=gen}) rfl rfl h.to) (k.less (by omega)) (Ct.bP _ 2 gen 0 0 0)) λy42 v43 M7 w h ⟨k,aVk⟩=>?_
 obtain⟨z45,rfl⟩:=Ct.IQ M7
 have aOo:=Ct.AX M7
 refine go h λw h=>?_
 refine fD [1,3,5,7,9,11,13,15,17,18,20,22,25,27,28,30] (by kernel_rfl) h (.c r7 .n) λw h=>go h λw h=>?_
 refine pO (yG (j:=34) xb mb (Ct.X.of c z45) m (Ct.slice ha lv) v43 h.to (k.less (by omega))) λy46 v47 q48 w h k=>?_
 obtain⟨z49,rfl⟩:=Ct.uG q48
 have bCy:=Ct.uA q48
 refine go h λw h=>?_
 refine pO (lH xb mb (Ct.X.of c z49) c.aF i m v47 h.to (k.less (by omega))) λy50 v51 q52 w h k=>?_
 obtain⟨z53,rfl⟩:=Ct.uG q52
 have aRg:=Ct.uA q52
 refine go h λw h=>?_
 refine qB (iQ _ v51 false 0 h.to) λw h=>?_
 exact rr (dS rfl rfl (h.b a8) Row.h rfl)<|⟨_,(Ct.dL false 0,(bif v51 then 1 else 0)),Ct.rN<|Ct.rF dJ<|Ct.rN<|Ct.rF (by rw[fP,kQ];rfl)<|Ct.rF (by rw[fP];exact mE)<|Ct.Nn (by simpa only[mE]using KF)<|Ct.Nn fP<|Ct.rB K3<|Ct.rA M7<|Ct.rB q48<|Ct.rB q52<|Ct.rR,rfl,h.to,k⟩
 have Hu:(((Ct.X.of c x).node (Ct.aB ((Ct.X.of c x).node m) (Ct.slice ha lv)).1).key.toList==c.key.toList)=true:=(hU _).mp Vt
 refine go h λw h=>?_
 refine bQ (uO xb mb x c (((Ct.X.of c x).node (Ct.aB ((Ct.X.of c x).node m) (Ct.slice ha lv)).1).key.toList==c.key.toList) ((Ct.X.of c x).node (Ct.aB ((Ct.X.of c x).node m) (Ct.slice ha lv)).1).value h.to) λw h=>?_
 refine qc h (λaFx w h=>?_) λaFx w h=>?_
 have aR5:(Ct.cB c (((Ct.X.of c x).node (Ct.aB ((Ct.X.of c x).node m) (Ct.slice ha lv)).1).key.toList==c.key.toList) ((Ct.X.of c x).node (Ct.aB ((Ct.X.of c x).node m) (Ct.slice ha lv)).1).value)=false:=(gZ _).mp aFx
 refine go h λw h=>?_
 refine bQ (fJ (((Ct.X.of c x).node (Ct.aB ((Ct.X.of c x).node m) (Ct.slice ha lv)).1).key.toList==c.key.toList) ((Ct.X.of c x).node (Ct.aB ((Ct.X.of c x).node m) (Ct.slice ha lv)).1).value h.to) λw h=>?_
 exact rr (dS rfl rfl (h.b a8) Row.h rfl)<|⟨_,(Ct.dN true ((Ct.X.of c x).node (Ct.aB ((Ct.X.of c x).node m) (Ct.slice ha lv)).1).value,1),Ct.rN<|Ct.rF dJ<|Ct.rN<|Ct.rF (by rw[fP,kQ];rfl)<|Ct.rT (by rw[fP];exact Hu)<|Ct.US (by simpa only[Hu]using aR5)<|Ct.rR,(by rw[Hu];first|done|rfl),h.to,k⟩
 have aRy:(Ct.cB c (((Ct.X.of c x).node (Ct.aB ((Ct.X.of c x).node m) (Ct.slice ha lv)).1).key.toList==c.key.toList) ((Ct.X.of c x).node (Ct.aB ((Ct.X.of c x).node m) (Ct.slice ha lv)).1).value)=true:=(hU _).mp aFx
 refine go h λw h=>?_
 refine fD [1,3,5,7,9,11,13,15,17,19,27,20,22,24,28,31,33,34,36] (by kernel_rfl) h (.c r7 (.c r5 .n)) λw h=>go h λw h=>?_
 refine pO (fA (j:=59) xb mb (Ct.X.of c x) ({kind:=4,hash:=ha,key:=c.key,value:=c.value}) {} 0 (SH.fI ({kind:=4,hash:=ha,key:=c.key,value:=c.value}) rfl rfl h.to) (k.less (by omega)) (Ct.kE _ 4 _ _ _ (by decide) hh vE)) λy58 v59 q60 w h ⟨k,aWb⟩=>?_
 obtain⟨z61,rfl⟩:=Ct.IQ q60
 have bB2:=Ct.AX q60
 refine go h λw h=>?_
 refine pO (yG (j:=58) xb mb (Ct.X.of c z61) m (Ct.slice ha lv) v59 h.to (k.less (by omega))) λy62 v63 q64 w h k=>?_
 obtain⟨z65,rfl⟩:=Ct.uG q64
 have bBx:=Ct.uA q64
 refine go h λw h=>?_
 refine pO (lH xb mb (Ct.X.of c z65) c.aF i m v63 h.to (k.less (by omega))) λy66 v67 q68 w h k=>?_
 obtain⟨z69,rfl⟩:=Ct.uG q68
 have bB8:=Ct.uA q68
 refine go h λw h=>?_
 refine qB (iQ _ v67 true ((Ct.X.of c x).node (Ct.aB ((Ct.X.of c x).node m) (Ct.slice ha lv)).1).value h.to) λw h=>?_
 exact rr (dS rfl rfl (h.b a8) Row.h rfl)<|⟨_,(Ct.dL true ((Ct.X.of c x).node (Ct.aB ((Ct.X.of c x).node m) (Ct.slice ha lv)).1).value,(bif v67 then 1 else 0)),Ct.rN<|Ct.rF dJ<|Ct.rN<|Ct.rF (by rw[fP,kQ];rfl)<|Ct.rT (by rw[fP];exact Hu)<|Ct.Nn (by simpa only[Hu]using aRy)<|Ct.rA q60<|Ct.rB q64<|Ct.rB q68<|Ct.rR,rfl,h.to,k⟩
 refine cS (aQ xb mb (Ct.X.of c x) (Ct.aB ((Ct.X.of c x).node m) (Ct.slice ha lv)).1 h.to k.eY) λp70 w h=>?_
 have f71:=k.qJ (Ct.aB ((Ct.X.of c x).node m) (Ct.slice ha lv)).1
 have bAn:=k.len
 refine go h λw h=>?_
 refine bQ (uO xb mb x c false 0 h.to) λw h=>?_
 refine qc h (λaGk w h=>?_) λaGk w h=>?_
 have N3:(Ct.cB c false 0)=false:=(gZ _).mp aGk
 refine go h λw h=>?_
 refine bQ (fJ false 0 h.to) λw h=>?_
 exact rr (dS rfl rfl (h.b a6) Row.h rfl)<|⟨_,(Ct.dN false 0,1),Ct.rN<|Ct.rF dJ<|Ct.rN<|Ct.rF (by rw[fP];rfl)<|Ct.rF (by rw[fP];rfl)<|Ct.US N3<|Ct.rR,rfl,h.to,k⟩
 have QL:(Ct.cB c false 0)=true:=(hU _).mp aGk
 refine go h λw h=>?_
 refine drT (F:=[bl b5 (aK ((Ct.X.of c x).node m) p3) 53,bl b22 ([.int .i64 4,.int .i64 0,.int .i64 0,.int .u64 0,.slice none 0 0,.int .u64 (ha:Int),↑c.key,.int .u64 (c.value:Int),.slice none 0 0,.int .i64 0,.int .i64 0,.int .i64 0,.int .i64 0,.int .i64 0]) 53]) (.op 0 true (.op 1 true (.op 2 true (.op 3 true (.fork 4 9 (.fork 5 9 (.op 6 true (.op 7 true (.op 8 true (.op 9 false (.op 10 false (.op 11 false .stop)))))) (.op 5 false (.op 6 true (.op 7 true (.op 8 true (.op 10 false (.op 11 false .stop))))))) (.op 4 false (.op 5 false (.op 6 true (.op 7 true (.op 8 true (.op 10 false (.op 11 false .stop)))))))))))) (by kernel_rfl) h (λw h=>(hC (h.at_ a4) (hC (h.at_ a3) hN))) λw h=>go h λw h=>?_
 refine Zb ?_ ?_
 refine pO (fA (j:=59) xb mb (Ct.X.of c x) ({kind:=4,hash:=ha,key:=c.key,value:=c.value}) {} 0 (SH.fI ({kind:=4,hash:=ha,key:=c.key,value:=c.value}) rfl rfl h.to) (k.less (by omega)) (Ct.kE _ 4 _ _ _ (by decide) hh vE)) λy75 v76 q77 w h ⟨k,aW7⟩=>?_
 obtain⟨z78,rfl⟩:=Ct.IQ q77
 have bD7:=Ct.AX q77
 refine go h λw h=>?_
 refine Zb ?_ ?_
 refine nP (vA ((Ct.X.of c x).node m) p3 (Ct.slice ha lv) v76 h.to (Ct.Node.Fit.nf f4 (by omega))) λq79 w h=>?_
 refine jB h λb80 w h=>?_
 refine fD [1,3,5,7,9,11,13,15,16,18,20,23,25,26,28] (by kernel_rfl) h (.c r7 (.c r0 .n)) λw h=>go h λw h=>?_
 refine pO (fA (j:=58) xb mb (Ct.X.of c z78) (Ct.aO ((Ct.X.of c x).node m) (Ct.slice ha lv) v76).1 q79 m ((SH.Wr h.to .z).fr (.c r0 (.c r1 .n))) (k.less (by omega)) ((Ct.eO f4 (Ct.slice ha lv) v76).mono (by omega))) λy81 v82 q83 w h ⟨k,aVu⟩=>?_
 obtain⟨z84,rfl⟩:=Ct.IQ q83
 have bDh:=Ct.AX q83
 refine go h λw h=>?_
 refine pO (lH xb mb (Ct.X.of c z84) c.aF i m v82 h.to (k.less (by omega))) λy85 v86 q87 w h k=>?_
 obtain⟨z88,rfl⟩:=Ct.uG q87
 have bBc:=Ct.uA q87
 refine go h λw h=>?_
 refine qB (iQ _ v86 false 0 h.to) λw h=>?_
 exact rr (dS rfl rfl (h.b a8) Row.h rfl)<|⟨_,(Ct.dL false 0,(bif v86 then 1 else 0)),Ct.rN<|Ct.rF dJ<|Ct.rN<|Ct.rF (by rw[fP];rfl)<|Ct.rF (by rw[fP];rfl)<|Ct.Nn QL<|Ct.US fP<|Ct.rA q77<|Ct.rA q83<|Ct.rB q87<|Ct.rR,rfl,h.to,k⟩
 refine jB h λb89 w h=>?_
 refine nP (vA ((Ct.X.of c x).node m) p3 (Ct.slice ha lv) v76 h.to (Ct.Node.Fit.nf f4 (by omega))) λq90 w h=>?_
 refine fD [1,3,5,7,9,11,13,15,16,18,20,23,25,26,28] (by kernel_rfl) h (.c r7 (.c r2 .n)) λw h=>go h λw h=>?_
 refine pO (fA (j:=58) xb mb (Ct.X.of c z78) (Ct.aO ((Ct.X.of c x).node m) (Ct.slice ha lv) v76).1 q90 m ((SH.Wr h.to .z).fr (.c r0 (.c r1 .n))) (k.less (by omega)) ((Ct.eO f4 (Ct.slice ha lv) v76).mono (by omega))) λy91 v92 q93 w h ⟨k,aWt⟩=>?_
 obtain⟨z94,rfl⟩:=Ct.IQ q93
 have bDi:=Ct.AX q93
 refine go h λw h=>?_
 refine pO (lH xb mb (Ct.X.of c z94) c.aF i m v92 h.to (k.less (by omega))) λy95 v96 q97 w h k=>?_
 obtain⟨z98,rfl⟩:=Ct.uG q97
 have bFf:=Ct.uA q97
 refine go h λw h=>?_
 refine qB (iQ _ v96 false 0 h.to) λw h=>?_
 exact rr (dS rfl rfl (h.b a8) Row.h rfl)<|⟨_,(Ct.dL false 0,(bif v96 then 1 else 0)),Ct.rN<|Ct.rF dJ<|Ct.rN<|Ct.rF (by rw[fP];rfl)<|Ct.rF (by rw[fP];rfl)<|Ct.Nn QL<|Ct.US fP<|Ct.rA q77<|Ct.rA q93<|Ct.rB q97<|Ct.rR,rfl,h.to,k⟩
 refine jB h λb99 w h=>?_
 refine pO (fA (j:=59) xb mb (Ct.X.of c x) ({kind:=4,hash:=ha,key:=c.key,value:=c.value}) {} 0 (SH.fI ({kind:=4,hash:=ha,key:=c.key,value:=c.value}) rfl rfl h.to) (k.less (by omega)) (Ct.kE _ 4 _ _ _ (by decide) hh vE)) λaZc X2 aGi w h ⟨k,aR9⟩=>?_
 obtain⟨aQc,rfl⟩:=Ct.IQ aGi
 have aW3:=Ct.AX aGi
 refine go h λw h=>?_
 refine nP (vA ((Ct.X.of c x).node m) p3 (Ct.slice ha lv) X2 h.to (Ct.Node.Fit.nf f4 (by omega))) λaOz w h=>?_
 refine fD [1,3,5,7,9,11,13,15,16,18,20,23,25,26,28] (by kernel_rfl) h (.c r7 (.c r3 .n)) λw h=>go h λw h=>?_
 refine pO (fA (j:=58) xb mb (Ct.X.of c aQc) (Ct.aO ((Ct.X.of c x).node m) (Ct.slice ha lv) X2).1 aOz m ((SH.Wr h.to .z).fr (.c r0 (.c r1 .n))) (k.less (by omega)) ((Ct.eO f4 (Ct.slice ha lv) X2).mono (by omega))) λbD5 aR1 aFl w h ⟨k,aRf⟩=>?_
 obtain⟨aS4,rfl⟩:=Ct.IQ aFl
 have aU7:=Ct.AX aFl
 refine go h λw h=>?_
 refine pO (lH xb mb (Ct.X.of c aS4) c.aF i m aR1 h.to (k.less (by omega))) λbEq aCy aFm w h k=>?_
 obtain⟨bF2,rfl⟩:=Ct.uG aFm
 have aUg:=Ct.uA aFm
 refine go h λw h=>?_
 refine qB (iQ _ aCy false 0 h.to) λw h=>?_
 exact rr (dS rfl rfl (h.b a8) Row.h rfl)<|⟨_,(Ct.dL false 0,(bif aCy then 1 else 0)),Ct.rN<|Ct.rF dJ<|Ct.rN<|Ct.rF (by rw[fP];rfl)<|Ct.rF (by rw[fP];rfl)<|Ct.Nn QL<|Ct.US fP<|Ct.rA aGi<|Ct.rA aFl<|Ct.rB aFm<|Ct.rR,rfl,h.to,k⟩
theorem Yf(xb mb:Nat)(x:Ct.X)(c:Ct.Call)(i m ix gen:Int)(h:SH B w (XA xb mb (Ct.X.of c x)::L))(k:Ct.Ok 60 (Ct.X.of c x)):
  Calls prog 193 #[↑xb,↑i,↑m,↑ix,↑gen] w λe w'=>∃y v,Ct.bC (Ct.vB c.aF i m ix gen) (Ct.X.of c x)=Ct.out y v/\e=.returned (.int .i64 v)/\SH B w' (XA xb mb y::L)/\Ct.Ok 60 y:=by
 have hlen:=k.len
 refine cN func193 ntmps193 h λw h=>?_
 refine cS (aQ _ _ _ _ h.to k.eY) λp1 w h=>?_
 have f2:=k.qJ m
 have bf2:=k.len
 refine go h λw h=>?_
 refine bQ (iO _ _ _ _ _ _ h.to (Ct.Node.Fit.nf f2 (by omega))) λw h=>?_
 refine st (ld (v:=.bool (Ct.X.of c x).e.aD) One.h rfl (h.xc a1 λ_=>rfl))<|go h λw h=>?_
 refine qg h (λcJ w h=>?_) λcJ w h=>?_
 exact rz ⟨_,(Ct.aB ((Ct.X.of c x).node m) ix).1,Ct.rN<|Ct.rS cJ,rfl,h.drop,(k.stop cJ)⟩
 refine cS (aQ _ _ _ _ h.to k.eY) λp4 w h=>?_
 have f5:=k.qJ (Ct.aB ((Ct.X.of c x).node m) ix).1
 have bf5:=k.len
 refine go h λw h=>?_
 refine qc h (λdJ w h=>?_) λdJ w h=>?_
 have El:=eq_of_beq dJ
 refine go h λw h=>?_
 exact rz ⟨_,(Ct.aB ((Ct.X.of c x).node m) ix).1,Ct.rN<|Ct.rN<|Ct.rT dJ<|Ct.rR,rfl,h.to,k⟩
 have Ua:=bM dJ
 refine go h λw h=>?_
 refine st (kB (cs:=dV c.aF) rfl (h.xr 2 a1 λ_=>rfl) Row.h)<|go h λw h=>?_
 refine eI (UD _ _ _ _ _ _ _ h.to (k.less (by omega))) λy9 v10 Ug w h k=>?_
 obtain⟨z12,rfl⟩:=Ct.uG Ug
 have aQh:=Ct.uA Ug
 refine go h λw h=>?_
 exact rz ⟨_,v10,Ct.rN<|Ct.rN<|Ct.rF dJ<|Ug,rfl,h.to,k⟩
theorem S9(xb mb:Nat)(x:Ct.X)(c:Ct.Call)(F:Nat)(h:SH B w (XA xb mb (Ct.X.of c x)::L))(k:Ct.Ok 60 (Ct.X.of c x))(hx:(Ct.X.of c x).left<F)(hF:F<=100000000000)(hm:c.aI<18446744073709551616)(vE:c.key.size<=64):
  Calls prog 152 #[↑xb] w λe w'=>∃y v,Ct.bC (Ct.Jf c F F) (Ct.X.of c x)=Ct.out y v/\e=.returned (.agg (Bn v).toArray)/\SH B w' (XA xb mb y::L)/\Ct.Ok 60 y:=by
 have hh:=Ct.eS c.key c.aI
 have hlen:=k.len
 refine cN func152 ntmps152 h λw h=>?_
 refine sf (al h Wb)<|?_
 rintro _ w ⟨b1,rfl,h⟩
 refine xe<|nx<|?_
 refine sm (λe w=>∃b2:Nat,Sub 103 e (.c 0 ↑xb (.c 2 ↑b1 (.c 3 ↑b2 (.c 4 (.int .u64 ((Ct.aE c.key c.aI:Nat):Int)) .n))))/\SH B w (bl b2 (dV c.aF) 35::bl b1 ([.int .i64 0,↑false,.int .u64 0,.string .empty,.int .i64 0,.int .i64 0,.int .i64 0,↑false]) 49::XA xb mb (Ct.X.of c x)::L)) ?_ ?_
 refine drB (F:=[XA xb mb (Ct.X.of c x)]) [1,3,5,7,9,11,13,15,17,19,21,23,25,27,29] 15 16 [32,34,36] [30,34,36] (by kernel_rfl) h (λw h=>(hC (h.at_ a1) hN)) λw h=>go h λw h=>?_
 refine tk (λW H=>kB (cs:=dV c.aF) rfl (H.xr 2 a0 λ_=>rfl) Row.h)<|go h λw h=>?_
 refine tk (λW H=>ld (v:=.string c.key) One.h rfl (H.xc a0 λ_=>rfl))<|go h λw h=>?_
 refine tk (λW H=>ld (v:=.int .u64 (c.aI:Int)) One.h rfl (H.xc a0 λ_=>rfl))<|go h λw h=>?_
 refine W3 ?_ ?_
 refine cs (ca eF rfl) ((sX c.key c.aI _ (by omega) (by omega)).mono ?_)
 rintro _ _ ⟨rfl,rfl⟩
 refine⟨_,rfl,(hC (h.at_ a1) hN),?_⟩
 refine go h λw h=>?_
 refine jB h λb2 w h=>?_
 exact⟨b2,⟨rfl,rfl,rfl,rfl,trivial⟩,h⟩
 refine jB h λb3 w h=>?_
 refine cs (ca eF rfl) ((sX c.key c.aI _ (by omega) (by omega)).mono ?_)
 rintro _ _ ⟨rfl,rfl⟩
 refine⟨_,rfl,(hC (h.at_ a2) hN),?_⟩
 refine ff (so h rfl rfl rfl Kc rfl (.r (.r .d)) u0)<|?_
 rintro _ w h
 refine⟨(hC (h.at_ a2) hN),?_⟩
 refine ef (sg rfl) ((hC (h.at_ a2) hN))<|xz<|nx<|?_
 refine go h λw h=>?_
 exact⟨b3,⟨rfl,rfl,rfl,rfl,trivial⟩,h⟩
 rintro e w ⟨b2,hE,h⟩
 refine C.sub hE ?_
 clear hE e
 refine go h λw h=>?_
 refine lp (α:=Ct.X×Nat) (λρ=>(.c 0 ↑xb (.c 2 ↑b1 (.c 3 ↑b2 (.c 4 (.int .u64 ((Ct.aE c.key c.aI:Nat):Int)) .n))))) (λρ w=>SH B w (XA xb mb (Ct.X.of c ρ.1)::bl b2 (dV c.aF) 35::bl b1 ([.int .i64 0,↑false,.int .u64 0,.string .empty,.int .i64 0,.int .i64 0,.int .i64 0,↑false]) 49::L)/\(Ct.bC (Ct.Jf c F F) (Ct.X.of c x)=Ct.bC (Ct.Jf c F ρ.2) (Ct.X.of c ρ.1))/\(Ct.Ok 60 (Ct.X.of c ρ.1))/\((Ct.X.of c ρ.1).e.aD=true\/(Ct.X.of c ρ.1).left<ρ.2)/\(ρ.2<=F)) (λρ=>ρ.2) (x,F) ⟨rfl,rfl,rfl,rfl,trivial⟩ ⟨h.to,rfl,k,(.inr (by(try dsimp only);omega)),aW _⟩ ?_
 rintro⟨y,n⟩ w ⟨h,hq,k,hn,hnF⟩
 dsimp only at *
 refine go h λw h=>?_
 refine st (ld (v:=.bool (Ct.X.of c y).e.aD) One.h rfl (h.xc a0 λ_=>rfl))<|go h λw h=>?_
 refine qc h (λeB w h=>?_) λeB w h=>?_
 have dM:(Ct.X.of c y).e.aD=false:=(gZ _).mp eB
 refine go h λw h=>?_
 obtain⟨n,rfl⟩:∃k,n=k+1:=⟨n-1,by have:=hn.resolve_left (by rw[dM];decide);omega⟩
 replace hn:=hn.resolve_left (by rw[dM];decide)
 rw[Ct.Yq]at hq
 refine go h λw h=>?_
 have kb6:=k
 refine eI (zV _ _ _ _ h.to (k.less (by omega))) λy7 v8 q9 w h k=>?_
 obtain⟨P9,rfl⟩:=Ct.uG q9
 have lq9:=Ct.uA q9
 have K5:=Ct.Ev kb6 (by omega) q9
 refine go h λw h=>?_
 refine cS (aQ _ _ _ _ h.to k.eY) λp11 w h=>?_
 have f12:=k.qJ v8
 have aRz:=k.len
 refine go h λw h=>?_
 refine lp (α:=Ct.X×Nat×Int×Int×Int) (λρ=>(.c 0 ↑xb (.c 2 ↑b1 (.c 3 ↑b2 (.c 4 (.int .u64 ((Ct.aE c.key c.aI:Nat):Int)) (.c 5 (.int .i64 ρ.2.2.2.1) (.c 6 (.int .i64 ((Ct.X.of c P9).node v8).gen) (.c 7 (.int .i64 ρ.2.2.1) (.c 8 (.int .i64 ρ.2.2.2.2) .n))))))))) (λρ w=>SH B w (XA xb mb (Ct.X.of c ρ.1)::bl b2 (dV c.aF) 35::bl b1 ([.int .i64 0,↑false,.int .u64 0,.string .empty,.int .i64 0,.int .i64 0,.int .i64 0,↑false]) 49::L)/\(Ct.bC (Ct.Jf c F F) (Ct.X.of c x)=Ct.bC ((Ct.Pn c (Ct.aE c.key c.aI) ((Ct.X.of c P9).node v8).gen ρ.2.1 ρ.2.2.1 ρ.2.2.2.1 ρ.2.2.2.2).bind (Ct.aHz c F n)) (Ct.X.of c ρ.1))/\(Ct.Ok 60 (Ct.X.of c ρ.1))/\((Ct.X.of c ρ.1).e.aD=true\/(Ct.X.of c ρ.1).left<ρ.2.1)/\((Ct.X.of c ρ.1).e.aD=true\/(Ct.X.of c ρ.1).left<n)/\(0<=ρ.2.2.2.2/\ρ.2.2.2.2+(ρ.2.1:Int)<=(F:Int))) (λρ=>ρ.2.1) (P9,F,0,v8,0) ⟨rfl,rfl,rfl,rfl,rfl,rfl,rfl,rfl,trivial⟩ ⟨h.drop,(hq.trans<|Ct.rB q9<|Ct.rN<|rfl),k,(K5.imp id λh=>by have:=h.2;(try dsimp only);omega),(K5.imp id λh=>by have:=h.2;(try dsimp only);omega),⟨by(try dsimp only);omega,by(try dsimp only);omega⟩⟩ ?_
 rintro⟨yi,kk,pa,i,l⟩ w ⟨h,hq,k,hn,ho,hl⟩
 dsimp only at *
 refine go h λw h=>?_
 refine st (ld (v:=.bool (Ct.X.of c yi).e.aD) One.h rfl (h.xc a0 λ_=>rfl))<|go h λw h=>?_
 refine qc h (λeJ w h=>?_) λeJ w h=>?_
 have gD:(Ct.X.of c yi).e.aD=false:=(gZ _).mp eJ
 refine go h λw h=>?_
 obtain⟨kk,rfl⟩:∃k,kk=k+1:=⟨kk-1,by have:=hn.resolve_left (by rw[gD];decide);omega⟩
 replace hn:=hn.resolve_left (by rw[gD];decide)
 replace ho:=ho.resolve_left (by rw[gD];decide)
 refine go h λw h=>?_
 have aP2:=k
 refine eI (mR _ _ _ _ _ h.to (k.less (by omega))) λy16 v17 PY w h k=>?_
 obtain⟨z19,rfl⟩:=Ct.uG PY
 have bDq:=Ct.uA PY
 have KC:=Ct.Ao aP2 PY
 refine go h λw h=>?_
 refine st (ld (v:=.bool (Ct.X.of c z19).e.aD) One.h rfl (h.xc a0 λ_=>rfl))<|go h λw h=>?_
 refine qc h (λjV w h=>?_) λjV w h=>?_
 exact⟨(z19,n),⟨rfl,rfl,rfl,rfl,trivial⟩,⟨h,(hq.trans<|Ct.Bv PY<|Ct.rst jV),k,(.inl jV),by(try dsimp only);omega⟩,by(try dsimp only);omega⟩
 refine cS (aQ _ _ _ _ h.to k.eY) λM6 w h=>?_
 have f22:=k.qJ v17
 have bF1:=k.len
 refine go h λw h=>?_
 refine qc h (λfP w h=>?_) λfP w h=>?_
 have aAn:=eq_of_beq fP
 refine go h λw h=>?_
 refine st (bs (l-1))<|go h λw h=>?_
 have aQu:=k
 refine eI (Ip _ _ _ _ _ _ _ _ h.to (k.less (by omega)) hh) λy26 v27 R6 w h k=>?_
 obtain⟨z29,rfl⟩:=Ct.uG R6
 have bFo:=Ct.uA R6
 have aL0:=Ct.Ap (Ct.qQ _ _ _ _ _) aQu (by omega) R6
 refine go h λw h=>?_
 exact⟨(z29,n),⟨rfl,rfl,rfl,rfl,trivial⟩,⟨h.to,(hq.trans<|Ct.Bv PY<|Ct.WB<|Ct.O7 fP<|Ct.Bv R6<|rfl),k,(.inr (by have:=(KC.resolve_left (by rw[jV];decide)).2;have:=aL0;(try dsimp only);omega)),by(try dsimp only);omega⟩,by(try dsimp only);omega⟩
 have aZz:=bM fP
 refine go h λw h=>?_
 have aPd:=k
 refine eI (ED _ _ _ c _ _ _ _ _ h.to (k.less (by omega)) hh vE (by omega) (by omega)) λy32 v33 R8 w h k=>?_
 obtain⟨z35,rfl⟩:=Ct.uG R8
 have aZt:=Ct.uA R8
 have TY:=Ct.Ap (Ct.Gd c _ _ _ _ _ vE hh (by omega)) aPd (by omega) R8
 refine go h λw h=>?_
 refine jA h λb36 w h=>?_
 refine st (ld (v:=.bool (Ct.X.of c z35).e.aD) One.h rfl (h.xc a1 λ_=>rfl))<|go h λw h=>?_
 refine qg h (λKF w h=>?_) λKF w h=>?_
 exact rr (cD rfl rfl (h.b a4) Row.h)<|⟨_,v33.1,hq.trans<|Ct.Bv PY<|Ct.WB<|Ct.Ng fP<|Ct.Bv R8<|Ct.rS KF,rfl,h.to,(k.stop KF)⟩
 refine qc h (λJt w h=>?_) λJt w h=>?_
 have aKl:=eq_of_beq Jt
 refine go h λw h=>?_
 exact rr (cD rfl rfl (h.b a4) Row.h)<|⟨_,v33.1,hq.trans<|Ct.Bv PY<|Ct.WB<|Ct.Ng fP<|Ct.Bv R8<|Ct.O7 Jt<|Ct.rR,rfl,h.to,k⟩
 have aRd:=bM Jt
 refine go h λw h=>?_
 refine qc h (λsQ w h=>?_) λsQ w h=>?_
 have aGf:=eq_of_beq sQ
 refine go h λw h=>?_
 exact⟨(z35,n),⟨rfl,rfl,rfl,rfl,trivial⟩,⟨h.to,(hq.trans<|Ct.Bv PY<|Ct.WB<|Ct.Ng fP<|Ct.Bv R8<|Ct.Ng Jt<|Ct.O7 sQ<|rfl),k,(.inr (by have:=(KC.resolve_left (by rw[jV];decide)).2;have:=TY;(try dsimp only);omega)),by(try dsimp only);omega⟩,by(try dsimp only);omega⟩
 have aFs:=bM sQ
 refine go h λw h=>?_
 refine cl (ca eF rfl) ((iV (Ct.aE c.key c.aI) l _ (by omega)).mono ?_)
 rintro _ _ ⟨rfl,rfl⟩
 refine⟨_,rfl,?_⟩
 refine st (mv rfl)<|?_
 refine go h λw h=>?_
 have aPj:=k
 refine eI (Yf _ _ _ c _ _ _ _ h.to (k.less (by omega))) λy45 v46 q47 w h k=>?_
 obtain⟨z48,rfl⟩:=Ct.uG q47
 have bA0:=Ct.uA q47
 have K8:=Ct.Ap (Ct.xK _ _ _ _ _) aPj (by omega) q47
 refine go h λw h=>?_
 refine qc h (λCR w h=>?_) λCR w h=>?_
 have bBl:=eq_of_beq CR
 refine go h λw h=>?_
 exact⟨(z48,n),⟨rfl,rfl,rfl,rfl,trivial⟩,⟨h.to,(hq.trans<|Ct.Bv PY<|Ct.WB<|Ct.Ng fP<|Ct.Bv R8<|Ct.Ng Jt<|Ct.Ng sQ<|Ct.Bv q47<|Ct.O7 CR<|rfl),k,(.inr (by have:=(KC.resolve_left (by rw[jV];decide)).2;have:=TY;have:=K8;(try dsimp only);omega)),by(try dsimp only);omega⟩,by(try dsimp only);omega⟩
 have aPh:=bM CR
 refine go h λw h=>?_
 refine st (ba (l+1))<|go h λw h=>?_
 exact⟨(z48,kk,i,v46,l+1),⟨rfl,rfl,rfl,rfl,rfl,rfl,rfl,rfl,trivial⟩,⟨h.to,(hq.trans<|Ct.Bv PY<|Ct.WB<|Ct.Ng fP<|Ct.Bv R8<|Ct.Ng Jt<|Ct.Ng sQ<|Ct.Bv q47<|Ct.Ng CR<|rfl),k,(.inr (by have:=(KC.resolve_left (by rw[jV];decide)).2;have:=TY;have:=K8;(try dsimp only);omega)),(.inr (by have:=(KC.resolve_left (by rw[jV];decide)).2;have:=TY;have:=K8;(try dsimp only);omega)),⟨by(try dsimp only);omega,by(try dsimp only);omega⟩⟩,by(try dsimp only);omega⟩
 have Mr:(Ct.X.of c yi).e.aD=true:=(hU _).mp eJ
 refine go h λw h=>?_
 exact⟨(yi,n),⟨rfl,rfl,rfl,rfl,trivial⟩,⟨h,(hq.trans<|Ct.rst Mr),k,(.inl Mr),by(try dsimp only);omega⟩,by(try dsimp only);omega⟩
 have aKg:(Ct.X.of c y).e.aD=true:=(hU _).mp eB
 refine go h λw h=>?_
 exact rr (cD rfl rfl (h.b a2) Row.h)<|⟨_,{},hq.trans<|Ct.rS aKg,rfl,h.to,(k.stop aKg)⟩
end Go.Q9
end
