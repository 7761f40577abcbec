/- Parts of a proof: Q2, Qd. -/
import Derived.Test.YthhcpkikpammmaaGreatW33
set_option linter.unusedVariables false
set_option linter.unusedSimpArgs false
set_option maxRecDepth 100000
set_option maxHeartbeats 4000000
section
namespace Go.Q9
open Go.Proofs.Tryz
open Go.RowKit Go.E Go.Ct
attribute [local irreducible] gB wpS Go.E.X XS C jU kP fin Y U F Ca jT bl rb aU bV ex ce pu sK gK bK zK
variable{B w:World}{L:List As}
theorem eQ(f:Bool)(v:Nat)(h:SH B w (L)):
  Calls prog 208 #[↑f,.int .u64 (v:Int)] w λe w'=>e=.returned (.agg (xC (Ct.cC f v)).toArray)/\SH B w' L:=by
 refine bZ func208 ntmps208 h λw h=>?_
 refine jA h λb1 w h=>?_
 exact rr (bP rfl rfl (h.b a0) Row.h)<|⟨rfl,h.drop⟩
theorem qE(xb mb:Nat)(x:Ct.X)(c:Ct.Call)(f:Bool)(v:Nat)(h:SH B w (XA xb mb (Ct.X.of c x)::L)):
  Calls prog 238 #[↑xb,↑f,.int .u64 (v:Int)] w λe w'=>e=.returned (.bool (Ct.cS c f v))/\SH B w' (XA xb mb (Ct.X.of c x)::L):=by
 refine bZ func238 ntmps238 h λw h=>?_
 refine st (ld (v:=.int .i64 c.bF) One.h rfl (h.xc a0 λ_=>rfl))<|go h λw h=>?_
 refine qc h (λhd1 w h=>?_) λhd1 w h=>?_
 refine rz ?_
 refine⟨?_,h⟩
 unfold Ct.cS;simp[Cd,hd1]
 refine qc h (λhd4 w h=>?_) λhd4 w h=>?_
 refine rz ?_
 refine⟨?_,h⟩
 unfold Ct.cS;simp[Cd,hd1,hd4]
 refine qc h (λhd7 w h=>?_) λhd7 w h=>?_
 refine qg h (λhd9 w h=>?_) λhd9 w h=>?_
 refine st (ld (v:=.int .u64 (c.expect:Int)) One.h rfl (h.xc a0 λ_=>rfl))<|go h λw h=>?_
 refine rz ?_
 refine⟨?_,h⟩
 unfold Ct.cS;simp[Cd,hd1,hd4,hd7,hd9]
 refine rz ?_
 refine⟨?_,h⟩
 unfold Ct.cS;simp[Cd,hd1,hd4,hd7,hd9]
 refine rz ?_
 refine⟨?_,h⟩
 unfold Ct.cS;simp[Cd,hd1,hd4,hd7]
theorem eM(p:Value)(ok f:Bool)(v:Nat)(h:SH B w (L)):
  Calls prog 240 #[p,↑ok,↑f,.int .u64 (v:Int)] w λe w'=>e=.returned (.tuple #[.agg (xC (Ct.dL f v)).toArray,.int .i64 (bif ok then 1 else 0)])/\SH B w' L:=by
 refine bZ func240 ntmps240 h λw h=>?_
 refine jA h λb1 w h=>?_
 refine bA (eQ _ _ h.to) λw h=>?_
 refine jA h λb2 w h=>?_
 refine qc h (λhd3 w h=>?_) λhd3 w h=>?_
 have hd4:ok=false:=by simpa using hd3
 refine go h λw h=>?_
 refine rr (cL rfl rfl (h.b a1) Row.h rfl) ?_
 exact⟨by rw[show ok=false by simpa using hd3];rfl,h.drop.drop⟩
 have hd5:ok=true:=by simpa using hd3
 refine go h λw h=>?_
 refine rr (cL rfl rfl (h.b a1) Row.h rfl) ?_
 exact⟨by rw[show ok=true by simpa using hd3];rfl,h.drop.drop⟩
theorem QA(xb mb:Nat)(x:Ct.X)(c:Ct.Call)(F:Nat)(h:SH B w (XA xb mb (Ct.X.of c x)::L))(k:Ct.Ok 60 (Ct.X.of c x))(hx:(Ct.X.of c x).left<=F)(hF:F<=1000000000000)(hm:c.aI<18446744073709551616)(hky:c.key.size<=9223372036854775807):
  Calls prog 160 #[↑xb] w λe w'=>∃y v,Ct.aX (Ct.tH c F) (Ct.X.of c x)=Ct.out y v/\e=.returned (.agg (xC v).toArray)/\SH B w' (XA xb mb y::L)/\Ct.Ok 60 y:=by
 have hh:=Ct.eI c.key c.aI
 have hlen:=k.len
 refine bZ func160 ntmps160 h λw h=>?_
 refine jA h λb1 w h=>?_
 refine XL (F:=[XA xb mb (Ct.X.of c x)]) [1,3,5,7,9,11,13,15,17,19,21,23,25,27,29] 15 16 [32,34,36] [30,34,36] (by kernel_rfl) h (λw h=>(hC (h.at_ a1) hN)) λw h=>go h λw h=>?_
 refine tk (λW H=>gJ (cs:=cU c.aE) rfl (H.xr 2 a0 λ_=>rfl) Row.h)<|go h λw h=>?_
 refine tk (λW H=>ld (v:=.string c.key) One.h rfl (H.xc a0 λ_=>rfl))<|go h λw h=>?_
 refine tk (λW H=>ld (v:=.int .u64 (c.aI:Int)) One.h rfl (H.xc a0 λ_=>rfl))<|go h λw h=>?_
 refine YJ ?_ ?_
 refine cs (ca eF rfl) ((pA c.key c.aI _ (by omega) (by omega)).mono ?_)
 rintro _ _ ⟨rfl,rfl⟩
 refine⟨_,rfl,(hC (h.at_ a1) hN),?_⟩
 refine go h λw h=>?_
 refine jB h λb2 w h=>?_
 have kb3:=k
 refine dE (nV _ _ _ _ h.to (k.less (by omega))) λy4 v5 q6 w h k=>?_
 obtain⟨z7,rfl⟩:=Ct.mB q6
 have lq6:=Ct.nY q6
 have ltq6:=Ct.pY kb3 (by omega) q6
 refine go h λw h=>?_
 refine lp (α:=Ct.X×Nat×Int×Int) (λρ=>(.c 0 ↑xb (.c 2 ↑b1 (.c 3 ↑b2 (.c 4 (.int .u64 ((Ct.aH c.key c.aI:Nat):Int)) (.c 5 (.int .i64 ρ.2.2.1) (.c 6 (.int .i64 ρ.2.2.2) .n))))))) (λρ w=>SH B w (XA xb mb (Ct.X.of c ρ.1)::bl b2 (cU c.aE) 35::bl b1 ([.int .i64 0,↑false,.int .u64 0,.string .empty,.int .i64 0,.int .i64 0,.int .i64 0,↑false]) 43::L)/\(Ct.aX (Ct.tH c F) (Ct.X.of c x)=Ct.aX (Ct.Mp c.aE c.key (Ct.aH c.key c.aI) ρ.2.1 ρ.2.2.1 ρ.2.2.2) (Ct.X.of c ρ.1))/\(Ct.Ok 60 (Ct.X.of c ρ.1))/\((Ct.X.of c ρ.1).e.aC=true\/(Ct.X.of c ρ.1).left<ρ.2.1)/\(0<=ρ.2.2.2/\ρ.2.2.2+(ρ.2.1:Int)<=(F:Int))) (λρ=>ρ.2.1) (z7,F,v5,0) ⟨rfl,rfl,rfl,rfl,rfl,rfl,trivial⟩ ⟨h,(Ct.rB q6<|rfl),k,(ltq6.imp id λh=>by have:=h.2;(try dsimp only);omega),⟨by(try dsimp only);omega,by(try dsimp only);omega⟩⟩ ?_
 rintro⟨y,n,i,l⟩ w ⟨h,hq,k,hn,hl⟩
 dsimp only at *
 refine go h λw h=>?_
 refine st (ld (v:=.bool (Ct.X.of c y).e.aC) One.h rfl (h.xc a0 λ_=>rfl))<|go h λw h=>?_
 refine qc h (λhd8 w h=>?_) λhd8 w h=>?_
 have hd9:(Ct.X.of c y).e.aC=false:=by simpa using hd8
 refine go h λw h=>?_
 obtain⟨n,rfl⟩:∃k,n=k+1:=⟨n-1,by have:=hn.resolve_left (by rw[hd9];decide);omega⟩
 replace hn:=hn.resolve_left (by rw[hd9];decide)
 refine go h λw h=>?_
 have kb10:=k
 refine dE (hU _ _ _ _ _ h.to (k.less (by omega))) λy11 v12 q13 w h k=>?_
 obtain⟨z14,rfl⟩:=Ct.mB q13
 have lq13:=Ct.nY q13
 have ltq13:=Ct.oK kb10 q13
 refine go h λw h=>?_
 refine cG (aN _ _ _ _ h.to k.dR) λp15 w h=>?_
 have f16:=k.lN v12
 have bf16:=k.len
 refine go h λw h=>?_
 refine jA h λb17 w h=>?_
 refine qc h (λhd18 w h=>?_) λhd18 w h=>?_
 have hg19:=eq_of_beq hd18
 refine go h λw h=>?_
 refine dZ [1,3,5,7,9,11,13,15] (by kernel_rfl) h (.c r0 (.c r1 .n)) λw h=>go h λw h=>?_
 refine tk (λW H=>ld (v:=.string c.key) One.h rfl (H.xc a1 λ_=>rfl))<|go h λw h=>?_
 refine qc h (λhd20 w h=>?_) λhd20 w h=>?_
 refine bA (eQ _ _ h.to) λw h=>?_
 exact rr (bP rfl rfl (h.b a4) Row.h)<|⟨_,Ct.cC true ((Ct.X.of c z14).node v12).value,hq.trans<|Ct.rB q13<|Ct.rN<|Ct.rT hd18<|Ct.rT hd20<|Ct.rR,rfl,h.to,k⟩
 refine bA (eQ _ _ h.to) λw h=>?_
 exact rr (bP rfl rfl (h.b a4) Row.h)<|⟨_,Ct.cC false 0,hq.trans<|Ct.rB q13<|Ct.rN<|Ct.rT hd18<|Ct.rF hd20<|Ct.rR,rfl,h.to,k⟩
 have hg21:=AD hd18
 refine go h λw h=>?_
 refine qc h (λhd22 w h=>?_) λhd22 w h=>?_
 have hg23:=eq_of_beq hd22
 refine go h λw h=>?_
 have h:=h.fr (.c r1 .n)
 have h:=SH.se (l:=[aY ((Ct.X.of c z14).node v12) p15,cH ((Ct.X.of c z14).node v12) p15]) h
 have hpv:=(Ct.fJ (((Ct.Node.Fit.nf f16 (by omega))).v6 (eq_of_beq hd22))).kG (eq_of_beq hd22)
 have hpl:=((Ct.Node.Fit.nf f16 (by omega))).pr
 refine dZ [1,3,5,7,9,11,13,14,17,19,21,22,24] (by kernel_rfl) h (.c r2 (.c r2 .n)) λw h=>go h λw h=>?_
 refine tk (λW H=>ld (v:=.string c.key) One.h rfl (H.xc a1 λ_=>rfl))<|go h λw h=>?_
 refine gO (oY _ _ _ _ h.to hpv (by omega)) λw h=>?_
 refine bA (eQ _ _ h.to) λw h=>?_
 exact rr (bP rfl rfl (h.b a5) Row.h)<|⟨_,Ct.cC (Ct.bB ((Ct.X.of c z14).node v12).aF c.key).2 (Ct.bB ((Ct.X.of c z14).node v12).aF c.key).1,hq.trans<|Ct.rB q13<|Ct.rN<|Ct.rF hd18<|Ct.rT hd22<|Ct.rR,rfl,h.to,k⟩
 have hg24:=AD hd22
 refine go h λw h=>?_
 refine dZ [1,3,5,6,8,11,13,15,16,18] (by kernel_rfl) h (.c r0 .n) λw h=>go h λw h=>?_
 refine cs (ca eF rfl) ((eH (Ct.aH c.key c.aI) l _ (by omega)).mono ?_)
 rintro _ _ ⟨rfl,rfl⟩
 refine⟨_,rfl,h.hs (.c r0 .n),?_⟩
 refine go h λw h=>?_
 refine gO (fG _ _ _ _ _ _ h.to (Ct.Node.Fit.nf f16 (by omega))) λw h=>?_
 refine st (ld (v:=.bool (Ct.X.of c z14).e.aC) One.h rfl (h.xc a2 λ_=>rfl))<|go h λw h=>?_
 refine qg h (λhd25 w h=>?_) λhd25 w h=>?_
 refine bA (eQ _ _ h.to) λw h=>?_
 exact rr (bP rfl rfl (h.b a4) Row.h)<|⟨_,Ct.cC false 0,hq.trans<|Ct.rB q13<|Ct.rN<|Ct.rF hd18<|Ct.rF hd22<|Ct.rS hd25,rfl,h.to,(k.stop hd25)⟩
 refine qc h (λhd26 w h=>?_) λhd26 w h=>?_
 have hd27:(Ct.aB ((Ct.X.of c z14).node v12) (Ct.slice (Ct.aH c.key c.aI) l)).2=false:=by simpa using hd26
 refine go h λw h=>?_
 refine bA (eQ _ _ h.to) λw h=>?_
 exact rr (bP rfl rfl (h.b a4) Row.h)<|⟨_,Ct.cC false 0,hq.trans<|Ct.rB q13<|Ct.rN<|Ct.rF hd18<|Ct.rF hd22<|Ct.Zo hd27<|Ct.rR,rfl,h.to,k⟩
 have hd28:(Ct.aB ((Ct.X.of c z14).node v12) (Ct.slice (Ct.aH c.key c.aI) l)).2=true:=by simpa using hd26
 refine go h λw h=>?_
 refine cG (aN _ _ _ _ h.to k.dR) λp29 w h=>?_
 have f30:=k.lN (Ct.aB ((Ct.X.of c z14).node v12) (Ct.slice (Ct.aH c.key c.aI) l)).1
 have bf30:=k.len
 refine go h λw h=>?_
 refine jA h λb31 w h=>?_
 refine qc h (λhd32 w h=>?_) λhd32 w h=>?_
 have hg33:=eq_of_beq hd32
 refine go h λw h=>?_
 refine dZ [1,3,5,7,9,11,13,15] (by kernel_rfl) h (.c r0 (.c r1 .n)) λw h=>go h λw h=>?_
 refine tk (λW H=>ld (v:=.string c.key) One.h rfl (H.xc a1 λ_=>rfl))<|go h λw h=>?_
 refine qc h (λhd34 w h=>?_) λhd34 w h=>?_
 refine bA (eQ _ _ h.to) λw h=>?_
 exact rr (bP rfl rfl (h.b a6) Row.h)<|⟨_,Ct.cC true ((Ct.X.of c z14).node (Ct.aB ((Ct.X.of c z14).node v12) (Ct.slice (Ct.aH c.key c.aI) l)).1).value,hq.trans<|Ct.rB q13<|Ct.rN<|Ct.rF hd18<|Ct.rF hd22<|Ct.wF hd28<|Ct.rN<|Ct.rT hd32<|Ct.rT hd34<|Ct.rR,rfl,h.to,k⟩
 refine bA (eQ _ _ h.to) λw h=>?_
 exact rr (bP rfl rfl (h.b a6) Row.h)<|⟨_,Ct.cC false 0,hq.trans<|Ct.rB q13<|Ct.rN<|Ct.rF hd18<|Ct.rF hd22<|Ct.wF hd28<|Ct.rN<|Ct.rT hd32<|Ct.rF hd34<|Ct.rR,rfl,h.to,k⟩
 have hg35:=AD hd32
 refine go h λw h=>?_
 refine st (ba (l+1))<|go h λw h=>?_
 exact⟨(z14,n,(Ct.aB ((Ct.X.of c z14).node v12) (Ct.slice (Ct.aH c.key c.aI) l)).1,l+1),⟨rfl,rfl,rfl,rfl,rfl,rfl,trivial⟩,⟨h.to,(hq.trans<|Ct.rB q13<|Ct.rN<|Ct.rF hd18<|Ct.rF hd22<|Ct.wF hd28<|Ct.rN<|Ct.rF hd32<|rfl),k,(.inr (by have:=(ltq13.resolve_left (by rw[hd25];decide)).2;(try dsimp only);omega)),⟨by(try dsimp only);omega,by(try dsimp only);omega⟩⟩,by(try dsimp only);omega⟩
 have hd36:(Ct.X.of c y).e.aC=true:=by simpa using hd8
 refine go h λw h=>?_
 exact rr (bP rfl rfl (h.b a2) Row.h)<|⟨_,{},hq.trans<|Ct.rS hd36,rfl,h.to,(k.stop hd36)⟩
 refine jB h λb37 w h=>?_
 refine cs (ca eF rfl) ((pA c.key c.aI _ (by omega) (by omega)).mono ?_)
 rintro _ _ ⟨rfl,rfl⟩
 refine⟨_,rfl,(hC (h.at_ a2) hN),?_⟩
 refine ff (so h rfl rfl rfl Hp rfl (.r (.r .d)) u0)<|?_
 rintro _ w h
 refine⟨(hC (h.at_ a2) hN),?_⟩
 refine ef (sg rfl) ((hC (h.at_ a2) hN))<|xz<|nx<|sq<|rg<|st (mv rfl)<|st (gJ rfl (dK (h.b a0)) oG)<|?_
 refine go h λw h=>?_
 have kb38:=k
 refine dE (nV _ _ _ _ h.to (k.less (by omega))) λy39 v40 q41 w h k=>?_
 obtain⟨z42,rfl⟩:=Ct.mB q41
 have lq41:=Ct.nY q41
 have ltq41:=Ct.pY kb38 (by omega) q41
 refine go h λw h=>?_
 refine lp (α:=Ct.X×Nat×Int×Int) (λρ=>(.c 0 ↑xb (.c 2 ↑b1 (.c 3 ↑b37 (.c 4 (.int .u64 ((Ct.aH c.key c.aI:Nat):Int)) (.c 5 (.int .i64 ρ.2.2.1) (.c 6 (.int .i64 ρ.2.2.2) .n))))))) (λρ w=>SH B w (XA xb mb (Ct.X.of c ρ.1)::bl b37 (cU c.aE) 35::bl b1 ([.int .i64 0,↑false,.int .u64 0,.string .empty,.int .i64 0,.int .i64 0,.int .i64 0,↑false]) 43::L)/\(Ct.aX (Ct.tH c F) (Ct.X.of c x)=Ct.aX (Ct.Mp c.aE c.key (Ct.aH c.key c.aI) ρ.2.1 ρ.2.2.1 ρ.2.2.2) (Ct.X.of c ρ.1))/\(Ct.Ok 60 (Ct.X.of c ρ.1))/\((Ct.X.of c ρ.1).e.aC=true\/(Ct.X.of c ρ.1).left<ρ.2.1)/\(0<=ρ.2.2.2/\ρ.2.2.2+(ρ.2.1:Int)<=(F:Int))) (λρ=>ρ.2.1) (z42,F,v40,0) ⟨rfl,rfl,rfl,rfl,rfl,rfl,trivial⟩ ⟨h,(Ct.rB q41<|rfl),k,(ltq41.imp id λh=>by have:=h.2;(try dsimp only);omega),⟨by(try dsimp only);omega,by(try dsimp only);omega⟩⟩ ?_
 rintro⟨y,n,i,l⟩ w ⟨h,hq,k,hn,hl⟩
 dsimp only at *
 refine go h λw h=>?_
 refine st (ld (v:=.bool (Ct.X.of c y).e.aC) One.h rfl (h.xc a0 λ_=>rfl))<|go h λw h=>?_
 refine qc h (λhd43 w h=>?_) λhd43 w h=>?_
 have hd44:(Ct.X.of c y).e.aC=false:=by simpa using hd43
 refine go h λw h=>?_
 obtain⟨n,rfl⟩:∃k,n=k+1:=⟨n-1,by have:=hn.resolve_left (by rw[hd44];decide);omega⟩
 replace hn:=hn.resolve_left (by rw[hd44];decide)
 refine go h λw h=>?_
 have kb45:=k
 refine dE (hU _ _ _ _ _ h.to (k.less (by omega))) λy46 v47 q48 w h k=>?_
 obtain⟨z49,rfl⟩:=Ct.mB q48
 have lq48:=Ct.nY q48
 have ltq48:=Ct.oK kb45 q48
 refine go h λw h=>?_
 refine cG (aN _ _ _ _ h.to k.dR) λp50 w h=>?_
 have f51:=k.lN v47
 have bf51:=k.len
 refine go h λw h=>?_
 refine jA h λb52 w h=>?_
 refine qc h (λhd53 w h=>?_) λhd53 w h=>?_
 have hg54:=eq_of_beq hd53
 refine go h λw h=>?_
 refine dZ [1,3,5,7,9,11,13,15] (by kernel_rfl) h (.c r0 (.c r1 .n)) λw h=>go h λw h=>?_
 refine tk (λW H=>ld (v:=.string c.key) One.h rfl (H.xc a1 λ_=>rfl))<|go h λw h=>?_
 refine qc h (λhd55 w h=>?_) λhd55 w h=>?_
 refine bA (eQ _ _ h.to) λw h=>?_
 exact rr (bP rfl rfl (h.b a4) Row.h)<|⟨_,Ct.cC true ((Ct.X.of c z49).node v47).value,hq.trans<|Ct.rB q48<|Ct.rN<|Ct.rT hd53<|Ct.rT hd55<|Ct.rR,rfl,h.to,k⟩
 refine bA (eQ _ _ h.to) λw h=>?_
 exact rr (bP rfl rfl (h.b a4) Row.h)<|⟨_,Ct.cC false 0,hq.trans<|Ct.rB q48<|Ct.rN<|Ct.rT hd53<|Ct.rF hd55<|Ct.rR,rfl,h.to,k⟩
 have hg56:=AD hd53
 refine go h λw h=>?_
 refine qc h (λhd57 w h=>?_) λhd57 w h=>?_
 have hg58:=eq_of_beq hd57
 refine go h λw h=>?_
 have h:=h.fr (.c r1 .n)
 have h:=SH.se (l:=[aY ((Ct.X.of c z49).node v47) p50,cH ((Ct.X.of c z49).node v47) p50]) h
 have hpv:=(Ct.fJ (((Ct.Node.Fit.nf f51 (by omega))).v6 (eq_of_beq hd57))).kG (eq_of_beq hd57)
 have hpl:=((Ct.Node.Fit.nf f51 (by omega))).pr
 refine dZ [1,3,5,7,9,11,13,14,17,19,21,22,24] (by kernel_rfl) h (.c r2 (.c r2 .n)) λw h=>go h λw h=>?_
 refine tk (λW H=>ld (v:=.string c.key) One.h rfl (H.xc a1 λ_=>rfl))<|go h λw h=>?_
 refine gO (oY _ _ _ _ h.to hpv (by omega)) λw h=>?_
 refine bA (eQ _ _ h.to) λw h=>?_
 exact rr (bP rfl rfl (h.b a5) Row.h)<|⟨_,Ct.cC (Ct.bB ((Ct.X.of c z49).node v47).aF c.key).2 (Ct.bB ((Ct.X.of c z49).node v47).aF c.key).1,hq.trans<|Ct.rB q48<|Ct.rN<|Ct.rF hd53<|Ct.rT hd57<|Ct.rR,rfl,h.to,k⟩
 have hg59:=AD hd57
 refine go h λw h=>?_
 refine dZ [1,3,5,6,8,11,13,15,16,18] (by kernel_rfl) h (.c r0 .n) λw h=>go h λw h=>?_
 refine cs (ca eF rfl) ((eH (Ct.aH c.key c.aI) l _ (by omega)).mono ?_)
 rintro _ _ ⟨rfl,rfl⟩
 refine⟨_,rfl,h.hs (.c r0 .n),?_⟩
 refine go h λw h=>?_
 refine gO (fG _ _ _ _ _ _ h.to (Ct.Node.Fit.nf f51 (by omega))) λw h=>?_
 refine st (ld (v:=.bool (Ct.X.of c z49).e.aC) One.h rfl (h.xc a2 λ_=>rfl))<|go h λw h=>?_
 refine qg h (λhd60 w h=>?_) λhd60 w h=>?_
 refine bA (eQ _ _ h.to) λw h=>?_
 exact rr (bP rfl rfl (h.b a4) Row.h)<|⟨_,Ct.cC false 0,hq.trans<|Ct.rB q48<|Ct.rN<|Ct.rF hd53<|Ct.rF hd57<|Ct.rS hd60,rfl,h.to,(k.stop hd60)⟩
 refine qc h (λhd61 w h=>?_) λhd61 w h=>?_
 have hd62:(Ct.aB ((Ct.X.of c z49).node v47) (Ct.slice (Ct.aH c.key c.aI) l)).2=false:=by simpa using hd61
 refine go h λw h=>?_
 refine bA (eQ _ _ h.to) λw h=>?_
 exact rr (bP rfl rfl (h.b a4) Row.h)<|⟨_,Ct.cC false 0,hq.trans<|Ct.rB q48<|Ct.rN<|Ct.rF hd53<|Ct.rF hd57<|Ct.Zo hd62<|Ct.rR,rfl,h.to,k⟩
 have hd63:(Ct.aB ((Ct.X.of c z49).node v47) (Ct.slice (Ct.aH c.key c.aI) l)).2=true:=by simpa using hd61
 refine go h λw h=>?_
 refine cG (aN _ _ _ _ h.to k.dR) λp64 w h=>?_
 have f65:=k.lN (Ct.aB ((Ct.X.of c z49).node v47) (Ct.slice (Ct.aH c.key c.aI) l)).1
 have bf65:=k.len
 refine go h λw h=>?_
 refine jA h λb66 w h=>?_
 refine qc h (λhd67 w h=>?_) λhd67 w h=>?_
 have hg68:=eq_of_beq hd67
 refine go h λw h=>?_
 refine dZ [1,3,5,7,9,11,13,15] (by kernel_rfl) h (.c r0 (.c r1 .n)) λw h=>go h λw h=>?_
 refine tk (λW H=>ld (v:=.string c.key) One.h rfl (H.xc a1 λ_=>rfl))<|go h λw h=>?_
 refine qc h (λhd69 w h=>?_) λhd69 w h=>?_
 refine bA (eQ _ _ h.to) λw h=>?_
 exact rr (bP rfl rfl (h.b a6) Row.h)<|⟨_,Ct.cC true ((Ct.X.of c z49).node (Ct.aB ((Ct.X.of c z49).node v47) (Ct.slice (Ct.aH c.key c.aI) l)).1).value,hq.trans<|Ct.rB q48<|Ct.rN<|Ct.rF hd53<|Ct.rF hd57<|Ct.wF hd63<|Ct.rN<|Ct.rT hd67<|Ct.rT hd69<|Ct.rR,rfl,h.to,k⟩
 refine bA (eQ _ _ h.to) λw h=>?_
 exact rr (bP rfl rfl (h.b a6) Row.h)<|⟨_,Ct.cC false 0,hq.trans<|Ct.rB q48<|Ct.rN<|Ct.rF hd53<|Ct.rF hd57<|Ct.wF hd63<|Ct.rN<|Ct.rT hd67<|Ct.rF hd69<|Ct.rR,rfl,h.to,k⟩
 have hg70:=AD hd67
 refine go h λw h=>?_
 refine st (ba (l+1))<|go h λw h=>?_
 exact⟨(z49,n,(Ct.aB ((Ct.X.of c z49).node v47) (Ct.slice (Ct.aH c.key c.aI) l)).1,l+1),⟨rfl,rfl,rfl,rfl,rfl,rfl,trivial⟩,⟨h.to,(hq.trans<|Ct.rB q48<|Ct.rN<|Ct.rF hd53<|Ct.rF hd57<|Ct.wF hd63<|Ct.rN<|Ct.rF hd67<|rfl),k,(.inr (by have:=(ltq48.resolve_left (by rw[hd60];decide)).2;(try dsimp only);omega)),⟨by(try dsimp only);omega,by(try dsimp only);omega⟩⟩,by(try dsimp only);omega⟩
 have hd71:(Ct.X.of c y).e.aC=true:=by simpa using hd43
 refine go h λw h=>?_
 exact rr (bP rfl rfl (h.b a2) Row.h)<|⟨_,{},hq.trans<|Ct.rS hd71,rfl,h.to,(k.stop hd71)⟩
end Go.Q9
end
section
namespace Go.Ct
def bJ(x:Node)(at_:Int)(h:Nat)(key:ByteArray)(v:Nat)(first:Int):Nat×List (Node×Int):=
 if 11<=aJ x.hash h then(11,[({kind:=6,hash:=h,aF:=gG ⟨x.key,x.value⟩ ⟨key,v⟩},0)])
 else(aJ x.hash h,[({kind:=4,hash:=h,key:=key,value:=v},0),(fX (slice x.hash (aJ x.hash h)) at_ (slice h (aJ x.hash h)) first,0)])
theorem tT(x:Node)(at_:Int)(h:Nat)(key:ByteArray)(v:Nat)(level gen first:Int):
  bT x at_ h key v level gen first=eZ h gen first (bJ x at_ h key v first).1 (((bJ x at_ h key v first).1:Int)-level).toNat (bJ x at_ h key v first).2:=by
 unfold bT bJ;dsimp only;split<;>rfl
theorem uE(h:Nat)(g f:Int):∀(j:Nat) (c:Int) (l:List (Node×Int)),eZ h g f c (j+1) l=eZ h g f c j l++[({kind:=2,gen:=g},f+(eZ h g f c j l).length -1),({kind:=3,aD:=Bm.cI 0 (slice h (c-j-1)),aA:=[f+(eZ h g f c j l).length -1+1]},0)]
 |0,c,l=>by simp[eZ]
 |j+1,c,l=>by
  rw[show eZ h g f c (j+1+1) l=eZ h g f (c-1) (j+1) _ from rfl,uE h g f j (c-1)]
  rw[show eZ h g f c (j+1) l=eZ h g f (c-1) j _ from rfl]
  rw[show c-((j+1:Nat):Int)-1=c-1-(j:Int)-1 by omega]
theorem Ze{x:Node}{at_:Int}{h:Nat}{key:ByteArray}{v:Nat}{level gen first:Int}{z:X}(hs:z.e.aC=false)(hf:first=if z.e.m<z.e.made.length then z.e.made.getD z.e.m 0 else(z.s.aG.length:Int)+3)(hm:z.e.m<=z.e.made.length):
  aX (nM x at_ h key v level gen) z=aX (gR (bT x at_ h key v level gen first) 0) z:=by
 have key':∀(n:Node) (i:Int),∃y,dB n i z=(y,some first):=λn i=>by
  unfold dB;rw[if_neg (by rw[hs];decide)]
  split
  ·rename_i h1
   rw[if_neg (by omega)]at hf
   exact⟨_,by rw[hf];rfl⟩
  ·rename_i h1
   rw[if_pos (by omega)]at hf
   exact⟨_,by rw[hf]⟩
 have hh:=uJ x at_ h key v level gen 0 first
 cases h0:bT x at_ h key v level gen 0 with
 |nil=>have:=qX x at_ h key v level gen 0;rw[h0]at this;simp at this
 |cons n l=>
  cases h1:bT x at_ h key v level gen first with
  |nil=>have:=qX x at_ h key v level gen first;rw[h1]at this;simp at this
  |cons n' l'=>
   rw[h0,h1]at hh
   obtain rfl:n=n':=by simpa using hh
   have e:nM x at_ h key v level gen=.alloc n.1 n.2 λf=>gR (bT x at_ h key v level gen f).tail f:=by unfold nM;rw[h0]
   rw[e]
   obtain⟨y,hy⟩:=key' n.1 n.2
   show iP (dB n.1 n.2 z) _=iP (dB n.1 n.2 z) _
   rw[hy]
   show aX (gR (bT x at_ h key v level gen first).tail first) y=aX (gR l' first) y
   rw[h1];rfl
theorem Ef{l:List (Node×Int)}{k:Nat}(hk:k<l.length)(r:Int):gR (l.drop k) r=.alloc (l.getD k ({},0)).1 (l.getD k ({},0)).2 λr=>gR (l.drop (k+1)) r:=by
 rw[BO hk,Xe,DI hk];rfl
theorem QG{α β γ:Type}{f:α->γ}{g:β->γ}{l:List α}{m:List β}(h:l.map f=m.map g){i:Nat}(a:α)(b:β)(hi:i<m.length):f (l.getD i a)=g (m.getD i b):=by
 have h1:l.length=m.length:=by have:=congrArg List.length h;simpa using this
 have h2:=congrArg (λz=>z[i]?) h
 simp only[dI,DI hi,DI (show i<l.length by omega),Fb,xF]at h2
 rw[Xe,Xe,DI hi,DI (show i<l.length by omega)];exact h2
theorem kH{α:Type}{l:List α}{i:Nat}(a:α)(hi:i<l.length):l.getD i a∈l:=by
 rw[Xe,DI hi];exact RD hi
theorem MP{l:List (Node×Int)}{i:Nat}(hi:i<l.length):(l.map Prod.snd).getD i 0=(l.getD i ({},0)).2:=by
 rw[Xe,Xe,dI,DI hi];rfl
end Go.Ct
namespace Go.E
open Go.Q9 Go.RowKit
variable{B w:World}{L:List As}
theorem SH.C9{b mb:Nat}{x:Ct.X}(h:SH B w L)(m:At L (XA b mb x)):∃p c,w.cell? ⟨mb,0,none⟩=some (.slice p (2+x.s.aG.length) c):=by
 obtain⟨O,R,hA⟩:=h.at_ m
 obtain⟨O1,R1,q,h1⟩:=Xa hA (i:=1) rfl
 obtain⟨O2,R2,h2⟩:=Xa h1 (i:=0) rfl
 obtain⟨O3,R3,h3⟩:=Xa h1 (i:=1) rfl
 have hl:=iC h2.1
 exact⟨q.pn,q.cn,by rw[<- hl];simp[World.cell?,h3.1]⟩
theorem SH.eJ{b mb:Nat}{x:Ct.X}{o:Nat}{v:Value}(h:SH B w L)(m:At L (XA b mb x))(hv:∀q,(vT mb x.e q)[o]?=some v):∃O R,(ce b o v).p w O R:=⟨λ_=>False,λk=>k=b,h.xc m hv,λ_ h=>h,λ_=>Iff.rfl⟩
theorem lF{b o:Nat}{v0 v1:Value}(h0:w.cell? ⟨b,o,none⟩=some v0)(h1:w.cell? ⟨b,o+1,none⟩=some v1):∀j v,[v0,v1][j]?=some v->w.cell? ⟨b,o+j,none⟩=some v:=λj v hj=>by
 match j with
 |0=>simp at hj;subst hj;exact h0
 |1=>simp at hj;subst hj;exact h1
 |j+2=>simp at hj
theorem SH.YH(h:SH B w L):SH B w (bE []::L):=
 h.new (Kp.refl _ _) (O:=λ_=>False) (R:=λ_=>False) ⟨λ_ h=>h,λ_ hz=>absurd hz List.not_mem_nil,λ_ h=>h.elim⟩ (λ_ h=>h.elim) (λ_ h=>h.elim)
theorem SH.VY{zs:List (Ct.Node×Lq)}{n:Ct.Node}{q:Lq}(h:SH B w (aM n q::bE zs::L)):SH B w (bE (zs++[(n,q)])::L):=
 SH.HU (SH.se (l:=[aY n q,cH n q]) h)
theorem SH.FM{zs:List (Ct.Node×Lq)}{n n':Ct.Node}{q q':Lq}(h:SH B w (aM n q::aM n' q'::bE zs::L)):SH B w (bE (zs++[(n,q),(n',q')])::L):=by
 have h1:=(h.fr (.c r0 (.c r1 .n))).VY
 have h2:=(h1.fr (.c r1 (.c r0 .n))).VY
 rw[Cz]at h2
 exact h2
end Go.E
end
