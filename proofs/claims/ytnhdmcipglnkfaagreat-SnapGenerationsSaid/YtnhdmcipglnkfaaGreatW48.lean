/- Parts of a proof: Wy. -/
import Derived.Test.YtnhdmcipglnkfaaGreatW47
set_option linter.unusedVariables false
set_option linter.unusedSimpArgs false
set_option maxRecDepth 100000
set_option maxHeartbeats 4000000
section
namespace Go.Q9
open Go.Proofs.Tryz
open Go.RowKit Go.E
attribute [local irreducible] gB wpS
variable{B w:World}{L:List As}
theorem P6(ab:Nat)(t:Ct.bC)(s:Ct.St)(h:SH B w (wW ab s::L))(hs:Ct.Rm 60 s):Calls prog 9 #[(cV ab).v,.agg (cU t).toArray] w λe w'=>∃tb,e=.returned (.pointer (some ⟨tb,0,none⟩))/\SH B w' (oQ (cV ab) 99999999 tb ((Ct.Cg t Ct.FU).head s).2 0::(cV ab).a ((Ct.Cg t Ct.FU).head s).1::L):=by
 refine(Vr (cV ab) 99999999 t s (LX h) hs).mono ?_
 rintro e w' ⟨tb,s',u,hq,rfl,h⟩
 have e0:(Ct.Cg t Ct.FU).head s=(s',u):=hq
 rw[e0]
 exact⟨tb,rfl,h⟩
theorem Y3(ab tb z x y:Nat)(s:Ct.St)(t:Ct.bC)(hR:Ct.aA8 s t z x y)(h:SH B w (oQ (cV ab) 99999999 tb ((Ct.Cg t Ct.FU).head s).2 0::(cV ab).a ((Ct.Cg t Ct.FU).head s).1::L)):Calls prog 10 #[↑tb,.int .i64 100] w λe w'=>∃n s9 u9,Ct.SnR t s9 u9 x y/\e=.returned ↑(z:Int)/\SH B w' (oQ (cV ab) n tb u9 (0+z)::(cV ab).a s9::L):=by
 refine(OV (cV ab) (AB ab) 99999999 tb 0 z 100 (Ct.alone ((Ct.Cg t Ct.FU).head s).1 ((Ct.Cg t Ct.FU).head s).2) h (λi=>rfl) hR.run hR.fin (by have:=hR.le;omega) (by have:=hR.le;omega) (λi hi=>hR.rm i (by omega)) (by have:=hR.le;omega) (by decide)).mono ?_
 rintro e w' ⟨rfl,h⟩
 exact⟨_,_,_,hR.A6,rfl,h⟩
theorem VM(s:Ct.St)(zs:List (Ct.Node×Lq))(pn pc:Option Addr)(cn cc:Nat)(t:Ct.bC)(x:Nat)(hx:Ct.rootOf s t=(((x+1:Nat):Int),true))(h:SH B w (aU 53 14 (.slice pn zs.length cn) zs.length (zs.flatMap cB)::aU 44 1 (.slice pc s.cells.length cc) s.cells.length (s.cells.map (Value.int .i64))::bE zs::L))(hzs:zs.map Prod.fst=aW s)(hm:Ct.Rm 101 s)(hT:∃g,Ct.Tw g s):
  Calls prog 12 #[.agg [.slice pn zs.length cn,.slice pc s.cells.length cc,↑(s.gen:Int)].toArray,.agg (cU t).toArray] w λe w'=>e=.returned (.tuple #[.int .i64 ((x+1:Nat):Int),↑true])/\SH B w' (aU 53 14 (.slice pn zs.length cn) zs.length (zs.flatMap cB)::aU 44 1 (.slice pc s.cells.length cc) s.cells.length (s.cells.map (Value.int .i64))::bE zs::L):=by
 obtain⟨g,hT⟩:=hT
 have:=JJ s zs pn pc cn cc t h hzs hm.zP (Ct.IE hT.gw hT.PI) (lS hm.fit hm.zP)
 rw[hx]at this
 exact this
theorem Ik{s:Ct.St}{ys:List (Ct.Node×Lq)}(hys:ys.map Prod.fst=aW s){k:Nat}(hk:k<ys.length):(ys.getD k ({},{})).1=s.node ((k+1:Nat):Int):=by
 rw[OD s (by have:=iC hys;omega)]
 exact(pP hys hk).2.2
theorem sM{t:Ct.bC}{s:Ct.St}{u:Ct.I Ct.Result}{x y k:Nat}{ys:List (Ct.Node×Lq)}(hS:Ct.SnR t s u x y)(hys:ys.map Prod.fst=aW s)(hk:k<ys.length)(h2:(((ys.getD k ({},{})).1.kind:Int)==2)=true)(hx:(((k+1:Nat):Int) != ((x+1:Nat):Int))=true)(hy:(((k+1:Nat):Int) != ((y+1:Nat):Int))=true):
  (((ys.getD k ({},{})).1.gen:Int)==(ys.getD x ({},{})).1.gen)=false/\(((ys.getD k ({},{})).1.gen:Int)==(ys.getD y ({},{})).1.gen)=false:=by
 have hl:=iC hys
 have hxl:=hS.xl;have hyl:=hS.yl
 rw[Ik hys hk,Ik hys (by omega),Ik hys (by omega)]at *
 have:=hS.oth k (eq_of_beq h2) (by intro e;subst e;simp at hx) (by intro e;subst e;simp at hy)
 exact⟨beq_eq_false_iff_ne.mpr this.1,beq_eq_false_iff_ne.mpr this.2⟩
theorem aA1{t:Ct.bC}{s:Ct.St}{u:Ct.I Ct.Result}{x y:Nat}{ys:List (Ct.Node×Lq)}(hS:Ct.SnR t s u x y)(hys:ys.map Prod.fst=aW s):(((ys.getD x ({},{})).1.gen:Int) != (ys.getD y ({},{})).1.gen)=true:=by
 have hl:=iC hys
 have hxl:=hS.xl;have hyl:=hS.yl
 rw[Ik hys (by omega),Ik hys (by omega)]
 exact bne_iff_ne.mpr hS.gxy
theorem Fj(l0:List Int)(p0:Option Addr)(c0:Nat)(h:SH B w (bV 1 (.slice p0 l0.length c0) l0.length (l0.map (Value.int .i64))::L)):
  Calls prog 3 #[.slice p0 l0.length c0] w λe w'=>e=.returned ↑true/\SH B w' L:=by
 refine Ea (args:=[_]) func3 rfl ntmps3 rfl ?_
 refine sq<|rg<|st (sg rfl)<|xe<|nx<|sq<|rg<|st (mv rfl)<|cl (ca eF rfl) ((Zz l0 p0 c0 (h.fr (.c r0 .n))).mono ?_)
 rintro _ w ⟨b,mb,aI,g,s,ts,zs,hmk,hW,rfl,h⟩
 have hsz:s.size<=37000000000:=by have:=hW.size;omega
 refine⟨_,rfl,?_⟩
 refine st (sg rfl)<|xe<|nx<|sq<|rg<|st (mv rfl)<|cl (ca eF rfl) ((JK b mb aI s ts zs g (h.fr (.c r0 (.c r0 (.c r0 .n)))) hW).mono ?_)
 rintro _ w ⟨g7,s7,hQ,rfl,h⟩
 have hsq:=hQ.small
 refine⟨_,rfl,?_⟩
 refine xe<|nx<|sq<|?_
 have h:=h.fr (.c r0 .n)
 obtain⟨⟨twp,twc,xwp,xwc⟩,h⟩:=h.wo
 have h:SH B w (bl b ([↑mb,.int .u64 (aI:Int),.slice twp ts.length twc,.slice xwp [].length xwc]) 32::aU 35 2 (.slice twp ts.length twc) ts.length (ts.flatMap cU)::aU 81 1 (.slice xwp [].length xwc) [].length ([].flatMap Ii)::cR mb s7::L):=h
 refine rg<|st (mv rfl)<|st (nc rfl rfl)<|st (fa RT rfl)<|st (ld Lv rfl (h.c a0 rfl))<|cl (ca eF rfl) ((CN mb s7 (h.fr (.c r3 .n)) (by omega) (Ct.IE hQ.gw hQ.PI) (lS hQ.fit (by omega))).mono ?_)
 rintro _ w ⟨ab,rfl,h⟩
 have hT1:Ct.Tw g7 ({s7 with acc:=0}:Ct.St):=⟨hQ.gw,hQ.PI.acc 0⟩
 have hf1:Ct.eK ({s7 with acc:=0}:Ct.St):=hQ.fit
 have hz1:({s7 with acc:=0}:Ct.St).size<=992000:=lK (by unfold Ct.St.size;dsimp only;omega) hsq
 have hsome:=hQ.some
 obtain⟨z,x,y,hR⟩:=Ct.YR hT1 (hQ.GO _ (kH hQ.some)) hQ.first hf1 (by omega)
 refine⟨_,rfl,?_⟩
 refine st (sg rfl)<|xe<|nx<|sq<|sq<|rg<|st (mv rfl)<|st (i4 IB rfl rfl)<|xe<|nx<|cF rfl<|sk<|nx<|sq<|rg<|st (mv rfl)<|st (nc rfl rfl)<|st (fa xK rfl)<|st (ld Jo rfl (h.c a2 rfl))<|?_
 obtain⟨b1,rfl⟩:=h.fp a3 (by omega)
 refine st (ix (j:=0) Mu Ba rfl rfl (by omega))<|st (gJ rfl ((h.ro a3).x Ng (by decide) (j:=0) (by omega) {}) xP)<|sf (al h n0)<|?_
 rintro _ w ⟨b2,rfl,h⟩
 refine sf (so h rfl rfl rfl Ba rfl (.r (.r .d)) u0)<|?_
 rintro _ w h
 refine xe<|nx<|sq<|rg<|st (mv rfl)<|st (mi IB rfl rfl)<|st (gJ rfl (dK (h.b a0)) xP)<|cl (ca eF rfl) ((P6 ab (ts.getD 0 {}) ({s7 with acc:=0}:Ct.St) (h.fr (.c r1 .n)) ⟨hf1,by unfold Ct.cN;omega⟩).mono ?_)
 rintro _ w ⟨tkb,rfl,h⟩
 refine⟨_,rfl,?_⟩
 refine st (sg rfl)<|xe<|nx<|sq<|sq<|rg<|st (mv rfl)<|st (i4 U2 rfl rfl)<|xe<|nx<|cF rfl<|sk<|nx<|sq<|rg<|st (mv rfl)<|cl (ca eF rfl) ((Y3 ab tkb z x y ({s7 with acc:=0}:Ct.St) (ts.getD 0 {}) hR (h.fr (.c r0 (.c r0 .n)))).mono ?_)
 rintro _ w ⟨n9,s9,u9,hS,rfl,h⟩
 refine⟨_,rfl,?_⟩
 refine xe<|nx<|sq<|rg<|st (mv rfl)<|cl (ca eF rfl) ((tF ab s9 (h.fr (.c r1 .n)) hS.rm.zP hS.rm.fit).mono ?_)
 rintro _ w ⟨pnz,cnz,pcz,ccz,ys,hys,rfl,h⟩
 have hyl:=iC hys
 have hxl:x<ys.length:=by rw[hyl];exact hS.xl
 have hyl2:y<ys.length:=by rw[hyl];exact hS.yl
 have hbig:=hS.rm.zP
 have hsz9:s9.size=s9.aG.length+s9.cells.length+s9.gen+s9.acc:=rfl
 refine⟨_,rfl,?_⟩
 refine sf (al h T')<|?_
 rintro _ w ⟨b3,rfl,h⟩
 refine sf (so h rfl rfl rfl Z2 rfl (.r (.r (.r .d))) u0)<|?_
 rintro _ w h
 refine xe<|nx<|sq<|rg<|st (gJ rfl (dK (h.b a0)) D3)<|st (gJ rfl (dK (h.b a6)) xP)<|cl (ca eF rfl) ((VM s9 ys pnz pcz cnz ccz (ts.getD 0 {}) x hS.r1 (h.fr (.c r1 (.c r1 (.c r1 .n)))) hys hS.rm hS.tw).mono ?_)
 rintro _ w ⟨rfl,h⟩
 refine⟨_,rfl,?_⟩
 refine st (mv rfl)<|st (xr rfl rfl)<|st (xr rfl rfl)<|st (sg rfl)<|st (sg rfl)<|xe<|nx<|sq<|dZ [1,3,4,7,8,11,13,15,16,18] (by kernel_rfl) h (.c r3 .n) λw h=>tk (λW H=>gJ rfl (dK (H.b a0)) D3)<|tk (λW H=>mv rfl)<|cs (ca eF rfl) ((Ew (cV ab) n9 tkb (0+z) u9 (h.fr (.c r5 .n))).mono ?_)
 rintro _ w ⟨rfl,h⟩
 refine⟨_,rfl,h.hs (.c r4 .n),?_⟩
 refine tk (λW H=>fda FZ rfl)<|cs (ca eF rfl) ((VM s9 ys pnz pcz cnz ccz (u9.ended.getD {}).aE y hS.r2 (h.fr (.c r1 (.c r1 (.c r1 .n)))) hys hS.rm hS.tw).mono ?_)
 rintro _ w ⟨rfl,h⟩
 refine⟨_,rfl,h.hs (.c r4 .n),?_⟩
 refine tk (λW H=>mv rfl)<|tk (λW H=>xr rfl rfl)<|tk (λW H=>xr rfl rfl)<|ef (sg rfl) (h.hs (.c r4 .n))<|ef (sg rfl) (h.hs (.c r4 .n))<|xz<|nx<|sq<|sq<|rg<|st (mv rfl)<|st (nt rfl)<|st (mv rfl)<|gT rfl rfl rfl<|st (mv rfl)<|gT rfl rfl rfl<|st (nt rfl)<|st (pF rfl rfl rfl)<|st (mv rfl)<|gT rfl rfl rfl<|st (mv rfl)<|gT rfl rfl rfl<|st (mv rfl)<|gT rfl rfl rfl<|st (bi rfl rfl rfl)<|st (pF rfl rfl rfl)<|xe<|nx<|cf rfl (beq_eq_false_iff_ne.mpr (by have:=hS.ne;omega))<|sk<|nx<|sq<|sq<|rg<|st (fa tO rfl)<|st (ld fZ rfl (h.c a4 rfl))<|st (ln tE rfl rfl)<|st (mv rfl)<|xe<|nx<|bk<|?_
 refine lp (α:=Nat) (λρ=>(.c 7 ↑b3 (.c 8 (.int .i64 ((x+1:Nat):Int)) (.c 10 (.int .i64 ((y+1:Nat):Int)) (.c 67 (.slice pnz ys.length cnz) (.c 68 ↑(ys.length:Int) (.c 69 (.int .i64 (ρ:Int)) .n))))))) (λρ w=>SH B w (aU 53 14 (.slice pnz ys.length cnz) ys.length (ys.flatMap cB)::aU 44 1 (.slice pcz s9.cells.length ccz) s9.cells.length (s9.cells.map (Value.int .i64))::bE ys::oQ (cV ab) n9 tkb u9 (0+z)::bl b3 ([.slice pnz ys.length cnz,.slice pcz s9.cells.length ccz,↑(s9.gen:Int)]) 42::(cV ab).a s9::bl b2 (cU (ts.getD 0 {})) 35::cR mb ({s7 with acc:=0}:Ct.St)::bl b ([↑mb,.int .u64 (aI:Int),.slice (some ⟨b1,0,none⟩) ts.length twc,.slice xwp [].length xwc]) 32::aU 35 2 (.slice (some ⟨b1,0,none⟩) ts.length twc) ts.length (ts.flatMap cU)::aU 81 1 (.slice xwp [].length xwc) [].length ([].flatMap Ii)::L)/\(ρ<=ys.length)) (λρ=>ys.length-ρ) 0 ⟨rfl,rfl,rfl,rfl,rfl,rfl,trivial⟩ ⟨h,(dF _)⟩ ?_
 rintro k w ⟨h,hk⟩
 refine sq<|rg<|st (bi rfl rfl rfl)<|xe<|nx<|sq<|?_
 rcases dA (decide (((k:Int):Int)<(ys.length:Int)))with hd4|hd4
 ·have hg5:=eC hd4
  refine ct rfl hd4<|sk<|nx<|sq<|bk<|sq<|rg<|st (mv rfl)<|?_
  obtain⟨b6,rfl⟩:=h.fp a0 (by omega)
  refine st (ix (j:=k) tE qH rfl rfl (by omega))<|st (gJ rfl ((h.ro a0).x fN (by decide) (by omega) ({},{})) iR)<|sf (al h Ty)<|?_
  rintro _ w ⟨b7,rfl,h⟩
  refine st (sg rfl)<|sf (so h rfl rfl rfl qH rfl (.r (.r (.r (.r (.r (.r (.r (.r (.r (.r (.r (.r (.r (.r .d)))))))))))))) u0)<|?_
  rintro _ w h
  refine xe<|nx<|sq<|?_
  rcases dA (((ys.getD k ({},{})).1.kind:Int)==2)with hd8|hd8
  ·have hg9:=eq_of_beq hd8
   rcases dA ((((k+1:Nat):Int):Int) != ((x+1:Nat):Int))with hd10|hd10
   ·have hg11:=bne_iff_ne.1 hd10
    rcases dA ((((k+1:Nat):Int):Int) != ((y+1:Nat):Int))with hd12|hd12
    ·have hg13:=bne_iff_ne.1 hd12
     refine dZ [1,3,5,7,9,11,13,15,17,19,21,23,25,27,29,31,33,35,37,39,41,43,45,47,49,51,53,55,57,59,61,63,65,67,69,71,73,75,77] (by kernel_rfl) h (.c r0 (.c r4 (.c r0 .n))) λw h=>tk (λW H=>fa nN rfl)<|tk (λW H=>ld jE rfl (H.c a0 rfl))<|tk (λW H=>bi rfl rfl rfl)<|tk (λW H=>mv rfl)<|oX rfl rfl hd8<|tk (λW H=>mv rfl)<|oX rfl rfl hd8<|tk (λW H=>bw rfl rfl (gN (c:=((k+1:Nat):Int)) (by omega) (by omega) (by omega)))<|oX rfl rfl hd8<|tk (λW H=>mv rfl)<|oX rfl rfl hd8<|tk (λW H=>bi rfl rfl rfl)<|tk (λW H=>pT rfl hd8 rfl)<|tk (λW H=>mv rfl)<|oX rfl rfl hd10<|tk (λW H=>mv rfl)<|oX rfl rfl hd10<|tk (λW H=>bw rfl rfl (gN (c:=((k+1:Nat):Int)) (by omega) (by omega) (by omega)))<|oX rfl rfl hd10<|tk (λW H=>mv rfl)<|oX rfl rfl hd10<|tk (λW H=>bi rfl rfl rfl)<|tk (λW H=>pT rfl hd10 rfl)<|tk (λW H=>mv rfl)<|oX rfl rfl hd12<|tk (λW H=>fa xL rfl)<|oX rfl rfl hd12<|tk (λW H=>ld jE rfl (H.c a0 rfl))<|oX rfl rfl hd12<|tk (λW H=>fa tO rfl)<|oX rfl rfl hd12<|tk (λW H=>ld fZ rfl (H.c a1 rfl))<|oX rfl rfl hd12<|tk (λW H=>mv rfl)<|oX rfl rfl hd12<|tk (λW H=>bw rfl rfl (zW (c:=(x:Int)) (by omega) (by omega) (by omega)))<|oX rfl rfl hd12<|tk (λW H=>ix (j:=x) tE qH rfl rfl hxl)<|oX rfl rfl hd12<|tk (λW H=>fa xL rfl)<|oX rfl rfl hd12<|tk (λW H=>ld jE rfl ((H.ro a2).x fN (by decide) hxl ({},{}) 1 _ rfl))<|oX rfl rfl hd12<|tk (λW H=>bi rfl rfl rfl)<|oX rfl rfl hd12<|tk (λW H=>mv rfl)<|oX rfl rfl (sM hS hys (by omega) hd8 hd10 hd12).1<|tk (λW H=>fa xL rfl)<|oX rfl rfl (sM hS hys (by omega) hd8 hd10 hd12).1<|tk (λW H=>ld jE rfl (H.c a0 rfl))<|oX rfl rfl (sM hS hys (by omega) hd8 hd10 hd12).1<|tk (λW H=>fa tO rfl)<|oX rfl rfl (sM hS hys (by omega) hd8 hd10 hd12).1<|tk (λW H=>ld fZ rfl (H.c a1 rfl))<|oX rfl rfl (sM hS hys (by omega) hd8 hd10 hd12).1<|tk (λW H=>mv rfl)<|oX rfl rfl (sM hS hys (by omega) hd8 hd10 hd12).1<|tk (λW H=>bw rfl rfl (zW (c:=(y:Int)) (by omega) (by omega) (by omega)))<|oX rfl rfl (sM hS hys (by omega) hd8 hd10 hd12).1<|tk (λW H=>ix (j:=y) tE qH rfl rfl hyl2)<|oX rfl rfl (sM hS hys (by omega) hd8 hd10 hd12).1<|tk (λW H=>fa xL rfl)<|oX rfl rfl (sM hS hys (by omega) hd8 hd10 hd12).1<|tk (λW H=>ld jE rfl ((H.ro a2).x fN (by decide) hyl2 ({},{}) 1 _ rfl))<|oX rfl rfl (sM hS hys (by omega) hd8 hd10 hd12).1<|tk (λW H=>bi rfl rfl rfl)<|oX rfl rfl hd12<|tk (λW H=>pF rfl (sM hS hys (by omega) hd8 hd10 hd12).1 rfl)<|tk (λW H=>pT rfl hd12 rfl)<|xz<|nx<|cf rfl (sM hS hys (by omega) hd8 hd10 hd12).2<|sk<|bn<|nx<|rg<|st (bw rfl rfl (gN (c:=((k+1:Nat):Int)) (by omega) (by omega) (by omega)))<|st (mv rfl)<|xe<|nx<|?_
     exact⟨((k+1)),⟨rfl,rfl,rfl,rfl,rfl,rfl,trivial⟩,⟨h.drop,(by omega)⟩,by(try dsimp only);omega⟩
    ·have hg14:=eS hd12
     refine dZ [1,3,5,7,9,11,13,15,17,19,21,23,25,27,29,31,33,35,37,39,41,43,45,47,49,51,53,55,57,59,61,63,65,67,69,71,73,75,77] (by kernel_rfl) h (.c r0 .n) λw h=>tk (λW H=>fa nN rfl)<|tk (λW H=>ld jE rfl (H.c a0 rfl))<|tk (λW H=>bi rfl rfl rfl)<|tk (λW H=>mv rfl)<|oX rfl rfl hd8<|tk (λW H=>mv rfl)<|oX rfl rfl hd8<|tk (λW H=>bw rfl rfl (gN (c:=((k+1:Nat):Int)) (by omega) (by omega) (by omega)))<|oX rfl rfl hd8<|tk (λW H=>mv rfl)<|oX rfl rfl hd8<|tk (λW H=>bi rfl rfl rfl)<|tk (λW H=>pT rfl hd8 rfl)<|tk (λW H=>mv rfl)<|oX rfl rfl hd10<|tk (λW H=>mv rfl)<|oX rfl rfl hd10<|tk (λW H=>bw rfl rfl (gN (c:=((k+1:Nat):Int)) (by omega) (by omega) (by omega)))<|oX rfl rfl hd10<|tk (λW H=>mv rfl)<|oX rfl rfl hd10<|tk (λW H=>bi rfl rfl rfl)<|tk (λW H=>pT rfl hd10 rfl)<|tk (λW H=>mv rfl)<|Ez rfl rfl hd12<|Ez rfl rfl hd12<|Ez rfl rfl hd12<|Ez rfl rfl hd12<|Ez rfl rfl hd12<|Ez rfl rfl hd12<|Ez rfl rfl hd12<|Ez rfl rfl hd12<|Ez rfl rfl hd12<|Ez rfl rfl hd12<|Ez rfl rfl hd12<|J4 rfl rfl<|J4 rfl rfl<|J4 rfl rfl<|J4 rfl rfl<|J4 rfl rfl<|J4 rfl rfl<|J4 rfl rfl<|J4 rfl rfl<|J4 rfl rfl<|J4 rfl rfl<|Ez rfl rfl hd12<|tk (λW H=>pF rfl hd12 rfl)<|xz<|nx<|cF rfl<|sk<|bn<|nx<|rg<|st (bw rfl rfl (gN (c:=((k+1:Nat):Int)) (by omega) (by omega) (by omega)))<|st (mv rfl)<|xe<|nx<|?_
     exact⟨((k+1)),⟨rfl,rfl,rfl,rfl,rfl,rfl,trivial⟩,⟨h.drop,(by omega)⟩,by(try dsimp only);omega⟩
   ·have hg15:=eS hd10
    refine dZ [1,3,5,7,9,11,13,15,17,19,21,23,25,27,29,31,33,35,37,39,41,43,45,47,49,51,53,55,57,59,61,63,65,67,69,71,73,75,77] (by kernel_rfl) h (.c r0 .n) λw h=>tk (λW H=>fa nN rfl)<|tk (λW H=>ld jE rfl (H.c a0 rfl))<|tk (λW H=>bi rfl rfl rfl)<|tk (λW H=>mv rfl)<|oX rfl rfl hd8<|tk (λW H=>mv rfl)<|oX rfl rfl hd8<|tk (λW H=>bw rfl rfl (gN (c:=((k+1:Nat):Int)) (by omega) (by omega) (by omega)))<|oX rfl rfl hd8<|tk (λW H=>mv rfl)<|oX rfl rfl hd8<|tk (λW H=>bi rfl rfl rfl)<|tk (λW H=>pT rfl hd8 rfl)<|tk (λW H=>mv rfl)<|Ez rfl rfl hd10<|Ez rfl rfl hd10<|Ez rfl rfl hd10<|Ez rfl rfl hd10<|tk (λW H=>pF rfl hd10 rfl)<|tk (λW H=>mv rfl)<|Ez rfl rfl rfl<|Ez rfl rfl rfl<|Ez rfl rfl rfl<|Ez rfl rfl rfl<|Ez rfl rfl rfl<|Ez rfl rfl rfl<|Ez rfl rfl rfl<|Ez rfl rfl rfl<|Ez rfl rfl rfl<|Ez rfl rfl rfl<|Ez rfl rfl rfl<|J4 rfl rfl<|J4 rfl rfl<|J4 rfl rfl<|J4 rfl rfl<|J4 rfl rfl<|J4 rfl rfl<|J4 rfl rfl<|J4 rfl rfl<|J4 rfl rfl<|J4 rfl rfl<|Ez rfl rfl rfl<|tk (λW H=>pF rfl rfl rfl)<|xz<|nx<|cF rfl<|sk<|bn<|nx<|rg<|st (bw rfl rfl (gN (c:=((k+1:Nat):Int)) (by omega) (by omega) (by omega)))<|st (mv rfl)<|xe<|nx<|?_
    exact⟨((k+1)),⟨rfl,rfl,rfl,rfl,rfl,rfl,trivial⟩,⟨h.drop,(by omega)⟩,by(try dsimp only);omega⟩
  ·have hg16:=dP hd8
   refine dZ [1,3,5,7,9,11,13,15,17,19,21,23,25,27,29,31,33,35,37,39,41,43,45,47,49,51,53,55,57,59,61,63,65,67,69,71,73,75,77] (by kernel_rfl) h (.c r0 .n) λw h=>tk (λW H=>fa nN rfl)<|tk (λW H=>ld jE rfl (H.c a0 rfl))<|tk (λW H=>bi rfl rfl rfl)<|tk (λW H=>mv rfl)<|Ez rfl rfl hd8<|Ez rfl rfl hd8<|Ez rfl rfl hd8<|Ez rfl rfl hd8<|tk (λW H=>pF rfl hd8 rfl)<|tk (λW H=>mv rfl)<|Ez rfl rfl rfl<|Ez rfl rfl rfl<|Ez rfl rfl rfl<|Ez rfl rfl rfl<|tk (λW H=>pF rfl rfl rfl)<|tk (λW H=>mv rfl)<|Ez rfl rfl rfl<|Ez rfl rfl rfl<|Ez rfl rfl rfl<|Ez rfl rfl rfl<|Ez rfl rfl rfl<|Ez rfl rfl rfl<|Ez rfl rfl rfl<|Ez rfl rfl rfl<|Ez rfl rfl rfl<|Ez rfl rfl rfl<|Ez rfl rfl rfl<|J4 rfl rfl<|J4 rfl rfl<|J4 rfl rfl<|J4 rfl rfl<|J4 rfl rfl<|J4 rfl rfl<|J4 rfl rfl<|J4 rfl rfl<|J4 rfl rfl<|J4 rfl rfl<|Ez rfl rfl rfl<|tk (λW H=>pF rfl rfl rfl)<|xz<|nx<|cF rfl<|sk<|bn<|nx<|rg<|st (bw rfl rfl (gN (c:=((k+1:Nat):Int)) (by omega) (by omega) (by omega)))<|st (mv rfl)<|xe<|nx<|?_
   exact⟨((k+1)),⟨rfl,rfl,rfl,rfl,rfl,rfl,trivial⟩,⟨h.drop,(by omega)⟩,by(try dsimp only);omega⟩
 ·have hg17:=cW hd4
  refine cf rfl hd4<|xt<|tx<|tx<|be<|nx<|sq<|?_
  obtain⟨b18,rfl⟩:=h.fp a0 (by omega)
  refine dZ [0,3,5,7,9,11,13,15,17,19,21,23,25,27,29,31,33,35,36] (by kernel_rfl) h (.c r4 (.c r0 .n)) λw h=>cs (ca eF rfl) ((QI (h.fr .n)).mono ?_)
  rintro _ w ⟨rfl,h⟩
  refine⟨_,rfl,h.hs (.c r4 (.c r0 .n)),?_⟩
  refine tk (λW H=>mv rfl)<|oX rfl rfl rfl<|tk (λW H=>fa tO rfl)<|oX rfl rfl rfl<|tk (λW H=>ld fZ rfl (H.c a0 rfl))<|oX rfl rfl rfl<|tk (λW H=>mv rfl)<|oX rfl rfl rfl<|tk (λW H=>bw rfl rfl (zW (c:=(x:Int)) (by omega) (by omega) (by omega)))<|oX rfl rfl rfl<|tk (λW H=>ix (j:=x) tE qH rfl rfl hxl)<|oX rfl rfl rfl<|tk (λW H=>fa xL rfl)<|oX rfl rfl rfl<|tk (λW H=>ld jE rfl ((H.ro a1).x fN (by decide) hxl ({},{}) 1 _ rfl))<|oX rfl rfl rfl<|tk (λW H=>fa tO rfl)<|oX rfl rfl rfl<|tk (λW H=>ld fZ rfl (H.c a0 rfl))<|oX rfl rfl rfl<|tk (λW H=>mv rfl)<|oX rfl rfl rfl<|tk (λW H=>bw rfl rfl (zW (c:=(y:Int)) (by omega) (by omega) (by omega)))<|oX rfl rfl rfl<|tk (λW H=>ix (j:=y) tE qH rfl rfl hyl2)<|oX rfl rfl rfl<|tk (λW H=>fa xL rfl)<|oX rfl rfl rfl<|tk (λW H=>ld jE rfl ((H.ro a1).x fN (by decide) hyl2 ({},{}) 1 _ rfl))<|oX rfl rfl rfl<|tk (λW H=>bi rfl rfl rfl)<|tk (λW H=>pT rfl rfl rfl)<|ef (sg rfl) (h.hs (.c r4 (.c r0 .n)))<|xz<|nx<|rt<|?_
  refine rr (jP results3 rfl)<|?_
  exact⟨by rw[aA1 hS hys],h.drop.drop.drop.drop.drop.drop.drop.drop.drop.drop.drop⟩
end Go.Q9
end
