/- Parts of a proof: Ayl, Wa, Lu, Fw, Cr, Ayn, Ys, Vq, Fx, Azo. -/
import Derived.Test.YthhcpkikpammmaaGreatW45
import Derived.Test.YthhcpkikpammmaaGreatW28
import Derived.Deep.RegionHeld3
set_option linter.unusedVariables false
set_option linter.unusedSimpArgs false
set_option maxRecDepth 100000
set_option maxHeartbeats 4000000
section
namespace Go.Q9
open Go.Proofs.Tryz
open Go.E
theorem V0:fv prog 43 1=some (1,1,false):=by kernel_rfl
theorem Fp:prog.underlying 25=some (.pointer 107):=by kernel_rfl
end Go.Q9
end
section
namespace Go.Q9
open Go.Proofs.Tryz
open Go.RowKit Go.E
attribute [local irreducible] gB wpS Go.E.X XS C jU kP fin Y U F Ca jT bl rb aU bV ex ce pu sK gK bK zK gM fO dH gP nE rD
variable{B w:World}{L:List As}
theorem OV(S:dN)(hM:∀w,Rl S.t S.x S.ab w)(n tb k z Cx:Nat)(p:Nat->Ct.St×Ct.I Ct.Result)(h:SH B w (kU S n tb (p 0).2 k::S.a (p 0).1::L))(hstep:∀i,p (i+1)=(p i).2.step (p i).1)(hrun:∀i,i<z->(p i).2.ended.isSome=false)(hend:(p z).2.ended.isSome=true)(hzm:z<=Cx)(hzn:z<=n)(hrm:∀i,i<z->Ct.Rm 101 (p i).1)(hk:k+z<=1000000000000)(hm:Cx<=1000000000000):
  Calls prog 12 #[↑tb,↑(Cx:Int)] w λe w'=>e=.returned ↑(z:Int)/\SH B w' (kU S (n-z) tb (p z).2 (k+z)::S.a (p z).1::L):=by
 refine bZ func12 ntmps12 h λw h=>?_
 refine lp (α:=Nat) (λρ=>(.c 0 ↑tb (.c 1 ↑(Cx:Int) (.c 5 (.int .i64 (ρ:Int)) .n)))) (λρ w=>SH B w (kU S (n-ρ) tb (p ρ).2 (k+ρ)::S.a (p ρ).1::L)/\(ρ<=z)) (λρ=>z-ρ) 0 ⟨rfl,rfl,rfl,trivial⟩ ⟨h,Hg _⟩ ?_
 rintro i w ⟨h,hi⟩
 have h:=h.fr (.c r0 .n)
 obtain⟨c,h⟩:=SH.to h
 have hc:=uD (h.fr (.c r1 .n))
 refine go h λw h=>?_
 refine qg h (λhd1 w h=>?_) λhd1 w h=>?_
 ·refine bA (Aa S _ c _ _ h.to) λw h=>?_
  refine qg h (λhd3 w h=>?_) λhd3 w h=>?_
  ·have hd4:=(pJ _).mp hd3
   have h:=SH.ti (h.fr (.c r0 (.c r0 .n)))
   have hiz:i<z:=by
    rcases mI i z with hz|hz
    ·exact hz
    ·obtain rfl:i=z:=by omega
     have h1:=hc.1.symm.trans hd4
     rw[hend]at h1;cases h1
   rw[show n-i=n-(i+1)+1 by omega]at h
   refine bA (Om S hM _ _ _ (p i).2 _ h.to (hrm i hiz) (by have:=hrun i hiz;simpa using this) (by omega)) λw h=>?_
   rw[<- hstep i]at h
   exact⟨((i+1)),⟨rfl,rfl,rfl,trivial⟩,⟨h,hiz⟩,by(try dsimp only);omega⟩
  ·have hd6:=(Co _).mp hd3
   have h:=SH.ti (h.fr (.c r0 (.c r0 .n)))
   refine rz ?_
   have hiz:i=z:=by
    rcases mI i z with hz|hz
    ·have h1:=hc.1.symm.trans hd6
     rw[hrun i hz]at h1;cases h1
    ·omega
   subst hiz
   exact⟨rfl,h⟩
 ·have hg8:=mD hd1
  refine go h λw h=>?_
  have h:=SH.ti (h.fr (.c r0 (.c r0 .n)))
  refine go h λw h=>?_
  refine rz ?_
  have hiz:i=z:=by
   rcases mI i z with hz|hz
   ·omega
   ·omega
  subst hiz
  exact⟨rfl,h⟩
theorem HZ(mb:Nat)(h:SH B w (cR mb {}::L)):Calls prog 26 #[↑mb] w λe w'=>e=.returned (.agg (cU Ct.QD).toArray)/\SH B w' (cR mb (Ct.eX {}).1::L):=Jf mb {} h (by decide)
theorem OS(ab:Nat)(h:SH B w (wW ab Ct.WY::L)):Calls prog 11 #[(cV ab).v,.agg (cU Ct.QD).toArray] w λe w'=>∃tb,e=.returned (.pointer (some ⟨tb,0,none⟩))/\SH B w' (kU (cV ab) 1000 tb (Ct.xL 0).2 0::(cV ab).a (Ct.xL 0).1::L):=by
 refine(Ep (cV ab) 1000 Ct.QD Ct.WY (LX h) Ct.XR).mono ?_
 rintro e w' ⟨tb,s',u,hq,rfl,h⟩
 have e0:Ct.xL 0=(s',u):=hq
 rw[e0]
 exact⟨tb,rfl,h⟩
theorem WD(ab tb:Nat)(h:SH B w (kU (cV ab) 1000 tb (Ct.xL 0).2 0::(cV ab).a (Ct.xL 0).1::L)):Calls prog 12 #[↑tb,.int .i64 20] w λe w'=>e=.returned (.int .i64 9)/\SH B w' (kU (cV ab) 991 tb (Ct.xL 9).2 9::wW ab (Ct.xL 9).1::L):=by
 refine(OV (cV ab) (AB ab) 1000 tb 0 9 20 Ct.xL h (λi=>rfl) Ct.TU Ct.TF (by decide) (by decide) (λi hi=>Ct.YT i (by omega)) (by decide) (by decide)).mono ?_
 rintro e w' ⟨rfl,h⟩
 exact⟨rfl,(VB (h.fr (.c r1 .n))).fr (.c r1 .n)⟩
theorem PD(zs:List (Ct.Node×Lq))(pn pc:Option Addr)(cn cc:Nat)(h:SH B w (aU 68 14 (.slice pn zs.length cn) zs.length (zs.flatMap cB)::aU 36 1 (.slice pc (Ct.xL 9).1.cells.length cc) (Ct.xL 9).1.cells.length ((Ct.xL 9).1.cells.map (Value.int .i64))::bE zs::L))(hzs:zs.map Prod.fst=aW (Ct.xL 9).1):
  Calls prog 43 #[.agg [.slice pn zs.length cn,.slice pc (Ct.xL 9).1.cells.length cc,.int .i64 (((Ct.xL 9).1.gen:Nat):Int)].toArray,.agg (cU Ct.QD).toArray] w λe w'=>∃pp cp,e=.returned (.tuple #[.slice pp 0 cp,.int .i64 0])/\SH B w' L:=by
 have hz:(Ct.xL 9).1.size<=100000000000:=by have:=Ct.Ji 9 (by decide);omega
 have hc:=Lb (Ct.xL 9).1 zs pn pc cn cc Ct.QD 8 7 h hzs hz Ct.CZ (lS (Ct.Py 9 (by decide)) hz) Ct.NI Ct.AR (by rw[Ct.If];decide)
 refine hc.mono ?_
 rintro e w' ⟨pp,cp,rfl,h⟩
 rw[Ct.KU]
 exact⟨pp,cp,rfl,h.drop⟩
theorem A5(h:SH B w (L)):
  Calls prog 14 #[] w λe w'=>e=.returned ↑true/\SH B w' L:=by
 obtain⟨g,hW⟩:=Ct.d5
 have hcok:Ct.kZ g Ct.WQ:=hW.Gz (c:=Ct.WQ) (by decide) (by decide) (List.mem_singleton.2 rfl) (λ_=>rfl)
 have hst:=Ct.gW (c:=Ct.WQ) hW.fit (by decide)
 refine bZ func14 ntmps14 h λw h=>?_
 refine cG (EG h.to) λmb w h=>?_
 refine bA (HZ _ h.to) λw h=>?_
 refine jA h λb1 w h=>?_
 refine aB2 (rW _ _ Ct.WQ _ h.to hst.1 hst.2 (by decide) (by decide) Ct.GR (by decide) (by decide)) λxb w h k=>?_
 have hl:=Ct.uM.start hW.gw hW.PI hW.fit hcok (by decide) Ct.GR k
 refine lp (α:=Nat) (λρ=>(.c 1 ↑mb (.c 2 ↑b1 (.c 3 ↑xb .n)))) (λρ w=>SH B w (XA xb mb (Ct.XO ρ)::bl b1 (cU Ct.QD) 35::L)/\(ρ<=8)/\(Ct.uM g (Ct.eX {}).1.size ρ (Ct.XO ρ))) (λρ=>8-ρ) 0 ⟨rfl,rfl,rfl,trivial⟩ ⟨h,(Hg _),hl⟩ ?_
 rintro i w ⟨h,hi,hl⟩
 refine go h λw h=>?_
 refine bA (vH _ _ _ h.to) λw h=>?_
 refine qc h (λhd2 w h=>?_) λhd2 w h=>?_
 ·have hd3:=(pJ _).mp hd2
  refine go h λw h=>?_
  have hi8:i+1<=8:=by
   rcases mI i 8 with hz|hz
   ·exact hz
   ·obtain rfl:i=8:=by omega
    have h1:=hd3
    rw[Ct.TZ]at h1;cases h1
  have h1:(Ct.eX {}).1.size<=1000:=by decide
  have hrd:(Ct.eX {}).1.size+199*i+120<=Ct.room:=by unfold Ct.room;omega
  refine go h λw h=>?_
  refine SS (Pq _ _ _ _ h.to hd3 (hl.ready hrd).1 (hl.ready hrd).2 (by decide) hl.call.1 hl.call.2.1 hl.call.2.2.1 hl.call.2.2.2) λw h k=>?_
  exact⟨((i+1)),⟨rfl,rfl,rfl,trivial⟩,⟨h,hi8,(hl.step hd3 (by unfold Ct.Cx;omega) k)⟩,by(try dsimp only);omega⟩
 ·have hd4:=(Co _).mp hd2
  refine go h λw h=>?_
  have hi8:i=8:=by
   rcases mI i 8 with hz|hz
   ·have h1:=hd4
    rw[Ct.RG i hz]at h1;cases h1
   ·omega
  subst hi8
  have h:=SH.IB (h.fr (.c r0 .n))
  have h:SH B w (cR mb Ct.AQ::bl b1 (cU Ct.QD) 35::L):=h
  obtain⟨⟨pn,cn,pc,cc,zs⟩,hz0,h⟩:=h.mo
  have h:SH B w (bl mb ([.slice pn zs.length cn,.slice pc Ct.AQ.cells.length cc,↑(Ct.AQ.gen:Int),↑(Ct.AQ.acc:Int)]) 55::aU 68 14 (.slice pn zs.length cn) zs.length (zs.flatMap cB)::aU 36 1 (.slice pc Ct.AQ.cells.length cc) Ct.AQ.cells.length (Ct.AQ.cells.map (Value.int .i64))::bE zs::bl b1 (cU Ct.QD) 35::L):=h
  have hzs:zs.map Prod.fst=aW Ct.AQ:=hz0
  clear hz0
  have hsz:Ct.AQ.size<=100000000000:=by have:=Ct.QB;omega
  refine go h λw h=>?_
  refine st (gJ (cs:=[.slice pn zs.length cn,.slice pc Ct.AQ.cells.length cc,↑(Ct.AQ.gen:Int)]) rfl (lG (h.b a0) 0 rfl) Row.h)<|go h λw h=>?_
  refine cG (OT _ _ _ _ _ _ h.to hzs Ct.BP (lS Ct.TW hsz) hsz) λab w h=>?_
  refine st (i4 Fp rfl rfl)<|go h λw h=>?_
  refine st (mi Fp rfl rfl)<|go h λw h=>?_
  refine cG (OS _ h.to) λtb w h=>?_
  refine st (i4 NL rfl rfl)<|go h λw h=>?_
  refine bA (WD _ _ h.to) λw h=>?_
  refine bA (Ew (cV ab) _ _ _ (Ct.xL 9).2 h.to) λw h=>?_
  refine cf rfl (sZ Ct.IJ)<|go h λw h=>?_
  refine dZ [1,5,2,6,9,11,13,14,16] (by kernel_rfl) h (.c r6 .n) λw h=>go h λw h=>?_
  refine cs (ca eF rfl) ((Oi ab (Ct.xL 9).1 (h.fr (.c r1 .n)) (by have:=Ct.Ji 9 (by decide);omega) (Ct.Py 9 (by decide))).mono ?_)
  rintro _ w ⟨pnz,cnz,pcz,ccz,ys,hys,rfl,h⟩
  refine⟨_,rfl,h.hs (.c r9 .n),?_⟩
  refine go h λw h=>?_
  refine AN (PD _ _ _ _ _ h.to hys) λppz ZW w h=>?_
  exact rz ⟨rfl,h.drop.drop.drop.drop.drop.drop.drop⟩
end Go.Q9
end
section
namespace Go.Q9
open Go.Proofs.Tryz
open Go.RowKit Go.E
end Go.Q9
end
section
namespace Go.Ct
def fwT:bC:=(eX {}).2
def Wh:Nat->St×I Result
 |0=>(Qg fwT 1001).head (eX {}).1
 |i+1=>(Wh i).2.step (Wh i).1
theorem U5:∀i,i<9->(Wh i).2.ended.isSome=false:=by decide+kernel
theorem W5:(Wh 9).2.ended.isSome=true:=by decide+kernel
theorem zY:((Wh 9).2.ended.getD {}).found=true:=by decide+kernel
theorem Pu:((Wh 9).2.ended.getD {}).aE.readOnly=true:=by decide+kernel
theorem Fj:decide (((Wh 9).2.ended.getD {}).aE.root>3)=true:=by decide+kernel
theorem X9:(((Wh 9).1.node 4).gen==1)=true:=by decide+kernel
set_option maxRecDepth 100000
theorem XP:∀i,i<10->∀n∈(Wh i).1.aG,n.Fit (Wh i).1.aG.length:=by decide+kernel
theorem T2:∀i,i<10->(Wh i).1.size<=1000:=by decide+kernel
theorem R8(i:Nat)(h:i<10):Rm 101 (Wh i).1:=⟨XP i h,by have:=T2 i h;unfold cN;omega⟩
theorem V2:∀n∈(eX {}).1.aG,n.Fit (eX {}).1.aG.length:=by decide+kernel
theorem I':Rm 60 (eX {}).1:=⟨V2,by decide⟩
theorem z':Rm 60 {}:=⟨(λn h=>by cases h),by decide⟩
end Go.Ct
end
section
namespace Go.Q9
open Go.Proofs.Tryz
open Go.RowKit Go.E
variable{B w w':World}{L:List As}
theorem VO{P:Program}{c:Code}{Q:Exit->Act->World->Prop}{a:Act}{w W:World}(h:w=W)(hc:c.wp P Q a W):c.wp P Q a w:=h▸hc
theorem i7:(prog.info? 35).map (·.size)=some 2:=by kernel_rfl
theorem BR(p:Addr)(w:World):
  CallsD prog 142 #[.pointer (some p)] .returning w λe u' w'=>e=.returned (.tuple #[])/\u'=.returning/\w'=w:=by
 refine callsD_of_wpS func142 rfl λc₀ cs hu=>?_
 apply wpS_seq
 apply wpS_region
 simp[wpOpsS,go_sem,recoverD,hu,ntmps142,Exit.thenS]
 refine wpS_cond (t:=false) (by simp[Act.eval,Array.replicate]) ?_
 refine wpS_of_wp (wp_skip ?_)
 cases c₀
 simp_all [bodyPostS,results,results142]
theorem aA1{b:Nat}{x y x' y':Value}{t:TypeId}{L':List As}(h:SH B w L)(u:sJ L L' (bl b [x,y] t) (bl b [x',y'] t)):SH B ((w.setCell ⟨b,0,none⟩ x').setCell ⟨b,1,none⟩ y') L':=
 h.step u λO R hA=>⟨O,R,⟨by
  have h1:=heap_setCell_same w b 0 _ t x' hA.1
  have h2:=heap_setCell_same (w.setCell ⟨b,0,none⟩ x') b 1 _ t y' h1
  rw[h2];rfl,hA.2⟩,⟨⟨rfl,rfl,rfl⟩,by simp[World.setCell],λk hk hn=>by
   rw[heap_setCell_other _ _ _ _ (λe=>hn ((hA.2.1 k).2 e)),heap_setCell_other _ _ _ _ (λe=>hn ((hA.2.1 k).2 e))]⟩,λk hk=>.inl hk,λk hk=>.inr (.inl hk)⟩
theorem X0{fn:Func}{p:Tmp}{tmps:Array Value}{b:Nat}{t:Ct.bC}{a:As}(hr:fn.results=#[.cell p 35])(hp:tmps.getD p undef=.pointer (some ⟨b,0,none⟩))(h:SH B w (bl b (cU t) 35::a::L)):
  ∃v,(results fn tmps).run prog w=.ok v w/\(Ending.returned v=.returned (.agg (cU t).toArray)/\SH B w (a::L)):=by
 exact⟨.agg (cU t).toArray,results_cell_row hr _ _ b 35 _ (0,0) _ hp (h.b a0) underlying35 rfl i7,rfl,h.drop⟩
theorem i6(S:dN)[Full S](hM:∀w,Rl S.t S.x S.ab w)(s:Ct.St)(h:SH B w (S.a s::L))(hs:Ct.Rm 60 s):
  Calls prog 91 #[S.v] w λe w'=>e=.returned (.agg (cU (Ct.eX s).2).toArray)/\SH B w' (S.a (Ct.eX s).1::L):=by
 have hmA:∀w,(method 392 S.t S.x "Alloc").run prog w=.ok (331,QQ S.ab) w:=fun w=>(hM w).alloc
 have hmC:∀w,(method 392 S.t S.x "NewCell").run prog w=.ok (334,QQ S.ab) w:=fun w=>(hM w).cell
 have hnA:=naF S
 have h1:SH B (w.alloc (.cells [.int .i64 0,↑false].toArray 35)) (bl w.heap.size [.int .i64 0,↑false] 35::S.a s::L):=h.alloc
 obtain⟨W0,hW0⟩:∃W,w.alloc (.cells [.int .i64 0,↑false].toArray 35)=W:=⟨_,rfl⟩
 rw[hW0]at h1
 have HW:=Lib.hid hW0
 have hmf:∀(fn:Fn) (first cap:Array Value) (w:World),(Instr.makeFunc fn first cap).run prog w=.ok (.func fn first cap) w:=λ_ _ _ _=>rfl
 have R1:=Lib.hid h1.drew
 have HS:=Lib.hid hs
 clear h h1 hW0 hM hs
 unfold dN.v
 go_enter_defers func91,ntmps91
 go_wp2_with fail
 refine VO HW.out ?_
 refine wp_region_noPanic ?_
 go_region_with (first
  |(go_at_call 75;refine(Jg R1.out).mono ?_;rintro e w2 ⟨rfl,h2⟩;have R2:=Lib.hid h2;clear h2)
  |(go_at_call 331;refine(cQ S s {kind:=3} {} 0 (SH.eE _ rfl rfl (R2.out.fr (.c r1 .n))) HS.out (Ct.fY _)).mono ?_;rintro e w3 ⟨rfl,h3⟩;have R3:=Lib.hid h3;clear h3))
 all_goals
  refine NoPanic.normal ?_
  go_wp2_with fail
  refine(Ib S (s.alloc {kind:=3} 0).1 (s.alloc {kind:=3} 0).2 R3.out ((HS.out.alloc (Ct.fY _) 0).less (by decide))).mono ?_
  rintro e w4 ⟨rfl,h4⟩
  have H4:=Lib.hid ((HS.out.alloc (Ct.fY _) 0).gen.alloc (Ct.bG _ 2 (s.alloc {kind:=3} 0).1.bS.2 0 0 0) (s.alloc {kind:=3} 0).2)
  have R4:=Lib.hid h4
  clear h4
  go_wp2_with fail
  refine(Am (j:=57) S _ _ R4.out H4.out).mono ?_
  rintro e w5 ⟨rfl,h5⟩
  have H5:=Lib.hid h5
  clear h5
  have he:∃r,r=((((s.alloc {kind:=3} 0).1.bS.1.alloc {kind:=2,gen:=(s.alloc {kind:=3} 0).1.bS.2} (s.alloc {kind:=3} 0).2).1.aV ((s.alloc {kind:=3} 0).1.bS.1.alloc {kind:=2,gen:=(s.alloc {kind:=3} 0).1.bS.2} (s.alloc {kind:=3} 0).2).2).2):=⟨_,rfl⟩
  obtain⟨r,hr⟩:=he
  rw[<- hr]
  have HR:=Lib.hid hr
  clear hr
  have hb:=H5.out.b a1
  have d0:=cell_of_row w5 w.heap.size 0 _ _ _ hb
  have d1:=cell_of_row w5 w.heap.size 1 _ _ _ hb
  have f0:w5.frozen? ⟨w.heap.size,0,none⟩=false:=by simp[World.frozen?,hb]
  have f1:w5.frozen? ⟨w.heap.size,1,none⟩=false:=by simp[World.frozen?,hb]
  simp only[List.getElem?_toArray,xD,Fk]at d0 d1
  clear hb
  go_wp2_with fail
  refine leaves_cons (f:=142) (args:=#[↑w.heap.size]) (by simp) (by simp[go_sem]) ?_
  refine(BR ⟨w.heap.size,0,none⟩ _).mono ?_
  rintro e u' w'' ⟨rfl,rfl,rfl⟩
  have h6:=(aA1 (x':=.int .i64 r) (y':=.bool false) H5.out u1).fr (.c r1 .n)
  rw[HR.out]at h6 ⊢
  exact X0 (b:=w.heap.size) (t:=(Ct.eX s).2) results91 rfl h6
end Go.Q9
end
section
namespace Go.Q9
open Go.Proofs.Tryz
open Go.E
theorem eq_35:WW prog 35=some [.i .i64,.b]:=by kernel_rfl
theorem X4:fv prog 35 0=some (0,1,false):=by kernel_rfl
theorem X8:fv prog 35 1=some (1,1,false):=by kernel_rfl
theorem XF:fv prog 43 6=some (6,2,true):=by kernel_rfl
end Go.Q9
end
section
namespace Go.Q9
open Go.Proofs.Tryz
open Go.RowKit Go.E
attribute [local irreducible] gB wpS Go.E.X XS C jU kP fin Y U F Ca jT bl rb aU bV ex ce pu sK gK bK zK gM fO dH gP nE rD
variable{B w:World}{L:List As}
theorem KN(ab:Nat)(s:Ct.St)(h:SH B w ((cV ab).a s::L))(hs:Ct.Rm 60 s):
  Calls prog 57 #[(cV ab).v] w λe w'=>e=.returned (.agg (cU (Ct.eX s).2).toArray)/\SH B w' ((cV ab).a (Ct.eX s).1::L):=by
 refine bZ func57 ntmps57 h λw h=>?_
 refine jA h λb1 w h=>?_
 refine cl (ca eF rfl) ((i6 (cV ab) (AB ab) s (h.fr (.c r1 .n)) hs).mono ?_)
 rintro _ w ⟨rfl,h⟩
 refine⟨_,rfl,?_⟩
 refine sf (so h rfl rfl rfl Hp rfl (.r (.r .d)) u1)<|?_
 rintro _ w h
 refine xe<|nx<|rt<|?_
 refine go h λw h=>?_
 exact rr (bP rfl rfl (h.b a1) Row.h)<|⟨rfl,h.to⟩
theorem n7(ab:Nat)(s:Ct.St)(h:SH B w (wW ab s::L))(hs:Ct.Rm 60 s):Calls prog 57 #[(cV ab).v] w λe w'=>e=.returned (.agg (cU (Ct.eX s).2).toArray)/\SH B w' (wW ab (Ct.eX s).1::L):=by
 refine(KN ab s (LX h) hs).mono ?_
 rintro e w' ⟨rfl,h⟩
 exact⟨rfl,VB h⟩
theorem G8(ab:Nat)(c:Ct.Call)(s:Ct.St)(h:SH B w (wW ab s::L))(hk:c.kind=11)(hs:Ct.Rm 60 s):Calls prog 58 #[(cV ab).v,.agg (cU c.aE).toArray] w λe w'=>∃tb,e=.returned (.pointer (some ⟨tb,0,none⟩))/\SH B w' (kU (cV ab) 99999999 tb ((Ct.mS c Ct.FU).head s).2 0::(cV ab).a ((Ct.mS c Ct.FU).head s).1::L):=by
 refine(Mk (cV ab) 99999999 c.aE s (LX h) hs).mono ?_
 rintro e w' ⟨tb,s',u,hq,rfl,h⟩
 have e0:(Ct.mS c Ct.FU).head s=(s',u):=by
  unfold Ct.mS
  rw[hk,if_neg (by decide),if_neg (by decide),if_neg (by decide),if_neg (by decide),if_pos (by decide)]
  exact hq
 rw[e0]
 exact⟨tb,rfl,h⟩
theorem W9(ab:Nat)(c:Ct.Call)(s:Ct.St)(h:SH B w (wW ab s::L))(hk:c.kind=10)(hs:Ct.Rm 60 s):Calls prog 17 #[(cV ab).v,.agg (cU c.aE).toArray] w λe w'=>∃tb,e=.returned (.pointer (some ⟨tb,0,none⟩))/\SH B w' (kU (cV ab) 99999999 tb ((Ct.mS c Ct.FU).head s).2 0::(cV ab).a ((Ct.mS c Ct.FU).head s).1::L):=by
 refine(BC (cV ab) 99999999 c.aE s (LX h) hs).mono ?_
 rintro e w' ⟨tb,s',u,hq,rfl,h⟩
 have e0:(Ct.mS c Ct.FU).head s=(s',u):=by
  unfold Ct.mS
  rw[hk,if_neg (by decide),if_neg (by decide),if_neg (by decide),if_pos (by decide)]
  exact hq
 rw[e0]
 exact⟨tb,rfl,h⟩
section
attribute [local semireducible] gB wpS Go.E.X XS C jU kP fin Y U F Ca jT bl rb aU bV ex ce pu sK gK bK zK gM fO dH gP nE rD
attribute [local irreducible] gB wpS
variable{B w:World}{L:List As}
theorem T6(ab:Nat)(c:Ct.Call)(s:Ct.St)(h:SH B w (wW ab s::L))(hk:c.kind=10)(hs:Ct.Rm 60 s):
  Calls prog 23 #[↑ab,.agg [↑c.kind,↑c.aE.root,↑c.aE.readOnly,↑c.a,↑c.b,↑c.n,↑c.index,.int .u64 (c.hash:Int),.int .u64 (c.aI:Int),↑c.key,.int .u64 (c.value:Int),.int .u64 (c.expect:Int),↑c.bF,↑c.only,↑c.walk.started,.slice none 0 0,.slice none 0 0,↑c.answer.err,↑c.answer.found,.int .u64 (c.answer.value:Int),↑c.answer.key,↑c.answer.count,↑c.answer.ref,↑c.answer.aE.root,↑c.answer.aE.readOnly].toArray] w λe w'=>∃tb,e=.returned (.pointer (some ⟨tb,0,none⟩))/\SH B w' (kU (cV ab) 99999999 tb ((Ct.mS c Ct.FU).head s).2 0::(cV ab).a ((Ct.mS c Ct.FU).head s).1::L):=by
 refine Ea (args:=[_,_]) func23 rfl ntmps23 rfl ?_
 refine sq<|rg<|sf (bx h rfl rfl)<|?_
 rintro _ w ⟨b1,rfl,h⟩
 refine st (sg rfl)<|xe<|nx<|sq<|sq<|rg<|st (fa Mz rfl)<|st (ld jE rfl (h.c a0 rfl))<|xe<|nx<|bk<|sq<|rg<|st (bi rfl rfl rfl)<|st (sg rfl)<|xe<|nx<|cf rfl (beq_eq_false_iff_ne.2 (by omega))<|sq<|rg<|st (bi rfl rfl rfl)<|st (sg rfl)<|xe<|nx<|cf rfl (beq_eq_false_iff_ne.2 (by omega))<|sq<|rg<|st (bi rfl rfl rfl)<|st (sg rfl)<|xe<|nx<|ct rfl (beq_iff_eq.2 (by omega))<|sq<|rg<|st (mv rfl)<|st (mi Fp rfl rfl)<|st (fa nR rfl)<|st (gJ (cs:=[↑c.aE.root,↑c.aE.readOnly]) rfl (lG (h.b a0) 1 rfl) oG)<|cl (ca eF rfl) ((W9 ab c s (h.fr (.c r1 .n)) hk hs).mono ?_)
 rintro _ w ⟨tkb,rfl,h⟩
 refine⟨_,rfl,?_⟩
 refine st (sg rfl)<|xe<|nx<|rt<|bt<|tr<|?_
 refine rr (jP results23 rfl)<|⟨tkb,rfl,(h.fr (.c r2 .n)).drop⟩
end
section
attribute [local semireducible] gB wpS Go.E.X XS C jU kP fin Y U F Ca jT bl rb aU bV ex ce pu sK gK bK zK gM fO dH gP nE rD
attribute [local irreducible] gB wpS
variable{B w:World}{L:List As}
theorem R6(ab:Nat)(c:Ct.Call)(s:Ct.St)(h:SH B w (wW ab s::L))(hk:c.kind=11)(hs:Ct.Rm 60 s):
  Calls prog 23 #[↑ab,.agg [↑c.kind,↑c.aE.root,↑c.aE.readOnly,↑c.a,↑c.b,↑c.n,↑c.index,.int .u64 (c.hash:Int),.int .u64 (c.aI:Int),↑c.key,.int .u64 (c.value:Int),.int .u64 (c.expect:Int),↑c.bF,↑c.only,↑c.walk.started,.slice none 0 0,.slice none 0 0,↑c.answer.err,↑c.answer.found,.int .u64 (c.answer.value:Int),↑c.answer.key,↑c.answer.count,↑c.answer.ref,↑c.answer.aE.root,↑c.answer.aE.readOnly].toArray] w λe w'=>∃tb,e=.returned (.pointer (some ⟨tb,0,none⟩))/\SH B w' (kU (cV ab) 99999999 tb ((Ct.mS c Ct.FU).head s).2 0::(cV ab).a ((Ct.mS c Ct.FU).head s).1::L):=by
 refine Ea (args:=[_,_]) func23 rfl ntmps23 rfl ?_
 refine sq<|rg<|sf (bx h rfl rfl)<|?_
 rintro _ w ⟨b1,rfl,h⟩
 refine st (sg rfl)<|xe<|nx<|sq<|sq<|rg<|st (fa Mz rfl)<|st (ld jE rfl (h.c a0 rfl))<|xe<|nx<|bk<|sq<|rg<|st (bi rfl rfl rfl)<|st (sg rfl)<|xe<|nx<|cf rfl (beq_eq_false_iff_ne.2 (by omega))<|sq<|rg<|st (bi rfl rfl rfl)<|st (sg rfl)<|xe<|nx<|cf rfl (beq_eq_false_iff_ne.2 (by omega))<|sq<|rg<|st (bi rfl rfl rfl)<|st (sg rfl)<|xe<|nx<|cf rfl (beq_eq_false_iff_ne.2 (by omega))<|sq<|rg<|st (bi rfl rfl rfl)<|st (sg rfl)<|xe<|nx<|ct rfl (beq_iff_eq.2 (by omega))<|sq<|rg<|st (mv rfl)<|st (mi Fp rfl rfl)<|st (fa nR rfl)<|st (gJ (cs:=[↑c.aE.root,↑c.aE.readOnly]) rfl (lG (h.b a0) 1 rfl) oG)<|cl (ca eF rfl) ((G8 ab c s (h.fr (.c r1 .n)) hk hs).mono ?_)
 rintro _ w ⟨tkb,rfl,h⟩
 refine⟨_,rfl,?_⟩
 refine st (sg rfl)<|xe<|nx<|rt<|bt<|tr<|?_
 refine rr (jP results23 rfl)<|⟨tkb,rfl,(h.fr (.c r2 .n)).drop⟩
end
variable{B w:World}{L:List As}
theorem U3(h:SH B w (L)):
  Calls prog 22 #[↑true] w λe w'=>e=.returned (.int .i64 11)/\SH B w' L:=by
 refine bZ func22 ntmps22 h λw h=>?_
 exact rz ⟨rfl,h⟩
theorem W3(h:SH B w (L)):
  Calls prog 22 #[↑false] w λe w'=>e=.returned (.int .i64 10)/\SH B w' L:=by
 refine bZ func22 ntmps22 h λw h=>?_
 exact rz ⟨rfl,h⟩
theorem R9(h:SH B w (L)):
  Calls prog 56 #[] w λe w'=>∃ab,e=.returned (.pointer (some ⟨ab,0,none⟩))/\SH B w' (wW ab {}::L):=by
 refine bZ func56 ntmps56 h λw h=>?_
 refine jX h λb1 w h=>?_
 refine rz ?_
 have h:=h
 have h:=SH.nil 68 14 (SH.nil 36 1 (SH.LP h))
 exact⟨b1,rfl,SH.ai (b:=b1) (s:={}) ⟨none,0,none,0,[]⟩ rfl h.to⟩
theorem f9(ab:Nat)(h:SH B w (wW ab (Ct.eX {}).1::L)):Calls prog 58 #[(cV ab).v,.agg (cU Ct.fwT).toArray] w λe w'=>∃tb,e=.returned (.pointer (some ⟨tb,0,none⟩))/\SH B w' (kU (cV ab) 1000 tb (Ct.Wh 0).2 0::(cV ab).a (Ct.Wh 0).1::L):=by
 refine(Mk (cV ab) 1000 Ct.fwT (Ct.eX {}).1 (LX h) Ct.I').mono ?_
 rintro e w' ⟨tb,s',u,hq,rfl,h⟩
 have e0:Ct.Wh 0=(s',u):=hq
 rw[e0]
 exact⟨tb,rfl,h⟩
theorem aA2(ab tb:Nat)(h:SH B w (kU (cV ab) 1000 tb (Ct.Wh 0).2 0::(cV ab).a (Ct.Wh 0).1::L)):Calls prog 12 #[↑tb,.int .i64 20] w λe w'=>e=.returned (.int .i64 9)/\SH B w' (kU (cV ab) 991 tb (Ct.Wh 9).2 9::wW ab (Ct.Wh 9).1::L):=by
 refine(OV (cV ab) (AB ab) 1000 tb 0 9 20 Ct.Wh h (λi=>rfl) Ct.U5 Ct.W5 (by decide) (by decide) (λi hi=>Ct.R8 i (by omega)) (by decide) (by decide)).mono ?_
 rintro e w' ⟨rfl,h⟩
 exact⟨rfl,(VB (h.fr (.c r1 .n))).fr (.c r1 .n)⟩
theorem T8(t:Ct.bC):Cn (cU t) (cU t)=true:=by simp[Cn,WN,cU]
theorem HM:Cn (cU Ct.fwT) [.int .i64 3,↑false]=true:=by
 rw[show Ct.fwT={root:=3}from rfl];exact T8 _
section
attribute [local semireducible] gB wpS Go.E.X XS C jU kP fin Y U F Ca jT bl rb aU bV ex ce pu sK gK bK zK gM fO dH gP nE rD
attribute [local irreducible] gB wpS
variable{B w:World}{L:List As}
theorem Yw(h:SH B w (L)):
  Calls prog 21 #[] w λe w'=>e=.returned ↑true/\SH B w' L:=by
 refine Ea (args:=[]) func21 rfl ntmps21 rfl ?_
 refine sq<|rg<|st (sg rfl)<|xe<|nx<|sq<|rg<|cl (ca eF rfl) ((R9 (h.fr .n)).mono ?_)
 rintro _ w ⟨ab,rfl,h⟩
 refine⟨_,rfl,?_⟩
 refine st (sg rfl)<|xe<|nx<|sq<|sq<|rg<|st (mv rfl)<|st (i4 Fp rfl rfl)<|xe<|nx<|cF rfl<|sk<|nx<|sq<|rg<|st (mv rfl)<|st (mi Fp rfl rfl)<|cl (ca eF rfl) ((n7 ab ({}:Ct.St) (h.fr (.c r0 .n)) Ct.z').mono ?_)
 rintro _ w ⟨rfl,h⟩
 refine⟨_,rfl,?_⟩
 refine sf (al h Y7)<|?_
 rintro _ w ⟨b1,rfl,h⟩
 refine sf (so h rfl rfl rfl Hp rfl (.r (.r .d)) u0)<|?_
 rintro _ w h
 refine xe<|nx<|sq<|rg<|st (mv rfl)<|st (mi Fp rfl rfl)<|st (gJ rfl (dK (h.b a0)) oG)<|cl (ca eF rfl) ((f9 ab (h.fr (.c r1 .n))).mono ?_)
 rintro _ w ⟨tb,rfl,h⟩
 refine⟨_,rfl,?_⟩
 refine st (sg rfl)<|xe<|nx<|sq<|rg<|st (gJ rfl (dK (h.b a2)) oG)<|st (bd [.int .i64 3,↑false] Y5 rfl (by kernel_rfl))<|st (n5 eq_35 rfl rfl rfl rfl)<|st (mv rfl)<|gT rfl rfl HM<|st (mv rfl)<|gT rfl rfl HM<|st (bpn NL rfl rfl)<|st (pT rfl HM rfl)<|st (mv rfl)<|gT rfl rfl rfl<|st (mv rfl)<|gT rfl rfl rfl<|cl (ca eF rfl) ((aA2 ab tb (h.fr (.c r0 (.c r0 .n)))).mono ?_)
 rintro _ w ⟨rfl,h⟩
 refine⟨_,rfl,?_⟩
 refine gT rfl rfl rfl<|st (bi rfl rfl rfl)<|st (pT rfl rfl rfl)<|st (mv rfl)<|gT rfl rfl rfl<|st (mv rfl)<|gT rfl rfl rfl<|cl (ca eF rfl) ((Ew (cV ab) 991 tb 9 (Ct.Wh 9).2 (h.fr (.c r0 .n))).mono ?_)
 rintro _ w ⟨rfl,h⟩
 refine⟨_,rfl,?_⟩
 refine gT rfl rfl rfl<|st (fd V0 rfl rfl)<|st (pT rfl rfl rfl)<|st (mv rfl)<|gT rfl rfl Ct.zY<|st (mv rfl)<|gT rfl rfl Ct.zY<|cl (ca eF rfl) ((Ew (cV ab) 991 tb 9 (Ct.Wh 9).2 (h.fr (.c r0 .n))).mono ?_)
 rintro _ w ⟨rfl,h⟩
 refine⟨_,rfl,?_⟩
 refine gT rfl rfl Ct.zY<|st (fda XF rfl)<|gT rfl rfl Ct.zY<|st (fd X8 rfl rfl)<|st (pT rfl Ct.zY rfl)<|st (mv rfl)<|gT rfl rfl Ct.Pu<|st (mv rfl)<|gT rfl rfl Ct.Pu<|cl (ca eF rfl) ((Ew (cV ab) 991 tb 9 (Ct.Wh 9).2 (h.fr (.c r0 .n))).mono ?_)
 rintro _ w ⟨rfl,h⟩
 refine⟨_,rfl,?_⟩
 refine gT rfl rfl Ct.Pu<|st (fda XF rfl)<|gT rfl rfl Ct.Pu<|st (fd X4 rfl rfl)<|gT rfl rfl Ct.Pu<|st (bi rfl rfl rfl)<|st (pT rfl Ct.Pu rfl)<|st (mv rfl)<|gT rfl rfl Ct.Fj<|st (mv rfl)<|gT rfl rfl Ct.Fj<|cl (ca eF rfl) ((Gf ab (Ct.Wh 9).1 4 (h.fr (.c r1 .n)) (Ct.R8 9 (by decide)).zP (Ct.XP 9 (by decide))).mono ?_)
 rintro _ w ⟨qn,rfl,h⟩
 refine⟨_,rfl,?_⟩
 refine gT rfl rfl Ct.Fj<|st (fd W6 rfl rfl)<|gT rfl rfl Ct.Fj<|st (bi rfl rfl rfl)<|st (pT rfl Ct.Fj rfl)<|st (sg rfl)<|xe<|nx<|rt<|?_
 refine rr (jP results21 rfl)<|⟨by rw[Ct.X9],h.drop.drop.drop.drop⟩
end
attribute [local irreducible] Ct.eX
end Go.Q9
end
section
namespace Go.E
open Go.RowKit
variable{B w:World}{L:List As}
theorem SH.Ow{e:TypeId}{sz n:Nat}{v:Value}{xs:List Value}(h:SH B w (aU e sz v n xs::L)):SH B w (bV sz v n xs::L):=
 h.wk λO R hA=>⟨λ_=>False,λk=>v.ownBlock=some k,⟨⟨hA.1.1,by
  rcases hA.1.2 with hn|⟨g,cap,cur,rfl,hb,hg,h1,h2,_⟩
  ·exact .inl hn
  ·exact .inr ⟨g,0,cap,rfl,(Array.getElem?_eq_some_iff.1 hg).1,h1,h2,(PJ hA).2⟩⟩,λk h=>h,λk=>Iff.rfl⟩,λk h=>h.elim,λk hk=>.inl ((hA.2.1 k).2 hk)⟩
theorem a16{α:Type}{x0 x1 x2 x3 x4 x5 x6 x7 x8 x9 x10 x11 x12 x13 x14 x15 x16:α}{l:List α}:At (x0::x1::x2::x3::x4::x5::x6::x7::x8::x9::x10::x11::x12::x13::x14::x15::x16::l) x16:=.s a15
theorem Vn{α:Type}{x0 x1 x2 x3 x4 x5 x6 x7 x8 x9 x10 x11 x12 x13 x14 x15 x16:α}{l:List α}:tY (x0::x1::x2::x3::x4::x5::x6::x7::x8::x9::x10::x11::x12::x13::x14::x15::x16::l) x16 (x0::x1::x2::x3::x4::x5::x6::x7::x8::x9::x10::x11::x12::x13::x14::x15::l):=.s U'
end Go.E
namespace Go.Q9
open Go.Proofs.Tryz
open Go.RowKit Go.E
structure JE where
 i:Int:=0
 m:Int:=0
 a:Int:=0
 l:Int:=0
 wp:Option Addr:=none
 wn:Nat:=0
 wc:Nat:=0
def JC(x:JE):List Value:=[↑x.i,↑x.m,↑x.a,↑x.l,.slice x.wp x.wn x.wc]
theorem S2(x:JE):(JC x).length=5:=rfl
theorem Aj(x:JE):(JC x).all Value.oneCell'=true:=rfl
def FG(l:List Bool):Nat:=l.count false
theorem xO{l:List Bool}{j:Nat}(hj:j<l.length)(h:l.getD j false=false):FG (l.set j true)+1=FG l:=by
 induction l generalizing j with
 |nil=>cases hj
 |cons b l ih=>
  cases j with
  |zero=>
   have:b=false:=h
   subst this
   simp[FG]
  |succ j=>
   have:=ih (j:=j) (by simpa using hj) (by simpa using h)
   simp only[FG,List.set_cons_succ,List.count_cons]at this ⊢
   omega
theorem gI(l:List Bool):FG l<=l.length:=List.count_le_length
structure PlQ(i:Int)(bs:List Bool)(ok:Bool)(ls:List JE)(ps:List Ct.bN)(bs':List Bool):Prop where
 first:ok=true->∃x l',ls=x::l'/\x.i=i
 RZ:ls.length+FG bs'<=FG bs
 aF:ps.length+1000000*FG bs'<=1000000*FG bs
 len:bs'.length=bs.length
theorem PlQ.no{i:Int}{bs bs':List Bool}(h:FG bs'<=FG bs)(hl:bs'.length=bs.length):PlQ i bs false [] [] bs':=
 ⟨(λh=>by cases h),by show 0+FG bs'<=_;omega,by show 0+_<=_;omega,hl⟩
end Go.Q9
end
section
namespace Go.Ct
variable{g:Ga}
structure Ul(S0:St)(t:I Result)(q:Bool)(ex:Prop)(z:Nat):Prop where
 le:z<=31
 run:∀i,i<z->(alone (t.head S0).1 (t.head S0).2 i).2.ended.isSome=false
 fin:(alone (t.head S0).1 (t.head S0).2 z).2.ended.isSome=true
 rm:∀i,i<=z->Rm 101 (alone (t.head S0).1 (t.head S0).2 i).1
 low:S0.aG.length<=(alone (t.head S0).1 (t.head S0).2 z).1.aG.length
 RZ:(alone (t.head S0).1 (t.head S0).2 z).1.aG.length<=S0.aG.length+8
 quiet:q=true->z<=9/\(alone (t.head S0).1 (t.head S0).2 z).1.aG.length<=S0.aG.length+3/\(ex->z=9/\(alone (t.head S0).1 (t.head S0).2 z).1.aG.length=S0.aG.length+3)
theorem Ul.of{S0:St}{t:I Result}{q:Bool}{ex:Prop}{Q:Result->St->Prop}{n:Nat}(hf:eK S0)(hz:S0.size<=80000000000)(h:t.Al Q n 8 S0)(hn:n<=31)(hQ:q=true->∀r s',Q r s'->s'.acc<=S0.acc+9/\s'.aG.length<=S0.aG.length+3/\(ex->s'.acc=S0.acc+9/\s'.aG.length=S0.aG.length+3)):∃z,Ul S0 t q ex z:=by
 obtain⟨i,hi,hG,hr,ha⟩:=Al.head h
 obtain⟨z,hzn,hg,hrun,r,e1,e2,e3⟩:=Al.run n (8-i) _ _ ha hr
 have a1:=hG.nodes;have a2:=hG.more;have a3:=hG.size;have a4:=hG.acc
 have hz':=hg z (bD z)
 have b1:=hz'.nodes;have b2:=hz'.more
 refine⟨z,by omega,hrun,by rw[e1];rfl,λk hk=>?_,by omega,by omega,λhq=>?_⟩
 ·have c:=hg k hk
  have c3:=c.size
  exact⟨c.fit (hG.fit hf),by unfold cN;omega⟩
 ·obtain⟨d1,d2,d3⟩:=hQ hq r _ e2
  exact⟨by omega,d2,λhx=>⟨by have:=(d3 hx).1;omega,(d3 hx).2⟩⟩
def Ic(s:St)(t:bC):Prop:=(rootOf s t).2=true/\(s.load (s.node (s.load (s.node (rootOf s t).1).main).2).prev).2=0/\(s.node (s.load t.root).2).kind=2
theorem KC{s:St}{t:bC}(hT:Tw g s)(hk:Tk g t)(hq:Ic s t):∃m,Fx g t s (rd s t.root) m:=by
 obtain⟨_,h2,h3⟩:=hq
 have h3':(g.node (rd s t.root)).kind=2:=by rw[<- hT.PI.node];exact h3
 have hr:jV g (rd s t.root) (0,0):=by
  have hv:=hT.PI.value hk
  cases hro:t.readOnly with
  |true=>rw[hro]at hv;exact hv
  |false=>
   rw[hro]at hv
   rcases hv with hv|hv
   ·exact hv
   ·exact absurd (h3'.symm.trans hv) (by decide)
 have eR:rootOf s t=(rd s t.root,true):=by
  have eD:Dw s t=rd s t.root:=by
   unfold Dw
   rw[show ((s.node (s.load t.root).2).kind==8)=false by rw[h3];rfl];rfl
  unfold rootOf
  rw[eD,show ((s.node (rd s t.root)).kind != 2)=false by rw[show (s.node (rd s t.root)).kind=2 from h3];rfl];rfl
 rw[eR]at h2
 have hm:=hT.PI.value (hT.gw.MO hr)
 rw[hT.PI.node,hT.PI.node]at h2
 exact⟨_,hr,hm,rfl,rfl,h2⟩
theorem j0{s:St}{t:bC}{q:Bool}(hT:Tw g s)(hk:Tk g t)(hro:t.readOnly=false)(hf:eK s)(hz:s.size<=80000000000)(hq:q=true->Ic s t):∃z,Ul s (iT t FU) q True z:=by
 have eF:FU=99999999+1:=rfl
 rw[eF]
 cases q with
 |false=>exact Ul.of hf hz (Al.mono (P8 99999999 hT hk hro) (bD _) (by omega)) (bD _) λh=>by cases h
 |true=>
  obtain⟨m,hF⟩:=KC hT hk (hq rfl)
  exact Ul.of hf hz (Al.mono (H' 99999999 hT hk hro hF) (bD _) (by omega)) (by omega) λ_ r s' h=>⟨by omega,by omega,λ_=>h⟩
theorem JY{s:St}{t:bC}{q:Bool}(fz:Bool)(hT:Tw g s)(hk:Tk g t)(hf:eK s)(hz:s.size<=80000000000)(hq:q=true->Ic s t):∃z,Ul s (bif fz then Qg t FU else Cg t FU) q False z:=by
 have eF:FU=99999999+1:=rfl
 rw[eF]
 cases q with
 |false=>exact Ul.of hf hz (S5 fz 99999999 hT hk) (bD _) λh=>by cases h
 |true=>
  obtain⟨m,hF⟩:=KC hT hk (hq rfl)
  exact Ul.of hf hz (aAs fz 99999999 hT hk hF) (by omega) λ_ r s' h=>⟨h.1,h.2,λh=>h.elim⟩
theorem T0{s:St}(hT:Tw g s)(r:Int)(hk:(s.node r).kind=3):(s.node r).aA.length=Bm.pop 64 (s.node r).aD:=by
 rw[hT.PI.node]at hk ⊢
 have hn:=hT.gw.of (r:=r) (by rw[hk];decide)
 exact Ag (by unfold Node.lO;rw[hk,hn.valid];rfl)
theorem R7{s:St}{i:Int}(h:(jM s i).2=true):(s.node i).kind=2/\(s.node (jM s i).1).bM=true:=by
 unfold jM at h ⊢
 cases h1:(s.node i).kind != 2 with
 |true=>rw[h1]at h;cases h
 |false=>
  rw[h1]at h
  simp only[Yv]at h ⊢
  cases h2:(s.node (xR s i)).bM with
  |false=>rw[h2]at h;cases h
  |true=>
   rw[h2]at h
   simp only[fU,Yv]at h ⊢
   refine⟨by simpa using h1,?_⟩
   cases h3:uW s i==0 with
   |true=>exact h2
   |false=>
    rw[h3]at h
    simp only[Yv]at h ⊢
    cases h4:(s.node (Bp s i)).bM with
    |false=>rw[h4]at h;cases h
    |true=>exact h4
theorem Xs{c:Call}(h:c.kind=12):mS c FU=iT c.aE FU:=by
 unfold mS
 rw[h,if_neg (by decide),if_neg (by decide),if_neg (by decide),if_neg (by decide),if_neg (by decide),if_neg (by decide)]
theorem LK{c:Call}(h:c.kind=11):mS c FU=Qg c.aE FU:=by
 unfold mS
 rw[h,if_neg (by decide),if_neg (by decide),if_neg (by decide),if_neg (by decide),if_pos (by decide)]
theorem i2{c:Call}(h:c.kind=10):mS c FU=Cg c.aE FU:=by
 unfold mS
 rw[h,if_neg (by decide),if_neg (by decide),if_neg (by decide),if_pos (by decide)]
theorem VM{s:St}{c:Call}{q:Bool}(hT:Tw g s)(hc:kZ g c)(h:c.kind=12)(hf:eK s)(hz:s.size<=80000000000)(hq:q=true->Ic s c.aE):∃z,Ul s (mS c FU) q True z:=by
 rw[Xs h];exact j0 hT hc.aE (hc.ro (.inr (.inr h))) hf hz hq
theorem JN{s:St}{c:Call}{q:Bool}(hT:Tw g s)(hc:kZ g c)(h:c.kind=11)(hf:eK s)(hz:s.size<=80000000000)(hq:q=true->Ic s c.aE):∃z,Ul s (mS c FU) q False z:=by
 rw[LK h];exact JY true hT hc.aE hf hz hq
theorem H9{s:St}{c:Call}{q:Bool}(hT:Tw g s)(hc:kZ g c)(h:c.kind=10)(hf:eK s)(hz:s.size<=80000000000)(hq:q=true->Ic s c.aE):∃z,Ul s (mS c FU) q False z:=by
 rw[i2 h];exact JY false hT hc.aE hf hz hq
theorem Gl{s:St}(hf:eK s)(hz:s.size<=740000)(r:Int):(s.node r).aD<18446744073709551616/\(s.node r).aF.length<=1000000:=by
 have h:=hf.node r
 exact⟨h.1.2.2.1,DM h.1.2.1 (by unfold St.size at hz;omega)⟩
end Go.Ct
end
section
namespace Go.Q9
open Go.Proofs.Tryz
open Go.E
theorem WV:fo prog 89 4=some 4:=by kernel_rfl
theorem aAg:(prog.info? 89).map (·.size)=some 5:=by kernel_rfl
end Go.Q9
end
