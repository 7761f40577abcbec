/- Parts of a proof: Tz, Lq, Ayj, Lr, Wv, Ayl, Wa, Lu, Fw, Cr, Ayn, Ys, Fx, Gp, Vx. -/
import Derived.Test.YtnhdmcipglnkfaaGreatW45
import Derived.Deep.RegionHeld3
set_option linter.unusedVariables false
set_option linter.unusedSimpArgs false
set_option maxRecDepth 100000
set_option maxHeartbeats 4000000
section
namespace Go.Q9
open Go.Proofs.Tryz
open Go.RowKit Go.E
variable{B w:World}{L:List As}
end Go.Q9
end
section
namespace Go.Q9
open Go.Proofs.Tryz
open Go.RowKit Go.E
variable{B w:World}{L:List As}
theorem RK(a:Addr)(w:World):(method 383 25 (.pointer (some a)) "Node").run prog w=.ok (48,.pointer (some a)) w:=by kernel_rfl
theorem QF(a:Addr)(w:World):(method 383 25 (.pointer (some a)) "Alloc").run prog w=.ok (319,.pointer (some a)) w:=by kernel_rfl
theorem BL(a:Addr)(w:World):(method 383 25 (.pointer (some a)) "NewCell").run prog w=.ok (322,.pointer (some a)) w:=by kernel_rfl
theorem IR(a:Addr)(w:World):(method 383 25 (.pointer (some a)) "NewGen").run prog w=.ok (323,.pointer (some a)) w:=by kernel_rfl
theorem QZ(a:Addr)(w:World):(method 383 25 (.pointer (some a)) "Load").run prog w=.ok (321,.pointer (some a)) w:=by kernel_rfl
theorem YK(a:Addr)(w:World):(method 383 25 (.pointer (some a)) "CAS").run prog w=.ok (320,.pointer (some a)) w:=by kernel_rfl
theorem XH(a:Addr)(w:World):(nilAhead 383 25 (.pointer (some a)) "Alloc").run prog w=.ok (some false) w:=by kernel_rfl
theorem AB(ab:Nat)(w:World):Rl 25 (QQ ab) ab w:=⟨RK _ w,QF _ w,BL _ w,IR _ w,QZ _ w,YK _ w⟩
theorem S9(a:Addr)(w:World):∀f,1≤f→(method f 25 (.pointer (some a)) "Node").run prog w=.ok (48,.pointer (some a)) w
 |0,h=>absurd h (by decide)
 |f+1,_=>by kernel_rfl
theorem D9(a:Addr)(w:World):∀f,1≤f→(method f 25 (.pointer (some a)) "Alloc").run prog w=.ok (319,.pointer (some a)) w
 |0,h=>absurd h (by decide)
 |f+1,_=>by kernel_rfl
theorem ME(a:Addr)(w:World):∀f,1≤f→(method f 25 (.pointer (some a)) "NewCell").run prog w=.ok (322,.pointer (some a)) w
 |0,h=>absurd h (by decide)
 |f+1,_=>by kernel_rfl
theorem YF(a:Addr)(w:World):∀f,1≤f→(method f 25 (.pointer (some a)) "NewGen").run prog w=.ok (323,.pointer (some a)) w
 |0,h=>absurd h (by decide)
 |f+1,_=>by kernel_rfl
def arX:List As:=[]
def cV(ab:Nat):dN:=⟨25,QQ ab,ab,arX,1,by decide,λ_=>⟨S9 _ _,D9 _ _,ME _ _,YF _ _⟩⟩
instance (ab:Nat):Full (cV ab):=⟨λw=>XH _ w⟩
theorem LX{ab:Nat}{s:Ct.St}(h:SH B w (wW ab s::L)):SH B w ((cV ab).a s::L):=SH.si (S:=cV ab) (((SH.is (l:=[]) h).fr (.c r1 .n)))
theorem VB{ab:Nat}{s:Ct.St}(h:SH B w ((cV ab).a s::L)):SH B w (wW ab s::L):=(SH.so (S:=cV ab) h).fr (.c r0 .n) |>.fr (.c r1 .n) |>.drop
theorem tF(ab:Nat)(s:Ct.St)(h:SH B w ((cV ab).a s::L))(hr:s.size<=100000000000)(hf:Ct.eK s):
  Calls prog 11 #[↑ab] w λe w'=>∃pn cn pc cc zs,zs.map Prod.fst=aW s/\e=.returned (.agg [.slice pn zs.length cn,.slice pc s.cells.length cc,↑(s.gen:Int)].toArray)/\SH B w' (aU 53 14 (.slice pn zs.length cn) zs.length (zs.flatMap cB)::aU 44 1 (.slice pc s.cells.length cc) s.cells.length (s.cells.map (Value.int .i64))::bE zs::(cV ab).a s::L):=by
 refine(Oi ab s (SH.so (S:=cV ab) h) hr hf).mono ?_
 rintro e w' ⟨pn,cn,pc,cc,zs,hz,rfl,h⟩
 exact⟨pn,cn,pc,cc,zs,hz,rfl,(SH.si (S:=cV ab) (h.fr (.c r3 (.c r3 .n)))).fr (.c r1 (.c r1 (.c r1 .n)))⟩
end Go.Q9
end
section
namespace Go.Q9
open Go.Proofs.Tryz
open Go.E
end Go.Q9
end
section
namespace Go.Q9
open Go.Proofs.Tryz
open Go.RowKit Go.E
attribute [local irreducible] gB wpS Go.E.X XS C jU kP fin Y U F Ca jT bl rb aU bV ex ce pu sK gK bK zK gM fO dH gP nE rD
theorem lS{s:Ct.St}(hf:Ct.eK s)(hr:s.size<=100000000000):∀n∈aW s,n.aA.length<=1000000/\n.aF.length<=200000000000/\n.aD<18446744073709551616:=by
 have hm:Ct.gY.aA.length<=1000000/\Ct.gY.aF.length<=200000000000/\Ct.gY.aD<18446744073709551616:=by decide
 intro n m
 unfold aW at m
 rcases List.mem_cons.1 m with rfl|m
 ·exact hm
 ·rcases List.mem_cons.1 m with rfl|m
  ·exact hm
  ·have h:=hf n m
   have h1:=zS h (by unfold Ct.St.size at hr;omega)
   exact⟨h1.1,h1.2,h.1.2.2.1⟩
end Go.Q9
end
section
namespace Go.Ct
set_option maxRecDepth 100000
instance (n:Node)(L:Nat):Decidable (n.Fit L):=by unfold Node.Fit Node.fits;infer_instance
end Go.Ct
end
section
namespace Go.Q9
open Go.Proofs.Tryz
open Go.E
theorem P7:fv prog 49 1=some (1,1,false):=by kernel_rfl
theorem IB:prog.underlying 25=some (.pointer 105):=by kernel_rfl
end Go.Q9
end
section
namespace Go.Q9
open Go.Proofs.Tryz
open Go.RowKit Go.E
attribute [local irreducible] gB wpS Go.E.X XS C jU kP fin Y U F Ca jT bl rb aU bV ex ce pu sK gK bK zK gM fO dH gP nE rD
variable{B w:World}{L:List As}
theorem OV(S:dN)(hM:∀w,Rl S.t S.x S.ab w)(n tb k z Cx:Nat)(p:Nat->Ct.St×Ct.I Ct.Result)(h:SH B w (oQ S n tb (p 0).2 k::S.a (p 0).1::L))(hstep:∀i,p (i+1)=(p i).2.step (p i).1)(hrun:∀i,i<z->(p i).2.ended.isSome=false)(hend:(p z).2.ended.isSome=true)(hzm:z<=Cx)(hzn:z<=n)(hrm:∀i,i<z->Ct.Rm 101 (p i).1)(hk:k+z<=1000000000000)(hm:Cx<=1000000000000):
  Calls prog 10 #[↑tb,↑(Cx:Int)] w λe w'=>e=.returned ↑(z:Int)/\SH B w' (oQ S (n-z) tb (p z).2 (k+z)::S.a (p z).1::L):=by
 refine bZ func10 ntmps10 h λw h=>?_
 refine lp (α:=Nat) (λρ=>(.c 0 ↑tb (.c 1 ↑(Cx:Int) (.c 5 (.int .i64 (ρ:Int)) .n)))) (λρ w=>SH B w (oQ S (n-ρ) tb (p ρ).2 (k+ρ)::S.a (p ρ).1::L)/\(ρ<=z)) (λρ=>z-ρ) 0 ⟨rfl,rfl,rfl,trivial⟩ ⟨h,dF _⟩ ?_
 rintro i w ⟨h,hi⟩
 have h:=h.fr (.c r0 .n)
 obtain⟨c,h⟩:=SH.to h
 have hc:=uD (h.fr (.c r1 .n))
 refine go h λw h=>?_
 refine qg h (λhd1 w h=>?_) λhd1 w h=>?_
 ·refine bA (Aa S _ c _ _ h.to) λw h=>?_
  refine qg h (λhd3 w h=>?_) λhd3 w h=>?_
  ·have hd4:=(lC _).mp hd3
   have h:=SH.ti (h.fr (.c r0 (.c r0 .n)))
   have hiz:i<z:=by
    rcases yM i z with hz|hz
    ·exact hz
    ·obtain rfl:i=z:=by omega
     have h1:=hc.1.symm.trans hd4
     rw[hend]at h1;cases h1
   rw[show n-i=n-(i+1)+1 by omega]at h
   refine bA (Om S hM _ _ _ (p i).2 _ h.to (hrm i hiz) (by have:=hrun i hiz;simpa using this) (by omega)) λw h=>?_
   rw[<- hstep i]at h
   exact⟨((i+1)),⟨rfl,rfl,rfl,trivial⟩,⟨h,hiz⟩,by(try dsimp only);omega⟩
  ·have hd6:=(bI _).mp hd3
   have h:=SH.ti (h.fr (.c r0 (.c r0 .n)))
   refine rz ?_
   have hiz:i=z:=by
    rcases yM i z with hz|hz
    ·have h1:=hc.1.symm.trans hd6
     rw[hrun i hz]at h1;cases h1
    ·omega
   subst hiz
   exact⟨rfl,h⟩
 ·have hg8:=cW hd1
  refine go h λw h=>?_
  have h:=SH.ti (h.fr (.c r0 (.c r0 .n)))
  refine go h λw h=>?_
  refine rz ?_
  have hiz:i=z:=by
   rcases yM i z with hz|hz
   ·omega
   ·omega
  subst hiz
  exact⟨rfl,h⟩
end Go.Q9
end
section
namespace Go.Q9
open Go.Proofs.Tryz
open Go.RowKit Go.E
end Go.Q9
end
section
namespace Go.Ct
def J':bC:=(fS {}).2
def Oq:Nat->St×I Result
 |0=>(Qg J' 1001).head (fS {}).1
 |i+1=>(Oq i).2.step (Oq i).1
theorem R5:∀i,i<9->(Oq i).2.ended.isSome=false:=by decide+kernel
theorem T8:(Oq 9).2.ended.isSome=true:=by decide+kernel
theorem zN:((Oq 9).2.ended.getD {}).found=true:=by decide+kernel
theorem Mi:((Oq 9).2.ended.getD {}).aE.readOnly=true:=by decide+kernel
theorem Eb:decide (((Oq 9).2.ended.getD {}).aE.root>3)=true:=by decide+kernel
theorem P3:(((Oq 9).1.node 4).gen==1)=true:=by decide+kernel
set_option maxRecDepth 100000
theorem RL:∀i,i<10->∀n∈(Oq i).1.aG,n.Fit (Oq i).1.aG.length:=by decide+kernel
theorem I5:∀i,i<10->(Oq i).1.size<=1000:=by decide+kernel
theorem A5(i:Nat)(h:i<10):Rm 101 (Oq i).1:=⟨RL i h,by have:=I5 i h;unfold cN;omega⟩
theorem T2:∀n∈(fS {}).1.aG,n.Fit (fS {}).1.aG.length:=by decide+kernel
theorem Y7:Rm 60 (fS {}).1:=⟨T2,by decide⟩
theorem Y9:Rm 60 {}:=⟨(λn h=>by cases h),by decide⟩
end Go.Ct
end
section
namespace Go.Q9
open Go.Proofs.Tryz
open Go.RowKit Go.E
variable{B w w':World}{L:List As}
theorem PD{P:Program}{c:Code}{Q:Exit->Act->World->Prop}{a:Act}{w W:World}(h:w=W)(hc:c.wp P Q a W):c.wp P Q a w:=h▸hc
theorem XF:(prog.info? 35).map (·.size)=some 2:=by kernel_rfl
theorem Yi(p:Addr)(w:World):
  CallsD prog 137 #[.pointer (some p)] .returning w λe u' w'=>e=.returned (.tuple #[])/\u'=.returning/\w'=w:=by
 refine callsD_of_wpS func137 rfl λc₀ cs hu=>?_
 apply wpS_seq
 apply wpS_region
 simp[wpOpsS,go_sem,recoverD,hu,ntmps137,Exit.thenS]
 refine wpS_cond (t:=false) (by simp[Act.eval,Array.replicate]) ?_
 refine wpS_of_wp (wp_skip ?_)
 cases c₀
 simp_all [bodyPostS,results,results137]
theorem X6{b:Nat}{x y x' y':Value}{t:TypeId}{L':List As}(h:SH B w L)(u:sJ L L' (bl b [x,y] t) (bl b [x',y'] t)):SH B ((w.setCell ⟨b,0,none⟩ x').setCell ⟨b,1,none⟩ y') L':=
 h.step u λO R hA=>⟨O,R,⟨by
  have h1:=heap_setCell_same w b 0 _ t x' hA.1
  have h2:=heap_setCell_same (w.setCell ⟨b,0,none⟩ x') b 1 _ t y' h1
  rw[h2];rfl,hA.2⟩,⟨⟨rfl,rfl,rfl⟩,by simp[World.setCell],λk hk hn=>by
   rw[heap_setCell_other _ _ _ _ (λe=>hn ((hA.2.1 k).2 e)),heap_setCell_other _ _ _ _ (λe=>hn ((hA.2.1 k).2 e))]⟩,λk hk=>.inl hk,λk hk=>.inr (.inl hk)⟩
theorem O7{fn:Func}{p:Tmp}{tmps:Array Value}{b:Nat}{t:Ct.bC}{a:As}(hr:fn.results=#[.cell p 35])(hp:tmps.getD p undef=.pointer (some ⟨b,0,none⟩))(h:SH B w (bl b (cU t) 35::a::L)):
  ∃v,(results fn tmps).run prog w=.ok v w/\(Ending.returned v=.returned (.agg (cU t).toArray)/\SH B w (a::L)):=by
 exact⟨.agg (cU t).toArray,results_cell_row hr _ _ b 35 _ (0,0) _ hp (h.b a0) underlying35 rfl XF,rfl,h.drop⟩
theorem WV(S:dN)[Full S](hM:∀w,Rl S.t S.x S.ab w)(s:Ct.St)(h:SH B w (S.a s::L))(hs:Ct.Rm 60 s):
  Calls prog 88 #[S.v] w λe w'=>e=.returned (.agg (cU (Ct.fS s).2).toArray)/\SH B w' (S.a (Ct.fS s).1::L):=by
 have hmA:∀w,(method 383 S.t S.x "Alloc").run prog w=.ok (319,QQ S.ab) w:=fun w=>(hM w).alloc
 have hmC:∀w,(method 383 S.t S.x "NewCell").run prog w=.ok (322,QQ S.ab) w:=fun w=>(hM w).cell
 have hnA:=naF S
 have h1:SH B (w.alloc (.cells [.int .i64 0,↑false].toArray 35)) (bl w.heap.size [.int .i64 0,↑false] 35::S.a s::L):=h.alloc
 obtain⟨W0,hW0⟩:∃W,w.alloc (.cells [.int .i64 0,↑false].toArray 35)=W:=⟨_,rfl⟩
 rw[hW0]at h1
 have HW:=Lib.hid hW0
 have hmf:∀(fn:Fn) (first cap:Array Value) (w:World),(Instr.makeFunc fn first cap).run prog w=.ok (.func fn first cap) w:=λ_ _ _ _=>rfl
 have R1:=Lib.hid h1.drew
 have HS:=Lib.hid hs
 clear h h1 hW0 hM hs
 unfold dN.v
 go_enter_defers func88,ntmps88
 go_wp2_with fail
 refine PD HW.out ?_
 refine wp_region_noPanic ?_
 go_region_with (first
  |(go_at_call 138;refine(Jg R1.out).mono ?_;rintro e w2 ⟨rfl,h2⟩;have R2:=Lib.hid h2;clear h2)
  |(go_at_call 319;refine(cQ S s {kind:=3} {} 0 (SH.eE _ rfl rfl (R2.out.fr (.c r1 .n))) HS.out (Ct.fY _)).mono ?_;rintro e w3 ⟨rfl,h3⟩;have R3:=Lib.hid h3;clear h3))
 all_goals
  refine NoPanic.normal ?_
  go_wp2_with fail
  refine(Gy S (s.alloc {kind:=3} 0).1 (s.alloc {kind:=3} 0).2 R3.out ((HS.out.alloc (Ct.fY _) 0).less (by decide))).mono ?_
  rintro e w4 ⟨rfl,h4⟩
  have H4:=Lib.hid ((HS.out.alloc (Ct.fY _) 0).gen.alloc (Ct.bG _ 2 (s.alloc {kind:=3} 0).1.bS.2 0 0 0) (s.alloc {kind:=3} 0).2)
  have R4:=Lib.hid h4
  clear h4
  go_wp2_with fail
  refine(zU (j:=57) S _ _ R4.out H4.out).mono ?_
  rintro e w5 ⟨rfl,h5⟩
  have H5:=Lib.hid h5
  clear h5
  have he:∃r,r=((((s.alloc {kind:=3} 0).1.bS.1.alloc {kind:=2,gen:=(s.alloc {kind:=3} 0).1.bS.2} (s.alloc {kind:=3} 0).2).1.aV ((s.alloc {kind:=3} 0).1.bS.1.alloc {kind:=2,gen:=(s.alloc {kind:=3} 0).1.bS.2} (s.alloc {kind:=3} 0).2).2).2):=⟨_,rfl⟩
  obtain⟨r,hr⟩:=he
  rw[<- hr]
  have HR:=Lib.hid hr
  clear hr
  have hb:=H5.out.b a1
  have d0:=cell_of_row w5 w.heap.size 0 _ _ _ hb
  have d1:=cell_of_row w5 w.heap.size 1 _ _ _ hb
  have f0:w5.frozen? ⟨w.heap.size,0,none⟩=false:=by simp[World.frozen?,hb]
  have f1:w5.frozen? ⟨w.heap.size,1,none⟩=false:=by simp[World.frozen?,hb]
  simp only[List.getElem?_toArray,DI,bD]at d0 d1
  clear hb
  go_wp2_with fail
  refine leaves_cons (f:=137) (args:=#[↑w.heap.size]) (by simp) (by simp[go_sem]) ?_
  refine(Yi ⟨w.heap.size,0,none⟩ _).mono ?_
  rintro e u' w'' ⟨rfl,rfl,rfl⟩
  have h6:=(X6 (x':=.int .i64 r) (y':=.bool false) H5.out u1).fr (.c r1 .n)
  rw[HR.out]at h6 ⊢
  exact O7 (b:=w.heap.size) (t:=(Ct.fS s).2) results88 rfl h6
end Go.Q9
end
section
namespace Go.Q9
open Go.Proofs.Tryz
open Go.E
theorem eq_35:WW prog 35=some [.i .i64,.b]:=by kernel_rfl
theorem S5:fv prog 35 0=some (0,1,false):=by kernel_rfl
theorem P4:fv prog 35 1=some (1,1,false):=by kernel_rfl
theorem FZ:fv prog 49 6=some (6,2,true):=by kernel_rfl
end Go.Q9
end
section
namespace Go.Q9
open Go.Proofs.Tryz
open Go.RowKit Go.E
attribute [local irreducible] gB wpS Go.E.X XS C jU kP fin Y U F Ca jT bl rb aU bV ex ce pu sK gK bK zK gM fO dH gP nE rD
variable{B w:World}{L:List As}
theorem IA(ab:Nat)(s:Ct.St)(h:SH B w ((cV ab).a s::L))(hs:Ct.Rm 60 s):
  Calls prog 52 #[(cV ab).v] w λe w'=>e=.returned (.agg (cU (Ct.fS s).2).toArray)/\SH B w' ((cV ab).a (Ct.fS s).1::L):=by
 refine bZ func52 ntmps52 h λw h=>?_
 refine jA h λb1 w h=>?_
 refine cl (ca eF rfl) ((WV (cV ab) (AB ab) s (h.fr (.c r1 .n)) hs).mono ?_)
 rintro _ w ⟨rfl,h⟩
 refine⟨_,rfl,?_⟩
 refine sf (so h rfl rfl rfl Ba rfl (.r (.r .d)) u1)<|?_
 rintro _ w h
 refine xe<|nx<|rt<|?_
 refine go h λw h=>?_
 exact rr (bP rfl rfl (h.b a1) Row.h)<|⟨rfl,h.to⟩
theorem WY(ab:Nat)(s:Ct.St)(h:SH B w (wW ab s::L))(hs:Ct.Rm 60 s):Calls prog 52 #[(cV ab).v] w λe w'=>e=.returned (.agg (cU (Ct.fS s).2).toArray)/\SH B w' (wW ab (Ct.fS s).1::L):=by
 refine(IA ab s (LX h) hs).mono ?_
 rintro e w' ⟨rfl,h⟩
 exact⟨rfl,VB h⟩
variable{B w:World}{L:List As}
theorem d9(h:SH B w (L)):
  Calls prog 51 #[] w λe w'=>∃ab,e=.returned (.pointer (some ⟨ab,0,none⟩))/\SH B w' (wW ab {}::L):=by
 refine bZ func51 ntmps51 h λw h=>?_
 refine jX h λb1 w h=>?_
 refine rz ?_
 have h:=h
 have h:=SH.nil 53 14 (SH.nil 44 1 (SH.LP h))
 exact⟨b1,rfl,SH.ai (b:=b1) (s:={}) ⟨none,0,none,0,[]⟩ rfl h.to⟩
theorem WJ(ab:Nat)(h:SH B w (wW ab (Ct.fS {}).1::L)):Calls prog 53 #[(cV ab).v,.agg (cU Ct.J').toArray] w λe w'=>∃tb,e=.returned (.pointer (some ⟨tb,0,none⟩))/\SH B w' (oQ (cV ab) 1000 tb (Ct.Oq 0).2 0::(cV ab).a (Ct.Oq 0).1::L):=by
 refine(BX (cV ab) 1000 Ct.J' (Ct.fS {}).1 (LX h) Ct.Y7).mono ?_
 rintro e w' ⟨tb,s',u,hq,rfl,h⟩
 have e0:Ct.Oq 0=(s',u):=hq
 rw[e0]
 exact⟨tb,rfl,h⟩
theorem Y1(ab tb:Nat)(h:SH B w (oQ (cV ab) 1000 tb (Ct.Oq 0).2 0::(cV ab).a (Ct.Oq 0).1::L)):Calls prog 10 #[↑tb,.int .i64 20] w λe w'=>e=.returned (.int .i64 9)/\SH B w' (oQ (cV ab) 991 tb (Ct.Oq 9).2 9::wW ab (Ct.Oq 9).1::L):=by
 refine(OV (cV ab) (AB ab) 1000 tb 0 9 20 Ct.Oq h (λi=>rfl) Ct.R5 Ct.T8 (by decide) (by decide) (λi hi=>Ct.A5 i (by omega)) (by decide) (by decide)).mono ?_
 rintro e w' ⟨rfl,h⟩
 exact⟨rfl,(VB (h.fr (.c r1 .n))).fr (.c r1 .n)⟩
theorem t9(t:Ct.bC):Cn (cU t) (cU t)=true:=by simp[Cn,WN,cU]
theorem EB:Cn (cU Ct.J') [.int .i64 3,↑false]=true:=by
 rw[show Ct.J'={root:=3}from rfl];exact t9 _
section
attribute [local semireducible] gB wpS Go.E.X XS C jU kP fin Y U F Ca jT bl rb aU bV ex ce pu sK gK bK zK gM fO dH gP nE rD
attribute [local irreducible] gB wpS
variable{B w:World}{L:List As}
theorem QI(h:SH B w (L)):
  Calls prog 14 #[] w λe w'=>e=.returned ↑true/\SH B w' L:=by
 refine Ea (args:=[]) func14 rfl ntmps14 rfl ?_
 refine sq<|rg<|st (sg rfl)<|xe<|nx<|sq<|rg<|cl (ca eF rfl) ((d9 (h.fr .n)).mono ?_)
 rintro _ w ⟨ab,rfl,h⟩
 refine⟨_,rfl,?_⟩
 refine st (sg rfl)<|xe<|nx<|sq<|sq<|rg<|st (mv rfl)<|st (i4 IB rfl rfl)<|xe<|nx<|cF rfl<|sk<|nx<|sq<|rg<|st (mv rfl)<|st (mi IB rfl rfl)<|cl (ca eF rfl) ((WY ab ({}:Ct.St) (h.fr (.c r0 .n)) Ct.Y9).mono ?_)
 rintro _ w ⟨rfl,h⟩
 refine⟨_,rfl,?_⟩
 refine sf (al h n0)<|?_
 rintro _ w ⟨b1,rfl,h⟩
 refine sf (so h rfl rfl rfl Ba rfl (.r (.r .d)) u0)<|?_
 rintro _ w h
 refine xe<|nx<|sq<|rg<|st (mv rfl)<|st (mi IB rfl rfl)<|st (gJ rfl (dK (h.b a0)) xP)<|cl (ca eF rfl) ((WJ ab (h.fr (.c r1 .n))).mono ?_)
 rintro _ w ⟨tb,rfl,h⟩
 refine⟨_,rfl,?_⟩
 refine st (sg rfl)<|xe<|nx<|sq<|rg<|st (gJ rfl (dK (h.b a2)) xP)<|st (bd [.int .i64 3,↑false] W1 rfl (by kernel_rfl))<|st (n5 eq_35 rfl rfl rfl rfl)<|st (mv rfl)<|gT rfl rfl EB<|st (mv rfl)<|gT rfl rfl EB<|st (bpn U2 rfl rfl)<|st (pT rfl EB rfl)<|st (mv rfl)<|gT rfl rfl rfl<|st (mv rfl)<|gT rfl rfl rfl<|cl (ca eF rfl) ((Y1 ab tb (h.fr (.c r0 (.c r0 .n)))).mono ?_)
 rintro _ w ⟨rfl,h⟩
 refine⟨_,rfl,?_⟩
 refine gT rfl rfl rfl<|st (bi rfl rfl rfl)<|st (pT rfl rfl rfl)<|st (mv rfl)<|gT rfl rfl rfl<|st (mv rfl)<|gT rfl rfl rfl<|cl (ca eF rfl) ((Ew (cV ab) 991 tb 9 (Ct.Oq 9).2 (h.fr (.c r0 .n))).mono ?_)
 rintro _ w ⟨rfl,h⟩
 refine⟨_,rfl,?_⟩
 refine gT rfl rfl rfl<|st (fd P7 rfl rfl)<|st (pT rfl rfl rfl)<|st (mv rfl)<|gT rfl rfl Ct.zN<|st (mv rfl)<|gT rfl rfl Ct.zN<|cl (ca eF rfl) ((Ew (cV ab) 991 tb 9 (Ct.Oq 9).2 (h.fr (.c r0 .n))).mono ?_)
 rintro _ w ⟨rfl,h⟩
 refine⟨_,rfl,?_⟩
 refine gT rfl rfl Ct.zN<|st (fda FZ rfl)<|gT rfl rfl Ct.zN<|st (fd P4 rfl rfl)<|st (pT rfl Ct.zN rfl)<|st (mv rfl)<|gT rfl rfl Ct.Mi<|st (mv rfl)<|gT rfl rfl Ct.Mi<|cl (ca eF rfl) ((Ew (cV ab) 991 tb 9 (Ct.Oq 9).2 (h.fr (.c r0 .n))).mono ?_)
 rintro _ w ⟨rfl,h⟩
 refine⟨_,rfl,?_⟩
 refine gT rfl rfl Ct.Mi<|st (fda FZ rfl)<|gT rfl rfl Ct.Mi<|st (fd S5 rfl rfl)<|gT rfl rfl Ct.Mi<|st (bi rfl rfl rfl)<|st (pT rfl Ct.Mi rfl)<|st (mv rfl)<|gT rfl rfl Ct.Eb<|st (mv rfl)<|gT rfl rfl Ct.Eb<|cl (ca eF rfl) ((Ey ab (Ct.Oq 9).1 4 (h.fr (.c r1 .n)) (Ct.A5 9 (by decide)).zP (Ct.RL 9 (by decide))).mono ?_)
 rintro _ w ⟨qn,rfl,h⟩
 refine⟨_,rfl,?_⟩
 refine gT rfl rfl Ct.Eb<|st (fd P5 rfl rfl)<|gT rfl rfl Ct.Eb<|st (bi rfl rfl rfl)<|st (pT rfl Ct.Eb rfl)<|st (sg rfl)<|xe<|nx<|rt<|?_
 refine rr (jP results14 rfl)<|⟨by rw[Ct.P3],h.drop.drop.drop.drop⟩
end
attribute [local irreducible] Ct.fS
end Go.Q9
end
section
namespace Go.Ct
variable{g:Ga}
structure Z'(S0:St)(t:I Result)(q:Bool)(ex:Prop)(z:Nat):Prop where
 le:z<=31
 run:∀i,i<z->(alone (t.head S0).1 (t.head S0).2 i).2.ended.isSome=false
 fin:(alone (t.head S0).1 (t.head S0).2 z).2.ended.isSome=true
 rm:∀i,i<=z->Rm 101 (alone (t.head S0).1 (t.head S0).2 i).1
 low:S0.aG.length<=(alone (t.head S0).1 (t.head S0).2 z).1.aG.length
 RZ:(alone (t.head S0).1 (t.head S0).2 z).1.aG.length<=S0.aG.length+8
 quiet:q=true->z<=9/\(alone (t.head S0).1 (t.head S0).2 z).1.aG.length<=S0.aG.length+3/\(ex->z=9/\(alone (t.head S0).1 (t.head S0).2 z).1.aG.length=S0.aG.length+3)
theorem Z'.of{S0:St}{t:I Result}{q:Bool}{ex:Prop}{Q:Result->St->Prop}{n:Nat}(hf:eK S0)(hz:S0.size<=80000000000)(h:t.Al Q n 8 S0)(hn:n<=31)(hQ:q=true->∀r s',Q r s'->s'.acc<=S0.acc+9/\s'.aG.length<=S0.aG.length+3/\(ex->s'.acc=S0.acc+9/\s'.aG.length=S0.aG.length+3)):∃z,Z' S0 t q ex z:=by
 obtain⟨i,hi,hG,hr,ha⟩:=Al.head h
 obtain⟨z,hzn,hg,hrun,r,e1,e2,e3⟩:=Al.run n (8-i) _ _ ha hr
 have a1:=hG.nodes;have a2:=hG.more;have a3:=hG.size;have a4:=hG.acc
 have hz':=hg z (JV z)
 have b1:=hz'.nodes;have b2:=hz'.more
 refine⟨z,by omega,hrun,by rw[e1];rfl,λk hk=>?_,by omega,by omega,λhq=>?_⟩
 ·have c:=hg k hk
  have c3:=c.size
  exact⟨c.fit (hG.fit hf),by unfold cN;omega⟩
 ·obtain⟨d1,d2,d3⟩:=hQ hq r _ e2
  exact⟨by omega,d2,λhx=>⟨by have:=(d3 hx).1;omega,(d3 hx).2⟩⟩
def X7(s:St)(t:bC):Prop:=(rootOf s t).2=true/\(s.load (s.node (s.load (s.node (rootOf s t).1).main).2).prev).2=0/\(s.node (s.load t.root).2).kind=2
theorem M0{s:St}{i:Int}(h:(jM s i).2=true):(s.node i).kind=2/\(s.node (jM s i).1).bM=true:=by
 unfold jM at h ⊢
 cases h1:(s.node i).kind != 2 with
 |true=>rw[h1]at h;cases h
 |false=>
  rw[h1]at h
  simp only[pJ]at h ⊢
  cases h2:(s.node (xR s i)).bM with
  |false=>rw[h2]at h;cases h
  |true=>
   rw[h2]at h
   simp only[zT,pJ]at h ⊢
   refine⟨by simpa using h1,?_⟩
   cases h3:uW s i==0 with
   |true=>exact h2
   |false=>
    rw[h3]at h
    simp only[pJ]at h ⊢
    cases h4:(s.node (Bp s i)).bM with
    |false=>rw[h4]at h;cases h
    |true=>exact h4
end Go.Ct
end
section
namespace Go.Ct
variable{g:Ga}{c:Call}
def cn(k:Int)(l:List Node):Nat:=l.countP λn=>n.kind==k
structure Mk(l:List Node)(C I S L:Nat):Prop where
 nc:cn 3 l<=C
 ni:cn 2 l<=I
 ns:cn 4 l<=S
 nl:cn 6 l<=L
 nt:cn 5 l=0
 nf:cn 7 l=0
 nk:∀x∈l,0<=x.kind/\x.kind<10
theorem Lt(k:Int)(a b:List Node):cn k (a++b)=cn k a+cn k b:=List.countP_append ..
theorem Ka(k:Int)(n:Node):cn k [n]=if n.kind=k then 1 else 0:=by
 unfold cn;rw[List.countP_cons,List.countP_nil];by_cases h:n.kind=k<;>simp[h]
theorem Mk.nil:Mk [] 0 0 0 0:=⟨JV _,JV _,JV _,JV _,rfl,rfl,λn h=>by cases h⟩
theorem Mk.app{a b:List Node}{C I S L C' I' S' L':Nat}(h:Mk a C I S L)(k:Mk b C' I' S' L'):Mk (a++b) (C+C') (I+I') (S+S') (L+L'):=
 ⟨by rw[Lt];exact Nat.add_le_add h.nc k.nc,by rw[Lt];exact Nat.add_le_add h.ni k.ni,by rw[Lt];exact Nat.add_le_add h.ns k.ns,by rw[Lt];exact Nat.add_le_add h.nl k.nl,by rw[Lt,h.nt,k.nt],by rw[Lt,h.nf,k.nf],λn m=>by
  rcases List.mem_append.1 m with m|m
  ·exact h.nk n m
  ·exact k.nk n m⟩
theorem Mk.mono{l:List Node}{C I S L C' I' S' L':Nat}(h:Mk l C I S L)(hc:C<=C')(hi:I<=I')(hs:S<=S')(hl:L<=L'):Mk l C' I' S' L':=
 ⟨lK h.nc hc,lK h.ni hi,lK h.ns hs,lK h.nl hl,h.nt,h.nf,h.nk⟩
theorem mk_one{n:Node}{k:Int}(h:n.kind=k)(h2:k=2\/k=3\/k=4\/k=6):Mk [n] (if k=3 then 1 else 0) (if k=2 then 1 else 0) (if k=4 then 1 else 0) (if k=6 then 1 else 0):=by
 refine⟨?_,?_,?_,?_,?_,?_,λm hm=>?_⟩
 ·rw[Ka,h];exact JV _
 ·rw[Ka,h];exact JV _
 ·rw[Ka,h];exact JV _
 ·rw[Ka,h];exact JV _
 ·rw[Ka,h,if_neg (by omega)]
 ·rw[Ka,h,if_neg (by omega)]
 ·rw[List.mem_singleton.1 hm,h];omega
def Kq(A:List Node)(s:St)(C I S L:Nat):Prop:=∃ys,s.aG=A++ys/\Mk ys C I S L
theorem Kq.same{A:List Node}{s s':St}{C I S L:Nat}(h:Kq A s C I S L)(e:s'.aG=s.aG):Kq A s' C I S L:=by
 obtain⟨ys,h1,h2⟩:=h
 exact⟨ys,by rw[e];exact h1,h2⟩
theorem Kq.more{A:List Node}{s s':St}{C I S L C' I' S' L':Nat}{zs:List Node}(h:Kq A s C I S L)(e:s'.aG=s.aG++zs)(k:Mk zs C' I' S' L'):Kq A s' (C+C') (I+I') (S+S') (L+L'):=by
 obtain⟨ys,h1,h2⟩:=h
 exact⟨ys++zs,by rw[e,h1,Co],h2.app k⟩
theorem Kq.mono{A:List Node}{s:St}{C I S L C' I' S' L':Nat}(h:Kq A s C I S L)(hc:C<=C')(hi:I<=I')(hs:S<=S')(hl:L<=L'):Kq A s C' I' S' L':=by
 obtain⟨ys,h1,h2⟩:=h
 exact⟨ys,h1,h2.mono hc hi hs hl⟩
theorem GF{n:Node}{x:Int}(h:n.kind=2):Mk [n.stored x] 0 1 0 0:=mk_one (k:=2) (by rw[dX];exact h) (.inl rfl)
def Z0(s:St)(i:Int):Int:=rd s (s.node i).main
structure Cq(s:St)(P:Int->Prop):Prop where
 prev:∀i,P i->rd s (s.node (Z0 s i)).prev=0
 aB7:∀i,P i->(s.node (Z0 s i)).kind≠5
 next:∀i,P i->∀ix,(aB (s.node (Z0 s i)) ix).2=true->(s.node (aB (s.node (Z0 s i)) ix).1).kind=2->P (aB (s.node (Z0 s i)) ix).1
end Go.Ct
end
section
namespace Go.Ct
variable{g:Ga}{s:St}
structure LK where
 i:Int
 m:Int
 a:Int
 l:Int
abbrev Z1:=Bool×List LK×List bN×List Bool
def plL(s:St)(f:Int->List Bool->Z1):List Int->List LK->List bN->List Bool->Z1
 |[],ls,ps,bs=>(true,ls,ps,bs)
 |b::bl,ls,ps,bs=>
  bif (s.node b).kind==4 then plL s f bl ls (ps++[⟨(s.node b).key,(s.node b).value⟩]) bs
  else bif (s.node b).kind != 2 then(false,[],[],bs)
  else bif !(f b bs).1 then(false,[],[],(f b bs).2.2.2)
  else plL s f bl (ls++(f b bs).2.1) (ps++(f b bs).2.2.1) (f b bs).2.2.2
def ZF(s:St):Nat->Int->Int->List Bool->Z1
 |0,_,_,bs=>(false,[],[],bs)
 |d+1,i,a,bs=>
  bif !(jM s i).2||bs.getD i.toNat false then(false,[],[],bs)
  else bif (s.node (jM s i).1).kind==5 then(true,[⟨i,(jM s i).1,a,11-(d:Int)⟩],[⟨(s.node (jM s i).1).key,(s.node (jM s i).1).value⟩],bs.set i.toNat true)
  else bif (s.node (jM s i).1).kind==6 then(true,[⟨i,(jM s i).1,a,11-(d:Int)⟩],(s.node (jM s i).1).aF,bs.set i.toNat true)
  else plL s (λb bs=>ZF s d b i bs) (s.node (jM s i).1).aA [⟨i,(jM s i).1,a,11-(d:Int)⟩] [] (bs.set i.toNat true)
variable{d rn:Nat}{a m:Int}{bs:List Bool}{lv:Nat}
variable{f:Int->List Bool->Z1}{bl:List Int}{k:Nat}{ls:List LK}{ps:List bN}{R:Z1}
variable{l2:List LK}{p2:List bN}{b2:List Bool}
structure PlC(s:St)(ls:List LK)(y:LK):Prop where
 m:y.m=(jM s y.i).1
 ok:(jM s y.i).2=true
 on:(s.node y.m).kind=3->∀b∈(s.node y.m).aA,(s.node b).kind=2->∃z∈ls,z.i=b
theorem PlC.mono{ls ls':List LK}{y:LK}(h:PlC s ls y)(k:∀z∈ls,z∈ls'):PlC s ls' y:=
 ⟨h.m,h.ok,λh3 b hb h2=>by obtain⟨z,hz,e⟩:=h.on h3 b hb h2;exact⟨z,k z hz,e⟩⟩
def PlG(s:St)(i:Int)(ls:List LK):Prop:=(∃x l',ls=x::l'/\x.i=i)/\∀y∈ls,PlC s ls y
theorem LQ(hf:∀b bs l2 p2 b2,f b bs=(true,l2,p2,b2)->PlG s b l2):∀(bl:List Int) (ls:List LK) (ps:List bN) (bs:List Bool) {ls':List LK} {ps':List bN} {bs':List Bool},plL s f bl ls ps bs=(true,ls',ps',bs')->∃l2,ls'=ls++l2/\(∀y∈l2,PlC s l2 y)/\∀b∈bl,(s.node b).kind=2->∃z∈l2,z.i=b
 |[],ls,ps,bs,ls',ps',bs',h=>by
  cases h
  exact⟨[],(List.append_nil _).symm,λy hy=>absurd hy (by simp),λb hb=>absurd hb (by simp)⟩
 |b::bl,ls,ps,bs,ls',ps',bs',h=>by
  unfold plL at h
  cases h4:(s.node b).kind==4 with
  |true=>
   rw[h4]at h
   obtain⟨l2,e1,e2,e3⟩:=LQ hf bl _ _ _ h
   refine⟨l2,e1,e2,λb' hb' h2=>?_⟩
   rcases List.mem_cons.1 hb' with rfl|hb'
   ·exact absurd (eq_of_beq h4) (by rw[h2];decide)
   ·exact e3 b' hb' h2
  |false=>
   rw[h4]at h
   cases h2:(s.node b).kind != 2 with
   |true=>rw[h2]at h;cases h
   |false=>
    rw[h2]at h
    obtain⟨ok,l1,p1,b1⟩:Z1:=f b bs
    cases hr:f b bs with
    |mk ok R=>
     obtain⟨l1,p1,b1⟩:=R
     rw[hr]at h
     cases ok with
     |false=>cases h
     |true=>
      obtain⟨l2,e1,e2,e3⟩:=LQ hf bl _ _ _ h
      obtain⟨⟨x,l',e4,e5⟩,e6⟩:=hf b bs l1 p1 b1 hr
      refine⟨l1++l2,by rw[e1,Co],λy hy=>?_,λb' hb' hk=>?_⟩
      ·rcases List.mem_append.1 hy with hy|hy
       ·exact(e6 y hy).mono λz hz=>List.mem_append.2 (.inl hz)
       ·exact(e2 y hy).mono λz hz=>List.mem_append.2 (.inr hz)
      ·rcases List.mem_cons.1 hb' with rfl|hb'
       ·exact⟨x,List.mem_append.2 (.inl (by rw[e4];exact oD)),e5⟩
       ·obtain⟨z,hz,e⟩:=e3 b' hb' hk
        exact⟨z,List.mem_append.2 (.inr hz),e⟩
theorem t7:∀(d:Nat) (i a:Int) (bs:List Bool) (ls:List LK) (ps:List bN) (bs':List Bool),ZF s d i a bs=(true,ls,ps,bs')->PlG s i ls
 |0,i,a,bs,ls,ps,bs',h=>by cases h
 |d+1,i,a,bs,ls,ps,bs',h=>by
  unfold ZF at h
  cases hb:(jM s i).2 with
  |false=>rw[hb]at h;cases h
  |true=>
   rw[hb]at h
   cases hs:bs.getD i.toNat false with
   |true=>rw[hs]at h;cases h
   |false=>
    rw[hs]at h
    cases h5:(s.node (jM s i).1).kind==5 with
    |true=>
     rw[h5]at h
     cases h
     refine⟨⟨_,_,rfl,rfl⟩,λy hy=>?_⟩
     obtain rfl:=List.mem_singleton.1 hy
     exact⟨rfl,hb,λh3=>absurd (eq_of_beq h5) (by rw[h3];decide)⟩
    |false=>
     rw[h5]at h
     cases h6:(s.node (jM s i).1).kind==6 with
     |true=>
      rw[h6]at h
      cases h
      refine⟨⟨_,_,rfl,rfl⟩,λy hy=>?_⟩
      obtain rfl:=List.mem_singleton.1 hy
      exact⟨rfl,hb,λh3=>absurd (eq_of_beq h6) (by rw[h3];decide)⟩
     |false=>
      rw[h6]at h
      obtain⟨l2,e1,e2,e3⟩:=LQ (λb bs l2 p2 b2 hf=>t7 d b i bs l2 p2 b2 hf) _ _ _ _ h
      subst e1
      refine⟨⟨_,_,rfl,rfl⟩,λy hy=>?_⟩
      rcases List.mem_cons.1 hy with rfl|hy
      ·exact⟨rfl,hb,λ_ b hb' h2=>by obtain⟨z,hz,e⟩:=e3 b hb' h2;exact⟨z,Dk _ hz,e⟩⟩
      ·exact(e2 y hy).mono λz hz=>Dk _ hz
def XK(s:St)(t:bC):Bool×List LK×List bN:=
 bif !(rootOf s t).2||!(ZF s 12 (rootOf s t).1 0 (List.replicate (s.aG.length+3) false)).1 then(false,[],[])else((ZF s 12 (rootOf s t).1 0 (List.replicate (s.aG.length+3) false)).1,(ZF s 12 (rootOf s t).1 0 (List.replicate (s.aG.length+3) false)).2.1,(ZF s 12 (rootOf s t).1 0 (List.replicate (s.aG.length+3) false)).2.2.1)
variable{t:bC}
theorem Y2(h:(rootOf s t).2=false):XK s t=(false,[],[]):=by unfold XK;rw[h];rfl
theorem T1{ok:Bool}{ls:List LK}{ps:List bN}{bs:List Bool}{n:Nat}(h:(rootOf s t).2=true)(hn:n=s.aG.length+3)(ho:(!ok)=false)(e:ZF s 12 (rootOf s t).1 0 (List.replicate n false)=(ok,ls,ps,bs)):XK s t=(ok,ls,ps):=by subst hn;unfold XK;rw[h,e];simp only[ho];rfl
theorem Z4{ok:Bool}{ls:List LK}{ps:List bN}{bs:List Bool}{n:Nat}(h:(rootOf s t).2=true)(hn:n=s.aG.length+3)(ho:(!ok)=true)(e:ZF s 12 (rootOf s t).1 0 (List.replicate n false)=(ok,ls,ps,bs)):XK s t=(false,[],[]):=by subst hn;unfold XK;rw[h,e];simp only[ho];rfl
theorem i7(h:(XK s t).1=true):(rootOf s t).2=true/\PlG s (rootOf s t).1 (XK s t).2.1:=by
 cases hr:(rootOf s t).2 with
 |false=>rw[Y2 hr]at h;cases h
 |true=>
  cases hp:ZF s 12 (rootOf s t).1 0 (List.replicate (s.aG.length+3) false)with
  |mk ok R=>
   obtain⟨ls,ps,bs⟩:=R
   cases ok with
   |false=>rw[Z4 hr rfl rfl hp]at h;cases h
   |true=>
   rw[T1 hr rfl rfl hp]at h ⊢
   exact⟨rfl,t7 _ _ _ _ _ _ _ hp⟩
structure BS(s:St)(t:bC):Prop where
 ok:(XK s t).1=true
 pr:∀x∈(XK s t).2.1,uW s x.i=0
 kd:(s.node (s.load t.root).2).kind=2
theorem BS.q(h:BS s t):X7 s t:=by
 obtain⟨h1,⟨x,l',e,e2⟩,_⟩:=i7 h.ok
 have:=h.pr x (by rw[e];exact oD)
 rw[e2]at this
 exact⟨h1,this,h.kd⟩
theorem NR{i:Int}(h:uW s i=0)(hb:(jM s i).2=true):(jM s i).1=xR s i:=by
 obtain⟨hk,_⟩:=M0 hb
 unfold jM at hb ⊢
 rw[show ((s.node i).kind != 2)=false by rw[hk];rfl]at hb ⊢
 simp only[pJ]at hb ⊢
 cases h2:(s.node (xR s i)).bM with
 |false=>rw[h2]at hb;cases hb
 |true=>rw[h];rfl
theorem W4{n:Node}{i:Int}(h:(aB n i).2=true):(aB n i).1∈n.aA:=by
 unfold aB at h ⊢
 split at h
 ·cases h
 ·rename_i hc
  rw[if_neg hc]
  simp only[not_or,sX]at hc
  obtain⟨b1,b2⟩:=kF hc.1
  have hp:=Ij hc.2
  show n.aA.getD (Bm.aO n.aD i) 0∈n.aA
  rw[dI,fM (by omega)]
  exact wU _
theorem BS.cq(h:BS s t)(ht:∀x∈(XK s t).2.1,(s.node x.m).kind≠5):Cq s λi=>∃x∈(XK s t).2.1,x.i=i:=by
 obtain⟨h1,_,hc⟩:=i7 h.ok
 have hm:∀x∈(XK s t).2.1,x.m=Z0 s x.i:=λx hx=>((hc x hx).m).trans (NR (h.pr x hx) (hc x hx).ok)
 refine⟨?_,?_,?_⟩
 ·rintro i ⟨x,hx,rfl⟩;exact h.pr x hx
 ·rintro i ⟨x,hx,rfl⟩;rw[<- hm x hx];exact ht x hx
 ·rintro i ⟨x,hx,rfl⟩ ix hb hk
  have hC:=Ai hb
  rw[<- hm x hx]at hb hk hC ⊢
  exact(hc x hx).on hC _ (W4 hb) hk
structure aA6(S0:St)(t:I Result)(q:Bool)(z:Nat):Prop where
 le:z<=935
 run:∀i,i<z->(alone (t.head S0).1 (t.head S0).2 i).2.ended.isSome=false
 fin:(alone (t.head S0).1 (t.head S0).2 z).2.ended.isSome=true
 rm:∀i,i<=z->Rm 101 (alone (t.head S0).1 (t.head S0).2 i).1
 low:S0.aG.length<=(alone (t.head S0).1 (t.head S0).2 z).1.aG.length
 cnt:q=true->Kq S0.aG (alone (t.head S0).1 (t.head S0).2 z).1 13 12 2 1
theorem aA6.of{S0:St}{t:I Result}{q:Bool}{Q:Result->St->Prop}{n j:Nat}(hf:eK S0)(hz:S0.size<=80000000000)(h:t.Al Q n j S0)(hn:n<=935)(hj:j<=961)(hQ:q=true->∀r s',Q r s'->Kq S0.aG s' 13 12 2 1):∃z,aA6 S0 t q z:=by
 obtain⟨i,hi,hG,hr,ha⟩:=Al.head h
 obtain⟨z,hzn,hg,hrun,r,e1,e2,e3⟩:=Al.run n (j-i) _ _ ha hr
 have a1:=hG.nodes;have a2:=hG.more;have a3:=hG.size;have a4:=hG.acc
 have hz':=hg z (JV z)
 have b1:=hz'.nodes;have b2:=hz'.more
 refine⟨z,by omega,hrun,by rw[e1];rfl,λk hk=>?_,by omega,λhq=>hQ hq r _ e2⟩
 have c:=hg k hk
 have c3:=c.size
 exact⟨c.fit (hG.fit hf),by unfold cN;omega⟩
end Go.Ct
end
