/- Parts of a proof: Ayx, Wt, Fw, Cr, Ayn, Ys, Ayw. -/
import Derived.Test.YtlpbjpanggcbbaaGreatW47
import Derived.Deep.RegionHeld3
set_option linter.unusedVariables false
set_option linter.unusedSimpArgs false
set_option maxRecDepth 100000
set_option maxHeartbeats 4000000
section
namespace Go.Q9
open Go.Proofs.Tryz
open Go.E
end Go.Q9
end
section
namespace Go.Q9
open Go.Proofs.Tryz
open Go.RowKit Go.E
attribute [local irreducible] gB wpS Go.E.X XS C jU kP fin Y U F Ca jT bl rb aU bV ex ce pu sK gK bK zK gM fO dH gP nE rD
variable{B w:World}{L:List As}
theorem WV(ab:Nat)(c:Ct.Call)(s:Ct.St)(h:SH B w ((cV ab).a s::L))(hk:c.kind=8)(hs:Ct.Rm 60 s)(hky:c.key.size<=9223372036854775807)(hmk:c.aI<18446744073709551616):Calls prog 15 #[(cV ab).v,.agg (cU c.aE).toArray,.int .u64 (c.aI:Int),↑c.key,.int .u64 (c.value:Int),↑c.bF,.int .u64 (c.expect:Int)] w λe w'=>∃tb,e=.returned (.pointer (some ⟨tb,0,none⟩))/\SH B w' (eN (cV ab) 99999999 tb ((Ct.mS c Ct.FU).head s).2 0::(cV ab).a ((Ct.mS c Ct.FU).head s).1::L):=by
 refine(RC (cV ab) 99999999 c s h hs hky hmk (by decide)).mono ?_
 rintro e w' ⟨tb,s',u,hq,rfl,h⟩
 have e0:(Ct.mS c Ct.FU).head s=(s',u):=by
  unfold Ct.mS
  rw[hk,if_neg (by decide),if_pos (by decide)]
  exact hq
 rw[e0]
 exact⟨tb,rfl,h⟩
theorem JE(ab:Nat)(c:Ct.Call)(s:Ct.St)(h:SH B w ((cV ab).a s::L))(hk:c.kind=7)(hs:Ct.Rm 60 s)(hky:c.key.size<=9223372036854775807)(hmk:c.aI<18446744073709551616):Calls prog 16 #[(cV ab).v,.agg (cU c.aE).toArray,.int .u64 (c.aI:Int),↑c.key] w λe w'=>∃tb,e=.returned (.pointer (some ⟨tb,0,none⟩))/\SH B w' (eN (cV ab) 99999999 tb ((Ct.mS c Ct.FU).head s).2 0::(cV ab).a ((Ct.mS c Ct.FU).head s).1::L):=by
 refine(Sy (cV ab) 99999999 c s h hs hky hmk (by decide)).mono ?_
 rintro e w' ⟨tb,s',u,hq,rfl,h⟩
 have e0:(Ct.mS c Ct.FU).head s=(s',u):=by
  unfold Ct.mS
  rw[hk,if_pos (by decide)]
  exact hq
 rw[e0]
 exact⟨tb,rfl,h⟩
theorem Gy{ab mb tb xb:Nat}{g:Ct.Ga}{s:Ct.St}{ys:List Ct.Px}{ps:List (Nat×Nat)}{c:Ct.Call}(hL:Ct.Ub 0 g s ys)(hps:ys.map AW=ps)(hs:s.size+1000<=38000000000)(hc:Ct.kZ g c)(hm:c.aI<18446744073709551616)(hk:c.key.size<=9223372036854775807)(hok:Ct.Ok 50 (Ct.bX (Ct.bY c Ct.FU) 0 ⟨{call:=c},s⟩))
  (h:SH B w (eN (cV ab) 99999999 tb ((Ct.mS c Ct.FU).head s).2 0::(cV ab).a ((Ct.mS c Ct.FU).head s).1::XA xb mb (Ct.bX (Ct.bY c Ct.FU) 0 ⟨{call:=c},s⟩)::nR (cV ab) 400 ys::eV mb (ys.map Af)::L)):
  ∃g' s' ys',Ct.Ub 0 g' s' ys'/\ys'.map AW=ps++[(tb,xb)]/\Ct.Ge g g'/\s'.size<=s.size+120/\SH B w (cR mb s'::(cV ab).a s'::nR (cV ab) 400 ys'::eV mb (ys'.map Af)::L):=by
 obtain⟨g',u,h1,hge,hz,hL'⟩:=hL.add (tb:=tb) (xb:=xb) hs hc hm hk hok
 rw[h1]at h
 have h:=SH.n0 (m:=400) (by decide) h
 have h:=ZR (xb:=xb) (e:=(Ct.bX (Ct.bY c Ct.FU) 0 ⟨{call:=c},s⟩).e) (h.fr (.c r0 (.c r2 .n)))
 have h:=SH.VL (h.fr (.c r2 (.c r2 .n)))
 refine⟨g',_,_,hL',by rw[Ft,hps];rfl,hge,hz,?_⟩
 rw[Ft]
 exact h.fr (.c r1 (.c r2 (.c r1 .n)))
end Go.Q9
end
section
namespace Go.Ct
def T1:bC:=(hJ {}).2
def Ty:Nat->St×I Result
 |0=>(Qg T1 1001).head (hJ {}).1
 |i+1=>(Ty i).2.step (Ty i).1
theorem P6:∀i,i<9->(Ty i).2.ended.isSome=false:=by decide+kernel
theorem P7:(Ty 9).2.ended.isSome=true:=by decide+kernel
theorem vD:((Ty 9).2.ended.getD {}).found=true:=by decide+kernel
theorem If:((Ty 9).2.ended.getD {}).aE.readOnly=true:=by decide+kernel
theorem xL:decide (((Ty 9).2.ended.getD {}).aE.root>3)=true:=by decide+kernel
theorem R6:(((Ty 9).1.node 4).gen==1)=true:=by decide+kernel
set_option maxRecDepth 100000
theorem PD:∀i,i<10->∀n∈(Ty i).1.aG,n.Fit (Ty i).1.aG.length:=by decide+kernel
theorem XZ:∀i,i<10->(Ty i).1.size<=1000:=by decide+kernel
theorem XP(i:Nat)(h:i<10):Rm 101 (Ty i).1:=⟨PD i h,by have:=XZ i h;unfold cN;omega⟩
theorem P8:∀n∈(hJ {}).1.aG,n.Fit (hJ {}).1.aG.length:=by decide+kernel
theorem S1:Rm 60 (hJ {}).1:=⟨P8,by decide⟩
theorem S5:Rm 60 {}:=⟨(λn h=>by cases h),by decide⟩
end Go.Ct
end
section
namespace Go.Q9
open Go.Proofs.Tryz
open Go.RowKit Go.E
variable{B w w':World}{L:List As}
theorem MC{P:Program}{c:Code}{Q:Exit->Act->World->Prop}{a:Act}{w W:World}(h:w=W)(hc:c.wp P Q a W):c.wp P Q a w:=h▸hc
theorem XB:(prog.info? 38).map (·.size)=some 2:=by kernel_rfl
theorem Ww(p:Addr)(w:World):
  CallsD prog 135 #[.pointer (some p)] .returning w λe u' w'=>e=.returned (.tuple #[])/\u'=.returning/\w'=w:=by
 refine callsD_of_wpS func135 rfl λc₀ cs hu=>?_
 apply wpS_seq
 apply wpS_region
 simp[wpOpsS,go_sem,recoverD,hu,ntmps135,Exit.thenS]
 refine wpS_cond (t:=false) (by simp[Act.eval,Array.replicate]) ?_
 refine wpS_of_wp (wp_skip ?_)
 cases c₀
 simp_all [bodyPostS,results,results135]
theorem S6{b:Nat}{x y x' y':Value}{t:TypeId}{L':List As}(h:SH B w L)(u:sJ L L' (bl b [x,y] t) (bl b [x',y'] t)):SH B ((w.setCell ⟨b,0,none⟩ x').setCell ⟨b,1,none⟩ y') L':=
 h.step u λO R hA=>⟨O,R,⟨by
  have h1:=heap_setCell_same w b 0 _ t x' hA.1
  have h2:=heap_setCell_same (w.setCell ⟨b,0,none⟩ x') b 1 _ t y' h1
  rw[h2];rfl,hA.2⟩,⟨⟨rfl,rfl,rfl⟩,by simp[World.setCell],λk hk hn=>by
   rw[heap_setCell_other _ _ _ _ (λe=>hn ((hA.2.1 k).2 e)),heap_setCell_other _ _ _ _ (λe=>hn ((hA.2.1 k).2 e))]⟩,λk hk=>.inl hk,λk hk=>.inr (.inl hk)⟩
theorem P3{fn:Func}{p:Tmp}{tmps:Array Value}{b:Nat}{t:Ct.bC}{a:As}(hr:fn.results=#[.cell p 38])(hp:tmps.getD p undef=.pointer (some ⟨b,0,none⟩))(h:SH B w (bl b (cU t) 38::a::L)):
  ∃v,(results fn tmps).run prog w=.ok v w/\(Ending.returned v=.returned (.agg (cU t).toArray)/\SH B w (a::L)):=by
 exact⟨.agg (cU t).toArray,results_cell_row hr _ _ b 38 _ (0,0) _ hp (h.b a0) underlying38 rfl XB,rfl,h.drop⟩
theorem VI(S:dN)(hM:∀w,Rl S.t S.x S.ab w)(s:Ct.St)(h:SH B w (S.a s::L))(hs:Ct.Rm 60 s):
  Calls prog 79 #[S.v] w λe w'=>e=.returned (.agg (cU (Ct.hJ s).2).toArray)/\SH B w' (S.a (Ct.hJ s).1::L):=by
 have hmA:∀w,(method 397 S.t S.x "Alloc").run prog w=.ok (335,QQ S.ab) w:=fun w=>(hM w).alloc
 have hmC:∀w,(method 397 S.t S.x "NewCell").run prog w=.ok (338,QQ S.ab) w:=fun w=>(hM w).cell
 have hnA:=S.na
 have h1:SH B (w.alloc (.cells [.int .i64 0,↑false].toArray 38)) (bl w.heap.size [.int .i64 0,↑false] 38::S.a s::L):=h.alloc
 obtain⟨W0,hW0⟩:∃W,w.alloc (.cells [.int .i64 0,↑false].toArray 38)=W:=⟨_,rfl⟩
 rw[hW0]at h1
 have HW:=Lib.hid hW0
 have hmf:∀(fn:Fn) (first cap:Array Value) (w:World),(Instr.makeFunc fn first cap).run prog w=.ok (.func fn first cap) w:=λ_ _ _ _=>rfl
 have R1:=Lib.hid h1.drew
 have HS:=Lib.hid hs
 clear h h1 hW0 hM hs
 unfold dN.v
 go_enter_defers func79,ntmps79
 go_wp2_with fail
 refine MC HW.out ?_
 refine wp_region_noPanic ?_
 go_region_with (first
  |(go_at_call 136;refine(Jg R1.out).mono ?_;rintro e w2 ⟨rfl,h2⟩;have R2:=Lib.hid h2;clear h2)
  |(go_at_call 335;refine(cQ S s {kind:=3} {} 0 (SH.eE _ rfl rfl (R2.out.fr (.c r1 .n))) HS.out (Ct.fY _)).mono ?_;rintro e w3 ⟨rfl,h3⟩;have R3:=Lib.hid h3;clear h3))
 all_goals
  refine NoPanic.normal ?_
  go_wp2_with fail
  refine(Dj S (s.alloc {kind:=3} 0).1 (s.alloc {kind:=3} 0).2 R3.out ((HS.out.alloc (Ct.fY _) 0).less (by decide))).mono ?_
  rintro e w4 ⟨rfl,h4⟩
  have H4:=Lib.hid ((HS.out.alloc (Ct.fY _) 0).gen.alloc (Ct.bG _ 2 (s.alloc {kind:=3} 0).1.bS.2 0 0 0) (s.alloc {kind:=3} 0).2)
  have R4:=Lib.hid h4
  clear h4
  go_wp2_with fail
  refine(vI (j:=57) S _ _ R4.out H4.out).mono ?_
  rintro e w5 ⟨rfl,h5⟩
  have H5:=Lib.hid h5
  clear h5
  have he:∃r,r=((((s.alloc {kind:=3} 0).1.bS.1.alloc {kind:=2,gen:=(s.alloc {kind:=3} 0).1.bS.2} (s.alloc {kind:=3} 0).2).1.aV ((s.alloc {kind:=3} 0).1.bS.1.alloc {kind:=2,gen:=(s.alloc {kind:=3} 0).1.bS.2} (s.alloc {kind:=3} 0).2).2).2):=⟨_,rfl⟩
  obtain⟨r,hr⟩:=he
  rw[<- hr]
  have HR:=Lib.hid hr
  clear hr
  have hb:=H5.out.b a1
  have d0:=cell_of_row w5 w.heap.size 0 _ _ _ hb
  have d1:=cell_of_row w5 w.heap.size 1 _ _ _ hb
  have f0:w5.frozen? ⟨w.heap.size,0,none⟩=false:=by simp[World.frozen?,hb]
  have f1:w5.frozen? ⟨w.heap.size,1,none⟩=false:=by simp[World.frozen?,hb]
  simp only[List.getElem?_toArray,fM,bD]at d0 d1
  clear hb
  go_wp2_with fail
  refine leaves_cons (f:=135) (args:=#[↑w.heap.size]) (by simp) (by simp[go_sem]) ?_
  refine(Ww ⟨w.heap.size,0,none⟩ _).mono ?_
  rintro e u' w'' ⟨rfl,rfl,rfl⟩
  have h6:=(S6 (x':=.int .i64 r) (y':=.bool false) H5.out u1).fr (.c r1 .n)
  rw[HR.out]at h6 ⊢
  exact P3 (b:=w.heap.size) (t:=(Ct.hJ s).2) results79 rfl h6
end Go.Q9
end
section
namespace Go.Q9
open Go.Proofs.Tryz
open Go.E
theorem eq_38:WW prog 38=some [.i .i64,.b]:=by kernel_rfl
theorem R5:fv prog 38 0=some (0,1,false):=by kernel_rfl
theorem R7:fv prog 38 1=some (1,1,false):=by kernel_rfl
theorem PX:fv prog 46 6=some (6,2,true):=by kernel_rfl
end Go.Q9
end
section
namespace Go.Q9
open Go.Proofs.Tryz
open Go.RowKit Go.E
attribute [local irreducible] gB wpS Go.E.X XS C jU kP fin Y U F Ca jT bl rb aU bV ex ce pu sK gK bK zK gM fO dH gP nE rD
variable{B w:World}{L:List As}
theorem GR(ab:Nat)(s:Ct.St)(h:SH B w ((cV ab).a s::L))(hs:Ct.Rm 60 s):
  Calls prog 32 #[(cV ab).v] w λe w'=>e=.returned (.agg (cU (Ct.hJ s).2).toArray)/\SH B w' ((cV ab).a (Ct.hJ s).1::L):=by
 refine bZ func32 ntmps32 h λw h=>?_
 refine jA h λb1 w h=>?_
 refine cl (ca eF rfl) ((VI (cV ab) (AB ab) s (h.fr (.c r1 .n)) hs).mono ?_)
 rintro _ w ⟨rfl,h⟩
 refine⟨_,rfl,?_⟩
 refine sf (so h rfl rfl rfl Ec rfl (.r (.r .d)) u1)<|?_
 rintro _ w h
 refine xe<|nx<|rt<|?_
 refine go h λw h=>?_
 exact rr (bP rfl rfl (h.b a1) Row.h)<|⟨rfl,h.to⟩
theorem WD(ab:Nat)(s:Ct.St)(h:SH B w (wW ab s::L))(hs:Ct.Rm 60 s):Calls prog 32 #[(cV ab).v] w λe w'=>e=.returned (.agg (cU (Ct.hJ s).2).toArray)/\SH B w' (wW ab (Ct.hJ s).1::L):=by
 refine(GR ab s (LX h) hs).mono ?_
 rintro e w' ⟨rfl,h⟩
 exact⟨rfl,VB h⟩
variable{B w:World}{L:List As}
theorem l8(h:SH B w (L)):
  Calls prog 31 #[] w λe w'=>∃ab,e=.returned (.pointer (some ⟨ab,0,none⟩))/\SH B w' (wW ab {}::L):=by
 refine bZ func31 ntmps31 h λw h=>?_
 refine jX h λb1 w h=>?_
 refine rz ?_
 have h:=h
 have h:=SH.nil 90 14 (SH.nil 39 1 (SH.LP h))
 exact⟨b1,rfl,SH.ai (b:=b1) (s:={}) ⟨none,0,none,0,[]⟩ rfl h.to⟩
theorem TU(ab:Nat)(h:SH B w (wW ab (Ct.hJ {}).1::L)):Calls prog 29 #[(cV ab).v,.agg (cU Ct.T1).toArray] w λe w'=>∃tb,e=.returned (.pointer (some ⟨tb,0,none⟩))/\SH B w' (eN (cV ab) 1000 tb (Ct.Ty 0).2 0::(cV ab).a (Ct.Ty 0).1::L):=by
 refine(Ep (cV ab) 1000 Ct.T1 (Ct.hJ {}).1 (LX h) Ct.S1).mono ?_
 rintro e w' ⟨tb,s',u,hq,rfl,h⟩
 have e0:Ct.Ty 0=(s',u):=hq
 rw[e0]
 exact⟨tb,rfl,h⟩
theorem S7(ab tb:Nat)(h:SH B w (eN (cV ab) 1000 tb (Ct.Ty 0).2 0::(cV ab).a (Ct.Ty 0).1::L)):Calls prog 33 #[↑tb,.int .i64 20] w λe w'=>e=.returned (.int .i64 9)/\SH B w' (eN (cV ab) 991 tb (Ct.Ty 9).2 9::wW ab (Ct.Ty 9).1::L):=by
 refine(OV (cV ab) (AB ab) 1000 tb 0 9 20 Ct.Ty h (λi=>rfl) Ct.P6 Ct.P7 (by decide) (by decide) (λi hi=>Ct.XP i (by omega)) (by decide) (by decide)).mono ?_
 rintro e w' ⟨rfl,h⟩
 exact⟨rfl,(VB (h.fr (.c r1 .n))).fr (.c r1 .n)⟩
theorem K3(t:Ct.bC):Cn (cU t) (cU t)=true:=by simp[Cn,WN,cU]
theorem AR:Cn (cU Ct.T1) [.int .i64 3,↑false]=true:=by
 rw[show Ct.T1={root:=3}from rfl];exact K3 _
section
attribute [local semireducible] gB wpS Go.E.X XS C jU kP fin Y U F Ca jT bl rb aU bV ex ce pu sK gK bK zK gM fO dH gP nE rD
attribute [local irreducible] gB wpS
variable{B w:World}{L:List As}
theorem NU(h:SH B w (L)):
  Calls prog 12 #[] w λe w'=>e=.returned ↑true/\SH B w' L:=by
 refine Ea (args:=[]) func12 rfl ntmps12 rfl ?_
 refine sq<|rg<|st (sg rfl)<|xe<|nx<|sq<|rg<|cl (ca eF rfl) ((l8 (h.fr .n)).mono ?_)
 rintro _ w ⟨ab,rfl,h⟩
 refine⟨_,rfl,?_⟩
 refine st (sg rfl)<|xe<|nx<|sq<|sq<|rg<|st (mv rfl)<|st (i4 Oq rfl rfl)<|xe<|nx<|cF rfl<|sk<|nx<|sq<|rg<|st (mv rfl)<|st (mi Oq rfl rfl)<|cl (ca eF rfl) ((WD ab ({}:Ct.St) (h.fr (.c r0 .n)) Ct.S5).mono ?_)
 rintro _ w ⟨rfl,h⟩
 refine⟨_,rfl,?_⟩
 refine sf (al h e9)<|?_
 rintro _ w ⟨b1,rfl,h⟩
 refine sf (so h rfl rfl rfl Ec rfl (.r (.r .d)) u0)<|?_
 rintro _ w h
 refine xe<|nx<|sq<|rg<|st (mv rfl)<|st (mi Oq rfl rfl)<|st (gJ rfl (dK (h.b a0)) Hc)<|cl (ca eF rfl) ((TU ab (h.fr (.c r1 .n))).mono ?_)
 rintro _ w ⟨tb,rfl,h⟩
 refine⟨_,rfl,?_⟩
 refine st (sg rfl)<|xe<|nx<|sq<|rg<|st (gJ rfl (dK (h.b a2)) Hc)<|st (bd [.int .i64 3,↑false] j1 rfl (by kernel_rfl))<|st (n5 eq_38 rfl rfl rfl rfl)<|st (mv rfl)<|gT rfl rfl AR<|st (mv rfl)<|gT rfl rfl AR<|st (T7 ME rfl rfl)<|st (pT rfl AR rfl)<|st (mv rfl)<|gT rfl rfl rfl<|st (mv rfl)<|gT rfl rfl rfl<|cl (ca eF rfl) ((S7 ab tb (h.fr (.c r0 (.c r0 .n)))).mono ?_)
 rintro _ w ⟨rfl,h⟩
 refine⟨_,rfl,?_⟩
 refine gT rfl rfl rfl<|st (bi rfl rfl rfl)<|st (pT rfl rfl rfl)<|st (mv rfl)<|gT rfl rfl rfl<|st (mv rfl)<|gT rfl rfl rfl<|cl (ca eF rfl) ((Ew (cV ab) 991 tb 9 (Ct.Ty 9).2 (h.fr (.c r0 .n))).mono ?_)
 rintro _ w ⟨rfl,h⟩
 refine⟨_,rfl,?_⟩
 refine gT rfl rfl rfl<|st (fd O8 rfl rfl)<|st (pT rfl rfl rfl)<|st (mv rfl)<|gT rfl rfl Ct.vD<|st (mv rfl)<|gT rfl rfl Ct.vD<|cl (ca eF rfl) ((Ew (cV ab) 991 tb 9 (Ct.Ty 9).2 (h.fr (.c r0 .n))).mono ?_)
 rintro _ w ⟨rfl,h⟩
 refine⟨_,rfl,?_⟩
 refine gT rfl rfl Ct.vD<|st (T6 PX rfl)<|gT rfl rfl Ct.vD<|st (fd R7 rfl rfl)<|st (pT rfl Ct.vD rfl)<|st (mv rfl)<|gT rfl rfl Ct.If<|st (mv rfl)<|gT rfl rfl Ct.If<|cl (ca eF rfl) ((Ew (cV ab) 991 tb 9 (Ct.Ty 9).2 (h.fr (.c r0 .n))).mono ?_)
 rintro _ w ⟨rfl,h⟩
 refine⟨_,rfl,?_⟩
 refine gT rfl rfl Ct.If<|st (T6 PX rfl)<|gT rfl rfl Ct.If<|st (fd R5 rfl rfl)<|gT rfl rfl Ct.If<|st (bi rfl rfl rfl)<|st (pT rfl Ct.If rfl)<|st (mv rfl)<|gT rfl rfl Ct.xL<|st (mv rfl)<|gT rfl rfl Ct.xL<|cl (ca eF rfl) ((Cv ab (Ct.Ty 9).1 4 (h.fr (.c r1 .n)) (Ct.XP 9 (by decide)).zP (Ct.PD 9 (by decide))).mono ?_)
 rintro _ w ⟨qn,rfl,h⟩
 refine⟨_,rfl,?_⟩
 refine gT rfl rfl Ct.xL<|st (fd P1 rfl rfl)<|gT rfl rfl Ct.xL<|st (bi rfl rfl rfl)<|st (pT rfl Ct.xL rfl)<|st (sg rfl)<|xe<|nx<|rt<|?_
 refine rr (jP results12 rfl)<|⟨by rw[Ct.R6],h.drop.drop.drop.drop⟩
end
attribute [local irreducible] Ct.hJ
end Go.Q9
end
section
namespace Go.Q9
open Go.Proofs.Tryz
open Go.E
theorem YT:KY prog 138=some ([.nilIface,.int .i64 0,↑false,.string .empty,.int .u64 0,↑false,.int .u64 0,.int .i64 0,.slice none 0 0],[(0,3),(3,1),(4,1),(5,1),(6,1),(7,1),(8,1)]):=by kernel_rfl
end Go.Q9
end
