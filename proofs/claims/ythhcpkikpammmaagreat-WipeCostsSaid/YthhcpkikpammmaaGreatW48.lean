/- Parts of a proof: Azp, Qw. -/
import Derived.Test.YthhcpkikpammmaaGreatW47
set_option linter.unusedVariables false
set_option linter.unusedSimpArgs false
set_option maxRecDepth 100000
set_option maxHeartbeats 4000000
section
namespace Go.Q9
open Go.Proofs.Tryz
open Go.E
end Go.Q9
end
section
namespace Go.Q9
open Go.Proofs.Tryz
open Go.RowKit Go.E
attribute [local irreducible] gB wpS
variable{B w:World}{L:List As}
theorem FZ(ab:Nat)(s:Ct.St)(h:SH B w (wW ab s::L))(hr:s.size<=100000000000):
  Calls prog 13 #[↑ab] w λe w'=>e=.returned (.tuple #[.int .i64 ((2+s.aG.length:Nat):Int),↑(s.cells.length:Int),↑(s.acc:Int)])/\SH B w' (wW ab s::L):=by
 obtain⟨⟨pn,cn,pc,cc,zs⟩,hz0,h⟩:=h.ao
 have h:SH B w (bl ab ([.slice pn zs.length cn,.slice pc s.cells.length cc,↑(s.gen:Int),↑(s.acc:Int)]) 107::aU 68 14 (.slice pn zs.length cn) zs.length (zs.flatMap cB)::aU 36 1 (.slice pc s.cells.length cc) s.cells.length (s.cells.map (Value.int .i64))::bE zs::L):=h
 have hzs:zs.map Prod.fst=s.aG:=hz0
 clear hz0
 have hz:zs.length=s.aG.length:=by rw[<- hzs,zE]
 have hrm:s.aG.length+s.cells.length+s.gen+s.acc<=100000000000:=hr
 refine Ea (args:=[_]) func13 rfl ntmps13 rfl ?_
 refine sq<|rg<|st (sg rfl)<|st (sg rfl)<|st (sg rfl)<|xe<|nx<|sq<|dZ [1,5,7,9,11,13,15,17,19,21,2,22,24,26] (by kernel_rfl) h (.c r0 .n) λw h=>tk (λW H=>mv rfl)<|tk (λW H=>mv rfl)<|tk (λW H=>nc rfl rfl)<|tk (λW H=>fa S6 rfl)<|tk (λW H=>ld kF rfl (H.c a0 rfl))<|tk (λW H=>ln hB rfl rfl)<|tk (λW H=>mv rfl)<|tk (λW H=>nc rfl rfl)<|tk (λW H=>fa S4 rfl)<|tk (λW H=>ld jE rfl (H.c a0 rfl))<|cs (ca eF rfl) ((yS ab _ _ _ _ _ _ (h.fr (.c r0 .n)) (by omega)).mono ?_)
 rintro _ w ⟨rfl,h⟩
 refine⟨_,rfl,h.hs (.c r0 .n),?_⟩
 refine ef (sg rfl) (h.hs (.c r0 .n))<|ef (sg rfl) (h.hs (.c r0 .n))<|ef (sg rfl) (h.hs (.c r0 .n))<|xz<|nx<|rt<|?_
 refine rr (l8 results13 rfl rfl rfl)<|⟨by rw[<- hzs,zE],(SH.ai ⟨_,_,_,_,_⟩ hzs h)⟩
theorem Bs(ab:Nat)(s:Ct.St)(h:SH B w ((cV ab).a s::L))(hr:s.size<=100000000000):
  Calls prog 13 #[↑ab] w λe w'=>e=.returned (.tuple #[.int .i64 ((2+s.aG.length:Nat):Int),↑(s.cells.length:Int),↑(s.acc:Int)])/\SH B w' ((cV ab).a s::L):=
 (FZ ab s (SH.so (S:=cV ab) h) hr).mono λe w' h=>⟨h.1,SH.si (S:=cV ab) h.2⟩
theorem R5(ab:Nat)(c:Ct.Call)(s:Ct.St)(h:SH B w (wW ab s::L))(hk:c.kind=12)(hs:Ct.Rm 60 s):Calls prog 11 #[(cV ab).v,.agg (cU c.aE).toArray] w λe w'=>∃tb,e=.returned (.pointer (some ⟨tb,0,none⟩))/\SH B w' (kU (cV ab) 99999999 tb ((Ct.mS c Ct.FU).head s).2 0::(cV ab).a ((Ct.mS c Ct.FU).head s).1::L):=by
 refine(Ep (cV ab) 99999999 c.aE s (LX h) hs).mono ?_
 rintro e w' ⟨tb,s',u,hq,rfl,h⟩
 have e0:(Ct.mS c Ct.FU).head s=(s',u):=by rw[Ct.Xs hk];exact hq
 rw[e0]
 exact⟨tb,rfl,h⟩
theorem VJ(ab tb z:Nat)(s:Ct.St)(t:Ct.I Ct.Result){q:Bool}{ex:Prop}(hR:Ct.Ul s t q ex z)(h:SH B w (kU (cV ab) 99999999 tb (t.head s).2 0::(cV ab).a (t.head s).1::L)):Calls prog 12 #[↑tb,.int .i64 65] w λe w'=>e=.returned ↑(z:Int)/\SH B w' (kU (cV ab) (99999999-z) tb (Ct.alone (t.head s).1 (t.head s).2 z).2 (0+z)::(cV ab).a (Ct.alone (t.head s).1 (t.head s).2 z).1::L):=
 OV (cV ab) (AB ab) 99999999 tb 0 z 65 (Ct.alone (t.head s).1 (t.head s).2) h (λi=>rfl) hR.run hR.fin (by have:=hR.le;omega) (by have:=hR.le;omega) (λi hi=>hR.rm i (by omega)) (by have:=hR.le;omega) (by decide)
theorem BS(l0:List Int)(p0:Option Addr)(c0:Nat)(l1:List Int)(p1:Option Addr)(c1:Nat)(h:SH B w (bV 1 (.slice p0 l0.length c0) l0.length (l0.map (Value.int .i64))::bV 1 (.slice p1 l1.length c1) l1.length (l1.map (Value.int .i64))::L)):
  Calls prog 3 #[.slice p0 l0.length c0,.slice p1 l1.length c1] w λe w'=>e=.returned ↑true/\SH B w' L:=by
 refine Ea (args:=[_,_]) func3 rfl ntmps3 rfl ?_
 refine sq<|rg<|st (sg rfl)<|xe<|nx<|sq<|rg<|st (mv rfl)<|cl (ca eF rfl) ((Zz l0 p0 c0 (h.fr (.c r0 .n))).mono ?_)
 rintro _ w ⟨b,mb,aI,g,s,ts,zs,hmk,hW,rfl,h⟩
 have hsz:s.size<=37000000000:=by have:=hW.size;omega
 refine⟨_,rfl,?_⟩
 refine st (sg rfl)<|xe<|nx<|sq<|?_
 have h:=h.fr (.c r0 .n)
 obtain⟨⟨twp,twc,xwp,xwc⟩,h⟩:=h.wo
 have h:SH B w (bl b ([↑mb,.int .u64 (aI:Int),.slice twp ts.length twc,.slice xwp zs.length xwc]) 32::aU 35 2 (.slice twp ts.length twc) ts.length (ts.flatMap cU)::aU 77 1 (.slice xwp zs.length xwc) zs.length (zs.flatMap Ii)::eV mb zs::cR mb s::bV 1 (.slice p1 l1.length c1) l1.length (l1.map (Value.int .i64))::L):=h
 refine rg<|st (mv rfl)<|st (nc rfl rfl)<|st (fa tE rfl)<|st (ld pX rfl (h.c a0 rfl))<|cl (ca eF rfl) ((CN mb s (h.fr (.c r4 .n)) (by omega) (Ct.IE hW.gw hW.PI) (lS hW.fit (by omega))).mono ?_)
 rintro _ w ⟨ab,rfl,h⟩
 obtain⟨hl0,hs0⟩:=hW.M7
 refine⟨_,rfl,?_⟩
 refine st (sg rfl)<|xe<|nx<|sq<|sq<|rg<|st (mv rfl)<|st (i4 Fp rfl rfl)<|xe<|nx<|cF rfl<|sk<|nx<|sq<|?_
 have h:=h.fr (.c r2 (.c r2 (.c r2 .n)))
 have h:SH B w (nS b mb aI ts zs::wW ab {s with acc:=0}::cR mb {s with acc:=0}::eV mb zs::bV 1 (.slice p1 l1.length c1) l1.length (l1.map (Value.int .i64))::L):=SH.wi ⟨twp,twc,xwp,xwc⟩ h
 refine rg<|st (mv rfl)<|st (mv rfl)<|cl (ca eF rfl) ((NS l1 p1 c1 (h.fr (.c r4 .n))).mono ?_)
 rintro _ w ⟨tpb,rfl,h⟩
 refine⟨_,rfl,?_⟩
 refine cl (ca eF rfl) ((wN b mb tpb aI ts zs l1 12 (h.fr (.c r1 (.c r0 .n))) hW.some hW.Qr (by decide) (by decide) hW.first).mono ?_)
 rintro _ w ⟨c,hck,hcm,hcky,hct,hcw,rfl,h⟩
 have hcok:Ct.kZ g c:=hW.Gz (by rw[hck];decide) (by rw[hck];decide) hct hcw
 have hcm2:c.aI<18446744073709551616:=by rw[hcm];exact hmk
 have hcky2:c.key.size<=9223372036854775807:=by omega
 have hst:=Ct.gW (c:=c) hl0.fit (by unfold Ct.room;omega)
 refine⟨_,rfl,?_⟩
 refine sf (al h Eb)<|?_
 rintro _ w ⟨b1,rfl,h⟩
 refine sf (so h rfl rfl rfl xI rfl (.r (.r (.r (.r (.r (.r (.r (.r (.r (.r (.r (.r (.r (.r (.r (.r (.r (.r (.r (.r (.r (.r (.r (.r (.r .d))))))))))))))))))))))))) u0)<|?_
 rintro _ w h
 refine xe<|nx<|sq<|?_
 have h:=h.fr (.c r1 .n)
 obtain⟨⟨twp,twc,xwp,xwc⟩,h⟩:=h.wo
 have h:SH B w (bl b ([↑mb,.int .u64 (aI:Int),.slice twp ts.length twc,.slice xwp zs.length xwc]) 32::aU 35 2 (.slice twp ts.length twc) ts.length (ts.flatMap cU)::aU 77 1 (.slice xwp zs.length xwc) zs.length (zs.flatMap Ii)::bl b1 ([↑c.kind,↑c.aE.root,↑c.aE.readOnly,↑c.a,↑c.b,↑c.n,↑c.index,.int .u64 (c.hash:Int),.int .u64 (c.aI:Int),↑c.key,.int .u64 (c.value:Int),.int .u64 (c.expect:Int),↑c.bF,↑c.only,↑c.walk.started,.slice none 0 0,.slice none 0 0,↑c.answer.err,↑c.answer.found,.int .u64 (c.answer.value:Int),↑c.answer.key,↑c.answer.count,↑c.answer.ref,↑c.answer.aE.root,↑c.answer.aE.readOnly]) 45::gQ tpb l1::wW ab {s with acc:=0}::cR mb {s with acc:=0}::eV mb zs::L):=h
 have h:=h.fr (.c r6 .n)
 obtain⟨⟨pn,cn,pc,cc,ys⟩,hz0,h⟩:=h.mo
 have h:SH B w (bl mb ([.slice pn ys.length cn,.slice pc ({s with acc:=0}:Ct.St).cells.length cc,.int .i64 ((({s with acc:=0}:Ct.St).gen:Nat):Int),.int .i64 ((({s with acc:=0}:Ct.St).acc:Nat):Int)]) 55::aU 68 14 (.slice pn ys.length cn) ys.length (ys.flatMap cB)::aU 36 1 (.slice pc ({s with acc:=0}:Ct.St).cells.length cc) ({s with acc:=0}:Ct.St).cells.length (({s with acc:=0}:Ct.St).cells.map (Value.int .i64))::bE ys::bl b ([↑mb,.int .u64 (aI:Int),.slice twp ts.length twc,.slice xwp zs.length xwc]) 32::aU 35 2 (.slice twp ts.length twc) ts.length (ts.flatMap cU)::aU 77 1 (.slice xwp zs.length xwc) zs.length (zs.flatMap Ii)::bl b1 ([↑c.kind,↑c.aE.root,↑c.aE.readOnly,↑c.a,↑c.b,↑c.n,↑c.index,.int .u64 (c.hash:Int),.int .u64 (c.aI:Int),↑c.key,.int .u64 (c.value:Int),.int .u64 (c.expect:Int),↑c.bF,↑c.only,↑c.walk.started,.slice none 0 0,.slice none 0 0,↑c.answer.err,↑c.answer.found,.int .u64 (c.answer.value:Int),↑c.answer.key,↑c.answer.count,↑c.answer.ref,↑c.answer.aE.root,↑c.answer.aE.readOnly]) 45::gQ tpb l1::wW ab {s with acc:=0}::eV mb zs::L):=h
 have hys:ys.map Prod.fst=aW ({s with acc:=0}:Ct.St):=hz0
 clear hz0
 have hyl:=iC hys
 have hsm:({s with acc:=0}:Ct.St).size<=740000:=DM (by unfold Ct.St.size;dsimp only;omega) (show s.size<=740000 from by have h1:=hW.small;unfold Ct.Yd at h1;omega)
 have hTw:Ct.Tw g ({s with acc:=0}:Ct.St):=⟨hW.gw,hW.PI.acc 0⟩
 have hyz:ys.length<=999999:=by rw[hyl];have h1:=hsm;unfold Ct.St.size at h1;omega
 refine dZ [1,3,5,7,9,11,13,15,17,18,20] (by kernel_rfl) h (.c r4 (.c r0 (.c r5 .n))) λw h=>tk (λW H=>mv rfl)<|tk (λW H=>nc rfl rfl)<|tk (λW H=>fa tE rfl)<|tk (λW H=>ld pX rfl (H.c a0 rfl))<|tk (λW H=>nc rfl rfl)<|tk (λW H=>fa tL rfl)<|tk (λW H=>gJ (cs:=[.slice pn ys.length cn,.slice pc ({s with acc:=0}:Ct.St).cells.length cc,.int .i64 ((({s with acc:=0}:Ct.St).gen:Nat):Int)]) rfl (lG (H.b a1) 0 rfl) iO)<|tk (λW H=>fa nR rfl)<|tk (λW H=>gJ (cs:=[↑c.aE.root,↑c.aE.readOnly]) rfl (lG (H.b a2) 1 rfl) oG)<|cs (ca eF rfl) ((Il ({s with acc:=0}:Ct.St) ys pn pc cn cc c.aE (h.fr (.c r1 (.c r1 (.c r1 .n)))) hys (by omega) (Ct.IE hW.gw (hW.PI.acc 0)) (lS hl0.fit (by omega)) (λr hk=>Ct.T0 hTw r hk) (λr=>(Ct.Gl hl0.fit hsm r).1) (λr=>(Ct.Gl hl0.fit hsm r).2) hyz).mono ?_)
 rintro _ w ⟨q,hq,rfl,h⟩
 obtain⟨z,hR⟩:=Ct.VM hTw hcok hck hl0.fit (by omega) hq
 have hR1:=hR.le
 have hR2:=hR.low
 have hR3:=hR.RZ
 refine⟨_,rfl,h.hs (.c r4 (.c r3 (.c r5 .n))),?_⟩
 refine ef (sg rfl) (h.hs (.c r4 (.c r3 (.c r5 .n))))<|xz<|nx<|sq<|rg<|st (mv rfl)<|st (mi Fp rfl rfl)<|st (fa nR rfl)<|st (gJ (cs:=[↑c.aE.root,↑c.aE.readOnly]) rfl (lG (h.b a7) 1 rfl) oG)<|cl (ca eF rfl) ((R5 ab c ({s with acc:=0}:Ct.St) (h.fr (.c r9 .n)) hck ⟨hl0.fit,by unfold Ct.cN;omega⟩).mono ?_)
 rintro _ w ⟨tkb,rfl,h⟩
 refine⟨_,rfl,?_⟩
 refine st (sg rfl)<|xe<|nx<|sq<|sq<|rg<|st (mv rfl)<|st (i4 NL rfl rfl)<|xe<|nx<|cF rfl<|sk<|nx<|sq<|rg<|st (mv rfl)<|cl (ca eF rfl) ((VJ ab tkb z ({s with acc:=0}:Ct.St) (Ct.mS c Ct.FU) hR (h.fr (.c r0 (.c r0 .n)))).mono ?_)
 rintro _ w ⟨rfl,h⟩
 refine⟨_,rfl,?_⟩
 refine st (sg rfl)<|xe<|nx<|sq<|rg<|st (mv rfl)<|cl (ca eF rfl) ((Bs ab (Ct.alone ((Ct.mS c Ct.FU).head {s with acc:=0}).1 ((Ct.mS c Ct.FU).head {s with acc:=0}).2 z).1 (h.fr (.c r1 .n)) (hR.rm z (bD _)).zP).mono ?_)
 rintro _ w ⟨rfl,h⟩
 refine⟨_,rfl,?_⟩
 refine st (mv rfl)<|st (xr rfl rfl)<|st (xr rfl rfl)<|st (xr rfl rfl)<|st (sg rfl)<|st (sg rfl)<|st (sg rfl)<|xe<|nx<|sq<|?_
 obtain⟨nn,hnn,hn8⟩:∃nn:Nat,2+(Ct.alone ((Ct.mS c Ct.FU).head {s with acc:=0}).1 ((Ct.mS c Ct.FU).head {s with acc:=0}).2 z).1.aG.length=nn+ys.length/\nn<=8:=⟨2+(Ct.alone ((Ct.mS c Ct.FU).head {s with acc:=0}).1 ((Ct.mS c Ct.FU).head {s with acc:=0}).2 z).1.aG.length -ys.length,by omega,by omega⟩
 refine rg<|st (mv rfl)<|st (mv rfl)<|st (nc rfl rfl)<|st (fa tE rfl)<|st (ld pX rfl (h.c a6 rfl))<|st (nc rfl rfl)<|st (fa tL rfl)<|st (fa vD rfl)<|st (ld Ba rfl (h.c a5 rfl))<|st (ln vI rfl rfl)<|st (bw rfl rfl (zW (c:=(nn:Int)) (by omega) (by omega) (by omega)))<|st (sg rfl)<|xe<|nx<|sq<|rg<|cl (ca eF rfl) ((A5 (h.fr .n)).mono ?_)
 rintro _ w ⟨rfl,h⟩
 refine⟨_,rfl,?_⟩
 refine st (mv rfl)<|gT rfl rfl rfl<|st (mv rfl)<|gT rfl rfl rfl<|cl (ca eF rfl) ((BX (cV ab) (99999999-z) tkb (0+z) (Ct.alone ((Ct.mS c Ct.FU).head {s with acc:=0}).1 ((Ct.mS c Ct.FU).head {s with acc:=0}).2 z).2 (h.fr (.c r1 .n))).mono ?_)
 rintro _ w ⟨rfl,h⟩
 refine⟨_,rfl,?_⟩
 refine st (pT rfl rfl rfl)<|st (mv rfl)<|gT rfl rfl hR.fin<|st (mv rfl)<|gT rfl rfl hR.fin<|st (bi rfl rfl rfl)<|st (pT rfl hR.fin rfl)<|st (mv rfl)<|gT rfl rfl (cE (by omega))<|st (mv rfl)<|gT rfl rfl (cE (by omega))<|st (bi rfl rfl rfl)<|st (pT rfl (cE (by omega)) rfl)<|st (mv rfl)<|gT rfl rfl (cE (by omega))<|st (mv rfl)<|gT rfl rfl (cE (by omega))<|st (nt rfl)<|gT rfl rfl (cE (by omega))<|st (mv rfl)<|?_
 rcases Pe (!q)with hd2|hd2
 have hd3:q=false:=(pJ _).mp hd2
 refine gF rfl rfl hd2<|gF rfl rfl hd2<|gF rfl rfl hd2<|gU rfl rfl<|gU rfl rfl<|gF rfl rfl hd2<|gT rfl rfl (cE (by omega))<|st (pT rfl hd2 rfl)<|st (pT rfl (cE (by omega)) rfl)<|st (sg rfl)<|xe<|nx<|rt<|?_
 refine rr (jP results3 rfl)<|?_
 exact⟨rfl,h.drop.drop.drop.drop.drop.drop.drop.drop.drop.drop.drop.drop⟩
 have hd4:q=true:=(Co _).mp hd2
 refine gT rfl rfl hd2<|st (mv rfl)<|gT rfl rfl hd2<|st (bi rfl rfl rfl)<|gT rfl rfl hd2<|st (mv rfl)<|gT rfl rfl (beq_iff_eq.mpr (by have h1:=((hR.quiet hd4).2.2 trivial);omega))<|st (mv rfl)<|gT rfl rfl (beq_iff_eq.mpr (by have h1:=((hR.quiet hd4).2.2 trivial);omega))<|st (bi rfl rfl rfl)<|gT rfl rfl hd2<|st (pT rfl (beq_iff_eq.mpr (by have h1:=((hR.quiet hd4).2.2 trivial);omega)) rfl)<|gT rfl rfl (cE (by omega))<|st (pF rfl hd2 rfl)<|st (pT rfl (cE (by omega)) rfl)<|st (sg rfl)<|xe<|nx<|rt<|?_
 refine rr (jP results3 rfl)<|?_
 have hfin:(((nn:Int):Int)==3)=true:=beq_iff_eq.mpr (by have h1:=(hR.quiet hd4).2.2 trivial;omega)
 exact⟨by rw[hfin],h.drop.drop.drop.drop.drop.drop.drop.drop.drop.drop.drop.drop⟩
theorem RE(l0:List Int)(p0:Option Addr)(c0:Nat)(l1:List Int)(p1:Option Addr)(c1:Nat)(h:SH B w (bV 1 (.slice p0 l0.length c0) l0.length (l0.map (Value.int .i64))::bV 1 (.slice p1 l1.length c1) l1.length (l1.map (Value.int .i64))::L)):
  Calls prog 5 #[.slice p0 l0.length c0,.slice p1 l1.length c1,↑true] w λe w'=>e=.returned ↑true/\SH B w' L:=by
 refine Ea (args:=[_,_,_]) func5 rfl ntmps5 rfl ?_
 refine sq<|rg<|st (sg rfl)<|xe<|nx<|sq<|rg<|st (mv rfl)<|cl (ca eF rfl) ((Zz l0 p0 c0 (h.fr (.c r0 .n))).mono ?_)
 rintro _ w ⟨b,mb,aI,g,s,ts,zs,hmk,hW,rfl,h⟩
 have hsz:s.size<=37000000000:=by have:=hW.size;omega
 refine⟨_,rfl,?_⟩
 refine st (sg rfl)<|xe<|nx<|sq<|?_
 have h:=h.fr (.c r0 .n)
 obtain⟨⟨twp,twc,xwp,xwc⟩,h⟩:=h.wo
 have h:SH B w (bl b ([↑mb,.int .u64 (aI:Int),.slice twp ts.length twc,.slice xwp zs.length xwc]) 32::aU 35 2 (.slice twp ts.length twc) ts.length (ts.flatMap cU)::aU 77 1 (.slice xwp zs.length xwc) zs.length (zs.flatMap Ii)::eV mb zs::cR mb s::bV 1 (.slice p1 l1.length c1) l1.length (l1.map (Value.int .i64))::L):=h
 refine rg<|st (mv rfl)<|st (nc rfl rfl)<|st (fa tE rfl)<|st (ld pX rfl (h.c a0 rfl))<|cl (ca eF rfl) ((CN mb s (h.fr (.c r4 .n)) (by omega) (Ct.IE hW.gw hW.PI) (lS hW.fit (by omega))).mono ?_)
 rintro _ w ⟨ab,rfl,h⟩
 obtain⟨hl0,hs0⟩:=hW.M7
 refine⟨_,rfl,?_⟩
 refine st (sg rfl)<|xe<|nx<|sq<|sq<|rg<|st (mv rfl)<|st (i4 Fp rfl rfl)<|xe<|nx<|cF rfl<|sk<|nx<|sq<|?_
 have h:=h.fr (.c r2 (.c r2 (.c r2 .n)))
 have h:SH B w (nS b mb aI ts zs::wW ab {s with acc:=0}::cR mb {s with acc:=0}::eV mb zs::bV 1 (.slice p1 l1.length c1) l1.length (l1.map (Value.int .i64))::L):=SH.wi ⟨twp,twc,xwp,xwc⟩ h
 refine rg<|st (mv rfl)<|st (mv rfl)<|cl (ca eF rfl) ((U3 (h.fr .n)).mono ?_)
 rintro _ w ⟨rfl,h⟩
 refine⟨_,rfl,?_⟩
 refine st (mv rfl)<|cl (ca eF rfl) ((NS l1 p1 c1 (h.fr (.c r4 .n))).mono ?_)
 rintro _ w ⟨tpb,rfl,h⟩
 refine⟨_,rfl,?_⟩
 refine cl (ca eF rfl) ((wN b mb tpb aI ts zs l1 11 (h.fr (.c r1 (.c r0 .n))) hW.some hW.Qr (by decide) (by decide) hW.first).mono ?_)
 rintro _ w ⟨c,hck,hcm,hcky,hct,hcw,rfl,h⟩
 have hcok:Ct.kZ g c:=hW.Gz (by rw[hck];decide) (by rw[hck];decide) hct hcw
 have hcm2:c.aI<18446744073709551616:=by rw[hcm];exact hmk
 have hcky2:c.key.size<=9223372036854775807:=by omega
 have hst:=Ct.gW (c:=c) hl0.fit (by unfold Ct.room;omega)
 refine⟨_,rfl,?_⟩
 refine sf (al h Eb)<|?_
 rintro _ w ⟨b1,rfl,h⟩
 refine sf (so h rfl rfl rfl xI rfl (.r (.r (.r (.r (.r (.r (.r (.r (.r (.r (.r (.r (.r (.r (.r (.r (.r (.r (.r (.r (.r (.r (.r (.r (.r .d))))))))))))))))))))))))) u0)<|?_
 rintro _ w h
 refine xe<|nx<|sq<|?_
 have h:=h.fr (.c r1 .n)
 obtain⟨⟨twp,twc,xwp,xwc⟩,h⟩:=h.wo
 have h:SH B w (bl b ([↑mb,.int .u64 (aI:Int),.slice twp ts.length twc,.slice xwp zs.length xwc]) 32::aU 35 2 (.slice twp ts.length twc) ts.length (ts.flatMap cU)::aU 77 1 (.slice xwp zs.length xwc) zs.length (zs.flatMap Ii)::bl b1 ([↑c.kind,↑c.aE.root,↑c.aE.readOnly,↑c.a,↑c.b,↑c.n,↑c.index,.int .u64 (c.hash:Int),.int .u64 (c.aI:Int),↑c.key,.int .u64 (c.value:Int),.int .u64 (c.expect:Int),↑c.bF,↑c.only,↑c.walk.started,.slice none 0 0,.slice none 0 0,↑c.answer.err,↑c.answer.found,.int .u64 (c.answer.value:Int),↑c.answer.key,↑c.answer.count,↑c.answer.ref,↑c.answer.aE.root,↑c.answer.aE.readOnly]) 45::gQ tpb l1::wW ab {s with acc:=0}::cR mb {s with acc:=0}::eV mb zs::L):=h
 have h:=h.fr (.c r6 .n)
 obtain⟨⟨pn,cn,pc,cc,ys⟩,hz0,h⟩:=h.mo
 have h:SH B w (bl mb ([.slice pn ys.length cn,.slice pc ({s with acc:=0}:Ct.St).cells.length cc,.int .i64 ((({s with acc:=0}:Ct.St).gen:Nat):Int),.int .i64 ((({s with acc:=0}:Ct.St).acc:Nat):Int)]) 55::aU 68 14 (.slice pn ys.length cn) ys.length (ys.flatMap cB)::aU 36 1 (.slice pc ({s with acc:=0}:Ct.St).cells.length cc) ({s with acc:=0}:Ct.St).cells.length (({s with acc:=0}:Ct.St).cells.map (Value.int .i64))::bE ys::bl b ([↑mb,.int .u64 (aI:Int),.slice twp ts.length twc,.slice xwp zs.length xwc]) 32::aU 35 2 (.slice twp ts.length twc) ts.length (ts.flatMap cU)::aU 77 1 (.slice xwp zs.length xwc) zs.length (zs.flatMap Ii)::bl b1 ([↑c.kind,↑c.aE.root,↑c.aE.readOnly,↑c.a,↑c.b,↑c.n,↑c.index,.int .u64 (c.hash:Int),.int .u64 (c.aI:Int),↑c.key,.int .u64 (c.value:Int),.int .u64 (c.expect:Int),↑c.bF,↑c.only,↑c.walk.started,.slice none 0 0,.slice none 0 0,↑c.answer.err,↑c.answer.found,.int .u64 (c.answer.value:Int),↑c.answer.key,↑c.answer.count,↑c.answer.ref,↑c.answer.aE.root,↑c.answer.aE.readOnly]) 45::gQ tpb l1::wW ab {s with acc:=0}::eV mb zs::L):=h
 have hys:ys.map Prod.fst=aW ({s with acc:=0}:Ct.St):=hz0
 clear hz0
 have hyl:=iC hys
 have hsm:({s with acc:=0}:Ct.St).size<=740000:=DM (by unfold Ct.St.size;dsimp only;omega) (show s.size<=740000 from by have h1:=hW.small;unfold Ct.Yd at h1;omega)
 have hTw:Ct.Tw g ({s with acc:=0}:Ct.St):=⟨hW.gw,hW.PI.acc 0⟩
 have hyz:ys.length<=999999:=by rw[hyl];have h1:=hsm;unfold Ct.St.size at h1;omega
 refine dZ [1,3,5,7,9,11,13,15,17,18,20] (by kernel_rfl) h (.c r4 (.c r0 (.c r5 .n))) λw h=>tk (λW H=>mv rfl)<|tk (λW H=>nc rfl rfl)<|tk (λW H=>fa tE rfl)<|tk (λW H=>ld pX rfl (H.c a0 rfl))<|tk (λW H=>nc rfl rfl)<|tk (λW H=>fa tL rfl)<|tk (λW H=>gJ (cs:=[.slice pn ys.length cn,.slice pc ({s with acc:=0}:Ct.St).cells.length cc,.int .i64 ((({s with acc:=0}:Ct.St).gen:Nat):Int)]) rfl (lG (H.b a1) 0 rfl) iO)<|tk (λW H=>fa nR rfl)<|tk (λW H=>gJ (cs:=[↑c.aE.root,↑c.aE.readOnly]) rfl (lG (H.b a2) 1 rfl) oG)<|cs (ca eF rfl) ((Il ({s with acc:=0}:Ct.St) ys pn pc cn cc c.aE (h.fr (.c r1 (.c r1 (.c r1 .n)))) hys (by omega) (Ct.IE hW.gw (hW.PI.acc 0)) (lS hl0.fit (by omega)) (λr hk=>Ct.T0 hTw r hk) (λr=>(Ct.Gl hl0.fit hsm r).1) (λr=>(Ct.Gl hl0.fit hsm r).2) hyz).mono ?_)
 rintro _ w ⟨q,hq,rfl,h⟩
 obtain⟨z,hR⟩:=Ct.JN hTw hcok hck hl0.fit (by omega) hq
 have hR1:=hR.le
 have hR2:=hR.low
 have hR3:=hR.RZ
 refine⟨_,rfl,h.hs (.c r4 (.c r3 (.c r5 .n))),?_⟩
 refine ef (sg rfl) (h.hs (.c r4 (.c r3 (.c r5 .n))))<|xz<|nx<|sq<|rg<|st (mv rfl)<|st (gJ rfl (dK (h.b a7)) vP)<|cl (ca eF rfl) ((R6 ab c ({s with acc:=0}:Ct.St) (h.fr (.c r9 .n)) hck ⟨hl0.fit,by unfold Ct.cN;omega⟩).mono ?_)
 rintro _ w ⟨tkb,rfl,h⟩
 refine⟨_,rfl,?_⟩
 refine st (sg rfl)<|xe<|nx<|sq<|sq<|rg<|st (mv rfl)<|st (i4 NL rfl rfl)<|xe<|nx<|cF rfl<|sk<|nx<|sq<|rg<|st (mv rfl)<|cl (ca eF rfl) ((VJ ab tkb z ({s with acc:=0}:Ct.St) (Ct.mS c Ct.FU) hR (h.fr (.c r0 (.c r0 .n)))).mono ?_)
 rintro _ w ⟨rfl,h⟩
 refine⟨_,rfl,?_⟩
 refine st (sg rfl)<|xe<|nx<|sq<|rg<|st (mv rfl)<|cl (ca eF rfl) ((Bs ab (Ct.alone ((Ct.mS c Ct.FU).head {s with acc:=0}).1 ((Ct.mS c Ct.FU).head {s with acc:=0}).2 z).1 (h.fr (.c r1 .n)) (hR.rm z (bD _)).zP).mono ?_)
 rintro _ w ⟨rfl,h⟩
 refine⟨_,rfl,?_⟩
 refine st (mv rfl)<|st (xr rfl rfl)<|st (xr rfl rfl)<|st (xr rfl rfl)<|st (sg rfl)<|st (sg rfl)<|st (sg rfl)<|xe<|nx<|sq<|?_
 obtain⟨nn,hnn,hn8⟩:∃nn:Nat,2+(Ct.alone ((Ct.mS c Ct.FU).head {s with acc:=0}).1 ((Ct.mS c Ct.FU).head {s with acc:=0}).2 z).1.aG.length=nn+ys.length/\nn<=8:=⟨2+(Ct.alone ((Ct.mS c Ct.FU).head {s with acc:=0}).1 ((Ct.mS c Ct.FU).head {s with acc:=0}).2 z).1.aG.length -ys.length,by omega,by omega⟩
 refine rg<|st (mv rfl)<|st (mv rfl)<|st (nc rfl rfl)<|st (fa tE rfl)<|st (ld pX rfl (h.c a6 rfl))<|st (nc rfl rfl)<|st (fa tL rfl)<|st (fa vD rfl)<|st (ld Ba rfl (h.c a5 rfl))<|st (ln vI rfl rfl)<|st (bw rfl rfl (zW (c:=(nn:Int)) (by omega) (by omega) (by omega)))<|st (sg rfl)<|xe<|nx<|sq<|rg<|cl (ca eF rfl) ((Yw (h.fr .n)).mono ?_)
 rintro _ w ⟨rfl,h⟩
 refine⟨_,rfl,?_⟩
 refine st (mv rfl)<|gT rfl rfl rfl<|st (mv rfl)<|gT rfl rfl rfl<|cl (ca eF rfl) ((BX (cV ab) (99999999-z) tkb (0+z) (Ct.alone ((Ct.mS c Ct.FU).head {s with acc:=0}).1 ((Ct.mS c Ct.FU).head {s with acc:=0}).2 z).2 (h.fr (.c r1 .n))).mono ?_)
 rintro _ w ⟨rfl,h⟩
 refine⟨_,rfl,?_⟩
 refine st (pT rfl rfl rfl)<|st (mv rfl)<|gT rfl rfl hR.fin<|st (mv rfl)<|gT rfl rfl hR.fin<|st (bi rfl rfl rfl)<|st (pT rfl hR.fin rfl)<|st (mv rfl)<|gT rfl rfl (cE (by omega))<|st (mv rfl)<|gT rfl rfl (cE (by omega))<|st (bi rfl rfl rfl)<|st (pT rfl (cE (by omega)) rfl)<|st (mv rfl)<|gT rfl rfl (cE (by omega))<|st (mv rfl)<|gT rfl rfl (cE (by omega))<|st (nt rfl)<|gT rfl rfl (cE (by omega))<|st (mv rfl)<|?_
 rcases Pe (!q)with hd2|hd2
 have hd3:q=false:=(pJ _).mp hd2
 refine gF rfl rfl hd2<|gF rfl rfl hd2<|gF rfl rfl hd2<|gU rfl rfl<|gU rfl rfl<|gF rfl rfl hd2<|gT rfl rfl (cE (by omega))<|st (pT rfl hd2 rfl)<|st (pT rfl (cE (by omega)) rfl)<|st (sg rfl)<|xe<|nx<|rt<|?_
 refine rr (jP results5 rfl)<|?_
 exact⟨rfl,h.drop.drop.drop.drop.drop.drop.drop.drop.drop.drop.drop.drop⟩
 have hd4:q=true:=(Co _).mp hd2
 refine gT rfl rfl hd2<|st (mv rfl)<|gT rfl rfl hd2<|st (bi rfl rfl rfl)<|gT rfl rfl hd2<|st (mv rfl)<|gT rfl rfl (cE (by have h1:=(hR.quiet hd4);omega))<|st (mv rfl)<|gT rfl rfl (cE (by have h1:=(hR.quiet hd4);omega))<|st (bi rfl rfl rfl)<|gT rfl rfl hd2<|st (pT rfl (cE (by have h1:=(hR.quiet hd4);omega)) rfl)<|gT rfl rfl (cE (by omega))<|st (pF rfl hd2 rfl)<|st (pT rfl (cE (by omega)) rfl)<|st (sg rfl)<|xe<|nx<|rt<|?_
 refine rr (jP results5 rfl)<|?_
 have hfin:(decide (((nn:Int):Int)<=3))=true:=cE (by have h1:=hR.quiet hd4;omega)
 exact⟨by rw[hfin],h.drop.drop.drop.drop.drop.drop.drop.drop.drop.drop.drop.drop⟩
theorem NR(l0:List Int)(p0:Option Addr)(c0:Nat)(l1:List Int)(p1:Option Addr)(c1:Nat)(h:SH B w (bV 1 (.slice p0 l0.length c0) l0.length (l0.map (Value.int .i64))::bV 1 (.slice p1 l1.length c1) l1.length (l1.map (Value.int .i64))::L)):
  Calls prog 5 #[.slice p0 l0.length c0,.slice p1 l1.length c1,↑false] w λe w'=>e=.returned ↑true/\SH B w' L:=by
 refine Ea (args:=[_,_,_]) func5 rfl ntmps5 rfl ?_
 refine sq<|rg<|st (sg rfl)<|xe<|nx<|sq<|rg<|st (mv rfl)<|cl (ca eF rfl) ((Zz l0 p0 c0 (h.fr (.c r0 .n))).mono ?_)
 rintro _ w ⟨b,mb,aI,g,s,ts,zs,hmk,hW,rfl,h⟩
 have hsz:s.size<=37000000000:=by have:=hW.size;omega
 refine⟨_,rfl,?_⟩
 refine st (sg rfl)<|xe<|nx<|sq<|?_
 have h:=h.fr (.c r0 .n)
 obtain⟨⟨twp,twc,xwp,xwc⟩,h⟩:=h.wo
 have h:SH B w (bl b ([↑mb,.int .u64 (aI:Int),.slice twp ts.length twc,.slice xwp zs.length xwc]) 32::aU 35 2 (.slice twp ts.length twc) ts.length (ts.flatMap cU)::aU 77 1 (.slice xwp zs.length xwc) zs.length (zs.flatMap Ii)::eV mb zs::cR mb s::bV 1 (.slice p1 l1.length c1) l1.length (l1.map (Value.int .i64))::L):=h
 refine rg<|st (mv rfl)<|st (nc rfl rfl)<|st (fa tE rfl)<|st (ld pX rfl (h.c a0 rfl))<|cl (ca eF rfl) ((CN mb s (h.fr (.c r4 .n)) (by omega) (Ct.IE hW.gw hW.PI) (lS hW.fit (by omega))).mono ?_)
 rintro _ w ⟨ab,rfl,h⟩
 obtain⟨hl0,hs0⟩:=hW.M7
 refine⟨_,rfl,?_⟩
 refine st (sg rfl)<|xe<|nx<|sq<|sq<|rg<|st (mv rfl)<|st (i4 Fp rfl rfl)<|xe<|nx<|cF rfl<|sk<|nx<|sq<|?_
 have h:=h.fr (.c r2 (.c r2 (.c r2 .n)))
 have h:SH B w (nS b mb aI ts zs::wW ab {s with acc:=0}::cR mb {s with acc:=0}::eV mb zs::bV 1 (.slice p1 l1.length c1) l1.length (l1.map (Value.int .i64))::L):=SH.wi ⟨twp,twc,xwp,xwc⟩ h
 refine rg<|st (mv rfl)<|st (mv rfl)<|cl (ca eF rfl) ((W3 (h.fr .n)).mono ?_)
 rintro _ w ⟨rfl,h⟩
 refine⟨_,rfl,?_⟩
 refine st (mv rfl)<|cl (ca eF rfl) ((NS l1 p1 c1 (h.fr (.c r4 .n))).mono ?_)
 rintro _ w ⟨tpb,rfl,h⟩
 refine⟨_,rfl,?_⟩
 refine cl (ca eF rfl) ((wN b mb tpb aI ts zs l1 10 (h.fr (.c r1 (.c r0 .n))) hW.some hW.Qr (by decide) (by decide) hW.first).mono ?_)
 rintro _ w ⟨c,hck,hcm,hcky,hct,hcw,rfl,h⟩
 have hcok:Ct.kZ g c:=hW.Gz (by rw[hck];decide) (by rw[hck];decide) hct hcw
 have hcm2:c.aI<18446744073709551616:=by rw[hcm];exact hmk
 have hcky2:c.key.size<=9223372036854775807:=by omega
 have hst:=Ct.gW (c:=c) hl0.fit (by unfold Ct.room;omega)
 refine⟨_,rfl,?_⟩
 refine sf (al h Eb)<|?_
 rintro _ w ⟨b1,rfl,h⟩
 refine sf (so h rfl rfl rfl xI rfl (.r (.r (.r (.r (.r (.r (.r (.r (.r (.r (.r (.r (.r (.r (.r (.r (.r (.r (.r (.r (.r (.r (.r (.r (.r .d))))))))))))))))))))))))) u0)<|?_
 rintro _ w h
 refine xe<|nx<|sq<|?_
 have h:=h.fr (.c r1 .n)
 obtain⟨⟨twp,twc,xwp,xwc⟩,h⟩:=h.wo
 have h:SH B w (bl b ([↑mb,.int .u64 (aI:Int),.slice twp ts.length twc,.slice xwp zs.length xwc]) 32::aU 35 2 (.slice twp ts.length twc) ts.length (ts.flatMap cU)::aU 77 1 (.slice xwp zs.length xwc) zs.length (zs.flatMap Ii)::bl b1 ([↑c.kind,↑c.aE.root,↑c.aE.readOnly,↑c.a,↑c.b,↑c.n,↑c.index,.int .u64 (c.hash:Int),.int .u64 (c.aI:Int),↑c.key,.int .u64 (c.value:Int),.int .u64 (c.expect:Int),↑c.bF,↑c.only,↑c.walk.started,.slice none 0 0,.slice none 0 0,↑c.answer.err,↑c.answer.found,.int .u64 (c.answer.value:Int),↑c.answer.key,↑c.answer.count,↑c.answer.ref,↑c.answer.aE.root,↑c.answer.aE.readOnly]) 45::gQ tpb l1::wW ab {s with acc:=0}::cR mb {s with acc:=0}::eV mb zs::L):=h
 have h:=h.fr (.c r6 .n)
 obtain⟨⟨pn,cn,pc,cc,ys⟩,hz0,h⟩:=h.mo
 have h:SH B w (bl mb ([.slice pn ys.length cn,.slice pc ({s with acc:=0}:Ct.St).cells.length cc,.int .i64 ((({s with acc:=0}:Ct.St).gen:Nat):Int),.int .i64 ((({s with acc:=0}:Ct.St).acc:Nat):Int)]) 55::aU 68 14 (.slice pn ys.length cn) ys.length (ys.flatMap cB)::aU 36 1 (.slice pc ({s with acc:=0}:Ct.St).cells.length cc) ({s with acc:=0}:Ct.St).cells.length (({s with acc:=0}:Ct.St).cells.map (Value.int .i64))::bE ys::bl b ([↑mb,.int .u64 (aI:Int),.slice twp ts.length twc,.slice xwp zs.length xwc]) 32::aU 35 2 (.slice twp ts.length twc) ts.length (ts.flatMap cU)::aU 77 1 (.slice xwp zs.length xwc) zs.length (zs.flatMap Ii)::bl b1 ([↑c.kind,↑c.aE.root,↑c.aE.readOnly,↑c.a,↑c.b,↑c.n,↑c.index,.int .u64 (c.hash:Int),.int .u64 (c.aI:Int),↑c.key,.int .u64 (c.value:Int),.int .u64 (c.expect:Int),↑c.bF,↑c.only,↑c.walk.started,.slice none 0 0,.slice none 0 0,↑c.answer.err,↑c.answer.found,.int .u64 (c.answer.value:Int),↑c.answer.key,↑c.answer.count,↑c.answer.ref,↑c.answer.aE.root,↑c.answer.aE.readOnly]) 45::gQ tpb l1::wW ab {s with acc:=0}::eV mb zs::L):=h
 have hys:ys.map Prod.fst=aW ({s with acc:=0}:Ct.St):=hz0
 clear hz0
 have hyl:=iC hys
 have hsm:({s with acc:=0}:Ct.St).size<=740000:=DM (by unfold Ct.St.size;dsimp only;omega) (show s.size<=740000 from by have h1:=hW.small;unfold Ct.Yd at h1;omega)
 have hTw:Ct.Tw g ({s with acc:=0}:Ct.St):=⟨hW.gw,hW.PI.acc 0⟩
 have hyz:ys.length<=999999:=by rw[hyl];have h1:=hsm;unfold Ct.St.size at h1;omega
 refine dZ [1,3,5,7,9,11,13,15,17,18,20] (by kernel_rfl) h (.c r4 (.c r0 (.c r5 .n))) λw h=>tk (λW H=>mv rfl)<|tk (λW H=>nc rfl rfl)<|tk (λW H=>fa tE rfl)<|tk (λW H=>ld pX rfl (H.c a0 rfl))<|tk (λW H=>nc rfl rfl)<|tk (λW H=>fa tL rfl)<|tk (λW H=>gJ (cs:=[.slice pn ys.length cn,.slice pc ({s with acc:=0}:Ct.St).cells.length cc,.int .i64 ((({s with acc:=0}:Ct.St).gen:Nat):Int)]) rfl (lG (H.b a1) 0 rfl) iO)<|tk (λW H=>fa nR rfl)<|tk (λW H=>gJ (cs:=[↑c.aE.root,↑c.aE.readOnly]) rfl (lG (H.b a2) 1 rfl) oG)<|cs (ca eF rfl) ((Il ({s with acc:=0}:Ct.St) ys pn pc cn cc c.aE (h.fr (.c r1 (.c r1 (.c r1 .n)))) hys (by omega) (Ct.IE hW.gw (hW.PI.acc 0)) (lS hl0.fit (by omega)) (λr hk=>Ct.T0 hTw r hk) (λr=>(Ct.Gl hl0.fit hsm r).1) (λr=>(Ct.Gl hl0.fit hsm r).2) hyz).mono ?_)
 rintro _ w ⟨q,hq,rfl,h⟩
 obtain⟨z,hR⟩:=Ct.H9 hTw hcok hck hl0.fit (by omega) hq
 have hR1:=hR.le
 have hR2:=hR.low
 have hR3:=hR.RZ
 refine⟨_,rfl,h.hs (.c r4 (.c r3 (.c r5 .n))),?_⟩
 refine ef (sg rfl) (h.hs (.c r4 (.c r3 (.c r5 .n))))<|xz<|nx<|sq<|rg<|st (mv rfl)<|st (gJ rfl (dK (h.b a7)) vP)<|cl (ca eF rfl) ((T6 ab c ({s with acc:=0}:Ct.St) (h.fr (.c r9 .n)) hck ⟨hl0.fit,by unfold Ct.cN;omega⟩).mono ?_)
 rintro _ w ⟨tkb,rfl,h⟩
 refine⟨_,rfl,?_⟩
 refine st (sg rfl)<|xe<|nx<|sq<|sq<|rg<|st (mv rfl)<|st (i4 NL rfl rfl)<|xe<|nx<|cF rfl<|sk<|nx<|sq<|rg<|st (mv rfl)<|cl (ca eF rfl) ((VJ ab tkb z ({s with acc:=0}:Ct.St) (Ct.mS c Ct.FU) hR (h.fr (.c r0 (.c r0 .n)))).mono ?_)
 rintro _ w ⟨rfl,h⟩
 refine⟨_,rfl,?_⟩
 refine st (sg rfl)<|xe<|nx<|sq<|rg<|st (mv rfl)<|cl (ca eF rfl) ((Bs ab (Ct.alone ((Ct.mS c Ct.FU).head {s with acc:=0}).1 ((Ct.mS c Ct.FU).head {s with acc:=0}).2 z).1 (h.fr (.c r1 .n)) (hR.rm z (bD _)).zP).mono ?_)
 rintro _ w ⟨rfl,h⟩
 refine⟨_,rfl,?_⟩
 refine st (mv rfl)<|st (xr rfl rfl)<|st (xr rfl rfl)<|st (xr rfl rfl)<|st (sg rfl)<|st (sg rfl)<|st (sg rfl)<|xe<|nx<|sq<|?_
 obtain⟨nn,hnn,hn8⟩:∃nn:Nat,2+(Ct.alone ((Ct.mS c Ct.FU).head {s with acc:=0}).1 ((Ct.mS c Ct.FU).head {s with acc:=0}).2 z).1.aG.length=nn+ys.length/\nn<=8:=⟨2+(Ct.alone ((Ct.mS c Ct.FU).head {s with acc:=0}).1 ((Ct.mS c Ct.FU).head {s with acc:=0}).2 z).1.aG.length -ys.length,by omega,by omega⟩
 refine rg<|st (mv rfl)<|st (mv rfl)<|st (nc rfl rfl)<|st (fa tE rfl)<|st (ld pX rfl (h.c a6 rfl))<|st (nc rfl rfl)<|st (fa tL rfl)<|st (fa vD rfl)<|st (ld Ba rfl (h.c a5 rfl))<|st (ln vI rfl rfl)<|st (bw rfl rfl (zW (c:=(nn:Int)) (by omega) (by omega) (by omega)))<|st (sg rfl)<|xe<|nx<|sq<|rg<|cl (ca eF rfl) ((Yw (h.fr .n)).mono ?_)
 rintro _ w ⟨rfl,h⟩
 refine⟨_,rfl,?_⟩
 refine st (mv rfl)<|gT rfl rfl rfl<|st (mv rfl)<|gT rfl rfl rfl<|cl (ca eF rfl) ((BX (cV ab) (99999999-z) tkb (0+z) (Ct.alone ((Ct.mS c Ct.FU).head {s with acc:=0}).1 ((Ct.mS c Ct.FU).head {s with acc:=0}).2 z).2 (h.fr (.c r1 .n))).mono ?_)
 rintro _ w ⟨rfl,h⟩
 refine⟨_,rfl,?_⟩
 refine st (pT rfl rfl rfl)<|st (mv rfl)<|gT rfl rfl hR.fin<|st (mv rfl)<|gT rfl rfl hR.fin<|st (bi rfl rfl rfl)<|st (pT rfl hR.fin rfl)<|st (mv rfl)<|gT rfl rfl (cE (by omega))<|st (mv rfl)<|gT rfl rfl (cE (by omega))<|st (bi rfl rfl rfl)<|st (pT rfl (cE (by omega)) rfl)<|st (mv rfl)<|gT rfl rfl (cE (by omega))<|st (mv rfl)<|gT rfl rfl (cE (by omega))<|st (nt rfl)<|gT rfl rfl (cE (by omega))<|st (mv rfl)<|?_
 rcases Pe (!q)with hd2|hd2
 have hd3:q=false:=(pJ _).mp hd2
 refine gF rfl rfl hd2<|gF rfl rfl hd2<|gF rfl rfl hd2<|gU rfl rfl<|gU rfl rfl<|gF rfl rfl hd2<|gT rfl rfl (cE (by omega))<|st (pT rfl hd2 rfl)<|st (pT rfl (cE (by omega)) rfl)<|st (sg rfl)<|xe<|nx<|rt<|?_
 refine rr (jP results5 rfl)<|?_
 exact⟨rfl,h.drop.drop.drop.drop.drop.drop.drop.drop.drop.drop.drop.drop⟩
 have hd4:q=true:=(Co _).mp hd2
 refine gT rfl rfl hd2<|st (mv rfl)<|gT rfl rfl hd2<|st (bi rfl rfl rfl)<|gT rfl rfl hd2<|st (mv rfl)<|gT rfl rfl (cE (by have h1:=(hR.quiet hd4);omega))<|st (mv rfl)<|gT rfl rfl (cE (by have h1:=(hR.quiet hd4);omega))<|st (bi rfl rfl rfl)<|gT rfl rfl hd2<|st (pT rfl (cE (by have h1:=(hR.quiet hd4);omega)) rfl)<|gT rfl rfl (cE (by omega))<|st (pF rfl hd2 rfl)<|st (pT rfl (cE (by omega)) rfl)<|st (sg rfl)<|xe<|nx<|rt<|?_
 refine rr (jP results5 rfl)<|?_
 have hfin:(decide (((nn:Int):Int)<=3))=true:=cE (by have h1:=hR.quiet hd4;omega)
 exact⟨by rw[hfin],h.drop.drop.drop.drop.drop.drop.drop.drop.drop.drop.drop.drop⟩
theorem BM(l0:List Int)(p0:Option Addr)(c0:Nat)(l1:List Int)(p1:Option Addr)(c1:Nat)(b:Bool)(h:SH B w (bV 1 (.slice p0 l0.length c0) l0.length (l0.map (Value.int .i64))::bV 1 (.slice p1 l1.length c1) l1.length (l1.map (Value.int .i64))::L)):
  Calls prog 5 #[.slice p0 l0.length c0,.slice p1 l1.length c1,↑b] w λe w'=>e=.returned ↑true/\SH B w' L:=by
 cases b with
 |true=>exact RE l0 p0 c0 l1 p1 c1 h
 |false=>exact NR l0 p0 c0 l1 p1 c1 h
end Go.Q9
end
