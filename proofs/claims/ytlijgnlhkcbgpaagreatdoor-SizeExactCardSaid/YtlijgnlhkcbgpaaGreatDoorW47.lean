/- Parts of a proof: Zs. -/
import Derived.Test.YtlijgnlhkcbgpaaGreatDoorW46
set_option linter.unusedVariables false
set_option linter.unusedSimpArgs false
set_option maxRecDepth 100000
set_option maxHeartbeats 4000000
section
namespace Go.Q9
open Go.Proofs.Tryz
open Go.RowKit Go.E
attribute [local irreducible] gB wpS
theorem _root_.Go.Ct.aA1{α:Type}{l:List α}{i:Nat}{d:α}(h:i<l.length):l.getD i d∈l:=by rw[eX,fM h];exact qR h
variable{B w:World}{L:List As}
theorem Yw(l0:List Int)(p0:Option Addr)(c0:Nat)(h:SH B w (bV 1 (.slice p0 l0.length c0) l0.length (l0.map (Value.int .i64))::Ba::L)):
  Calls prog 15 #[.slice p0 l0.length c0] w λe w'=>∃b mb,∃aI:Nat,∃g s v2 v3 t,aI<18446744073709551616/\Ct.Rdo g s t/\e=.returned (.tuple #[.pointer (some ⟨b,0,none⟩),.agg (cU t).toArray])/\SH B w' (bl b [.pointer (some ⟨mb,0,none⟩),.int .u64 (aI:Int),v2,v3] 36::cR mb s::Ba::L):=by
 refine Ea (args:=[_]) func15 rfl ntmps15 rfl ?_
 refine sq<|rg<|st (sg rfl)<|sf (al h NG)<|?_
 rintro _ w ⟨b1,rfl,h⟩
 refine xe<|nx<|sq<|rg<|st (mv rfl)<|cl (ca eF rfl) ((Zz l0 p0 c0 (h.fr (.c r1 .n))).mono ?_)
 rintro _ w ⟨b,mb,aI,g,s,ts,zs,hmk,hW,rfl,h⟩
 have hsz:s.size<=37000000000:=by have:=hW.size;omega
 refine⟨_,rfl,?_⟩
 refine st (sg rfl)<|xe<|nx<|sq<|sq<|?_
 have h:=h.fr (.c r0 .n)
 obtain⟨⟨twp,twc,xwp,xwc⟩,h⟩:=h.wo
 have h:SH B w (bl b ([↑mb,.int .u64 (aI:Int),.slice twp ts.length twc,.slice xwp zs.length xwc]) 36::aU 26 2 (.slice twp ts.length twc) ts.length (ts.flatMap cU)::aU 43 1 (.slice xwp zs.length xwc) zs.length (zs.flatMap Ii)::eV mb zs::cR mb s::bl b1 ([.int .i64 0,↑false]) 26::Ba::L):=h
 refine rg<|st (mv rfl)<|st (nc rfl rfl)<|st (fa rP rfl)<|st (ld Hd rfl (h.c a0 rfl))<|st (ln Fp rfl rfl)<|st (mv rfl)<|xe<|nx<|bk<|?_
 have hxl:ts.length<=10:=by have:=hW.Qr;omega
 refine lp (α:=Nat) (λρ=>(.c 3 ↑b1 (.c 4 ↑b (.c 13 (.slice twp ts.length twc) (.c 14 ↑(ts.length:Int) (.c 15 (.int .i64 (ρ:Int)) .n)))))) (λρ w=>SH B w (bl b ([↑mb,.int .u64 (aI:Int),.slice twp ts.length twc,.slice xwp zs.length xwc]) 36::aU 26 2 (.slice twp ts.length twc) ts.length (ts.flatMap cU)::aU 43 1 (.slice xwp zs.length xwc) zs.length (zs.flatMap Ii)::eV mb zs::cR mb s::bl b1 ([.int .i64 0,↑false]) 26::Ba::L)/\(ρ<=ts.length)) (λρ=>ts.length-ρ) 0 ⟨rfl,rfl,rfl,rfl,rfl,trivial⟩ ⟨h,Xe _⟩ ?_
 rintro i w ⟨h,hi⟩
 refine sq<|rg<|st (bi rfl rfl rfl)<|xe<|nx<|sq<|?_
 rcases mD (decide (((i:Int):Int)<(ts.length:Int)))with hd2|hd2
 have hg3:=dP hd2
 refine ct rfl hd2<|sk<|nx<|sq<|bk<|sq<|rg<|?_
 obtain⟨b4,rfl⟩:=h.fp a1 (by omega)
 refine st (ix (j:=i) Fp xK rfl rfl (by omega))<|st (gJ rfl ((h.ro a1).x Ng (by decide) (by omega) {}) oB)<|sf (al h NG)<|?_
 rintro _ w ⟨b5,rfl,h⟩
 refine sf (so h rfl rfl rfl xK rfl (.r (.r .d)) u0)<|?_
 rintro _ w h
 refine xe<|nx<|sq<|rg<|st (fa xW rfl)<|st (ld xN rfl (h.c a0 rfl))<|xe<|nx<|?_
 rcases mD (ts.getD i {}).readOnly with hd6|hd6
 refine ct rfl hd6<|sq<|dZ [1,3,4,6] (by kernel_rfl) h (.c r0 .n) λw h=>tk (λW H=>mv rfl)<|tk (λW H=>gJ rfl (dK (H.b a0)) oB)<|ef (sg rfl) (h.hs (.c r0 .n))<|ff (so h rfl rfl rfl xK rfl (.r (.r .d)) u6)<|?_
 rintro _ w h
 refine⟨h.hs (.c r0 .n),?_⟩
 refine xz<|nx<|rt<|bt<|tr<|tr<|bt<|tr<|?_
 refine rr (aAd results15 rfl rfl (h.b a6) oB)<|?_
 exact⟨b,mb,aI,g,s,_,_,ts.getD i {},hmk,⟨hW.gw,hW.PI,hW.fit,by omega,hW.GO _ (Ct.aA1 (by omega)),hd6⟩,rfl,(h.fr (.c r0 (.c r1 (.c r1 (.c r1 (.c r2 .n)))))).drop.drop.drop.drop.drop⟩
 refine cf rfl hd6<|sk<|bn<|nx<|rg<|st (bw rfl rfl (gN (c:=((i+1:Nat):Int)) (by omega) (by omega) (by omega)))<|st (mv rfl)<|xe<|nx<|?_
 exact⟨((i+1)),⟨rfl,rfl,rfl,rfl,rfl,trivial⟩,⟨h.drop,by(try dsimp only);omega⟩,by(try dsimp only);omega⟩
 have hg7:=bI hd2
 refine cf rfl hd2<|xt<|tx<|tx<|be<|nx<|sq<|?_
 have hst:=Ct.gW (c:=(Ct.NL (ts.getD 0 {}))) hW.fit (by unfold Ct.room;omega)
 have hsome:=hW.some
 obtain⟨b8,rfl⟩:=h.fp a1 (by omega)
 refine dZ [1,3,5,7,9,11,13,15,17,19,21,22,24] (by kernel_rfl) h (.c r0 (.c r0 .n)) λw h=>tk (λW H=>mv rfl)<|tk (λW H=>nc rfl rfl)<|tk (λW H=>fa Mz rfl)<|tk (λW H=>ld Jp rfl (H.c a0 rfl))<|tk (λW H=>mv rfl)<|tk (λW H=>nc rfl rfl)<|tk (λW H=>fa rP rfl)<|tk (λW H=>ld Hd rfl (H.c a0 rfl))<|tk (λW H=>ix (j:=0) Fp xK rfl rfl (by have:=hW.some;omega))<|tk (λW H=>gJ rfl ((H.ro a1).x Ng (by decide) (j:=0) (by have:=hW.some;omega) {}) oB)<|tk (λW H=>bd [.int .i64 11,.int .i64 (ts.getD 0 {}).root,.bool (ts.getD 0 {}).readOnly,.int .i64 0,.int .i64 0,.int .i64 0,.int .i64 0,.int .u64 0,.int .u64 0,.string .empty,.int .u64 0,.int .u64 0,.int .i64 0,↑false,↑false,.slice none 0 0,.slice none 0 0,.int .i64 0,↑false,.int .u64 0,.string .empty,.int .i64 0,.int .i64 0,.int .i64 0,↑false] Lv rfl (by kernel_rfl))<|cs (ca eF rfl) ((rW mb s (Ct.NL (ts.getD 0 {})) Ct.FU (h.fr (.c r4 .n)) hst.1 hst.2 (by decide) (by show (0:Nat)<18446744073709551616;decide) (by show (0:Nat)<=9223372036854775807;decide) (by show (7:Int)<=11;decide) (.inl (by show (11:Int)<=12;decide))).mono ?_)
 rintro _ w ⟨xb,rfl,h,k⟩
 have hl:=Ct.P6.start (Ct.aBn hW) hW.gw hW.PI hW.fit (Ct.aB9 hW) (by show (0:Nat)<18446744073709551616;decide) (by show (0:Nat)<=9223372036854775807;decide) k
 refine⟨_,rfl,h.hs (.c r1 (.c r1 .n)),?_⟩
 refine ef (sg rfl) (h.hs (.c r1 (.c r1 .n)))<|xz<|nx<|sq<|bk<|?_
 refine lp (α:=Nat×Nat×Ct.X) (λρ=>(.c 3 ↑b1 (.c 4 ↑b (.c 7 ↑xb .n)))) (λρ w=>SH B w (XA xb mb ρ.2.2::bl b ([↑mb,.int .u64 (aI:Int),.slice (some ⟨b8,0,none⟩) ts.length twc,.slice xwp zs.length xwc]) 36::aU 26 2 (.slice (some ⟨b8,0,none⟩) ts.length twc) ts.length (ts.flatMap cU)::aU 43 1 (.slice xwp zs.length xwc) zs.length (zs.flatMap Ii)::eV mb zs::bl b1 ([.int .i64 0,↑false]) 26::Ba::L)/\(ρ.1+ρ.2.1=31)/\(Ct.P6 Ct.aB5 g s.size ρ.1 ρ.2.1 ρ.2.2)) (λρ=>ρ.2.1) (0,31,(Ct.bX (Ct.bY (Ct.NL (ts.getD 0 {})) Ct.FU) 0 ⟨{call:=(Ct.NL (ts.getD 0 {}))},s⟩)) ⟨rfl,rfl,rfl,trivial⟩ ⟨h,rfl,hl⟩ ?_
 rintro⟨i,n,x⟩ w ⟨h,hi,hl⟩
 dsimp only at *
 refine sq<|sq<|rg<|st (mv rfl)<|cl (ca eF rfl) ((vH xb mb x (h.fr (.c r0 .n))).mono ?_)
 rintro _ w ⟨rfl,h⟩
 refine⟨_,rfl,?_⟩
 refine st (nt rfl)<|xe<|nx<|?_
 rcases mD (!x.e.done)with hd9|hd9
 have hd10:x.e.done=false:=(lC _).mp hd9
 refine ct rfl hd9<|sk<|nx<|bk<|?_
 have hrd:s.size+199*i+120<=Ct.room:=by unfold Ct.room;omega
 refine rg<|st (mv rfl)<|cl (ca eF rfl) ((Pq xb mb x Ct.FU (h.fr (.c r0 .n)) hd10 (hl.lone.ready hrd).1 (hl.lone.ready hrd).2 (by decide) hl.lone.call.1 hl.lone.call.2.1 hl.lone.call.2.2.1 hl.lone.call.2.2.2).mono ?_)
 rintro _ w ⟨rfl,h,k⟩
 have hl2:=hl.step hd10 (by unfold Ct.Cx;omega) k
 refine⟨_,rfl,?_⟩
 refine xe<|bn<|nx<|?_
 exact⟨((i+1),(n-1),Ct.bX (Ct.bY x.e.call Ct.FU) 1 x),⟨rfl,rfl,rfl,trivial⟩,⟨h,(by have h3:0<n:=hl2.1;dsimp only;omega),hl2.2⟩,(by have h3:0<n:=hl2.1;dsimp only;omega)⟩
 have hd11:x.e.done=true:=(AD _).mp hd9
 refine cf rfl hd9<|xt<|tx<|tx<|be<|nx<|sq<|Uc (F:=[bl b ([↑mb,.int .u64 (aI:Int),.slice (some ⟨b8,0,none⟩) ts.length twc,.slice xwp zs.length xwc]) 36]) [(true,[1,3,5,7,9,11,12,15,16,18,21,23]),(false,[24])] (by kernel_rfl) h (λw h=>(hC (h.at_ a1) hN)) λw h=>VP<|tk (λW H=>mv rfl)<|tk (λW H=>mv rfl)<|tk (λW H=>nc rfl rfl)<|tk (λW H=>fa rP rfl)<|tk (λW H=>ld Hd rfl (H.c a0 rfl))<|tk (λW H=>mv rfl)<|cs (ca eF rfl) ((Kf xb mb x (h.fr (.c r0 .n))).mono ?_)
 rintro _ w ⟨rfl,h⟩
 refine⟨_,rfl,(hC (h.at_ a1) hN),?_⟩
 refine tk (λW H=>fda WV rfl)<|ff (bu [↑x.e.result.aE.root,↑x.e.result.aE.readOnly] h Fp YO rfl (by kernel_rfl) rfl (by decide) (by decide))<|?_
 rintro _ w ⟨b12,rfl,h⟩
 refine⟨(hC (h.at_ a2) hN),?_⟩
 refine ff (ap h Fp rfl YO rfl (by decide) rfl rfl (λ_=>u3) (h.ro a0) (by simp[Value.oneCell']) rfl (fW (enc:=cU) _ x.e.result.aE) (by unfold maxLen;omega) (by omega))<|?_
 rintro _ w ⟨p13,c14,rfl,h⟩
 refine⟨(hC (h.at_ a2) hN),?_⟩
 refine tk (λW H=>nc rfl rfl)<|tk (λW H=>fa rP rfl)<|Zp<|ff (so h rfl rfl rfl T4 rfl (.s (.s (.r .d))) u2)<|?_
 rintro _ w h
 refine⟨trivial,?_⟩
 refine xz<|nx<|sq<|rg<|st (mv rfl)<|st (mv rfl)<|cl (ca eF rfl) ((Kf xb mb x (h.fr (.c r1 .n))).mono ?_)
 rintro _ w ⟨rfl,h⟩
 refine⟨_,rfl,?_⟩
 refine st (fda WV rfl)<|st (sg rfl)<|sf (so h rfl rfl rfl xK rfl (.r (.r .d)) u6)<|?_
 rintro _ w h
 refine xe<|nx<|rt<|?_
 refine rr (aAd results15 rfl rfl (h.b a6) oB)<|?_
 obtain⟨g',hR⟩:=Ct.P6.fin hl hd11 (by omega) hsz
 have h:=SH.Zh (h.fr (.c r0 .n))
 exact⟨b,mb,aI,g',x.s,_,_,x.e.result.aE,hmk,hR,rfl,((h.fr (.c r1 (.c r2 (.c r2 (.c r2 (.c r2 .n)))))).drop.drop.drop.drop.drop.fr (.c r1 (.c r0 (.c r0 .n))))⟩
theorem _root_.Go.Ct.aAt:Ct.Bj 1000<=Ct.szD:=lK Ct.W1 (by decide)
theorem aA7(ab:Nat)(t:Ct.bC)(s:Ct.St)(hs:Ct.Rm 60 s)(h:SH B w ((cV ab).a s::L)):
  Calls prog 17 #[(cV ab).v,.agg (cU t).toArray] w λe w'=>∃tb,e=.returned (.pointer (some ⟨tb,0,none⟩))/\SH B w' (eN (cV ab) 1000 tb ((Ct.mS (Ct.PB t) Ct.FU).head s).2 0::(cV ab).a ((Ct.mS (Ct.PB t) Ct.FU).head s).1::L):=by
 refine(JY (cV ab) (by show 1+1<=346;decide) (by show 1+2<=346;decide) t 99999999 1000 Ct.szD (by decide) (by decide) Ct.aAt s h hs).mono ?_
 rintro e w' ⟨tb,s',u,hq,rfl,h⟩
 rw[Ct.R5,hq]
 exact⟨tb,rfl,z' h⟩
theorem AZ(l0:List Int)(p0:Option Addr)(c0:Nat)(h:SH B w (bV 1 (.slice p0 l0.length c0) l0.length (l0.map (Value.int .i64))::Ba::L)):
  Calls prog 4 #[.slice p0 l0.length c0] w λe w'=>e=.returned ↑true/\SH B w' (Ba::L):=by
 refine Ea (args:=[_]) func4 rfl ntmps4 rfl ?_
 refine sq<|rg<|st (sg rfl)<|xe<|nx<|sq<|rg<|st (mv rfl)<|cl (ca eF rfl) ((Yw l0 p0 c0 (h.fr (.c r0 (.c r0 .n)))).mono ?_)
 rintro _ w ⟨b,mb,aI,g,s,v2,v3,t,hmk,hR,rfl,h⟩
 have hsz:=hR.size
 refine⟨_,rfl,?_⟩
 refine st (mv rfl)<|st (xr rfl rfl)<|st (xr rfl rfl)<|sf (al h NG)<|?_
 rintro _ w ⟨b1,rfl,h⟩
 refine st (sg rfl)<|sf (so h rfl rfl rfl xK rfl (.r (.r .d)) u0)<|?_
 rintro _ w h
 refine xe<|nx<|sq<|rg<|st (mv rfl)<|st (nc rfl rfl)<|st (fa Mz rfl)<|st (ld Jp rfl (h.c a1 rfl))<|cl (ca eF rfl) ((CN mb s (h.fr (.c r2 .n)) (by omega) (Ct.IE hR.gw hR.PI) (lS hR.fit (by omega))).mono ?_)
 rintro _ w ⟨ab,rfl,h⟩
 obtain⟨hl0,hs0⟩:=hR.M7
 have hst:=Ct.gW (c:=(Ct.PB t)) hl0.fit (by unfold Ct.room;omega)
 have hcok:=hR.cnt
 refine⟨_,rfl,?_⟩
 refine st (sg rfl)<|xe<|nx<|sq<|sq<|?_
 have h:=aBm h a4
 have h:=LX (h.fr (.c r1 (.c r0 .n)))
 refine rg<|st (mv rfl)<|st (i4 VR rfl rfl)<|xe<|nx<|cF rfl<|sk<|nx<|sq<|rg<|st (gJ rfl (dK (h.b a2)) oB)<|st (bd [.int .i64 14,↑t.root,↑t.readOnly,.int .i64 0,.int .i64 0,.int .i64 0,.int .i64 0,.int .u64 0,.int .u64 0,.string .empty,.int .u64 0,.int .u64 0,.int .i64 0,↑false,↑false,.slice none 0 0,.slice none 0 0,.int .i64 0,↑false,.int .u64 0,.string .empty,.int .i64 0,.int .i64 0,.int .i64 0,↑false] Lv rfl (by kernel_rfl))<|sf (al h Li)<|?_
 rintro _ w ⟨b2,rfl,h⟩
 refine sf (so h rfl rfl rfl Gf rfl (.r (.r (.r (.r (.r (.r (.r (.r (.r (.r (.r (.r (.r (.r (.r (.r (.r (.r (.r (.r (.r (.r (.r (.r (.r .d))))))))))))))))))))))))) u0)<|?_
 rintro _ w h
 refine xe<|nx<|sq<|dZ [0,3,5,7,9,11,13,15,17,19,23,25,27,29,31,20,32,35,36,38,41,42] (by kernel_rfl) h (.c r4 (.c r3 (.c r0 .n))) λw h=>cs (ca eF rfl) ((LQ (h.fr (.c r5 .n))).mono ?_)
 rintro _ w ⟨rfl,h⟩
 refine⟨_,rfl,h.hs (.c r5 (.c r4 (.c r1 .n))),?_⟩
 refine tk (λW H=>mv rfl)<|oX rfl rfl rfl<|tk (λW H=>mv rfl)<|oX rfl rfl rfl<|tk (λW H=>mv rfl)<|oX rfl rfl rfl<|tk (λW H=>nc rfl rfl)<|oX rfl rfl rfl<|tk (λW H=>fa Mz rfl)<|oX rfl rfl rfl<|tk (λW H=>ld Jp rfl (H.c a0 rfl))<|oX rfl rfl rfl<|tk (λW H=>mv rfl)<|oX rfl rfl rfl<|tk (λW H=>mi VR rfl rfl)<|oX rfl rfl rfl<|tk (λW H=>gJ rfl (dK (H.b a1)) oB)<|oX rfl rfl rfl<|tk (λW H=>mv rfl)<|oX rfl rfl rfl<|tk (λW H=>nc rfl rfl)<|oX rfl rfl rfl<|tk (λW H=>fa Mz rfl)<|oX rfl rfl rfl<|tk (λW H=>ld Jp rfl (H.c a0 rfl))<|oX rfl rfl rfl<|tk (λW H=>gJ rfl (dK (H.b a2)) Fw)<|oX rfl rfl rfl<|cs (ca eF rfl) ((aA7 ab t {s with acc:=0} ⟨hl0.fit,by unfold Ct.cN;omega⟩ (h.fr (.c r2 .n))).mono ?_)
 rintro _ w ⟨tkb,rfl,h⟩
 refine⟨_,rfl,h.hs (.c r6 (.c r5 (.c r3 .n))),?_⟩
 refine oX rfl rfl rfl<|cs (ca eF rfl) ((rW mb {s with acc:=0} (Ct.PB t) Ct.FU (h.fr (.c r4 .n)) hst.1 hst.2 (by decide) (by show (0:Nat)<18446744073709551616;decide) (by show (0:Nat)<=9223372036854775807;decide) hcok.lo hcok.hi).mono ?_)
 rintro _ w ⟨xb,rfl,h,hok⟩
 refine⟨_,rfl,h.hs (.c r6 (.c r5 (.c r4 .n))),?_⟩
 refine oX rfl rfl rfl<|tk (λW H=>bd [↑tkb,↑xb] aBu rfl (by kernel_rfl))<|oX rfl rfl rfl<|ff (bu [↑tkb,↑xb] h aCi UU rfl (by kernel_rfl) rfl (by decide) (by decide))<|?_
 rintro _ w ⟨b3,rfl,h⟩
 refine⟨h.hs (.c r7 (.c r6 (.c r5 .n))),?_⟩
 refine oX rfl rfl rfl<|cs (ca eF rfl) ((V5 ab mb tkb xb b3 1000 g {s with acc:=0} (Ct.PB t) (h.fr (.c r2 (.c r2 (.c r1 (.c r0 .n))))) hl0 (by omega) (by decide) hcok (by show (0:Nat)<18446744073709551616;decide) (by show (0:Nat)<=9223372036854775807;decide) hok).mono ?_)
 rintro _ w ⟨s1,hf1,hz1,rfl,h⟩
 refine⟨_,rfl,h.hs (.c r5 (.c r4 (.c r3 .n))),?_⟩
 refine tk (λW H=>pT rfl rfl rfl)<|ef (sg rfl) (h.hs (.c r5 (.c r4 (.c r3 .n))))<|xz<|nx<|rt<|?_
 refine rr (jP results4 rfl)<|⟨rfl,(h.fr (.c r0 (.c r0 (.c r1 (.c r1 (.c r1 .n)))))).drop.drop.drop.drop.drop⟩
end Go.Q9
end
