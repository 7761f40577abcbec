/- Parts of a proof: Azb, Sn. -/
import Derived.Test.YtlpbjpanggcbbaaGreatW49
set_option linter.unusedVariables false
set_option linter.unusedSimpArgs false
set_option maxRecDepth 100000
set_option maxHeartbeats 4000000
section
namespace Go.Q9
open Go.Proofs.Tryz
open Go.E
end Go.Q9
end
section
namespace Go.Q9
open Go.Proofs.Tryz
open Go.RowKit Go.E
attribute [local irreducible] gB wpS Go.E.X XS C jU kP fin Y U F Ca jT bl rb aU bV ex ce pu sK gK bK zK gM fO dH gP nE rD
variable{B w:World}{L:List As}
theorem VM(ab:Nat)(c:Ct.Call)(s:Ct.St)(h:SH B w ((cV ab).a s::L))(hk:c.kind=9)(hs:Ct.Rm 60 s)(hky:c.key.size<=9223372036854775807)(hmk:c.aI<18446744073709551616):Calls prog 27 #[(cV ab).v,.agg (cU c.aE).toArray,.int .u64 (c.aI:Int),↑c.key,↑c.only,.int .u64 (c.expect:Int)] w λe w'=>∃tb,e=.returned (.pointer (some ⟨tb,0,none⟩))/\SH B w' (eN (cV ab) 99999999 tb ((Ct.mS c Ct.FU).head s).2 0::(cV ab).a ((Ct.mS c Ct.FU).head s).1::L):=by
 refine(DP (cV ab) 99999999 c s h hs hky hmk (by decide)).mono ?_
 rintro e w' ⟨tb,s',u,hq,rfl,h⟩
 have e0:(Ct.mS c Ct.FU).head s=(s',u):=by
  unfold Ct.mS
  rw[hk,if_neg (by decide),if_neg (by decide),if_pos (by decide)]
  exact hq
 rw[e0]
 exact⟨tb,rfl,h⟩
theorem P9(ab:Nat)(c:Ct.Call)(s:Ct.St)(h:SH B w ((cV ab).a s::L))(hk:c.kind=10)(hs:Ct.Rm 60 s):Calls prog 28 #[(cV ab).v,.agg (cU c.aE).toArray] w λe w'=>∃tb,e=.returned (.pointer (some ⟨tb,0,none⟩))/\SH B w' (eN (cV ab) 99999999 tb ((Ct.mS c Ct.FU).head s).2 0::(cV ab).a ((Ct.mS c Ct.FU).head s).1::L):=by
 refine(Vi (cV ab) 99999999 c.aE s h hs).mono ?_
 rintro e w' ⟨tb,s',u,hq,rfl,h⟩
 have e0:(Ct.mS c Ct.FU).head s=(s',u):=by
  unfold Ct.mS
  rw[hk,if_neg (by decide),if_neg (by decide),if_neg (by decide),if_pos (by decide)]
  exact hq
 rw[e0]
 exact⟨tb,rfl,h⟩
theorem TZ(ab:Nat)(c:Ct.Call)(s:Ct.St)(h:SH B w ((cV ab).a s::L))(hk:c.kind=11)(hs:Ct.Rm 60 s):Calls prog 29 #[(cV ab).v,.agg (cU c.aE).toArray] w λe w'=>∃tb,e=.returned (.pointer (some ⟨tb,0,none⟩))/\SH B w' (eN (cV ab) 99999999 tb ((Ct.mS c Ct.FU).head s).2 0::(cV ab).a ((Ct.mS c Ct.FU).head s).1::L):=by
 refine(Ep (cV ab) 99999999 c.aE s h hs).mono ?_
 rintro e w' ⟨tb,s',u,hq,rfl,h⟩
 have e0:(Ct.mS c Ct.FU).head s=(s',u):=by
  unfold Ct.mS
  rw[hk,if_neg (by decide),if_neg (by decide),if_neg (by decide),if_neg (by decide),if_pos (by decide)]
  exact hq
 rw[e0]
 exact⟨tb,rfl,h⟩
def qV:List Int:=[11,8,10,9,7]
theorem RG(j:Nat)(h:j<5):7<=qV.getD j 0/\qV.getD j 0<=11:=(by decide:∀x,x∈qV->7<=x/\x<=11) _ (kH h)
theorem IJ(ab:Nat)(c:Ct.Call)(s:Ct.St)(h:SH B w ((cV ab).a s::L))(hk:7<=c.kind/\c.kind<=11)(hs:Ct.Rm 60 s)(hky:c.key.size<=9223372036854775807)(hmk:c.aI<18446744073709551616):
  Calls prog 10 #[↑ab,.agg [↑c.kind,↑c.aE.root,↑c.aE.readOnly,↑c.a,↑c.b,↑c.n,↑c.index,.int .u64 (c.hash:Int),.int .u64 (c.aI:Int),↑c.key,.int .u64 (c.value:Int),.int .u64 (c.expect:Int),↑c.bF,↑c.only,↑c.walk.started,.slice none 0 0,.slice none 0 0,↑c.answer.err,↑c.answer.found,.int .u64 (c.answer.value:Int),↑c.answer.key,↑c.answer.count,↑c.answer.ref,↑c.answer.aE.root,↑c.answer.aE.readOnly].toArray] w λe w'=>∃tb,e=.returned (.pointer (some ⟨tb,0,none⟩))/\SH B w' (eN (cV ab) 99999999 tb ((Ct.mS c Ct.FU).head s).2 0::(cV ab).a ((Ct.mS c Ct.FU).head s).1::L):=by
 refine bZ func10 ntmps10 h λw h=>?_
 refine jX h λb1 w h=>?_
 refine qc h (λhd2 w h=>?_) λhd2 w h=>?_
 refine st (mi Oq rfl rfl)<|go h λw h=>?_
 refine st (gJ (cs:=[↑c.aE.root,↑c.aE.readOnly]) rfl (eP (h.b a0) 1 rfl) Row.h)<|go h λw h=>?_
 refine cG (WV _ c _ h.to (eq_of_beq hd2) hs hky hmk) λtkb w h=>?_
 exact rz ⟨tkb,rfl,h.to⟩
 refine qc h (λhd5 w h=>?_) λhd5 w h=>?_
 refine st (mi Oq rfl rfl)<|go h λw h=>?_
 refine st (gJ (cs:=[↑c.aE.root,↑c.aE.readOnly]) rfl (eP (h.b a0) 1 rfl) Row.h)<|go h λw h=>?_
 refine cl (ca eF rfl) ((VM ab c s (h.fr (.c r1 .n)) (eq_of_beq hd5) hs hky hmk).mono ?_)
 rintro _ w ⟨tkb,rfl,h⟩
 refine⟨_,rfl,?_⟩
 refine st (sg rfl)<|xe<|nx<|rt<|bt<|tr<|?_
 exact rz ⟨tkb,rfl,h.to⟩
 refine qc h (λhd8 w h=>?_) λhd8 w h=>?_
 refine st (mi Oq rfl rfl)<|go h λw h=>?_
 refine st (gJ (cs:=[↑c.aE.root,↑c.aE.readOnly]) rfl (eP (h.b a0) 1 rfl) Row.h)<|go h λw h=>?_
 refine cG (P9 _ c _ h.to (eq_of_beq hd8) hs) λtkb w h=>?_
 exact rz ⟨tkb,rfl,h.to⟩
 refine qc h (λhd11 w h=>?_) λhd11 w h=>?_
 refine st (mi Oq rfl rfl)<|go h λw h=>?_
 refine st (gJ (cs:=[↑c.aE.root,↑c.aE.readOnly]) rfl (eP (h.b a0) 1 rfl) Row.h)<|go h λw h=>?_
 refine cG (TZ _ c _ h.to (eq_of_beq hd11) hs) λtkb w h=>?_
 exact rz ⟨tkb,rfl,h.to⟩
 refine st (mi Oq rfl rfl)<|go h λw h=>?_
 refine st (gJ (cs:=[↑c.aE.root,↑c.aE.readOnly]) rfl (eP (h.b a0) 1 rfl) Row.h)<|go h λw h=>?_
 refine cG (JE _ c _ h.to (by have:=eC hd2;have:=eC hd5;have:=eC hd8;have:=eC hd11;omega) hs hky hmk) λtkb w h=>?_
 exact rz ⟨tkb,rfl,h.to⟩
theorem Ji(l0:List Int)(p0:Option Addr)(c0:Nat)(l1:List Int)(p1:Option Addr)(c1:Nat)(l2:List Int)(p2:Option Addr)(c2:Nat)(h:SH B w (bV 1 (.slice p0 l0.length c0) l0.length (l0.map (Value.int .i64))::bV 1 (.slice p1 l1.length c1) l1.length (l1.map (Value.int .i64))::bV 1 (.slice p2 l2.length c2) l2.length (l2.map (Value.int .i64))::L)):
  Calls prog 3 #[.slice p0 l0.length c0,.slice p1 l1.length c1,.slice p2 l2.length c2] w λe w'=>e=.returned ↑true/\SH B w' L:=by
 refine bZ func3 ntmps3 h λw h=>?_
 refine cl (ca eF rfl) ((Zz l0 p0 c0 (h.fr (.c r0 .n))).mono ?_)
 rintro _ w ⟨b,mb,aI,g,s,ts,zs,hmk,hW,rfl,h⟩
 have hsz:s.size<=37000000000:=by have:=hW.size;omega
 refine⟨_,rfl,?_⟩
 refine st (sg rfl)<|xe<|nx<|sq<|rg<|st (mv rfl)<|?_
 refine go h λw h=>?_
 refine cG (NS _ _ _ h.to) λtpb w h=>?_
 have h:=h.fr (.c r1 .n)
 obtain⟨⟨twp,twc,xwp,xwc⟩,h⟩:=h.wo
 have h:SH B w (bl b ([↑mb,.int .u64 (aI:Int),.slice twp ts.length twc,.slice xwp zs.length xwc]) 34::aU 38 2 (.slice twp ts.length twc) ts.length (ts.flatMap cU)::aU 52 1 (.slice xwp zs.length xwc) zs.length (zs.flatMap Ii)::gQ tpb l1::eV mb zs::cR mb s::bV 1 (.slice p2 l2.length c2) l2.length (l2.map (Value.int .i64))::L):=h
 refine go h λw h=>?_
 refine cG (CN _ _ h.to (by omega) (Ct.IE hW.gw hW.PI) (lS hW.fit (by omega))) λab w h=>?_
 obtain⟨hl0,hs0⟩:=hW.M7
 refine go h λw h=>?_
 refine st (i4 Oq rfl rfl)<|go h λw h=>?_
 have h:=h.fr (.c r2 (.c r2 (.c r2 .n)))
 have h:SH B w (nS b mb aI ts zs::wW ab {s with acc:=0}::cR mb {s with acc:=0}::gQ tpb l1::eV mb zs::bV 1 (.slice p2 l2.length c2) l2.length (l2.map (Value.int .i64))::L):=SH.wi ⟨twp,twc,xwp,xwc⟩ h
 have h:=LX (h.fr (.c r1 .n))
 have h:=SH.nil 55 2 (SH.VH (mb:=mb) (i9 (S:=cV ab) (n:=400) h))
 refine go h λw h=>?_
 refine sf (bu [.int .i64 11,.int .i64 8,.int .i64 10,.int .i64 9,.int .i64 7] h fR.h Ss.h rfl (by kernel_rfl) rfl (by decide) (by decide)) ?_
 rintro _ w ⟨b1,rfl,h⟩
 refine go h λw h=>?_
 have h:SH B w (aU 3 1 (.slice (some ⟨b1,0,none⟩) 5 5) 5 (qV.map (Value.int .i64))::aU 55 2 (.slice none 0 0) 0 (([]:List (Nat×Nat)).flatMap Ns)::eV mb (([]:List Ct.Px).map Af)::nR (cV ab) 400 ([]:List Ct.Px)::(cV ab).a {s with acc:=0}::nS b mb aI ts zs::cR mb {s with acc:=0}::gQ tpb l1::eV mb zs::bV 1 (.slice p2 l2.length c2) l2.length (l2.map (Value.int .i64))::L):=h
 refine lp (α:=Nat×Ct.Ga×Ct.St×List Ct.Px×List (Nat×Nat)×Option Addr×Nat) (λρ=>(.c 2 (.slice p2 l2.length c2) (.c 7 ↑b (.c 8 ↑tpb (.c 9 ↑ab (.c 10 (.slice ρ.2.2.2.2.2.1 ρ.2.2.2.2.1.length ρ.2.2.2.2.2.2) (.c 25 (.slice (some ⟨b1,0,none⟩) 5 5) (.c 26 (.int .i64 5) (.c 27 (.int .i64 (ρ.1:Int)) .n))))))))) (λρ w=>SH B w (nS b mb aI ts zs::gQ tpb l1::(cV ab).a ρ.2.2.1::cR mb ρ.2.2.1::nR (cV ab) 400 ρ.2.2.2.1::eV mb (ρ.2.2.2.1.map Af)::aU 55 2 (.slice ρ.2.2.2.2.2.1 ρ.2.2.2.2.1.length ρ.2.2.2.2.2.2) ρ.2.2.2.2.1.length (ρ.2.2.2.2.1.flatMap Ns)::aU 3 1 (.slice (some ⟨b1,0,none⟩) 5 5) 5 (qV.map (Value.int .i64))::eV mb zs::bV 1 (.slice p2 l2.length c2) l2.length (l2.map (Value.int .i64))::L)/\(Ct.Ub 0 ρ.2.1 ρ.2.2.1 ρ.2.2.2.1)/\(Ct.Ge g ρ.2.1)/\(ρ.2.2.1.size<=37100000000+300*ρ.1)/\(ρ.2.2.2.1.map AW=ρ.2.2.2.2.1)/\(ρ.2.2.2.2.1.length=1*ρ.1)/\(ρ.1<=5)) (λρ=>5-ρ.1) (0,g,{s with acc:=0},([]:List Ct.Px),([]:List (Nat×Nat)),none,0) ⟨rfl,rfl,rfl,rfl,rfl,rfl,rfl,rfl,trivial⟩ ⟨h.to,hl0,(Ct.Ge.refl hW.gw),(by show Ct.St.size {s with acc:=0}<=37100000000+300*0;omega),rfl,rfl,by omega⟩ ?_
 rintro⟨i,g1,s1,ys,ps,pp,cp⟩ w ⟨h,hL,hge,hz,hps,hpl,hi⟩
 dsimp only at *
 refine go h λw h=>?_
 refine qc h (λhd2 w h=>?_) λhd2 w h=>?_
 have hg3:=Qa hd2
 refine go h λw h=>?_
 have hkd:=RG i (by omega)
 refine go h λw h=>?_
 refine cl (ca eF rfl) ((wN b mb tpb aI ts zs l1 (qV.getD i 0) (h.fr (.c r0 (.c r0 .n))) hW.some hW.Qr (by omega) (by omega) hW.first).mono ?_)
 rintro _ w ⟨kc4,hck5,hcm6,hcky7,hct8,hcw9,rfl,h⟩
 have hcok10:Ct.kZ g kc4:=hW.Gz (by omega) (by omega) hct8 hcw9
 have kc4m:kc4.aI<18446744073709551616:=by rw[hcm6];exact hmk
 have kc4k:kc4.key.size<=9223372036854775807:=by omega
 refine⟨_,rfl,?_⟩
 refine go h λw h=>?_
 refine jA h λb11 w h=>?_
 have h:=h.fr (.c r1 .n)
 obtain⟨⟨twp,twc,xwp,xwc⟩,h⟩:=h.wo
 have h:SH B w (bl b ([↑mb,.int .u64 (aI:Int),.slice twp ts.length twc,.slice xwp zs.length xwc]) 34::aU 38 2 (.slice twp ts.length twc) ts.length (ts.flatMap cU)::aU 52 1 (.slice xwp zs.length xwc) zs.length (zs.flatMap Ii)::bl b11 ([↑kc4.kind,↑kc4.aE.root,↑kc4.aE.readOnly,↑kc4.a,↑kc4.b,↑kc4.n,↑kc4.index,.int .u64 (kc4.hash:Int),.int .u64 (kc4.aI:Int),↑kc4.key,.int .u64 (kc4.value:Int),.int .u64 (kc4.expect:Int),↑kc4.bF,↑kc4.only,↑kc4.walk.started,.slice none 0 0,.slice none 0 0,↑kc4.answer.err,↑kc4.answer.found,.int .u64 (kc4.answer.value:Int),↑kc4.answer.key,↑kc4.answer.count,↑kc4.answer.ref,↑kc4.answer.aE.root,↑kc4.answer.aE.readOnly]) 48::gQ tpb l1::(cV ab).a s1::cR mb s1::nR (cV ab) 400 ys::eV mb (ys.map Af)::aU 55 2 (.slice pp ps.length cp) ps.length (ps.flatMap Ns)::aU 3 1 (.slice (some ⟨b1,0,none⟩) 5 5) 5 (qV.map (Value.int .i64))::eV mb zs::bV 1 (.slice p2 l2.length c2) l2.length (l2.map (Value.int .i64))::L):=h
 refine dZ [1,3,5,9,11,13,15,17,6,18,21,22,24,26] (by kernel_rfl) h (.c r3 (.c r0 .n)) λw h=>go h λw h=>?_
 refine cs (ca eF rfl) ((IJ ab kc4 s1 (h.fr (.c r5 .n)) (by omega) ⟨hL.fit,by unfold Ct.cN;omega⟩ kc4k kc4m).mono ?_)
 rintro _ w ⟨tkb12,rfl,h⟩
 refine⟨_,rfl,h.hs (.c r5 (.c r2 .n)),?_⟩
 refine go h λw h=>?_
 refine TA (rW _ _ kc4 _ h.to (Ct.gW (c:=kc4) hL.fit (by unfold Ct.room;omega)).1 (Ct.gW (c:=kc4) hL.fit (by unfold Ct.room;omega)).2 (by decide) kc4m kc4k hcok10.lo hcok10.hi) λxb13 w h hok14=>?_
 refine ff (bu [↑tkb12,↑xb13] h fR.h Ss.h rfl (by kernel_rfl) rfl (by decide) (by decide)) ?_
 rintro _ w ⟨b15,rfl,h⟩
 refine gz h λw h=>?_
 refine ff (ap h UR rfl UU rfl (by decide) rfl rfl (λ_=>N3) (h.ro a0) (by simp[Value.oneCell']) (DB ps (tkb12,xb13)) (fW (enc:=Ns) _ (tkb12,xb13)) (by(try simp only[tW,sX]);unfold maxLen;omega) (by(try simp only[tW,sX]);omega))<|?_
 rintro _ w ⟨p16,c17,rfl,h⟩
 refine⟨h.hs (.c r7 (.c r4 .n)),?_⟩
 refine ef (sg rfl) (h.hs (.c r7 (.c r4 .n)))<|xz<|bn<|nx<|?_
 refine go h λw h=>?_
 have h:=h.fr (.c r2 (.c r2 (.c r1 (.c r6 (.c r6 .n)))))
 obtain⟨g18,ss19,ys20,hL21,hps22,hge23,hz24,h⟩:=Gy hL hps (by omega) (hcok10.ge hge) kc4m kc4k hok14 h
 have hge:=hge.trans hge23
 have h:=h.fr (.c r5 (.c r5 (.c r5 .n)))
 have h:SH B w (nS b mb aI ts zs::cR mb ss19::(cV ab).a ss19::nR (cV ab) 400 ys20::eV mb (ys20.map Af)::aU 55 2 (.slice (some ⟨b15,0,none⟩) 1 1) 1 ([.pointer (some ⟨tkb12,0,none⟩),.pointer (some ⟨xb13,0,none⟩)])::bl b11 ([.int .i64 kc4.kind,.int .i64 kc4.aE.root,.bool kc4.aE.readOnly,.int .i64 kc4.a,.int .i64 kc4.b,.int .i64 kc4.n,.int .i64 kc4.index,.int .u64 (kc4.hash:Int),.int .u64 (kc4.aI:Int),.string kc4.key,.int .u64 (kc4.value:Int),.int .u64 (kc4.expect:Int),.int .i64 kc4.bF,.bool kc4.only,.bool kc4.walk.started,.slice none 0 0,.slice none 0 0,.int .i64 kc4.answer.err,.bool kc4.answer.found,.int .u64 (kc4.answer.value:Int),.string kc4.answer.key,.int .i64 kc4.answer.count,.int .i64 kc4.answer.ref,.int .i64 kc4.answer.aE.root,.bool kc4.answer.aE.readOnly]) 48::gQ tpb l1::aU 55 2 (.slice p16 (ps++[(tkb12,xb13)]).length c17) (ps++[(tkb12,xb13)]).length ((ps++[(tkb12,xb13)]).flatMap Ns)::aU 3 1 (.slice (some ⟨b1,0,none⟩) 5 5) 5 (qV.map (Value.int .i64))::eV mb zs::bV 1 (.slice p2 l2.length c2) l2.length (l2.map (Value.int .i64))::L):=SH.wi ⟨twp,twc,xwp,xwc⟩ h
 refine go h λw h=>?_
 exact⟨((i+1),g18,ss19,ys20,(ps++[(tkb12,xb13)]),p16,c17),⟨rfl,rfl,rfl,rfl,rfl,rfl,rfl,rfl,trivial⟩,⟨(h.to.fr (.c r0 (.c r4 (.c r1 (.c r0 (.c r0 (.c r0 (.c r0 (.c r0 (.c r0 (.c r0 .n))))))))))),hL21,hge,by(try dsimp only);omega,hps22,(by(try dsimp only);simp only[tW,sX];omega),by(try dsimp only);omega⟩,by(try dsimp only);omega⟩
 have hg25:=zG hd2
 refine go h λw h=>?_
 have h:=h.fr (.c r0 .n)
 obtain⟨⟨twp,twc,xwp,xwc⟩,h⟩:=h.wo
 have h:SH B w (bl b ([↑mb,.int .u64 (aI:Int),.slice twp ts.length twc,.slice xwp zs.length xwc]) 34::aU 38 2 (.slice twp ts.length twc) ts.length (ts.flatMap cU)::aU 52 1 (.slice xwp zs.length xwc) zs.length (zs.flatMap Ii)::gQ tpb l1::(cV ab).a s1::cR mb s1::nR (cV ab) 400 ys::eV mb (ys.map Af)::aU 55 2 (.slice pp ps.length cp) ps.length (ps.flatMap Ns)::aU 3 1 (.slice (some ⟨b1,0,none⟩) 5 5) 5 (qV.map (Value.int .i64))::eV mb zs::bV 1 (.slice p2 l2.length c2) l2.length (l2.map (Value.int .i64))::L):=h
 have h:=SH.fz (h.fr (.c r8 .n))
 refine go h λw h=>?_
 refine cl (ca eF rfl) ((NU (h.fr .n)).mono ?_)
 rintro _ w ⟨rfl,h⟩
 refine⟨_,rfl,?_⟩
 refine st (mv rfl)<|gT rfl rfl rfl<|st (mv rfl)<|gT rfl rfl rfl<|st (mv rfl)<|gT rfl rfl rfl<|st (nc rfl rfl)<|gT rfl rfl rfl<|st (fa SQ rfl)<|gT rfl rfl rfl<|st (ld Jo rfl (h.c a1 rfl))<|gT rfl rfl rfl<|st (mv rfl)<|gT rfl rfl rfl<|st (mv rfl)<|gT rfl rfl rfl<|?_
 refine go h λw h=>?_
 refine cl (ca eF rfl) ((LK ab mb g1 s1 ys (ps) l2 pp p2 cp c2 (h.fr (.c r7 (.c r7 (.c r6 (.c r5 (.c r0 (.c r6 .n))))))) hL hps (by omega) (by omega)).mono ?_)
 rintro _ w ⟨sz,hf1,hz1,rfl,h⟩
 refine⟨_,rfl,?_⟩
 refine st (pT rfl rfl rfl)<|st (sg rfl)<|xe<|nx<|rt<|?_
 refine go h λw h=>?_
 exact rz ⟨rfl,h.drop.drop.drop.drop.drop.drop.drop.drop⟩
end Go.Q9
end
