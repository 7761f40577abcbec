/- Parts of a proof: Ayz, Pe, Fw, Cr, Ayn, Ys, Azp, Qw, Azs, Pc. -/
import Derived.Test.YtnhdmcipglnkfaaGreatW52
import Derived.Deep.RegionHeld3
set_option linter.unusedVariables false
set_option linter.unusedSimpArgs false
set_option maxRecDepth 100000
set_option maxHeartbeats 4000000
section
namespace Go.Q9
open Go.Proofs.Tryz
open Go.E
end Go.Q9
end
section
namespace Go.Q9
open Go.Proofs.Tryz
open Go.RowKit Go.E
attribute [local irreducible] gA wpS Go.E.X XS C kV lL fin Y U F Ca kU bl rb aV bS ex ce pu sK gK bK zK gG fE cZ gY mA rQ
theorem aD9:Ub (B5 ((Ct.zY 8).2.ended.getD {})) [.int .i64 0,↑false,.int .u64 0,.string .empty,.int .i64 1,.int .i64 0,.int .i64 0,↑false]=true:=by rw[Ct.U2];simp[Ub,veq,B5]
variable{B w:World}{L:List As}
theorem WU(mb:Nat)(h:SH B w (dX mb {}::L)):Calls prog 29 #[↑mb] w λe w'=>e=.returned (.agg (dV Ct.a7T).toArray)/\SH B w' (dX mb Ct.PG::L):=Qb mb {} h (by decide)
theorem aCv(ab:Nat)(h:SH B w (yD ab Ct.a7S::L)):Calls prog 63 #[(iB ab).v,.agg (dV Ct.a7T).toArray,.int .u64 63,.string ⟨#[97]⟩,.int .u64 7,.int .i64 0,.int .u64 0] w λe w'=>∃tb,e=.returned (.pointer (some ⟨tb,0,none⟩))/\SH B w' (nM (iB ab) 1000 tb (Ct.zY 0).2 0::(iB ab).a (Ct.zY 0).1::L):=by
 refine(SW (iB ab) 1000 Ct.a7C Ct.a7S (aBh h) Ct.aE7 (by decide) (by decide) (by decide)).mono ?_
 rintro e w' ⟨tb,s',u,hq,rfl,h⟩
 have e0:Ct.zY 0=(s',u):=hq
 rw[e0]
 exact⟨tb,rfl,h⟩
theorem aEq(ab tb:Nat)(h:SH B w (nM (iB ab) 1000 tb (Ct.zY 0).2 0::(iB ab).a (Ct.zY 0).1::L)):Calls prog 10 #[↑tb,.int .i64 20] w λe w'=>e=.returned (.int .i64 8)/\SH B w' (nM (iB ab) 992 tb (Ct.zY 8).2 8::yD ab (Ct.zY 8).1::L):=by
 refine(GL (iB ab) (i1 ab) 1000 tb 0 8 20 Ct.zY h (λi=>rfl) Ct.V4 Ct.aAa (by decide) (by decide) (λi hi=>Ct.aF6 i (by omega)) (by decide) (by decide)).mono ?_
 rintro e w' ⟨rfl,h⟩
 exact⟨rfl,(aHy (h.fr (.c r1 .n))).fr (.c r1 .n)⟩
theorem j7(zs:List (Ct.Node×Lq))(pn pc:Option Addr)(cn cc:Nat)(h:SH B w (aV 53 14 (.slice pn zs.length cn) zs.length (zs.flatMap bY)::aV 44 1 (.slice pc (Ct.zY 8).1.cells.length cc) (Ct.zY 8).1.cells.length ((Ct.zY 8).1.cells.map (Value.int .i64))::bH zs::L))(fC:zs.map Prod.fst=aZ (Ct.zY 8).1):
  Calls prog 57 #[.agg [.slice pn zs.length cn,.slice pc (Ct.zY 8).1.cells.length cc,.int .i64 (((Ct.zY 8).1.gen:Nat):Int)].toArray,.agg (dV Ct.a7T).toArray] w λe w'=>∃pp cp,e=.returned (.tuple #[.slice pp 1 cp,.int .i64 0])/\SH B w' (bS 2 (.slice pp 1 cp) 1 [.string ⟨#[97]⟩,.int .u64 7]::L):=by
 have hf8:=Ct.CA 8 (by decide)
 have hz:=Ct.So 8 (by decide)
 have hzl:=iI fC
 have hal:(Ct.zY 8).1.aG.length<=1000:=kR (by unfold Ct.St.size;omega) hz
 exact Us (Ct.zY 8).1 zs pn pc cn cc Ct.a7T [⟨⟨#[97]⟩,7⟩] _ h fC (by omega) Ct.OG (rJ hf8 (by omega)) Ct.Z8 (λr=>(Ct.Bd hf8 (by omega) r).1) (λr=>(Ct.Bd hf8 (by omega) r).2) (by omega) Ct.aDi
theorem n5(pa pb:Option Addr)(ca cb:Nat)(h:SH B w (bS 2 (.slice pa 1 ca) 1 [.string ⟨#[97]⟩,.int .u64 7]::aV 120 2 (.slice pb 1 cb) 1 [.string ⟨#[97]⟩,.int .u64 7]::L)):
  Calls prog 58 #[.slice pa 1 ca,.slice pb 1 cb] w λe w'=>e=.returned ↑true/\SH B w' L:=by
 have h:=SH.fz (h.fr (.c r1 .n))
 refine(xM [⟨⟨#[97]⟩,7⟩] pa pb ca cb (h.fr (.c r1 .n)) (by decide)).mono ?_
 rintro e w' ⟨rfl,h⟩
 exact⟨rfl,h.drop.drop⟩
theorem zF(h:SH B w (L)):
  Calls prog 26 #[] w λe w'=>e=.returned ↑true/\SH B w' L:=by
 refine cN func26 ntmps26 h λw h=>?_
 refine cS (RT h.to) λmb w h=>?_
 refine bQ (WU _ h.to) λw h=>?_
 refine jA h λb1 w h=>?_
 have h:=h.fr (.c r1 .n)
 obtain⟨⟨pn,cn,pc,cc,zs⟩,pN,h⟩:=h.mo
 have h:SH B w (bl mb ([.slice pn zs.length cn,.slice pc Ct.PG.cells.length cc,↑(Ct.PG.gen:Int),↑(Ct.PG.acc:Int)]) 75::aV 53 14 (.slice pn zs.length cn) zs.length (zs.flatMap bY)::aV 44 1 (.slice pc Ct.PG.cells.length cc) Ct.PG.cells.length (Ct.PG.cells.map (Value.int .i64))::bH zs::bl b1 (dV Ct.a7T) 35::L):=h
 have fC:zs.map Prod.fst=aZ Ct.PG:=pN
 clear pN
 have hsz:Ct.PG.size<=100000000000:=by have:=Ct.C8;omega
 refine st (kB (cs:=[.slice pn zs.length cn,.slice pc Ct.PG.cells.length cc,↑(Ct.PG.gen:Int)]) rfl (hX (h.b a0) 0 rfl) Row.h)<|go h λw h=>?_
 refine cS (l9 _ _ _ _ _ _ h.to fC Ct.OC (rJ Ct.Y9 hsz) hsz) λab w h=>?_
 refine st (bpe RZ rfl rfl)<|go h λw h=>?_
 refine st (mi RZ rfl rfl)<|go h λw h=>?_
 refine cS (aCv _ h.to) λtb w h=>?_
 refine st (bpe aBr rfl rfl)<|go h λw h=>?_
 refine bQ (aEq _ _ h.to) λw h=>?_
 refine bQ (IJ (iB ab) _ _ _ (Ct.zY 8).2 h.to) λw h=>?_
 refine st (aF5 aJh rfl rfl rfl rfl)<|go h λw h=>?_
 refine cf rfl (tW aD9)<|go h λw h=>?_
 refine fD [1,5,2,6,9,11,13,14,16] (by kernel_rfl) h (.c r6 .n) λw h=>go h λw h=>?_
 refine cs (ca eF rfl) ((Xp ab (Ct.zY 8).1 (h.fr (.c r1 .n)) (by have:=Ct.So 8 (by decide);omega) (Ct.CA 8 (by decide))).mono ?_)
 rintro _ w ⟨pnz,cnz,pcz,ccz,ys,DG,rfl,h⟩
 refine⟨_,rfl,h.hs (.c r9 .n),?_⟩
 refine go h λw h=>?_
 refine LR (j7 _ _ _ _ _ h.to DG) λppz cpz w h=>?_
 refine sf (bu [.string (⟨#[97]⟩),.int .u64 7] h gB.h Ss.h rfl (by kernel_rfl) rfl (by decide) (by decide)) ?_
 rintro _ w ⟨b2,rfl,h⟩
 refine go h λw h=>?_
 refine bQ (n5 _ _ _ _ h.to) λw h=>?_
 exact rz ⟨rfl,h.drop.drop.drop.drop.drop.drop.drop⟩
theorem OR(ab:Nat)(c:Ct.Call)(s:Ct.St)(h:SH B w ((iB ab).a s::L))(hk:c.kind=8)(hs:Ct.Rm 60 s)(vE:c.key.size<=9223372036854775807)(YQ:c.aI<18446744073709551616):
  Calls prog 25 #[↑ab,.agg [↑c.kind,↑c.aF.root,↑c.aF.readOnly,↑c.a,↑c.b,↑c.n,↑c.index,.int .u64 (c.hash:Int),.int .u64 (c.aI:Int),↑c.key,.int .u64 (c.value:Int),.int .u64 (c.expect:Int),↑c.bF,↑c.only,↑c.walk.started,.slice none 0 0,.slice none 0 0,↑c.answer.err,↑c.answer.found,.int .u64 (c.answer.value:Int),↑c.answer.key,↑c.answer.count,↑c.answer.ref,↑c.answer.aF.root,↑c.answer.aF.readOnly].toArray] w λe w'=>∃tb,e=.returned (.pointer (some ⟨tb,0,none⟩))/\SH B w' (nM (iB ab) 99999999 tb ((Ct.jC c Ct.FU).head s).2 0::(iB ab).a ((Ct.jC c Ct.FU).head s).1::L):=by
 refine cN func25 ntmps25 h λw h=>?_
 refine jX h λb1 w h=>?_
 refine st (mi RZ rfl rfl)<|go h λw h=>?_
 refine st (kB (cs:=[↑c.aF.root,↑c.aF.readOnly]) rfl (hX (h.b a0) 1 rfl) Row.h)<|go h λw h=>?_
 refine cS (aF2 _ c _ h.to hk hs vE YQ) λtkb w h=>?_
 exact rz ⟨tkb,rfl,h.to⟩
theorem K1(ab:Nat)(c:Ct.Call)(s:Ct.St)(h:SH B w (yD ab s::L))(hk:c.kind=8)(hs:Ct.Rm 60 s)(vE:c.key.size<=9223372036854775807)(YQ:c.aI<18446744073709551616):Calls prog 25 #[↑ab,.agg [↑c.kind,↑c.aF.root,↑c.aF.readOnly,↑c.a,↑c.b,↑c.n,↑c.index,.int .u64 (c.hash:Int),.int .u64 (c.aI:Int),↑c.key,.int .u64 (c.value:Int),.int .u64 (c.expect:Int),↑c.bF,↑c.only,↑c.walk.started,.slice none 0 0,.slice none 0 0,↑c.answer.err,↑c.answer.found,.int .u64 (c.answer.value:Int),↑c.answer.key,↑c.answer.count,↑c.answer.ref,↑c.answer.aF.root,↑c.answer.aF.readOnly].toArray] w λe w'=>∃tb,e=.returned (.pointer (some ⟨tb,0,none⟩))/\SH B w' (nM (iB ab) 99999999 tb ((Ct.jC c Ct.FU).head s).2 0::(iB ab).a ((Ct.jC c Ct.FU).head s).1::L):=OR ab c s (aBh h) hk hs vE YQ
end Go.Q9
end
section
namespace Go.Ct
set_option maxRecDepth 100000
end Go.Ct
end
section
namespace Go.Q9
open Go.Proofs.Tryz
open Go.RowKit Go.E
variable{B w w':World}{L:List As}
end Go.Q9
end
section
namespace Go.Q9
open Go.Proofs.Tryz
open Go.E
end Go.Q9
end
section
namespace Go.Q9
open Go.Proofs.Tryz
open Go.RowKit Go.E
attribute [local irreducible] gA wpS Go.E.X XS C kV lL fin Y U F Ca kU bl rb aV bS ex ce pu sK gK bK zK gG fE cZ gY mA rQ
section
attribute [local semireducible] gA wpS Go.E.X XS C kV lL fin Y U F Ca kU bl rb aV bS ex ce pu sK gK bK zK gG fE cZ gY mA rQ
attribute [local irreducible] gA wpS
end
attribute [local irreducible] Ct.lY
end Go.Q9
end
section
namespace Go.Q9
open Go.Proofs.Tryz
open Go.E
end Go.Q9
end
section
namespace Go.Q9
open Go.Proofs.Tryz
open Go.RowKit Go.E
attribute [local irreducible] gA wpS
end Go.Q9
end
section
namespace Go.Q9
open Go.Proofs.Tryz
open Go.E
theorem RC:fv prog 42 0=some (0,1,false):=by kernel_rfl
end Go.Q9
end
section
namespace Go.Q9
open Go.Proofs.Tryz
open Go.RowKit Go.E
attribute [local irreducible] gA wpS Go.E.X XS C kV lL fin Y U F Ca kU bl rb aV bS ex ce pu sK gK bK zK gG fE cZ gY mA rQ
variable{B w:World}{L:List As}
theorem aEa(ab tb z:Nat)(s:Ct.St)(t:Ct.I Ct.Result){q:Bool}(hR:Ct.VR s t q z)(h:SH B w (nM (iB ab) 99999999 tb (t.head s).2 0::(iB ab).a (t.head s).1::L)):Calls prog 10 #[↑tb,.int .i64 8193] w λe w'=>e=.returned ↑(z:Int)/\SH B w' (nM (iB ab) (99999999-z) tb (Ct.alone (t.head s).1 (t.head s).2 z).2 (0+z)::(iB ab).a (Ct.alone (t.head s).1 (t.head s).2 z).1::L):=
 GL (iB ab) (i1 ab) 99999999 tb 0 z 8193 (Ct.alone (t.head s).1 (t.head s).2) h (λi=>rfl) hR.run hR.fin (by have:=hR.le;omega) (by have:=hR.le;omega) (λi hi=>hR.rm i (by omega)) (by have:=hR.le;omega) (by decide)
theorem Y4{a:Int}(h:(a==5)=false):a≠5:=bM h
theorem CB(l0:List Int)(p0:Option Addr)(c0:Nat)(l1:List Int)(p1:Option Addr)(c1:Nat)(h:SH B w (bS 1 (.slice p0 l0.length c0) l0.length (l0.map (Value.int .i64))::bS 1 (.slice p1 l1.length c1) l1.length (l1.map (Value.int .i64))::L)):
  Calls prog 5 #[.slice p0 l0.length c0,.slice p1 l1.length c1] w λe w'=>e=.returned ↑true/\SH B w' L:=by
 refine cN func5 ntmps5 h λw h=>?_
 refine cl (ca eF rfl) ((LD l0 p0 c0 (h.fr (.c r0 .n))).mono ?_)
 rintro _ w ⟨b,mb,aI,g,s,ts,zs,YQ,hW,rfl,h⟩
 have hsz:s.size<=37000000000:=by have:=hW.size;omega
 refine⟨_,rfl,?_⟩
 refine st (sg rfl)<|xe<|nx<|sq<|?_
 refine go h λw h=>?_
 have h:=h.fr (.c r0 .n)
 obtain⟨⟨twp,twc,xwp,xwc⟩,h⟩:=h.wo
 have h:SH B w (bl b ([↑mb,.int .u64 (aI:Int),.slice twp ts.length twc,.slice xwp zs.length xwc]) 32::aV 35 2 (.slice twp ts.length twc) ts.length (ts.flatMap dV)::aV 81 1 (.slice xwp zs.length xwc) zs.length (zs.flatMap Sf)::lU mb zs::dX mb s::bS 1 (.slice p1 l1.length c1) l1.length (l1.map (Value.int .i64))::L):=h
 refine go h λw h=>?_
 refine cS (ML _ _ h.to (by omega) (Ct.If hW.gw hW.gC) (rJ hW.fit (by omega))) λab w h=>?_
 obtain⟨hl0,hs0⟩:=hW.lkd
 refine go h λw h=>?_
 refine st (bpe RZ rfl rfl)<|go h λw h=>?_
 have h:=h.fr (.c r2 (.c r2 (.c r2 .n)))
 have h:SH B w (sL b mb aI ts zs::yD ab {s with acc:=0}::dX mb {s with acc:=0}::lU mb zs::bS 1 (.slice p1 l1.length c1) l1.length (l1.map (Value.int .i64))::L):=SH.wi ⟨twp,twc,xwp,xwc⟩ h
 refine go h λw h=>?_
 refine cS (aBb _ _ _ h.to) λtpb w h=>?_
 refine cl (ca eF rfl) ((Wj b mb tpb aI ts zs l1 8 (h.fr (.c r1 (.c r0 .n))) hW.some hW.NM (by decide) (by decide) hW.first).mono ?_)
 rintro _ w ⟨c,hck,hcm,bEl,hct,hcw,rfl,h⟩
 have aQ1:Ct.nQ g c:=hW.A5 (by rw[hck];decide) (by rw[hck];decide) hct hcw
 have K4:c.aI<18446744073709551616:=by rw[hcm];exact YQ
 have aL9:c.key.size<=9223372036854775807:=by omega
 have oP:=Ct.zI (c:=c) hl0.fit (by unfold Ct.room;omega)
 refine⟨_,rfl,?_⟩
 refine go h λw h=>?_
 refine jA h λb1 w h=>?_
 have h:=h.fr (.c r1 .n)
 obtain⟨⟨twp,twc,xwp,xwc⟩,h⟩:=h.wo
 have h:SH B w (bl b ([↑mb,.int .u64 (aI:Int),.slice twp ts.length twc,.slice xwp zs.length xwc]) 32::aV 35 2 (.slice twp ts.length twc) ts.length (ts.flatMap dV)::aV 81 1 (.slice xwp zs.length xwc) zs.length (zs.flatMap Sf)::bl b1 ([↑c.kind,↑c.aF.root,↑c.aF.readOnly,↑c.a,↑c.b,↑c.n,↑c.index,.int .u64 (c.hash:Int),.int .u64 (c.aI:Int),↑c.key,.int .u64 (c.value:Int),.int .u64 (c.expect:Int),↑c.bF,↑c.only,↑c.walk.started,.slice none 0 0,.slice none 0 0,↑c.answer.err,↑c.answer.found,.int .u64 (c.answer.value:Int),↑c.answer.key,↑c.answer.count,↑c.answer.ref,↑c.answer.aF.root,↑c.answer.aF.readOnly]) 60::nO tpb l1::yD ab {s with acc:=0}::dX mb {s with acc:=0}::lU mb zs::L):=h
 have h:=h.fr (.c r6 .n)
 obtain⟨⟨pn,cn,pc,cc,ys⟩,pN,h⟩:=h.mo
 have h:SH B w (bl mb ([.slice pn ys.length cn,.slice pc ({s with acc:=0}:Ct.St).cells.length cc,.int .i64 ((({s with acc:=0}:Ct.St).gen:Nat):Int),.int .i64 ((({s with acc:=0}:Ct.St).acc:Nat):Int)]) 75::aV 53 14 (.slice pn ys.length cn) ys.length (ys.flatMap bY)::aV 44 1 (.slice pc ({s with acc:=0}:Ct.St).cells.length cc) ({s with acc:=0}:Ct.St).cells.length (({s with acc:=0}:Ct.St).cells.map (Value.int .i64))::bH ys::bl b ([↑mb,.int .u64 (aI:Int),.slice twp ts.length twc,.slice xwp zs.length xwc]) 32::aV 35 2 (.slice twp ts.length twc) ts.length (ts.flatMap dV)::aV 81 1 (.slice xwp zs.length xwc) zs.length (zs.flatMap Sf)::bl b1 ([↑c.kind,↑c.aF.root,↑c.aF.readOnly,↑c.a,↑c.b,↑c.n,↑c.index,.int .u64 (c.hash:Int),.int .u64 (c.aI:Int),↑c.key,.int .u64 (c.value:Int),.int .u64 (c.expect:Int),↑c.bF,↑c.only,↑c.walk.started,.slice none 0 0,.slice none 0 0,↑c.answer.err,↑c.answer.found,.int .u64 (c.answer.value:Int),↑c.answer.key,↑c.answer.count,↑c.answer.ref,↑c.answer.aF.root,↑c.answer.aF.readOnly]) 60::nO tpb l1::yD ab {s with acc:=0}::lU mb zs::L):=h
 have DG:ys.map Prod.fst=aZ ({s with acc:=0}:Ct.St):=pN
 clear pN
 have hyl:=iI DG
 have hsm:({s with acc:=0}:Ct.St).size<=740000:=kR (by unfold Ct.St.size;dsimp only;omega) (show s.size<=740000 from by have h1:=hW.small;unfold Ct.AW at h1;omega)
 have hTw:Ct.Tw g ({s with acc:=0}:Ct.St):=⟨hW.gw,hW.gC.acc 0⟩
 have hyz:ys.length<=999999:=by rw[hyl];have h1:=hsm;unfold Ct.St.size at h1;omega
 refine fD [1,3,5,7,9,11,13,15,17,18,20,22] (by kernel_rfl) h (.c r4 (.c r0 (.c r5 .n))) λw h=>go h λw h=>?_
 refine tk (λW H=>kB (cs:=[.slice pn ys.length cn,.slice pc ({s with acc:=0}:Ct.St).cells.length cc,.int .i64 ((({s with acc:=0}:Ct.St).gen:Nat):Int)]) rfl (hX (H.b a1) 0 rfl) Row.h)<|go h λw h=>?_
 refine tk (λW H=>kB (cs:=[↑c.aF.root,↑c.aF.readOnly]) rfl (hX (H.b a2) 1 rfl) Row.h)<|go h λw h=>?_
 refine aIc (PW ({s with acc:=0}:Ct.St) _ _ _ _ _ _ h.to DG (by omega) (Ct.If hW.gw (hW.gC.acc 0)) (rJ hl0.fit (by omega)) (λr hk=>Ct.aBv hTw r hk) (λr=>(Ct.Bd hl0.fit hsm r).1) (λr=>(Ct.Bd hl0.fit hsm r).2) hyz) λq hq w h=>?_
 refine fD [1,3,5,7,9,11,13,15,17,18,21,23,25,27,28,30,32] (by kernel_rfl) h (.c r4 (.c r3 (.c r5 .n))) λw h=>go h λw h=>?_
 refine tk (λW H=>kB (cs:=[.slice pn ys.length cn,.slice pc ({s with acc:=0}:Ct.St).cells.length cc,.int .i64 ((({s with acc:=0}:Ct.St).gen:Nat):Int)]) rfl (hX (H.b a1) 0 rfl) Row.h)<|go h λw h=>?_
 refine tk (λW H=>kB (cs:=[↑c.aF.root,↑c.aF.readOnly]) rfl (hX (H.b a2) 1 rfl) Row.h)<|go h λw h=>?_
 refine cs (ca eF rfl) ((yR ({s with acc:=0}:Ct.St) ys pn pc cn cc c.aF (h.fr (.c r0 (.c r0 (.c r0 .n)))) DG (by omega) (Ct.If hW.gw (hW.gC.acc 0)) (rJ hl0.fit (by omega)) (λr hk=>Ct.aBv hTw r hk) (λr=>(Ct.Bd hl0.fit hsm r).1) (λr=>(Ct.Bd hl0.fit hsm r).2) hyz).mono ?_)
 rintro _ w ⟨ZO,Jz,R4,Tz,Ts,pp2,cp2,⟨Ei,YH⟩,rfl,h⟩
 refine⟨_,rfl,h.hs (.c r6 (.c r5 (.c r7 .n))),?_⟩
 refine tk (λW H=>mv rfl)<|tk (λW H=>xr rfl rfl)<|tk (λW H=>xr rfl rfl)<|tk (λW H=>xr rfl rfl)<|ef (sg rfl) (h.hs (.c r6 (.c r5 (.c r7 .n))))<|ef (sg rfl) (h.hs (.c r6 (.c r5 (.c r7 .n))))<|ef (sg rfl) (h.hs (.c r6 (.c r5 (.c r7 .n))))<|xz<|nx<|sq<|sq<|?_
 refine go h λw h=>?_
 have h:=SH.mi ⟨_,_,_,_,_⟩ DG (h.fr (.c r5 (.c r2 (.c r2 (.c r2 .n)))))
 have h:SH B w (dX mb ({s with acc:=0}:Ct.St)::aV 70 5 (.slice Tz Jz.length Ts) Jz.length (Jz.flatMap Ih)::bl b ([↑mb,.int .u64 (aI:Int),.slice twp ts.length twc,.slice xwp zs.length xwc]) 32::bl b1 ([↑c.kind,↑c.aF.root,↑c.aF.readOnly,↑c.a,↑c.b,↑c.n,↑c.index,.int .u64 (c.hash:Int),.int .u64 (c.aI:Int),↑c.key,.int .u64 (c.value:Int),.int .u64 (c.expect:Int),↑c.bF,↑c.only,↑c.walk.started,.slice none 0 0,.slice none 0 0,↑c.answer.err,↑c.answer.found,.int .u64 (c.answer.value:Int),↑c.answer.key,↑c.answer.count,↑c.answer.ref,↑c.answer.aF.root,↑c.answer.aF.readOnly]) 60::yD ab {s with acc:=0}::L):=(h.fr (.c r1 (.c r3 (.c r3 (.c r4 (.c r5 .n)))))).drop.drop.drop.drop.drop
 refine go h λw h=>?_
 refine lp (α:=Nat×Bool) (λρ=>(.c 5 ↑b (.c 6 ↑ab (.c 7 ↑b1 (.c 8 ↑q (.c 9 (.bool ρ.2) (.c 58 (.slice Tz Jz.length Ts) (.c 59 ↑(Jz.length:Int) (.c 60 (.int .i64 (ρ.1:Int)) .n))))))))) (λρ w=>SH B w (dX mb ({s with acc:=0}:Ct.St)::aV 70 5 (.slice Tz Jz.length Ts) Jz.length (Jz.flatMap Ih)::bl b ([↑mb,.int .u64 (aI:Int),.slice twp ts.length twc,.slice xwp zs.length xwc]) 32::bl b1 ([↑c.kind,↑c.aF.root,↑c.aF.readOnly,↑c.a,↑c.b,↑c.n,↑c.index,.int .u64 (c.hash:Int),.int .u64 (c.aI:Int),↑c.key,.int .u64 (c.value:Int),.int .u64 (c.expect:Int),↑c.bF,↑c.only,↑c.walk.started,.slice none 0 0,.slice none 0 0,↑c.answer.err,↑c.answer.found,.int .u64 (c.answer.value:Int),↑c.answer.key,↑c.answer.count,↑c.answer.ref,↑c.answer.aF.root,↑c.answer.aF.readOnly]) 60::yD ab {s with acc:=0}::L)/\(ρ.1<=Jz.length)/\(ρ.2=false->∀j,j<ρ.1->(({s with acc:=0}:Ct.St).node (Jz.getD j {}).m).kind≠5)) (λρ=>Jz.length-ρ.1) (0,false) ⟨rfl,rfl,rfl,rfl,rfl,rfl,rfl,rfl,trivial⟩ ⟨h,(bZ _),(λ_ j hj=>absurd hj (by omega))⟩ ?_
 rintro⟨k,tb⟩ w ⟨h,hk,htb⟩
 dsimp only at *
 refine go h λw h=>?_
 refine qc h (λcO w h=>?_) λcO w h=>?_
 have Lt:=dH cO
 refine go h λw h=>?_
 obtain⟨b4,rfl⟩:=h.fp a1 (by omega)
 refine go h λw h=>?_
 refine st (kB rfl ((h.ro a1).x IZ (by decide) (by omega) {}) Row.h)<|go h λw h=>?_
 refine jA h λb5 w h=>?_
 rcases dQ tb with dJ|dJ<;>refine go h λw h=>?_
 refine fD [1,3,5,7,9,11,13,15,16,19,21,23,24] (by kernel_rfl) h .n λw h=>?_
 refine tk (λW H=>mv rfl)<|tk (λW H=>mv rfl)<|Cf rfl rfl dJ<|Cf rfl rfl dJ<|Cf rfl rfl dJ<|Cf rfl rfl dJ<|Cf rfl rfl dJ<|Cf rfl rfl dJ<|Cf rfl rfl dJ<|Cf rfl rfl dJ<|Cf rfl rfl dJ<|tk (λW H=>pT rfl dJ rfl)<|ef (sg rfl) (h.hs .n)<|xz<|bn<|nx<|rg<|st (bw rfl rfl (iR (c:=((k+1:Nat):Int)) (by omega) (by omega) (by omega)))<|st (mv rfl)<|xe<|nx<|?_
 refine go h λw h=>?_
 exact⟨((k+1),true),⟨rfl,rfl,rfl,rfl,rfl,rfl,rfl,rfl,trivial⟩,⟨h.drop,(by(try dsimp only);omega),(λhz=>by cases (show (true:Bool)=false from hz))⟩,by(try dsimp only);omega⟩
 refine fD [1,3,5,7,9,11,13,15,16,19,21,23,24] (by kernel_rfl) h (.c r3 (.c r0 .n)) λw h=>go h λw h=>?_
 refine nP (IL _ ({s with acc:=0}:Ct.St) _ h.to (by omega)) λqn7 w h=>?_
 exact⟨((k+1),(((({s with acc:=0}:Ct.St).node (Jz.getD k {}).m).kind:Int)==5)),⟨rfl,rfl,rfl,rfl,rfl,rfl,rfl,rfl,trivial⟩,⟨h.to,(by(try dsimp only);omega),(λhz=>IE (htb dJ) (Y4 hz))⟩,by(try dsimp only);omega⟩
 have Ua:=dR cO
 refine go h λw h=>?_
 obtain⟨z,hR⟩:=Ct.I8 (q:=q&&!tb) hTw aQ1 hck hl0.fit (by omega) (λhz=>by rw[pM,gZ]at hz;exact⟨hq hz.1,d9 Ei (by omega) (htb hz.2)⟩)
 have hR1:=hR.le
 have hR2:=hR.low
 refine go h λw h=>?_
 refine cS (K1 _ c ({s with acc:=0}:Ct.St) h.to hck ⟨hl0.fit,by unfold Ct.cW;omega⟩ aL9 K4) λtkb w h=>?_
 refine st (bpe aBr rfl rfl)<|go h λw h=>?_
 refine bQ (aEa _ _ _ ({s with acc:=0}:Ct.St) (Ct.jC c Ct.FU) hR h.to) λw h=>?_
 refine bQ (LB (iB ab) _ _ _ (Ct.alone ((Ct.jC c Ct.FU).head {s with acc:=0}).1 ((Ct.jC c Ct.FU).head {s with acc:=0}).2 z).2 h.to) λw h=>?_
 refine gT rfl rfl (tW hR.fin)<|go h λw h=>?_
 refine gT rfl rfl (tW hR.fin)<|go h λw h=>?_
 refine st (pF rfl (tW hR.fin) rfl)<|go h λw h=>?_
 refine qg h (λwE w h=>?_) λwE w h=>?_
 rcases dQ tb with dG|dG
 refine go h λw h=>?_
 refine bQ (zF h.to) λw h=>?_
 refine rz ?_
 exact⟨rfl,h.drop.drop.drop.drop.drop.drop⟩
 refine cf rfl dG<|sk<|nx<|?_
 refine sm (λe w=>∃bcn:Nat,∃pnz:Option Addr,∃cnz:Nat,∃pcz:Option Addr,∃ccz:Nat,∃sH:List (Ct.Node×Lq),Sub 191 e (.c 5 ↑b (.c 17 (.slice (some ⟨bcn,0,none⟩) 10 10) (.c 18 (.slice pnz sH.length cnz) .n)))/\SH B w (aV 3 1 (.slice (some ⟨bcn,0,none⟩) 10 10) 10 ((List.replicate 10 0).map (Value.int .i64))::aV 53 14 (.slice pnz sH.length cnz) sH.length (sH.flatMap bY)::dX mb ({s with acc:=0}:Ct.St)::bl b ([↑mb,.int .u64 (aI:Int),.slice twp ts.length twc,.slice xwp zs.length xwc]) 32::L)/\(sH.map Prod.fst=aZ (Ct.alone ((Ct.jC c Ct.FU).head {s with acc:=0}).1 ((Ct.jC c Ct.FU).head {s with acc:=0}).2 z).1)) ?_ ?_
 refine drB (F:=[]) [3] 0 2 [4,7,8,10] [7,0,8,10] (by kernel_rfl) h (λw h=>h.hs .n) λw h=>go h λw h=>?_
 refine W3 ?_ ?_
 refine ff (mk h gB.h Ss.h rfl rfl (by decide) (by decide)) ?_
 rintro _ w ⟨Uf,rfl,h⟩
 rw[Sq]at h
 refine gz h λw h=>?_
 refine cs (ca eF rfl) ((Qk ab (Ct.alone ((Ct.jC c Ct.FU).head {s with acc:=0}).1 ((Ct.jC c Ct.FU).head {s with acc:=0}).2 z).1 (h.fr (.c r2 .n)) (hR.rm z (aW _)).Cn (hR.rm z (aW _)).fit).mono ?_)
 rintro _ w ⟨pnz,cnz,pcz,ccz,sH,YE,rfl,h⟩
 refine⟨_,rfl,h.hs .n,?_⟩
 refine tk (λW H=>fd RC rfl rfl)<|ef (sg rfl) (h.hs .n)<|ef (sg rfl) (h.hs .n)<|xz<|nx<|?_
 refine go h λw h=>?_
 exact⟨Uf,pnz,cnz,pcz,ccz,sH,⟨rfl,rfl,rfl,trivial⟩,(h.to.fr (.c r1 (.c r0 (.c r0 (.c r0 .n))))),YE⟩
 refine cs (ca eF rfl) ((Qk ab (Ct.alone ((Ct.jC c Ct.FU).head {s with acc:=0}).1 ((Ct.jC c Ct.FU).head {s with acc:=0}).2 z).1 (h.fr (.c r1 .n)) (hR.rm z (aW _)).Cn (hR.rm z (aW _)).fit).mono ?_)
 rintro _ w ⟨pnz,cnz,pcz,ccz,sH,YE,rfl,h⟩
 refine⟨_,rfl,h.hs .n,?_⟩
 refine tk (λW H=>fd RC rfl rfl)<|?_
 refine go h λw h=>?_
 refine ff (mk h gB.h Ss.h rfl rfl (by decide) (by decide)) ?_
 rintro _ w ⟨ZM,rfl,h⟩
 rw[Sq]at h
 refine gz h λw h=>?_
 exact⟨ZM,pnz,cnz,pcz,ccz,sH,⟨rfl,rfl,rfl,trivial⟩,h.to,YE⟩
 rintro e w ⟨bcn,pnz,cnz,pcz,ccz,sH,hE,h,YE⟩
 refine C.sub hE ?_
 clear hE e
 refine go h λw h=>?_
 have h:=SH.WJ (h.fr (.c r1 .n))
 have h:=h.fr (.c r2 .n)
 obtain⟨⟨pn2,cn2,pc2,cc2,tY⟩,pN,h⟩:=h.mo
 have h:SH B w (bl mb ([.slice pn2 tY.length cn2,.slice pc2 ({s with acc:=0}:Ct.St).cells.length cc2,.int .i64 ((({s with acc:=0}:Ct.St).gen:Nat):Int),.int .i64 ((({s with acc:=0}:Ct.St).acc:Nat):Int)]) 75::aV 53 14 (.slice pn2 tY.length cn2) tY.length (tY.flatMap bY)::aV 44 1 (.slice pc2 ({s with acc:=0}:Ct.St).cells.length cc2) ({s with acc:=0}:Ct.St).cells.length (({s with acc:=0}:Ct.St).cells.map (Value.int .i64))::bH tY::bS 14 (.slice pnz sH.length cnz) sH.length (sH.flatMap bY)::aV 3 1 (.slice (some ⟨bcn,0,none⟩) 10 10) 10 ((List.replicate 10 0).map (Value.int .i64))::bl b ([↑mb,.int .u64 (aI:Int),.slice twp ts.length twc,.slice xwp zs.length xwc]) 32::L):=h
 have aRc:tY.map Prod.fst=aZ ({s with acc:=0}:Ct.St):=pN
 clear pN
 have h:=(h.fr (.c r1 (.c r1 (.c r1 .n)))).drop.drop.drop
 have hy2l:=iI aRc
 have hy1l:=iI YE
 obtain⟨xs,hxs,aLa⟩:=hR.cnt (by rw[wE,dG];rfl)
 have vC:=LS YE hy2l hxs
 have ZJ:(sH.drop tY.length).length=sH.length-tY.length:=Bp
 have hbg:=(hR.rm z (aW _)).Cn
 have aYu:(Ct.alone ((Ct.jC c Ct.FU).head {s with acc:=0}).1 ((Ct.jC c Ct.FU).head {s with acc:=0}).2 z).1.aG.length<=100000000000:=kR (by unfold Ct.St.size;omega) hbg
 refine go h λw h=>?_
 refine st (sll (k:=tY.length) gB.h Sz.h rfl rfl (by(try dsimp only);omega) (h.WK a1))<|go h λw h=>?_
 have h:=h.tl (k:=tY.length) a1 (by omega)
 rw[tR gH]at h
 refine go h λw h=>?_
 generalize aZm:tl pnz cnz tY.length 14=ptl at h ⊢
 refine lp (α:=Nat×List Int) (λρ=>(.c 17 (.slice (some ⟨bcn,0,none⟩) 10 10) (.c 130 (.slice ptl (sH.length-tY.length) (cnz-tY.length)) (.c 131 (.int .i64 ((sH.length-tY.length:Nat):Int)) (.c 132 (.int .i64 (ρ.1:Int)) .n))))) (λρ w=>SH B w (aV 3 1 (.slice (some ⟨bcn,0,none⟩) 10 10) 10 (ρ.2.map (Value.int .i64))::bS 14 (.slice ptl (sH.length-tY.length) (cnz-tY.length)) (sH.length-tY.length) ((sH.drop tY.length).flatMap bY)::bl mb ([.slice pn2 tY.length cn2,.slice pc2 ({s with acc:=0}:Ct.St).cells.length cc2,.int .i64 ((({s with acc:=0}:Ct.St).gen:Nat):Int),.int .i64 ((({s with acc:=0}:Ct.St).acc:Nat):Int)]) 75::bS 14 (.slice pnz sH.length cnz) sH.length (sH.flatMap bY)::bl b ([↑mb,.int .u64 (aI:Int),.slice twp ts.length twc,.slice xwp zs.length xwc]) 32::L)/\(ρ.1<=(sH.drop tY.length).length)/\(UT (sH.drop tY.length) ρ.1 ρ.2)) (λρ=>(sH.drop tY.length).length -ρ.1) (0,List.replicate 10 0) ⟨rfl,rfl,rfl,rfl,trivial⟩ ⟨h.to,(bZ _),ZQ⟩ ?_
 rintro⟨k,cs⟩ w ⟨h,hk,KX⟩
 dsimp only at *
 refine go h λw h=>?_
 refine qc h (λeJ w h=>?_) λeJ w h=>?_
 have CW:=dH eJ
 refine go h λw h=>?_
 obtain⟨b15,o16,rfl⟩:=h.fq a1 (by omega)
 refine go h λw h=>?_
 refine st (kB rfl ((h.rr a1).x gH (by decide) (by omega) ({},{})) Row.h)<|go h λw h=>?_
 refine jA h λb17 w h=>?_
 obtain⟨kk,Bz,hk9⟩:=X0 vC aLa (k:=k) (by omega)
 obtain⟨cc,hcv,hcc⟩:=X3 KX hk9
 have hcl:=KX.1
 have h:SH B w (bl b17 ([.int .i64 ((sH.drop tY.length).getD k ({},{})).1.kind,.int .i64 ((sH.drop tY.length).getD k ({},{})).1.gen,.int .i64 ((sH.drop tY.length).getD k ({},{})).1.main,.int .u64 ((((sH.drop tY.length).getD k ({},{})).1.aC:Nat):Int),.slice ((sH.drop tY.length).getD k ({},{})).2.pb ((sH.drop tY.length).getD k ({},{})).1.aA.length ((sH.drop tY.length).getD k ({},{})).2.cb,.int .u64 ((((sH.drop tY.length).getD k ({},{})).1.hash:Nat):Int),.string ((sH.drop tY.length).getD k ({},{})).1.key,.int .u64 ((((sH.drop tY.length).getD k ({},{})).1.value:Nat):Int),.slice ((sH.drop tY.length).getD k ({},{})).2.pp ((sH.drop tY.length).getD k ({},{})).1.aH.length ((sH.drop tY.length).getD k ({},{})).2.cp,.int .i64 ((sH.drop tY.length).getD k ({},{})).1.prev,.int .i64 ((sH.drop tY.length).getD k ({},{})).1.dO,.int .i64 ((sH.drop tY.length).getD k ({},{})).1.aS,.int .i64 ((sH.drop tY.length).getD k ({},{})).1.new,.int .i64 ((sH.drop tY.length).getD k ({},{})).1.status]) 53::aV 3 1 (.slice (some ⟨bcn,0,none⟩) 10 10) 10 (cs.map (Value.int .i64))::bS 14 (.slice (some ⟨b15,o16,none⟩) (sH.length-tY.length) (cnz-tY.length)) (sH.length-tY.length) ((sH.drop tY.length).flatMap bY)::bl mb ([.slice pn2 tY.length cn2,.slice pc2 ({s with acc:=0}:Ct.St).cells.length cc2,.int .i64 ((({s with acc:=0}:Ct.St).gen:Nat):Int),.int .i64 ((({s with acc:=0}:Ct.St).acc:Nat):Int)]) 75::bS 14 (.slice pnz sH.length cnz) sH.length (sH.flatMap bY)::bl b ([↑mb,.int .u64 (aI:Int),.slice twp ts.length twc,.slice xwp zs.length xwc]) 32::L):=h
 rw[Bz]at h
 refine go h λw h=>?_
 refine st (ba (cs.getD kk 0+1))<|go h λw h=>?_
 refine sf (soi h Sz.h rfl rfl (by omega) u1) ?_
 rintro _ w h
 refine go h λw h=>?_
 exact⟨((k+1),cs.set kk (cs.getD kk 0+1)),⟨rfl,rfl,rfl,rfl,trivial⟩,⟨h.drop,(by(try dsimp only);omega),(I3 KX (by omega) Bz hk9 hcv)⟩,by(try dsimp only);omega⟩
 have N0:=dR eJ
 refine go h λw h=>?_
 obtain⟨c3,c2,c4,c6,c5,c7⟩:=U0 KX (by omega) vC aLa
 have hcl:=KX.1
 refine go h λw h=>?_
 refine bQ (zF h.to) λw h=>?_
 refine go h λw h=>?_
 refine go h λw h=>?_
 refine go h λw h=>?_
 refine go h λw h=>?_
 refine go h λw h=>?_
 refine rz ?_
 have aRi:((cs.getD 7 0:Int)==0)=true:=beq_iff_eq.mpr c7
 exact⟨by rw[aRi],h.drop.drop.drop.drop.drop⟩
 refine bQ (zF h.to) λw h=>?_
 refine rz ?_
 exact⟨rfl,h.drop.drop.drop.drop.drop.drop⟩
end Go.Q9
end
