/- Parts of a proof: Ayx, Wt, Ev7, Ayz, Pe. -/
import Derived.Test.YtopelgiooccobaaGreatW46
set_option linter.unusedVariables false
set_option linter.unusedSimpArgs false
set_option maxRecDepth 100000
set_option maxHeartbeats 4000000
section
namespace Go.Q9
open Go.Proofs.Tryz
open Go.E
end Go.Q9
end
section
namespace Go.Q9
open Go.Proofs.Tryz
open Go.RowKit Go.E
attribute [local irreducible] gB wpS E.X XS E.C jU kP fin E.Y E.U E.F Ca jT bl rb aU bV ex ce pu sK gK bK zK gM fO dH gP nE rD
variable{B w:World}{L:List As}
theorem WV(ab:Nat)(c:Ct.Call)(s:Ct.St)(h:SH B w ((cV ab).a s::L))(hk:c.kind=8)(hs:Ct.Rm 60 s)(hky:c.key.size<=9223372036854775807)(hmk:c.aI<18446744073709551616):Calls prog 16 #[(cV ab).v,.agg (cU c.aE).toArray,.int .u64 (c.aI:Int),↑c.key,.int .u64 (c.value:Int),↑c.bF,.int .u64 (c.expect:Int)] w λe w'=>∃tb,e=.returned (.pointer (some ⟨tb,0,none⟩))/\SH B w' (eN (cV ab) 99999999 tb ((Ct.mS c Ct.FU).head s).2 0::(cV ab).a ((Ct.mS c Ct.FU).head s).1::L):=by
 refine(RC (cV ab) 99999999 c s h hs hky hmk (by decide)).mono ?_
 rintro e w' ⟨tb,s',u,hq,rfl,h⟩
 have e0:(Ct.mS c Ct.FU).head s=(s',u):=by
  unfold Ct.mS
  rw[hk,if_neg (by decide),if_pos (by decide)]
  exact hq
 rw[e0]
 exact⟨tb,rfl,h⟩
theorem JE(ab:Nat)(c:Ct.Call)(s:Ct.St)(h:SH B w ((cV ab).a s::L))(hk:c.kind=7)(hs:Ct.Rm 60 s)(hky:c.key.size<=9223372036854775807)(hmk:c.aI<18446744073709551616):Calls prog 17 #[(cV ab).v,.agg (cU c.aE).toArray,.int .u64 (c.aI:Int),↑c.key] w λe w'=>∃tb,e=.returned (.pointer (some ⟨tb,0,none⟩))/\SH B w' (eN (cV ab) 99999999 tb ((Ct.mS c Ct.FU).head s).2 0::(cV ab).a ((Ct.mS c Ct.FU).head s).1::L):=by
 refine(Sy (cV ab) 99999999 c s h hs hky hmk (by decide)).mono ?_
 rintro e w' ⟨tb,s',u,hq,rfl,h⟩
 have e0:(Ct.mS c Ct.FU).head s=(s',u):=by
  unfold Ct.mS
  rw[hk,if_pos (by decide)]
  exact hq
 rw[e0]
 exact⟨tb,rfl,h⟩
theorem Gy{ab mb tb xb:Nat}{g:Ct.Ga}{s:Ct.St}{ys:List Ct.Px}{ps:List (Nat×Nat)}{c:Ct.Call}(hL:Ct.Ub 0 g s ys)(hps:ys.map AW=ps)(hs:s.size+1000<=38000000000)(hc:Ct.kZ g c)(hm:c.aI<18446744073709551616)(hk:c.key.size<=9223372036854775807)(hok:Ct.Ok 50 (Ct.bX (Ct.bY c Ct.FU) 0 ⟨{call:=c},s⟩))
  (h:SH B w (eN (cV ab) 99999999 tb ((Ct.mS c Ct.FU).head s).2 0::(cV ab).a ((Ct.mS c Ct.FU).head s).1::XA xb mb (Ct.bX (Ct.bY c Ct.FU) 0 ⟨{call:=c},s⟩)::nR (cV ab) 400 ys::eV mb (ys.map Af)::L)):
  ∃g' s' ys',Ct.Ub 0 g' s' ys'/\ys'.map AW=ps++[(tb,xb)]/\Ct.Ge g g'/\s'.size<=s.size+120/\SH B w (cR mb s'::(cV ab).a s'::nR (cV ab) 400 ys'::eV mb (ys'.map Af)::L):=by
 obtain⟨g',u,h1,hge,hz,hL'⟩:=hL.add (tb:=tb) (xb:=xb) hs hc hm hk hok
 rw[h1]at h
 have h:=SH.n0 (m:=400) (by decide) h
 have h:=ZR (xb:=xb) (e:=(Ct.bX (Ct.bY c Ct.FU) 0 ⟨{call:=c},s⟩).e) (h.fr (.c r0 (.c r2 .n)))
 have h:=SH.VL (h.fr (.c r2 (.c r2 .n)))
 refine⟨g',_,_,hL',by rw[tX,hps];rfl,hge,hz,?_⟩
 rw[tX]
 exact h.fr (.c r1 (.c r2 (.c r1 .n)))
end Go.Q9
end
section
namespace Go.Ct
def HR:bC:=(hJ {}).2
def QD:Call:={kind:=8,aE:=HR,aI:=63,key:=⟨#[97]⟩,value:=7}
def Nj:St:=(hJ {}).1
def NI:St:={Nj with acc:=0}
def oS:Nat->St×I Result
 |0=>(RN QD 1001).head NI
 |i+1=>(oS i).2.step (oS i).1
theorem DP:∀i,i<8->(oS i).2.ended.isSome=false:=by decide+kernel
theorem EB:(oS 8).2.ended.isSome=true:=by decide+kernel
theorem CZ:(oS 8).2.ended=some {count:=1}:=by decide+kernel
set_option maxRecDepth 100000
instance RG(n:Node)(L:Nat):Decidable (n.Fit L):=by unfold Node.Fit Node.fits;infer_instance
theorem Ep:∀i,i<9->∀n∈(oS i).1.aG,n.Fit (oS i).1.aG.length:=by decide+kernel
theorem xL:∀i,i<9->(oS i).1.size<=1000:=by decide+kernel
theorem HZ(i:Nat)(h:i<9):Rm 101 (oS i).1:=⟨Ep i h,by have:=xL i h;unfold cN;omega⟩
theorem Um:∀n∈NI.aG,n.Fit NI.aG.length:=by decide+kernel
theorem AT:NI.size<=1000:=by decide+kernel
theorem KU:Rm 60 NI:=⟨Um,by have:=AT;unfold cN;omega⟩
theorem GR:eK Nj:=Um
theorem AQ:Nj.size<=1000:=by decide+kernel
theorem Py:iV Nj:=⟨by decide+kernel,by decide+kernel,by decide+kernel,by decide+kernel,by decide+kernel,by decide+kernel,by decide+kernel⟩
theorem Li:iV (oS 8).1:=⟨by decide+kernel,by decide+kernel,by decide+kernel,by decide+kernel,by decide+kernel,by decide+kernel,by decide+kernel⟩
def QB:Nat:=4
def OS:Int:=6
theorem Ug:((oS 8).1.node OS).aA.length=1:=by decide+kernel
theorem AR:Flat (oS 8).1 HR (QB:Int) OS:=⟨by decide+kernel,by decide+kernel,by decide+kernel,by decide+kernel,by decide+kernel,λk h=>by
 rw[Ug]at h
 obtain rfl:k=0:=by omega
 decide+kernel⟩
theorem Ji:((oS 8).1.node OS).aD<18446744073709551616:=by decide+kernel
theorem Ym:dJ (oS 8).1 OS=[⟨⟨#[97]⟩,7⟩]:=by decide+kernel
end Go.Ct
end
section
namespace Go.Q9
open Go.Proofs.Tryz
open Go.E
end Go.Q9
end
section
namespace Go.Q9
open Go.Proofs.Tryz
open Go.RowKit Go.E
attribute [local irreducible] gB wpS E.X XS E.C jU kP fin E.Y E.U E.F Ca jT bl rb aU bV ex ce pu sK gK bK zK gM fO dH gP nE rD
theorem IJ:Cn (Mf ((Ct.oS 8).2.ended.getD {})) [.int .i64 0,↑false,.int .u64 0,.string .empty,.int .i64 1,.int .i64 0,.int .i64 0,↑false]=true:=by rw[Ct.CZ];simp[Cn,WN,Mf]
variable{B w:World}{L:List As}
theorem Wc(mb:Nat)(h:SH B w (cR mb {}::L)):Calls prog 32 #[↑mb] w λe w'=>e=.returned (.agg (cU Ct.HR).toArray)/\SH B w' (cR mb Ct.Nj::L):=Jf mb {} h (by decide)
theorem NZ(ab:Nat)(h:SH B w (wW ab Ct.NI::L)):Calls prog 16 #[(cV ab).v,.agg (cU Ct.HR).toArray,.int .u64 63,.string ⟨#[97]⟩,.int .u64 7,.int .i64 0,.int .u64 0] w λe w'=>∃tb,e=.returned (.pointer (some ⟨tb,0,none⟩))/\SH B w' (eN (cV ab) 1000 tb (Ct.oS 0).2 0::(cV ab).a (Ct.oS 0).1::L):=by
 refine(RC (cV ab) 1000 Ct.QD Ct.NI (LX h) Ct.KU (by decide) (by decide) (by decide)).mono ?_
 rintro e w' ⟨tb,s',u,hq,rfl,h⟩
 have e0:Ct.oS 0=(s',u):=hq
 rw[e0]
 exact⟨tb,rfl,h⟩
theorem LI(ab tb:Nat)(h:SH B w (eN (cV ab) 1000 tb (Ct.oS 0).2 0::(cV ab).a (Ct.oS 0).1::L)):Calls prog 27 #[↑tb,.int .i64 20] w λe w'=>e=.returned (.int .i64 8)/\SH B w' (eN (cV ab) 992 tb (Ct.oS 8).2 8::wW ab (Ct.oS 8).1::L):=by
 refine(OV (cV ab) (AB ab) 1000 tb 0 8 20 Ct.oS h (λi=>rfl) Ct.DP Ct.EB (by decide) (by decide) (λi hi=>Ct.HZ i (by omega)) (by decide) (by decide)).mono ?_
 rintro e w' ⟨rfl,h⟩
 exact⟨rfl,(VB (h.fr (.c r1 .n))).fr (.c r1 .n)⟩
theorem BP(zs:List (Ct.Node×Lq))(pn pc:Option Addr)(cn cc:Nat)(h:SH B w (aU 122 14 (.slice pn zs.length cn) zs.length (zs.flatMap cB)::aU 39 1 (.slice pc (Ct.oS 8).1.cells.length cc) (Ct.oS 8).1.cells.length ((Ct.oS 8).1.cells.map (Value.int .i64))::bE zs::L))(hzs:zs.map Prod.fst=aW (Ct.oS 8).1):
  Calls prog 54 #[.agg [.slice pn zs.length cn,.slice pc (Ct.oS 8).1.cells.length cc,.int .i64 (((Ct.oS 8).1.gen:Nat):Int)].toArray,.agg (cU Ct.HR).toArray] w λe w'=>∃pp cp,e=.returned (.tuple #[.slice pp 1 cp,.int .i64 0])/\SH B w' (aU 126 2 (.slice pp 1 cp) 1 [.string ⟨#[97]⟩,.int .u64 7]::L):=by
 have hz:(Ct.oS 8).1.size<=100000000000:=by have:=Ct.xL 8 (by decide);omega
 have hc:=Lb (Ct.oS 8).1 zs pn pc cn cc Ct.HR Ct.QB Ct.OS h hzs hz Ct.Li (lS (Ct.Ep 8 (by decide)) hz) Ct.AR Ct.Ji (by rw[Ct.Ug];decide)
 refine hc.mono ?_
 rintro e w' ⟨pp,cp,rfl,h⟩
 rw[Ct.Ym]at h ⊢
 exact⟨pp,cp,rfl,h⟩
theorem AG(pa pb:Option Addr)(ca cb:Nat)(h:SH B w (aU 126 2 (.slice pa 1 ca) 1 [.string ⟨#[97]⟩,.int .u64 7]::aU 126 2 (.slice pb 1 cb) 1 [.string ⟨#[97]⟩,.int .u64 7]::L)):
  Calls prog 66 #[.slice pa 1 ca,.slice pb 1 cb] w λe w'=>e=.returned ↑true/\SH B w' L:=by
 have h:=SH.fz h
 have h:=SH.fz (h.fr (.c r1 .n))
 refine(Fe [⟨⟨#[97]⟩,7⟩] pa pb ca cb (h.fr (.c r1 .n)) (by decide)).mono ?_
 rintro e w' ⟨rfl,h⟩
 exact⟨rfl,h.drop.drop⟩
theorem uT(h:SH B w (L)):
  Calls prog 23 #[] w λe w'=>e=.returned ↑true/\SH B w' L:=by
 refine bZ func23 ntmps23 h λw h=>?_
 refine cG (EG h.to) λmb w h=>?_
 refine bA (Wc _ h.to) λw h=>?_
 refine jA h λb1 w h=>?_
 have h:=h.fr (.c r1 .n)
 obtain⟨⟨pn,cn,pc,cc,zs⟩,hz0,h⟩:=h.mo
 have h:SH B w (bl mb ([.slice pn zs.length cn,.slice pc Ct.Nj.cells.length cc,↑(Ct.Nj.gen:Int),↑(Ct.Nj.acc:Int)]) 70::aU 122 14 (.slice pn zs.length cn) zs.length (zs.flatMap cB)::aU 39 1 (.slice pc Ct.Nj.cells.length cc) Ct.Nj.cells.length (Ct.Nj.cells.map (Value.int .i64))::bE zs::bl b1 (cU Ct.HR) 38::L):=h
 have hzs:zs.map Prod.fst=aW Ct.Nj:=hz0
 clear hz0
 have hsz:Ct.Nj.size<=100000000000:=by have:=Ct.AQ;omega
 refine go h λw h=>?_
 refine st (gJ (cs:=[.slice pn zs.length cn,.slice pc Ct.Nj.cells.length cc,↑(Ct.Nj.gen:Int)]) rfl (eP (h.b a0) 0 rfl) Row.h)<|go h λw h=>?_
 refine cG (OT _ _ _ _ _ _ h.to hzs Ct.Py (lS Ct.GR hsz) hsz) λab w h=>?_
 refine st (i4 Oq rfl rfl)<|go h λw h=>?_
 refine st (mi Oq rfl rfl)<|go h λw h=>?_
 refine cG (NZ _ h.to) λtb w h=>?_
 refine st (i4 ME rfl rfl)<|go h λw h=>?_
 refine bA (LI _ _ h.to) λw h=>?_
 refine bA (Ew (cV ab) _ _ _ (Ct.oS 8).2 h.to) λw h=>?_
 refine st (i3 UX rfl rfl rfl rfl)<|go h λw h=>?_
 refine cf rfl (sZ IJ)<|go h λw h=>?_
 refine dZ [1,5,2,6,9,11,13,14,16] (by kernel_rfl) h (.c r6 .n) λw h=>go h λw h=>?_
 refine cs (ca eF rfl) ((Oi ab (Ct.oS 8).1 (h.fr (.c r1 .n)) (by have:=Ct.xL 8 (by decide);omega) (Ct.Ep 8 (by decide))).mono ?_)
 rintro _ w ⟨pnz,cnz,pcz,ccz,ys,hys,rfl,h⟩
 refine⟨_,rfl,h.hs (.c r9 .n),?_⟩
 refine go h λw h=>?_
 refine AN (BP _ _ _ _ _ h.to hys) λppz ZW w h=>?_
 refine sf (bu [.string (⟨#[97]⟩),.int .u64 7] h fR.h Ss.h rfl (by kernel_rfl) rfl (by decide) (by decide)) ?_
 rintro _ w ⟨b2,rfl,h⟩
 refine go h λw h=>?_
 refine bA (AG _ _ _ _ h.to) λw h=>?_
 exact rz ⟨rfl,h.drop.drop.drop.drop.drop.drop.drop⟩
theorem Di(ab:Nat)(c:Ct.Call)(s:Ct.St)(h:SH B w ((cV ab).a s::L))(hk:c.kind=8)(hs:Ct.Rm 60 s)(hky:c.key.size<=9223372036854775807)(hmk:c.aI<18446744073709551616):
  Calls prog 22 #[↑ab,.agg [↑c.kind,↑c.aE.root,↑c.aE.readOnly,↑c.a,↑c.b,↑c.n,↑c.index,.int .u64 (c.hash:Int),.int .u64 (c.aI:Int),↑c.key,.int .u64 (c.value:Int),.int .u64 (c.expect:Int),↑c.bF,↑c.only,↑c.walk.started,.slice none 0 0,.slice none 0 0,↑c.answer.err,↑c.answer.found,.int .u64 (c.answer.value:Int),↑c.answer.key,↑c.answer.count,↑c.answer.ref,↑c.answer.aE.root,↑c.answer.aE.readOnly].toArray] w λe w'=>∃tb,e=.returned (.pointer (some ⟨tb,0,none⟩))/\SH B w' (eN (cV ab) 99999999 tb ((Ct.mS c Ct.FU).head s).2 0::(cV ab).a ((Ct.mS c Ct.FU).head s).1::L):=by
 refine bZ func22 ntmps22 h λw h=>?_
 refine jX h λb1 w h=>?_
 refine st (mi Oq rfl rfl)<|go h λw h=>?_
 refine st (gJ (cs:=[↑c.aE.root,↑c.aE.readOnly]) rfl (eP (h.b a0) 1 rfl) Row.h)<|go h λw h=>?_
 refine cG (WV _ c _ h.to hk hs hky hmk) λtkb w h=>?_
 exact rz ⟨tkb,rfl,h.to⟩
theorem vA(l0:List Int)(p0:Option Addr)(c0:Nat)(l1:List Int)(p1:Option Addr)(c1:Nat)(l2:List Int)(p2:Option Addr)(c2:Nat)(h:SH B w (bV 1 (.slice p0 l0.length c0) l0.length (l0.map (Value.int .i64))::bV 1 (.slice p1 l1.length c1) l1.length (l1.map (Value.int .i64))::bV 1 (.slice p2 l2.length c2) l2.length (l2.map (Value.int .i64))::L)):
  Calls prog 5 #[.slice p0 l0.length c0,.slice p1 l1.length c1,.slice p2 l2.length c2] w λe w'=>e=.returned ↑true/\SH B w' L:=by
 refine bZ func5 ntmps5 h λw h=>?_
 refine cl (ca eF rfl) ((Zz l0 p0 c0 (h.fr (.c r0 .n))).mono ?_)
 rintro _ w ⟨b,mb,aI,g,s,ts,zs,hmk,hW,rfl,h⟩
 have hsz:s.size<=37000000000:=by have:=hW.size;omega
 refine⟨_,rfl,?_⟩
 refine st (sg rfl)<|xe<|nx<|sq<|rg<|st (mv rfl)<|?_
 refine go h λw h=>?_
 refine cG (NS _ _ _ h.to) λtpb w h=>?_
 have h:=h.fr (.c r1 .n)
 obtain⟨⟨twp,twc,xwp,xwc⟩,h⟩:=h.wo
 have h:SH B w (bl b ([↑mb,.int .u64 (aI:Int),.slice twp ts.length twc,.slice xwp zs.length xwc]) 34::aU 38 2 (.slice twp ts.length twc) ts.length (ts.flatMap cU)::aU 52 1 (.slice xwp zs.length xwc) zs.length (zs.flatMap Ii)::gQ tpb l1::eV mb zs::cR mb s::bV 1 (.slice p2 l2.length c2) l2.length (l2.map (Value.int .i64))::L):=h
 refine go h λw h=>?_
 refine cG (CN _ _ h.to (by omega) (Ct.IE hW.gw hW.PI) (lS hW.fit (by omega))) λab w h=>?_
 obtain⟨hl0,hs0⟩:=hW.M7
 refine go h λw h=>?_
 refine st (i4 Oq rfl rfl)<|go h λw h=>?_
 have h:=h.fr (.c r2 (.c r2 (.c r2 .n)))
 have h:SH B w (nS b mb aI ts zs::wW ab {s with acc:=0}::cR mb {s with acc:=0}::gQ tpb l1::eV mb zs::bV 1 (.slice p2 l2.length c2) l2.length (l2.map (Value.int .i64))::L):=SH.wi ⟨twp,twc,xwp,xwc⟩ h
 have h:=LX (h.fr (.c r1 .n))
 have h:=SH.nil 55 2 (SH.VH (mb:=mb) (i9 (S:=cV ab) (n:=400) h))
 refine go h λw h=>?_
 refine lp (α:=Nat×Ct.Ga×Ct.St×List Ct.Px×List (Nat×Nat)×Option Addr×Nat) (λρ=>(.c 2 (.slice p2 l2.length c2) (.c 7 ↑b (.c 8 ↑tpb (.c 9 ↑ab (.c 10 (.slice ρ.2.2.2.2.2.1 ρ.2.2.2.2.1.length ρ.2.2.2.2.2.2) (.c 11 (.int .i64 (ρ.1:Int)) .n))))))) (λρ w=>SH B w (nS b mb aI ts zs::gQ tpb l1::(cV ab).a ρ.2.2.1::cR mb ρ.2.2.1::nR (cV ab) 400 ρ.2.2.2.1::eV mb (ρ.2.2.2.1.map Af)::aU 55 2 (.slice ρ.2.2.2.2.2.1 ρ.2.2.2.2.1.length ρ.2.2.2.2.2.2) ρ.2.2.2.2.1.length (ρ.2.2.2.2.1.flatMap Ns)::eV mb zs::bV 1 (.slice p2 l2.length c2) l2.length (l2.map (Value.int .i64))::L)/\(Ct.Ub 0 ρ.2.1 ρ.2.2.1 ρ.2.2.2.1)/\(Ct.Ge g ρ.2.1)/\(ρ.2.2.1.size<=37100000000+300*ρ.1)/\(ρ.2.2.2.1.map AW=ρ.2.2.2.2.1)/\(ρ.2.2.2.2.1.length=1*ρ.1)/\(ρ.1<=3)) (λρ=>3-ρ.1) (0,g,{s with acc:=0},([]:List Ct.Px),([]:List (Nat×Nat)),none,0) ⟨rfl,rfl,rfl,rfl,rfl,rfl,trivial⟩ ⟨h.to,hl0,(Ct.Ge.refl hW.gw),(by show Ct.St.size {s with acc:=0}<=37100000000+300*0;omega),rfl,rfl,by omega⟩ ?_
 rintro⟨i,g1,s1,ys,ps,pp,cp⟩ w ⟨h,hL,hge,hz,hps,hpl,hi⟩
 dsimp only at *
 refine go h λw h=>?_
 refine qc h (λhd1 w h=>?_) λhd1 w h=>?_
 have hg2:=cW hd1
 refine go h λw h=>?_
 refine cl (ca eF rfl) ((wN b mb tpb aI ts zs l1 8 (h.fr (.c r0 (.c r0 .n))) hW.some hW.Qr (by decide) (by decide) hW.first).mono ?_)
 rintro _ w ⟨kc3,hck4,hcm5,hcky6,hct7,hcw8,rfl,h⟩
 have hcok9:Ct.kZ g kc3:=hW.Gz (by rw[hck4];decide) (by rw[hck4];decide) hct7 hcw8
 have kc3m:kc3.aI<18446744073709551616:=by rw[hcm5];exact hmk
 have kc3k:kc3.key.size<=9223372036854775807:=by omega
 refine⟨_,rfl,?_⟩
 refine go h λw h=>?_
 refine jA h λb10 w h=>?_
 have h:=h.fr (.c r1 .n)
 obtain⟨⟨twp,twc,xwp,xwc⟩,h⟩:=h.wo
 have h:SH B w (bl b ([↑mb,.int .u64 (aI:Int),.slice twp ts.length twc,.slice xwp zs.length xwc]) 34::aU 38 2 (.slice twp ts.length twc) ts.length (ts.flatMap cU)::aU 52 1 (.slice xwp zs.length xwc) zs.length (zs.flatMap Ii)::bl b10 ([↑kc3.kind,↑kc3.aE.root,↑kc3.aE.readOnly,↑kc3.a,↑kc3.b,↑kc3.n,↑kc3.index,.int .u64 (kc3.hash:Int),.int .u64 (kc3.aI:Int),↑kc3.key,.int .u64 (kc3.value:Int),.int .u64 (kc3.expect:Int),↑kc3.bF,↑kc3.only,↑kc3.walk.started,.slice none 0 0,.slice none 0 0,↑kc3.answer.err,↑kc3.answer.found,.int .u64 (kc3.answer.value:Int),↑kc3.answer.key,↑kc3.answer.count,↑kc3.answer.ref,↑kc3.answer.aE.root,↑kc3.answer.aE.readOnly]) 48::gQ tpb l1::(cV ab).a s1::cR mb s1::nR (cV ab) 400 ys::eV mb (ys.map Af)::aU 55 2 (.slice pp ps.length cp) ps.length (ps.flatMap Ns)::eV mb zs::bV 1 (.slice p2 l2.length c2) l2.length (l2.map (Value.int .i64))::L):=h
 refine dZ [1,3,5,9,11,13,15,17,6,18,21,22,24,26] (by kernel_rfl) h (.c r3 (.c r0 .n)) λw h=>go h λw h=>?_
 refine cs (ca eF rfl) ((Di ab kc3 s1 (h.fr (.c r5 .n)) hck4 ⟨hL.fit,by unfold Ct.cN;omega⟩ kc3k kc3m).mono ?_)
 rintro _ w ⟨tkb11,rfl,h⟩
 refine⟨_,rfl,h.hs (.c r5 (.c r2 .n)),?_⟩
 refine go h λw h=>?_
 refine TA (rW _ _ kc3 _ h.to (Ct.gW (c:=kc3) hL.fit (by unfold Ct.room;omega)).1 (Ct.gW (c:=kc3) hL.fit (by unfold Ct.room;omega)).2 (by decide) kc3m kc3k hcok9.lo hcok9.hi) λxb12 w h hok13=>?_
 refine ff (bu [↑tkb11,↑xb12] h fR.h Ss.h rfl (by kernel_rfl) rfl (by decide) (by decide)) ?_
 rintro _ w ⟨b14,rfl,h⟩
 refine gz h λw h=>?_
 refine ff (ap h UR rfl UU rfl (by decide) rfl rfl (λ_=>N3) (h.ro a0) (by simp[Value.oneCell']) (DB ps (tkb11,xb12)) (fW (enc:=Ns) _ (tkb11,xb12)) (by(try simp only[cO,eC]);unfold maxLen;omega) (by(try simp only[cO,eC]);omega))<|?_
 rintro _ w ⟨p15,c16,rfl,h⟩
 refine⟨h.hs (.c r7 (.c r4 .n)),?_⟩
 refine ef (sg rfl) (h.hs (.c r7 (.c r4 .n)))<|xz<|bn<|nx<|?_
 refine go h λw h=>?_
 have h:=h.fr (.c r2 (.c r2 (.c r1 (.c r6 (.c r6 .n)))))
 obtain⟨g17,ss18,ys19,hL20,hps21,hge22,hz23,h⟩:=Gy hL hps (by omega) (hcok9.ge hge) kc3m kc3k hok13 h
 have hge:=hge.trans hge22
 have h:=h.fr (.c r5 (.c r5 (.c r5 .n)))
 have h:SH B w (nS b mb aI ts zs::cR mb ss18::(cV ab).a ss18::nR (cV ab) 400 ys19::eV mb (ys19.map Af)::aU 55 2 (.slice (some ⟨b14,0,none⟩) 1 1) 1 ([.pointer (some ⟨tkb11,0,none⟩),.pointer (some ⟨xb12,0,none⟩)])::bl b10 ([.int .i64 kc3.kind,.int .i64 kc3.aE.root,.bool kc3.aE.readOnly,.int .i64 kc3.a,.int .i64 kc3.b,.int .i64 kc3.n,.int .i64 kc3.index,.int .u64 (kc3.hash:Int),.int .u64 (kc3.aI:Int),.string kc3.key,.int .u64 (kc3.value:Int),.int .u64 (kc3.expect:Int),.int .i64 kc3.bF,.bool kc3.only,.bool kc3.walk.started,.slice none 0 0,.slice none 0 0,.int .i64 kc3.answer.err,.bool kc3.answer.found,.int .u64 (kc3.answer.value:Int),.string kc3.answer.key,.int .i64 kc3.answer.count,.int .i64 kc3.answer.ref,.int .i64 kc3.answer.aE.root,.bool kc3.answer.aE.readOnly]) 48::gQ tpb l1::aU 55 2 (.slice p15 (ps++[(tkb11,xb12)]).length c16) (ps++[(tkb11,xb12)]).length ((ps++[(tkb11,xb12)]).flatMap Ns)::eV mb zs::bV 1 (.slice p2 l2.length c2) l2.length (l2.map (Value.int .i64))::L):=SH.wi ⟨twp,twc,xwp,xwc⟩ h
 refine go h λw h=>?_
 exact⟨((i+1),g17,ss18,ys19,(ps++[(tkb11,xb12)]),p15,c16),⟨rfl,rfl,rfl,rfl,rfl,rfl,trivial⟩,⟨(h.to.fr (.c r0 (.c r4 (.c r1 (.c r0 (.c r0 (.c r0 (.c r0 (.c r0 (.c r0 .n)))))))))),hL20,hge,by(try dsimp only);omega,hps21,(by(try dsimp only);simp only[cO,eC];omega),by(try dsimp only);omega⟩,by(try dsimp only);omega⟩
 have hg24:=dA hd1
 refine go h λw h=>?_
 refine cl (ca eF rfl) ((wN b mb tpb aI ts zs l1 7 (h.fr (.c r0 (.c r0 .n))) hW.some hW.Qr (by decide) (by decide) hW.first).mono ?_)
 rintro _ w ⟨kc25,hck26,hcm27,hcky28,hct29,hcw30,rfl,h⟩
 have hcok31:Ct.kZ g kc25:=hW.Gz (by rw[hck26];decide) (by rw[hck26];decide) hct29 hcw30
 have kc25m:kc25.aI<18446744073709551616:=by rw[hcm27];exact hmk
 have kc25k:kc25.key.size<=9223372036854775807:=by omega
 refine⟨_,rfl,?_⟩
 refine go h λw h=>?_
 refine jA h λb32 w h=>?_
 have h:=h.fr (.c r1 .n)
 obtain⟨⟨twp,twc,xwp,xwc⟩,h⟩:=h.wo
 have h:SH B w (bl b ([↑mb,.int .u64 (aI:Int),.slice twp ts.length twc,.slice xwp zs.length xwc]) 34::aU 38 2 (.slice twp ts.length twc) ts.length (ts.flatMap cU)::aU 52 1 (.slice xwp zs.length xwc) zs.length (zs.flatMap Ii)::bl b32 ([↑kc25.kind,↑kc25.aE.root,↑kc25.aE.readOnly,↑kc25.a,↑kc25.b,↑kc25.n,↑kc25.index,.int .u64 (kc25.hash:Int),.int .u64 (kc25.aI:Int),↑kc25.key,.int .u64 (kc25.value:Int),.int .u64 (kc25.expect:Int),↑kc25.bF,↑kc25.only,↑kc25.walk.started,.slice none 0 0,.slice none 0 0,↑kc25.answer.err,↑kc25.answer.found,.int .u64 (kc25.answer.value:Int),↑kc25.answer.key,↑kc25.answer.count,↑kc25.answer.ref,↑kc25.answer.aE.root,↑kc25.answer.aE.readOnly]) 48::gQ tpb l1::(cV ab).a s1::cR mb s1::nR (cV ab) 400 ys::eV mb (ys.map Af)::aU 55 2 (.slice pp ps.length cp) ps.length (ps.flatMap Ns)::eV mb zs::bV 1 (.slice p2 l2.length c2) l2.length (l2.map (Value.int .i64))::L):=h
 refine dZ [1,3,5,7,9,11,13,15,17,21,23,25,27,29,18,30,33,34,36,38] (by kernel_rfl) h (.c r3 (.c r0 .n)) λw h=>go h λw h=>?_
 refine tk (λW H=>mi Oq rfl rfl)<|go h λw h=>?_
 refine tk (λW H=>gJ (cs:=[↑kc25.aE.root,↑kc25.aE.readOnly]) rfl (eP (H.b a0) 1 rfl) Row.h)<|go h λw h=>?_
 refine lH (JE _ kc25 _ h.to hck26 ⟨hL.fit,by unfold Ct.cN;omega⟩ kc25k kc25m) λtkb33 w h=>?_
 refine TA (rW _ _ kc25 _ h.to (Ct.gW (c:=kc25) hL.fit (by unfold Ct.room;omega)).1 (Ct.gW (c:=kc25) hL.fit (by unfold Ct.room;omega)).2 (by decide) kc25m kc25k hcok31.lo hcok31.hi) λxb34 w h hok35=>?_
 refine ff (bu [↑tkb33,↑xb34] h fR.h Ss.h rfl (by kernel_rfl) rfl (by decide) (by decide)) ?_
 rintro _ w ⟨b36,rfl,h⟩
 refine gz h λw h=>?_
 refine ff (ap h UR rfl UU rfl (by decide) rfl rfl (λ_=>N3) (h.ro a0) (by simp[Value.oneCell']) (DB ps (tkb33,xb34)) (fW (enc:=Ns) _ (tkb33,xb34)) (by(try simp only[cO,eC]);unfold maxLen;omega) (by(try simp only[cO,eC]);omega))<|?_
 rintro _ w ⟨p37,c38,rfl,h⟩
 refine⟨h.hs (.c r7 (.c r4 .n)),?_⟩
 refine ef (sg rfl) (h.hs (.c r7 (.c r4 .n)))<|xz<|nx<|sq<|?_
 refine go h λw h=>?_
 have h:=h.fr (.c r2 (.c r2 (.c r1 (.c r6 (.c r6 .n)))))
 obtain⟨g39,ss40,ys41,hL42,hps43,hge44,hz45,h⟩:=Gy hL hps (by omega) (hcok31.ge hge) kc25m kc25k hok35 h
 have hge:=hge.trans hge44
 have h:=SH.fz (h.fr (.c L8 .n))
 refine go h λw h=>?_
 refine cl (ca eF rfl) ((uT (h.fr .n)).mono ?_)
 rintro _ w ⟨rfl,h⟩
 refine⟨_,rfl,?_⟩
 refine st (mv rfl)<|gT rfl rfl rfl<|st (mv rfl)<|gT rfl rfl rfl<|st (mv rfl)<|gT rfl rfl rfl<|st (nc rfl rfl)<|gT rfl rfl rfl<|st (fa SQ rfl)<|gT rfl rfl rfl<|st (ld Jo rfl (h.c a6 rfl))<|gT rfl rfl rfl<|st (mv rfl)<|gT rfl rfl rfl<|st (mv rfl)<|gT rfl rfl rfl<|?_
 refine go h λw h=>?_
 refine cl (ca eF rfl) ((LK ab mb g39 ss40 ys41 (ps++[(tkb33,xb34)]) l2 p37 p2 c38 c2 (h.fr (.c r3 (.c r3 (.c r1 (.c r1 (.c r0 (.c r7 .n))))))) hL42 hps43 (by simp only[cO,eC];omega) (by simp only[cO,eC];omega)).mono ?_)
 rintro _ w ⟨sz,hf1,hz1,rfl,h⟩
 refine⟨_,rfl,?_⟩
 refine st (pT rfl rfl rfl)<|st (sg rfl)<|xe<|nx<|rt<|?_
 refine go h λw h=>?_
 exact rz ⟨rfl,h.drop.drop.drop.drop.drop.drop.drop.drop.drop⟩
theorem Zh(ab:Nat)(c:Ct.Call)(s:Ct.St)(h:SH B w (wW ab s::L))(hk:c.kind=8)(hs:Ct.Rm 60 s)(hky:c.key.size<=9223372036854775807)(hmk:c.aI<18446744073709551616):Calls prog 22 #[↑ab,.agg [↑c.kind,↑c.aE.root,↑c.aE.readOnly,↑c.a,↑c.b,↑c.n,↑c.index,.int .u64 (c.hash:Int),.int .u64 (c.aI:Int),↑c.key,.int .u64 (c.value:Int),.int .u64 (c.expect:Int),↑c.bF,↑c.only,↑c.walk.started,.slice none 0 0,.slice none 0 0,↑c.answer.err,↑c.answer.found,.int .u64 (c.answer.value:Int),↑c.answer.key,↑c.answer.count,↑c.answer.ref,↑c.answer.aE.root,↑c.answer.aE.readOnly].toArray] w λe w'=>∃tb,e=.returned (.pointer (some ⟨tb,0,none⟩))/\SH B w' (eN (cV ab) 99999999 tb ((Ct.mS c Ct.FU).head s).2 0::(cV ab).a ((Ct.mS c Ct.FU).head s).1::L):=Di ab c s (LX h) hk hs hky hmk
theorem If(l0:List Int)(p0:Option Addr)(c0:Nat)(l1:List Int)(p1:Option Addr)(c1:Nat)(key:ByteArray)(pol:Int)(raw:Bool)(h:SH B w (bV 1 (.slice p0 l0.length c0) l0.length (l0.map (Value.int .i64))::bV 1 (.slice p1 l1.length c1) l1.length (l1.map (Value.int .i64))::L))(hkey:key.size<=9223372036854775807):
  Calls prog 7 #[.slice p0 l0.length c0,.slice p1 l1.length c1,↑key,↑pol,↑raw] w λe w'=>e=.returned ↑true/\SH B w' L:=by
 refine bZ func7 ntmps7 h λw h=>?_
 refine cl (ca eF rfl) ((Zz l0 p0 c0 (h.fr (.c r0 .n))).mono ?_)
 rintro _ w ⟨b,mb,aI,g,s,ts,zs,hmk,hW,rfl,h⟩
 have hsz:s.size<=37000000000:=by have:=hW.size;omega
 refine⟨_,rfl,?_⟩
 refine st (sg rfl)<|xe<|nx<|sq<|?_
 refine go h λw h=>?_
 have h:=h.fr (.c r0 .n)
 obtain⟨⟨twp,twc,xwp,xwc⟩,h⟩:=h.wo
 have h:SH B w (bl b ([↑mb,.int .u64 (aI:Int),.slice twp ts.length twc,.slice xwp zs.length xwc]) 34::aU 38 2 (.slice twp ts.length twc) ts.length (ts.flatMap cU)::aU 52 1 (.slice xwp zs.length xwc) zs.length (zs.flatMap Ii)::eV mb zs::cR mb s::bV 1 (.slice p1 l1.length c1) l1.length (l1.map (Value.int .i64))::L):=h
 refine go h λw h=>?_
 refine cG (CN _ _ h.to (by omega) (Ct.IE hW.gw hW.PI) (lS hW.fit (by omega))) λab w h=>?_
 obtain⟨hl0,hs0⟩:=hW.M7
 refine go h λw h=>?_
 refine st (i4 Oq rfl rfl)<|go h λw h=>?_
 have h:=h.fr (.c r2 (.c r2 (.c r2 .n)))
 have h:SH B w (nS b mb aI ts zs::wW ab {s with acc:=0}::cR mb {s with acc:=0}::eV mb zs::bV 1 (.slice p1 l1.length c1) l1.length (l1.map (Value.int .i64))::L):=SH.wi ⟨twp,twc,xwp,xwc⟩ h
 refine go h λw h=>?_
 refine cG (NS _ _ _ h.to) λtpb w h=>?_
 refine cl (ca eF rfl) ((wN b mb tpb aI ts zs l1 8 (h.fr (.c r1 (.c r0 .n))) hW.some hW.Qr (by decide) (by decide) hW.first).mono ?_)
 rintro _ w ⟨c,hck,hcm,hcky,hct,hcw,rfl,h⟩
 have hcok:Ct.kZ g c:=hW.Gz (by rw[hck];decide) (by rw[hck];decide) hct hcw
 have hcm2:c.aI<18446744073709551616:=by rw[hcm];exact hmk
 have hcky2:c.key.size<=9223372036854775807:=by omega
 have hst:=Ct.gW (c:=c) hl0.fit (by unfold Ct.room;omega)
 refine⟨_,rfl,?_⟩
 refine go h λw h=>?_
 refine sf (al h Ej)<|?_
 rintro _ w ⟨b1,rfl,h⟩
 refine sf (so h rfl rfl rfl xP rfl (.r (.r (.r (.r (.r (.r (.r (.r (.r (.r (.r (.r (.r (.r (.r (.r (.r (.r (.r (.r (.r (.r (.r (.r (.r .d))))))))))))))))))))))))) u0)<|?_
 rintro _ w h
 refine xe<|nx<|?_
 refine sm (λe w=>∃c2:Ct.Call,Sub 52 e (.c 11 ↑b (.c 12 ↑ab (.c 13 ↑b1 .n)))/\SH B w (bl b1 ([↑c2.kind,↑c2.aE.root,↑c2.aE.readOnly,↑c2.a,↑c2.b,↑c2.n,↑c2.index,.int .u64 (c2.hash:Int),.int .u64 (c2.aI:Int),↑c2.key,.int .u64 (c2.value:Int),.int .u64 (c2.expect:Int),↑c2.bF,↑c2.only,↑c2.walk.started,.slice none 0 0,.slice none 0 0,↑c2.answer.err,↑c2.answer.found,.int .u64 (c2.answer.value:Int),↑c2.answer.key,↑c2.answer.count,↑c2.answer.ref,↑c2.answer.aE.root,↑c2.answer.aE.readOnly]) 48::nS b mb aI ts zs::gQ tpb l1::wW ab {s with acc:=0}::cR mb {s with acc:=0}::eV mb zs::L)/\(Ct.kZ g c2/\c2.aI<18446744073709551616/\c2.key.size<=9223372036854775807/\c2.kind=8)) ?_ ?_
 refine go h λw h=>?_
 refine qc h (λhd2 w h=>?_) λhd2 w h=>?_
 exact⟨({c with key:=key,bF:=pol}:Ct.Call),⟨rfl,rfl,rfl,trivial⟩,h,⟨⟨hcok.lo,hcok.hi,hcok.aE,hcok.ro⟩,hcm2,hkey,hck⟩⟩
 exact⟨c,⟨rfl,rfl,rfl,trivial⟩,h,⟨hcok,hcm2,hcky2,hck⟩⟩
 rintro e w ⟨c2,hE,h,hc2⟩
 refine C.sub hE ?_
 clear hE e
 have hst2:=Ct.gW (c:=c2) hl0.fit (by unfold Ct.room;omega)
 refine go h λw h=>?_
 have h:=h.fr (.c r1 .n)
 obtain⟨⟨twp,twc,xwp,xwc⟩,h⟩:=h.wo
 have h:SH B w (bl b ([↑mb,.int .u64 (aI:Int),.slice twp ts.length twc,.slice xwp zs.length xwc]) 34::aU 38 2 (.slice twp ts.length twc) ts.length (ts.flatMap cU)::aU 52 1 (.slice xwp zs.length xwc) zs.length (zs.flatMap Ii)::bl b1 ([↑c2.kind,↑c2.aE.root,↑c2.aE.readOnly,↑c2.a,↑c2.b,↑c2.n,↑c2.index,.int .u64 (c2.hash:Int),.int .u64 (c2.aI:Int),↑c2.key,.int .u64 (c2.value:Int),.int .u64 (c2.expect:Int),↑c2.bF,↑c2.only,↑c2.walk.started,.slice none 0 0,.slice none 0 0,↑c2.answer.err,↑c2.answer.found,.int .u64 (c2.answer.value:Int),↑c2.answer.key,↑c2.answer.count,↑c2.answer.ref,↑c2.answer.aE.root,↑c2.answer.aE.readOnly]) 48::gQ tpb l1::wW ab {s with acc:=0}::cR mb {s with acc:=0}::eV mb zs::L):=h
 refine dZ [0,3,5,7,9,11,13,15,17,21,23,25,27,29,18,30,33,34,36,39,40] (by kernel_rfl) h (.c r0 (.c r2 .n)) λw h=>go h λw h=>?_
 refine cs (ca eF rfl) ((uT (h.fr .n)).mono ?_)
 rintro _ w ⟨rfl,h⟩
 refine⟨_,rfl,h.hs (.c r0 (.c r2 .n)),?_⟩
 refine tk (λW H=>mv rfl)<|oX rfl rfl rfl<|tk (λW H=>mv rfl)<|oX rfl rfl rfl<|tk (λW H=>mv rfl)<|oX rfl rfl rfl<|tk (λW H=>nc rfl rfl)<|oX rfl rfl rfl<|tk (λW H=>fa SQ rfl)<|oX rfl rfl rfl<|tk (λW H=>ld Jo rfl (H.c a0 rfl))<|oX rfl rfl rfl<|tk (λW H=>mv rfl)<|oX rfl rfl rfl<|tk (λW H=>gJ rfl (dK (H.b a1)) yL)<|oX rfl rfl rfl<|tk (λW H=>mv rfl)<|oX rfl rfl rfl<|tk (λW H=>nc rfl rfl)<|oX rfl rfl rfl<|tk (λW H=>fa SQ rfl)<|oX rfl rfl rfl<|tk (λW H=>ld Jo rfl (H.c a0 rfl))<|oX rfl rfl rfl<|tk (λW H=>gJ rfl (dK (H.b a1)) yL)<|oX rfl rfl rfl<|?_
 refine go h λw h=>?_
 refine cs (ca eF rfl) ((Zh ab c2 {s with acc:=0} (h.fr (.c r5 .n)) hc2.2.2.2 ⟨hl0.fit,by unfold Ct.cN;omega⟩ hc2.2.2.1 hc2.2.1).mono ?_)
 rintro _ w ⟨tkb,rfl,h⟩
 refine⟨_,rfl,h.hs (.c r2 (.c r4 .n)),?_⟩
 refine oX rfl rfl rfl<|?_
 refine go h λw h=>?_
 refine TA (rW _ _ c2 _ h.to hst2.1 hst2.2 (by decide) hc2.2.1 hc2.2.2.1 hc2.1.lo hc2.1.hi) λxb w h hok=>?_
 refine ff (bu [↑tkb,↑xb] h fR.h Ss.h rfl (by kernel_rfl) rfl (by decide) (by decide)) ?_
 rintro _ w ⟨b3,rfl,h⟩
 refine gz h λw h=>?_
 refine cs (ca eF rfl) ((Zv ab mb tkb xb b3 99999999 g {s with acc:=0} c2 (h.fr (.c r2 (.c r2 (.c r1 (.c r0 .n))))) hl0 (by omega) (by decide) hc2.1 hc2.2.1 hc2.2.2.1 hok).mono ?_)
 rintro _ w ⟨s1,hf1,hz1,rfl,h⟩
 refine⟨_,rfl,h.hs (.c r2 (.c r4 .n)),?_⟩
 refine tk (λW H=>pT rfl rfl rfl)<|ef (sg rfl) (h.hs (.c r2 (.c r4 .n)))<|xz<|nx<|rt<|?_
 refine go h λw h=>?_
 exact rz ⟨rfl,h.drop.drop.drop.drop.drop.drop.drop.drop⟩
end Go.Q9
end
