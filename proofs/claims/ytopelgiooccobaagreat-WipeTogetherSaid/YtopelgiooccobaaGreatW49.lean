/- Parts of a proof: Ayx, Wt. -/
import Derived.Test.YtopelgiooccobaaGreatW12
import Derived.Test.YtopelgiooccobaaGreatW13
import Derived.Test.YtopelgiooccobaaGreatW15
import Derived.Test.YtopelgiooccobaaGreatW11
import Derived.Test.YtopelgiooccobaaGreatW29
import Derived.Test.YtopelgiooccobaaGreatW21
import Derived.Test.YtopelgiooccobaaGreatW26
import Derived.Test.YtopelgiooccobaaGreatW31
import Derived.Test.YtopelgiooccobaaGreatW40
import Derived.Test.YtopelgiooccobaaGreatW41
import Derived.Test.YtopelgiooccobaaGreatW27
import Derived.Test.YtopelgiooccobaaGreatW45
import Derived.Test.YtopelgiooccobaaGreatW47
import Derived.Test.YtopelgiooccobaaGreatW05
import Derived.Test.YtopelgiooccobaaGreatW08
import Derived.Test.YtopelgiooccobaaGreatW48
set_option linter.unusedVariables false
set_option linter.unusedSimpArgs false
set_option maxRecDepth 100000
set_option maxHeartbeats 4000000
section
namespace Go.Proofs.YtopelgiooccobaaGreat
open Tryz
open Go.E
end Go.Proofs.YtopelgiooccobaaGreat
end
section
namespace Go.Proofs.YtopelgiooccobaaGreat
open Tryz
attribute [local irreducible] Go.E.gB Go.E.wpS Go.E.X Go.E.XS Go.E.C Go.E.jU Go.E.kP Go.E.fin Go.E.Y Go.E.U Go.E.F Go.E.Ca Go.E.jT Go.E.bl Go.E.rb Go.E.aU Go.E.bV Go.E.ex Go.E.ce Go.E.pu Go.E.sK Go.E.gK Go.E.bK Go.E.zK Go.E.gM Go.E.fO Go.E.dH gP nE rD
open Go.RowKit Go.E
variable{B w:World}{L:List As}
theorem NZ(ab:Nat)(c:Ct.Call)(s:Ct.St)(h:SH B w ((cV ab).a s::L))(hk:c.kind=12)(hs:Ct.Rm 60 s):Calls prog 14 #[(cV ab).v,.agg (cU c.aE).toArray] w λe w'=>∃tb,e=.returned (.pointer (some ⟨tb,0,none⟩))/\SH B w' (eN (cV ab) 99999999 tb ((Ct.mS c Ct.FU).head s).2 0::(cV ab).a ((Ct.mS c Ct.FU).head s).1::L):=by
 refine(Ep (cV ab) 99999999 c.aE s h hs).mono ?_
 rintro e w' ⟨tb,s',u,hq,rfl,h⟩
 have e0:(Ct.mS c Ct.FU).head s=(s',u):=by
  unfold Ct.mS
  rw[hk,if_neg (by decide),if_neg (by decide),if_neg (by decide),if_neg (by decide),if_neg (by decide)]
  exact hq
 rw[e0]
 exact⟨tb,rfl,h⟩
theorem WV(ab:Nat)(c:Ct.Call)(s:Ct.St)(h:SH B w ((cV ab).a s::L))(hk:c.kind=8)(hs:Ct.Rm 60 s)(hky:c.key.size<=9223372036854775807)(hmk:c.aI<18446744073709551616):Calls prog 16 #[(cV ab).v,.agg (cU c.aE).toArray,.int .u64 (c.aI:Int),↑c.key,.int .u64 (c.value:Int),↑c.bF,.int .u64 (c.expect:Int)] w λe w'=>∃tb,e=.returned (.pointer (some ⟨tb,0,none⟩))/\SH B w' (eN (cV ab) 99999999 tb ((Ct.mS c Ct.FU).head s).2 0::(cV ab).a ((Ct.mS c Ct.FU).head s).1::L):=by
 refine(RC (cV ab) 99999999 c s h hs hky hmk (by decide)).mono ?_
 rintro e w' ⟨tb,s',u,hq,rfl,h⟩
 have e0:(Ct.mS c Ct.FU).head s=(s',u):=by
  unfold Ct.mS
  rw[hk,if_neg (by decide),if_pos (by decide)]
  exact hq
 rw[e0]
 exact⟨tb,rfl,h⟩
theorem JE(ab:Nat)(c:Ct.Call)(s:Ct.St)(h:SH B w ((cV ab).a s::L))(hk:c.kind=7)(hs:Ct.Rm 60 s)(hky:c.key.size<=9223372036854775807)(hmk:c.aI<18446744073709551616):Calls prog 17 #[(cV ab).v,.agg (cU c.aE).toArray,.int .u64 (c.aI:Int),↑c.key] w λe w'=>∃tb,e=.returned (.pointer (some ⟨tb,0,none⟩))/\SH B w' (eN (cV ab) 99999999 tb ((Ct.mS c Ct.FU).head s).2 0::(cV ab).a ((Ct.mS c Ct.FU).head s).1::L):=by
 refine(Sy (cV ab) 99999999 c s h hs hky hmk (by decide)).mono ?_
 rintro e w' ⟨tb,s',u,hq,rfl,h⟩
 have e0:(Ct.mS c Ct.FU).head s=(s',u):=by
  unfold Ct.mS
  rw[hk,if_pos (by decide)]
  exact hq
 rw[e0]
 exact⟨tb,rfl,h⟩
theorem Gy{ab mb tb xb:Nat}{g:Ct.Ga}{s:Ct.St}{ys:List Ct.Px}{ps:List (Nat×Nat)}{c:Ct.Call}(hL:Ct.Ub 0 g s ys)(hps:ys.map AW=ps)(hs:s.size+1000<=38000000000)(hc:Ct.kZ g c)(hm:c.aI<18446744073709551616)(hk:c.key.size<=9223372036854775807)(hok:Ct.Ok 50 (Ct.bX (Ct.bY c Ct.FU) 0 ⟨{call:=c},s⟩))
  (h:SH B w (eN (cV ab) 99999999 tb ((Ct.mS c Ct.FU).head s).2 0::(cV ab).a ((Ct.mS c Ct.FU).head s).1::XA xb mb (Ct.bX (Ct.bY c Ct.FU) 0 ⟨{call:=c},s⟩)::nR (cV ab) 400 ys::eV mb (ys.map Af)::L)):
  ∃g' s' ys',Ct.Ub 0 g' s' ys'/\ys'.map AW=ps++[(tb,xb)]/\Ct.Ge g g'/\s'.size<=s.size+120/\SH B w (cR mb s'::(cV ab).a s'::nR (cV ab) 400 ys'::eV mb (ys'.map Af)::L):=by
 obtain⟨g',u,h1,hge,hz,hL'⟩:=hL.add (tb:=tb) (xb:=xb) hs hc hm hk hok
 rw[h1]at h
 have h:=SH.n0 (m:=400) (by decide) h
 have h:=ZR (xb:=xb) (e:=(Ct.bX (Ct.bY c Ct.FU) 0 ⟨{call:=c},s⟩).e) (h.fr (.c r0 (.c r2 .n)))
 have h:=SH.VL (h.fr (.c r2 (.c r2 .n)))
 refine⟨g',_,_,hL',by rw[tX,hps];rfl,hge,hz,?_⟩
 rw[tX]
 exact h.fr (.c r1 (.c r2 (.c r1 .n)))
theorem Di(l0:List Int)(p0:Option Addr)(c0:Nat)(l1:List Int)(p1:Option Addr)(c1:Nat)(l2:List Int)(p2:Option Addr)(c2:Nat)(h:SH B w (bV 1 (.slice p0 l0.length c0) l0.length (l0.map (Value.int .i64))::bV 1 (.slice p1 l1.length c1) l1.length (l1.map (Value.int .i64))::bV 1 (.slice p2 l2.length c2) l2.length (l2.map (Value.int .i64))::L)):
  Calls prog 3 #[.slice p0 l0.length c0,.slice p1 l1.length c1,.slice p2 l2.length c2] w λe w'=>e=.returned ↑true/\SH B w' L:=by
 refine bZ func3 ntmps3 h λw h=>?_
 refine cl (ca eF rfl) ((Zz l0 p0 c0 (h.fr (.c r0 .n))).mono ?_)
 rintro _ w ⟨b,mb,aI,g,s,ts,zs,hmk,hW,rfl,h⟩
 have hsz:s.size<=37000000000:=by have:=hW.size;omega
 refine⟨_,rfl,?_⟩
 refine st (sg rfl)<|xe<|nx<|sq<|rg<|st (mv rfl)<|?_
 refine go h λw h=>?_
 refine cG (NS _ _ _ h.to) λtpb w h=>?_
 have h:=h.fr (.c r1 .n)
 obtain⟨⟨twp,twc,xwp,xwc⟩,h⟩:=h.wo
 have h:SH B w (bl b ([↑mb,.int .u64 (aI:Int),.slice twp ts.length twc,.slice xwp zs.length xwc]) 34::aU 38 2 (.slice twp ts.length twc) ts.length (ts.flatMap cU)::aU 52 1 (.slice xwp zs.length xwc) zs.length (zs.flatMap Ii)::gQ tpb l1::eV mb zs::cR mb s::bV 1 (.slice p2 l2.length c2) l2.length (l2.map (Value.int .i64))::L):=h
 refine go h λw h=>?_
 refine cG (CN _ _ h.to (by omega) (Ct.IE hW.gw hW.PI) (lS hW.fit (by omega))) λab w h=>?_
 obtain⟨hl0,hs0⟩:=hW.M7
 refine go h λw h=>?_
 refine st (i4 Oq rfl rfl)<|go h λw h=>?_
 have h:=h.fr (.c r2 (.c r2 (.c r2 .n)))
 have h:SH B w (nS b mb aI ts zs::wW ab {s with acc:=0}::cR mb {s with acc:=0}::gQ tpb l1::eV mb zs::bV 1 (.slice p2 l2.length c2) l2.length (l2.map (Value.int .i64))::L):=SH.wi ⟨twp,twc,xwp,xwc⟩ h
 have h:=LX (h.fr (.c r1 .n))
 have h:=SH.nil 55 2 (SH.VH (mb:=mb) (i9 (S:=cV ab) (n:=400) h))
 refine go h λw h=>?_
 refine lp (α:=Nat×Ct.Ga×Ct.St×List Ct.Px×List (Nat×Nat)×Option Addr×Nat) (λρ=>(.c 2 (.slice p2 l2.length c2) (.c 7 ↑b (.c 8 ↑tpb (.c 9 ↑ab (.c 10 (.slice ρ.2.2.2.2.2.1 ρ.2.2.2.2.1.length ρ.2.2.2.2.2.2) (.c 11 (.int .i64 (ρ.1:Int)) .n))))))) (λρ w=>SH B w (nS b mb aI ts zs::gQ tpb l1::(cV ab).a ρ.2.2.1::cR mb ρ.2.2.1::nR (cV ab) 400 ρ.2.2.2.1::eV mb (ρ.2.2.2.1.map Af)::aU 55 2 (.slice ρ.2.2.2.2.2.1 ρ.2.2.2.2.1.length ρ.2.2.2.2.2.2) ρ.2.2.2.2.1.length (ρ.2.2.2.2.1.flatMap Ns)::eV mb zs::bV 1 (.slice p2 l2.length c2) l2.length (l2.map (Value.int .i64))::L)/\(Ct.Ub 0 ρ.2.1 ρ.2.2.1 ρ.2.2.2.1)/\(Ct.Ge g ρ.2.1)/\(ρ.2.2.1.size<=37100000000+300*ρ.1)/\(ρ.2.2.2.1.map AW=ρ.2.2.2.2.1)/\(ρ.2.2.2.2.1.length=2*ρ.1)/\(ρ.1<=2)) (λρ=>2-ρ.1) (0,g,{s with acc:=0},([]:List Ct.Px),([]:List (Nat×Nat)),none,0) ⟨rfl,rfl,rfl,rfl,rfl,rfl,trivial⟩ ⟨h.to,hl0,(Ct.Ge.refl hW.gw),(by show Ct.St.size {s with acc:=0}<=37100000000+300*0;omega),rfl,rfl,by omega⟩ ?_
 rintro⟨i,g1,s1,ys,ps,pp,cp⟩ w ⟨h,hL,hge,hz,hps,hpl,hi⟩
 dsimp only at *
 refine go h λw h=>?_
 refine qc h (λhd1 w h=>?_) λhd1 w h=>?_
 have hg2:=cW hd1
 refine go h λw h=>?_
 refine cl (ca eF rfl) ((wN b mb tpb aI ts zs l1 12 (h.fr (.c r0 (.c r0 .n))) hW.some hW.Qr (by decide) (by decide) hW.first).mono ?_)
 rintro _ w ⟨kc3,hck4,hcm5,hcky6,hct7,hcw8,rfl,h⟩
 have hcok9:Ct.kZ g kc3:=hW.Gz (by rw[hck4];decide) (by rw[hck4];decide) hct7 hcw8
 have kc3m:kc3.aI<18446744073709551616:=by rw[hcm5];exact hmk
 have kc3k:kc3.key.size<=9223372036854775807:=by omega
 refine⟨_,rfl,?_⟩
 refine st (mv rfl)<|st (mv rfl)<|?_
 refine go h λw h=>?_
 refine cl (ca eF rfl) ((wN b mb tpb aI ts zs l1 8 (h.fr (.c r0 (.c r0 .n))) hW.some hW.Qr (by decide) (by decide) hW.first).mono ?_)
 rintro _ w ⟨kc10,hck11,hcm12,hcky13,hct14,hcw15,rfl,h⟩
 have hcok16:Ct.kZ g kc10:=hW.Gz (by rw[hck11];decide) (by rw[hck11];decide) hct14 hcw15
 have kc10m:kc10.aI<18446744073709551616:=by rw[hcm12];exact hmk
 have kc10k:kc10.key.size<=9223372036854775807:=by omega
 refine⟨_,rfl,?_⟩
 refine go h λw h=>?_
 refine jA h λb17 w h=>?_
 refine jA h λb18 w h=>?_
 have h:=h.fr (.c r2 .n)
 obtain⟨⟨twp,twc,xwp,xwc⟩,h⟩:=h.wo
 have h:SH B w (bl b ([↑mb,.int .u64 (aI:Int),.slice twp ts.length twc,.slice xwp zs.length xwc]) 34::aU 38 2 (.slice twp ts.length twc) ts.length (ts.flatMap cU)::aU 52 1 (.slice xwp zs.length xwc) zs.length (zs.flatMap Ii)::bl b18 ([↑kc10.kind,↑kc10.aE.root,↑kc10.aE.readOnly,↑kc10.a,↑kc10.b,↑kc10.n,↑kc10.index,.int .u64 (kc10.hash:Int),.int .u64 (kc10.aI:Int),↑kc10.key,.int .u64 (kc10.value:Int),.int .u64 (kc10.expect:Int),↑kc10.bF,↑kc10.only,↑kc10.walk.started,.slice none 0 0,.slice none 0 0,↑kc10.answer.err,↑kc10.answer.found,.int .u64 (kc10.answer.value:Int),↑kc10.answer.key,↑kc10.answer.count,↑kc10.answer.ref,↑kc10.answer.aE.root,↑kc10.answer.aE.readOnly]) 48::bl b17 ([↑kc3.kind,↑kc3.aE.root,↑kc3.aE.readOnly,↑kc3.a,↑kc3.b,↑kc3.n,↑kc3.index,.int .u64 (kc3.hash:Int),.int .u64 (kc3.aI:Int),↑kc3.key,.int .u64 (kc3.value:Int),.int .u64 (kc3.expect:Int),↑kc3.bF,↑kc3.only,↑kc3.walk.started,.slice none 0 0,.slice none 0 0,↑kc3.answer.err,↑kc3.answer.found,.int .u64 (kc3.answer.value:Int),↑kc3.answer.key,↑kc3.answer.count,↑kc3.answer.ref,↑kc3.answer.aE.root,↑kc3.answer.aE.readOnly]) 48::gQ tpb l1::(cV ab).a s1::cR mb s1::nR (cV ab) 400 ys::eV mb (ys.map Af)::aU 55 2 (.slice pp ps.length cp) ps.length (ps.flatMap Ns)::eV mb zs::bV 1 (.slice p2 l2.length c2) l2.length (l2.map (Value.int .i64))::L):=h
 refine dZ [1,3,5,7,9,13,15,17,19,21,10,22,25,26,28,30] (by kernel_rfl) h (.c r4 (.c r0 .n)) λw h=>go h λw h=>?_
 refine tk (λW H=>mi Oq rfl rfl)<|go h λw h=>?_
 refine tk (λW H=>gJ (cs:=[↑kc3.aE.root,↑kc3.aE.readOnly]) rfl (eP (H.b a0) 1 rfl) Row.h)<|go h λw h=>?_
 refine lH (NZ _ kc3 _ h.to hck4 ⟨hL.fit,by unfold Ct.cN;omega⟩) λtkb19 w h=>?_
 refine TA (rW _ _ kc3 _ h.to (Ct.gW (c:=kc3) hL.fit (by unfold Ct.room;omega)).1 (Ct.gW (c:=kc3) hL.fit (by unfold Ct.room;omega)).2 (by decide) kc3m kc3k hcok9.lo hcok9.hi) λxb20 w h hok21=>?_
 refine ff (bu [↑tkb19,↑xb20] h fR.h Ss.h rfl (by kernel_rfl) rfl (by decide) (by decide)) ?_
 rintro _ w ⟨b22,rfl,h⟩
 refine gz h λw h=>?_
 refine ff (ap h UR rfl UU rfl (by decide) rfl rfl (λ_=>K3) (h.ro a0) (by simp[Value.oneCell']) (DB ps (tkb19,xb20)) (fW (enc:=Ns) _ (tkb19,xb20)) (by(try simp only[cO,eC]);unfold maxLen;omega) (by(try simp only[cO,eC]);omega))<|?_
 rintro _ w ⟨p23,c24,rfl,h⟩
 refine⟨h.hs (.c r8 (.c r4 .n)),?_⟩
 refine ef (sg rfl) (h.hs (.c r8 (.c r4 .n)))<|xz<|nx<|?_
 refine go h λw h=>?_
 have h:=h.fr (.c r2 (.c r2 (.c r1 (.c r7 (.c r7 .n)))))
 obtain⟨g25,ss26,ys27,hL28,hps29,hge30,hz31,h⟩:=Gy hL hps (by omega) (hcok9.ge hge) kc3m kc3k hok21 h
 have hge:=hge.trans hge30
 refine dZ [1,3,5,7,9,11,13,15,17,19,21,23,25,27,29,33,35,37,39,41,30,42,45,46,48,50] (by kernel_rfl) h (.c r8 (.c r5 .n)) λw h=>go h λw h=>?_
 refine tk (λW H=>mi Oq rfl rfl)<|go h λw h=>?_
 refine tk (λW H=>gJ (cs:=[↑kc10.aE.root,↑kc10.aE.readOnly]) rfl (eP (H.b a0) 1 rfl) Row.h)<|go h λw h=>?_
 refine lH (WV _ kc10 _ h.to hck11 ⟨hL28.fit,by unfold Ct.cN;omega⟩ kc10k kc10m) λtkb32 w h=>?_
 refine TA (rW _ _ kc10 _ h.to (Ct.gW (c:=kc10) hL28.fit (by unfold Ct.room;omega)).1 (Ct.gW (c:=kc10) hL28.fit (by unfold Ct.room;omega)).2 (by decide) kc10m kc10k hcok16.lo hcok16.hi) λxb33 w h hok34=>?_
 refine ff (bu [↑tkb32,↑xb33] h fR.h Ss.h rfl (by kernel_rfl) rfl (by decide) (by decide)) ?_
 rintro _ w ⟨b35,rfl,h⟩
 refine gz h λw h=>?_
 refine ff (ap h fR.h rfl Ss.h rfl (by decide) rfl rfl (λ_=>K9) (h.ro a0) (by simp[Value.oneCell']) (DB (ps++[(tkb19,xb20)]) (tkb32,xb33)) (fW (enc:=Ns) _ (tkb32,xb33)) (by(try simp only[cO,eC]);unfold maxLen;omega) (by(try simp only[cO,eC]);omega)) ?_
 rintro _ w ⟨p36,c37,rfl,h⟩
 refine gz h λw h=>?_
 have h:=h.fr (.c r2 (.c r2 (.c r1 (.c r1 (.c r1 .n)))))
 obtain⟨g38,ss39,ys40,hL41,hps42,hge43,hz44,h⟩:=Gy hL28 hps29 (by omega) (hcok16.ge hge) kc10m kc10k hok34 h
 have hge:=hge.trans hge43
 have h:=h.fr (.c r6 (.c r6 (.c r6 .n)))
 have h:SH B w (nS b mb aI ts zs::cR mb ss39::(cV ab).a ss39::nR (cV ab) 400 ys40::eV mb (ys40.map Af)::aU 55 2 (.slice (some ⟨b35,0,none⟩) 1 1) 1 ([.pointer (some ⟨tkb32,0,none⟩),.pointer (some ⟨xb33,0,none⟩)])::aU 55 2 (.slice (some ⟨b22,0,none⟩) 1 1) 1 ([.pointer (some ⟨tkb19,0,none⟩),.pointer (some ⟨xb20,0,none⟩)])::bl b18 ([.int .i64 kc10.kind,.int .i64 kc10.aE.root,.bool kc10.aE.readOnly,.int .i64 kc10.a,.int .i64 kc10.b,.int .i64 kc10.n,.int .i64 kc10.index,.int .u64 (kc10.hash:Int),.int .u64 (kc10.aI:Int),.string kc10.key,.int .u64 (kc10.value:Int),.int .u64 (kc10.expect:Int),.int .i64 kc10.bF,.bool kc10.only,.bool kc10.walk.started,.slice none 0 0,.slice none 0 0,.int .i64 kc10.answer.err,.bool kc10.answer.found,.int .u64 (kc10.answer.value:Int),.string kc10.answer.key,.int .i64 kc10.answer.count,.int .i64 kc10.answer.ref,.int .i64 kc10.answer.aE.root,.bool kc10.answer.aE.readOnly]) 48::bl b17 ([.int .i64 kc3.kind,.int .i64 kc3.aE.root,.bool kc3.aE.readOnly,.int .i64 kc3.a,.int .i64 kc3.b,.int .i64 kc3.n,.int .i64 kc3.index,.int .u64 (kc3.hash:Int),.int .u64 (kc3.aI:Int),.string kc3.key,.int .u64 (kc3.value:Int),.int .u64 (kc3.expect:Int),.int .i64 kc3.bF,.bool kc3.only,.bool kc3.walk.started,.slice none 0 0,.slice none 0 0,.int .i64 kc3.answer.err,.bool kc3.answer.found,.int .u64 (kc3.answer.value:Int),.string kc3.answer.key,.int .i64 kc3.answer.count,.int .i64 kc3.answer.ref,.int .i64 kc3.answer.aE.root,.bool kc3.answer.aE.readOnly]) 48::gQ tpb l1::aU 55 2 (.slice p36 ((ps++[(tkb19,xb20)])++[(tkb32,xb33)]).length c37) ((ps++[(tkb19,xb20)])++[(tkb32,xb33)]).length (((ps++[(tkb19,xb20)])++[(tkb32,xb33)]).flatMap Ns)::eV mb zs::bV 1 (.slice p2 l2.length c2) l2.length (l2.map (Value.int .i64))::L):=SH.wi ⟨twp,twc,xwp,xwc⟩ h
 refine go h λw h=>?_
 exact⟨((i+1),g38,ss39,ys40,((ps++[(tkb19,xb20)])++[(tkb32,xb33)]),p36,c37),⟨rfl,rfl,rfl,rfl,rfl,rfl,trivial⟩,⟨(h.to.fr (.c r0 (.c r4 (.c r1 (.c r0 (.c r0 (.c r0 (.c r0 (.c r0 (.c r0 .n)))))))))),hL41,hge,by(try dsimp only);omega,hps42,(by(try dsimp only);simp only[cO,eC];omega),by(try dsimp only);omega⟩,by(try dsimp only);omega⟩
 have hg45:=dA hd1
 refine go h λw h=>?_
 refine cl (ca eF rfl) ((wN b mb tpb aI ts zs l1 7 (h.fr (.c r0 (.c r0 .n))) hW.some hW.Qr (by decide) (by decide) hW.first).mono ?_)
 rintro _ w ⟨kc46,hck47,hcm48,hcky49,hct50,hcw51,rfl,h⟩
 have hcok52:Ct.kZ g kc46:=hW.Gz (by rw[hck47];decide) (by rw[hck47];decide) hct50 hcw51
 have kc46m:kc46.aI<18446744073709551616:=by rw[hcm48];exact hmk
 have kc46k:kc46.key.size<=9223372036854775807:=by omega
 refine⟨_,rfl,?_⟩
 refine go h λw h=>?_
 refine jA h λb53 w h=>?_
 have h:=h.fr (.c r1 .n)
 obtain⟨⟨twp,twc,xwp,xwc⟩,h⟩:=h.wo
 have h:SH B w (bl b ([↑mb,.int .u64 (aI:Int),.slice twp ts.length twc,.slice xwp zs.length xwc]) 34::aU 38 2 (.slice twp ts.length twc) ts.length (ts.flatMap cU)::aU 52 1 (.slice xwp zs.length xwc) zs.length (zs.flatMap Ii)::bl b53 ([↑kc46.kind,↑kc46.aE.root,↑kc46.aE.readOnly,↑kc46.a,↑kc46.b,↑kc46.n,↑kc46.index,.int .u64 (kc46.hash:Int),.int .u64 (kc46.aI:Int),↑kc46.key,.int .u64 (kc46.value:Int),.int .u64 (kc46.expect:Int),↑kc46.bF,↑kc46.only,↑kc46.walk.started,.slice none 0 0,.slice none 0 0,↑kc46.answer.err,↑kc46.answer.found,.int .u64 (kc46.answer.value:Int),↑kc46.answer.key,↑kc46.answer.count,↑kc46.answer.ref,↑kc46.answer.aE.root,↑kc46.answer.aE.readOnly]) 48::gQ tpb l1::(cV ab).a s1::cR mb s1::nR (cV ab) 400 ys::eV mb (ys.map Af)::aU 55 2 (.slice pp ps.length cp) ps.length (ps.flatMap Ns)::eV mb zs::bV 1 (.slice p2 l2.length c2) l2.length (l2.map (Value.int .i64))::L):=h
 refine dZ [1,3,5,7,9,11,13,15,17,21,23,25,27,29,18,30,33,34,36,38] (by kernel_rfl) h (.c r3 (.c r0 .n)) λw h=>go h λw h=>?_
 refine tk (λW H=>mi Oq rfl rfl)<|go h λw h=>?_
 refine tk (λW H=>gJ (cs:=[↑kc46.aE.root,↑kc46.aE.readOnly]) rfl (eP (H.b a0) 1 rfl) Row.h)<|go h λw h=>?_
 refine lH (JE _ kc46 _ h.to hck47 ⟨hL.fit,by unfold Ct.cN;omega⟩ kc46k kc46m) λtkb54 w h=>?_
 refine TA (rW _ _ kc46 _ h.to (Ct.gW (c:=kc46) hL.fit (by unfold Ct.room;omega)).1 (Ct.gW (c:=kc46) hL.fit (by unfold Ct.room;omega)).2 (by decide) kc46m kc46k hcok52.lo hcok52.hi) λxb55 w h hok56=>?_
 refine ff (bu [↑tkb54,↑xb55] h fR.h Ss.h rfl (by kernel_rfl) rfl (by decide) (by decide)) ?_
 rintro _ w ⟨b57,rfl,h⟩
 refine gz h λw h=>?_
 refine ff (ap h UR rfl UU rfl (by decide) rfl rfl (λ_=>N3) (h.ro a0) (by simp[Value.oneCell']) (DB ps (tkb54,xb55)) (fW (enc:=Ns) _ (tkb54,xb55)) (by(try simp only[cO,eC]);unfold maxLen;omega) (by(try simp only[cO,eC]);omega))<|?_
 rintro _ w ⟨p58,c59,rfl,h⟩
 refine⟨h.hs (.c r7 (.c r4 .n)),?_⟩
 refine ef (sg rfl) (h.hs (.c r7 (.c r4 .n)))<|xz<|nx<|sq<|?_
 refine go h λw h=>?_
 have h:=h.fr (.c r2 (.c r2 (.c r1 (.c r6 (.c r6 .n)))))
 obtain⟨g60,ss61,ys62,hL63,hps64,hge65,hz66,h⟩:=Gy hL hps (by omega) (hcok52.ge hge) kc46m kc46k hok56 h
 have hge:=hge.trans hge65
 have h:=SH.fz (h.fr (.c L8 .n))
 refine go h λw h=>?_
 refine bA (HR h.to) λw h=>?_
 refine cl (ca eF rfl) ((LK ab mb g60 ss61 ys62 (ps++[(tkb54,xb55)]) l2 p58 p2 c59 c2 (h.fr (.c r3 (.c r3 (.c r1 (.c r1 (.c r0 (.c r7 .n))))))) hL63 hps64 (by simp only[cO,eC];omega) (by simp only[cO,eC];omega)).mono ?_)
 rintro _ w ⟨sz,hf1,hz1,rfl,h⟩
 refine⟨_,rfl,?_⟩
 refine st (pT rfl rfl rfl)<|st (sg rfl)<|xe<|nx<|rt<|?_
 refine go h λw h=>?_
 exact rz ⟨rfl,h.drop.drop.drop.drop.drop.drop.drop.drop.drop⟩
end Go.Proofs.YtopelgiooccobaaGreat
end
