/- Parts of a proof: Pd. -/
import Derived.Test.YtlpbjpanggcbbaaGreatW49
import Derived.Test.YtlpbjpanggcbbaaGreatW50
set_option linter.unusedVariables false
set_option linter.unusedSimpArgs false
set_option maxRecDepth 100000
set_option maxHeartbeats 4000000
section
namespace Go.E
theorem Jq{fn:Func}{p u:Tmp}{ty:TypeId}(h:fn.results=#[.tmp u,.cell p ty])(tmps:Array Value)(P:Program)(w:World):(results fn tmps).run P w=((asAddr (tmps.getD p undef)).run P w).andThen λa w₁=>((loadVar ty a).run P w₁).andThen λv w₂=>.ok (.tuple #[tmps.getD u undef,v]) w₂:=by
 simp only[results,h]
 simp[Sem.run_bind,Result.andThen]
theorem V5{P:Program}{n:Nat}{e:Tm}{w:World}{fn:Func}{t s:Nat}{ty u:TypeId}{g:Nat}{cs:List Value}{v:Value}(hr:fn.results=#[.tmp s,.cell t ty])(hv:ev n e (.tmp s)=some v)(hp:ev n e (.tmp t)=some (.pointer (some ⟨g,0,none⟩)))(hg:w.heap[g]?=some (.cells cs.toArray u (0,0)))(hR:xA P ty=some cs.length):jT P fn n e w (.tuple #[v,.agg cs.toArray]):=λa ha=>by
 have h4:a.tmps.getD s undef=v:=ha.eval hv
 have h5:a.tmps.getD t undef=_:=ha.eval hp
 rw[Jq hr,h4,h5]
 have h6:=SN (P:=P) hR hg
 simp[asAddr,Result.andThen,h6]
end Go.E
namespace Go.Q9
open Go.Proofs.Tryz
open Go.RowKit Go.E
attribute [local irreducible] gB wpS Go.E.X XS C jU kP fin Y U F Ca jT bl rb aU bV ex ce pu sK gK bK zK gM fO dH gP nE rD
variable{B w:World}{L:List As}
theorem XK(ab:Nat)(c:Ct.Call)(s:Ct.St)(h:SH B w ((cV ab).a s::L))(hk:c.kind=9)(hs:Ct.Rm 60 s)(hky:c.key.size<=9223372036854775807)(hmk:c.aI<18446744073709551616):Calls prog 27 #[(cV ab).v,.agg (cU c.aE).toArray,.int .u64 (c.aI:Int),↑c.key,↑c.only,.int .u64 (c.expect:Int)] w λe w'=>∃tb,e=.returned (.pointer (some ⟨tb,0,none⟩))/\SH B w' (eN (cV ab) 99999999 tb ((Ct.mS c Ct.FU).head s).2 0::(cV ab).a ((Ct.mS c Ct.FU).head s).1::L):=by
 refine(Gf (cV ab) 99999999 c s h hs hky hmk (by decide)).mono ?_
 rintro e w' ⟨tb,s',u,hq,rfl,h⟩
 have e0:(Ct.mS c Ct.FU).head s=(s',u):=by
  unfold Ct.mS
  rw[hk,if_neg (by decide),if_neg (by decide),if_pos (by decide)]
  exact hq
 rw[e0]
 exact⟨tb,rfl,h⟩
theorem VM:Cn (Mf ((Ct.oW 151).2.ended.getD {})) [.int .i64 0,↑true,.int .u64 3,.string .empty,.int .i64 1,.int .i64 0,.int .i64 0,↑false]=true:=by rw[Ct.S5];simp[Cn,WN,Mf]
theorem YV(mb:Nat)(h:SH B w (cR mb {}::L)):Calls prog 20 #[↑mb] w λe w'=>e=.returned (.agg (cU Ct.DP).toArray)/\SH B w' (cR mb (Ct.Eo 0)::L):=Jf mb {} h (by decide)
theorem O8(ab:Nat)(h:SH B w (wW ab Ct.U6::L)):Calls prog 27 #[(cV ab).v,.agg (cU Ct.DP).toArray,.int .u64 0,.string ⟨#[97]⟩,↑false,.int .u64 0] w λe w'=>∃tb,e=.returned (.pointer (some ⟨tb,0,none⟩))/\SH B w' (eN (cV ab) 1000 tb (Ct.oW 0).2 0::(cV ab).a (Ct.oW 0).1::L):=by
 refine(Gf (cV ab) 1000 Ct.V7 Ct.U6 (LX h) Ct.U5 (by decide) (by decide) (by decide)).mono ?_
 rintro e w' ⟨tb,s',u,hq,rfl,h⟩
 have e0:Ct.oW 0=(s',u):=hq
 rw[e0]
 exact⟨tb,rfl,h⟩
theorem T2(ab tb:Nat)(h:SH B w (eN (cV ab) 1000 tb (Ct.oW 0).2 0::(cV ab).a (Ct.oW 0).1::L)):Calls prog 33 #[↑tb,.int .i64 1000] w λe w'=>e=.returned (.int .i64 151)/\SH B w' (eN (cV ab) 849 tb (Ct.oW 151).2 151::wW ab (Ct.oW 151).1::L):=by
 refine(OV (cV ab) (AB ab) 1000 tb 0 151 1000 Ct.oW h (λi=>rfl) Ct.T4 Ct.T0 (by decide) (by decide) (λi hi=>Ct.U2 i (by omega)) (by decide) (by decide)).mono ?_
 rintro e w' ⟨rfl,h⟩
 exact⟨rfl,(VB (h.fr (.c r1 .n))).fr (.c r1 .n)⟩
theorem R4(zs:List (Ct.Node×Lq))(pn pc:Option Addr)(cn cc:Nat)(h:SH B w (aU 90 14 (.slice pn zs.length cn) zs.length (zs.flatMap cB)::aU 39 1 (.slice pc (Ct.oW 151).1.cells.length cc) (Ct.oW 151).1.cells.length ((Ct.oW 151).1.cells.map (Value.int .i64))::bE zs::L))(hzs:zs.map Prod.fst=aW (Ct.oW 151).1):
  Calls prog 52 #[.agg [.slice pn zs.length cn,.slice pc (Ct.oW 151).1.cells.length cc,.int .i64 (((Ct.oW 151).1.gen:Nat):Int)].toArray,.agg (cU Ct.DP).toArray] w λe w'=>∃pp cp,e=.returned (.tuple #[.slice pp 1 cp,.int .i64 0])/\SH B w' (aU 122 2 (.slice pp 1 cp) 1 [.string ⟨#[98]⟩,.int .u64 3]::L):=by
 have hz:(Ct.oW 151).1.size<=100000000000:=by have:=Ct.Bh 151 (by decide);omega
 have hc:=Lb (Ct.oW 151).1 zs pn pc cn cc Ct.DP 4 Ct.V1 h hzs hz Ct.Zv (lS (Ct.Fw 151 (by decide)) hz) Ct.LS Ct.Xv (by rw[Ct.GR];decide)
 refine hc.mono ?_
 rintro e w' ⟨pp,cp,rfl,h⟩
 rw[Ct.DX]at h ⊢
 exact⟨pp,cp,rfl,h⟩
theorem XZ(zs:List (Ct.Node×Lq))(pn pc:Option Addr)(cn cc:Nat)(h:SH B w (aU 90 14 (.slice pn zs.length cn) zs.length (zs.flatMap cB)::aU 39 1 (.slice pc (Ct.oW 151).1.cells.length cc) (Ct.oW 151).1.cells.length ((Ct.oW 151).1.cells.map (Value.int .i64))::bE zs::L))(hzs:zs.map Prod.fst=aW (Ct.oW 151).1):
  Calls prog 105 #[.agg [.slice pn zs.length cn,.slice pc (Ct.oW 151).1.cells.length cc,.int .i64 (((Ct.oW 151).1.gen:Nat):Int)].toArray,.agg (cU Ct.DP).toArray] w λe w'=>∃pl pp cp,e=.returned (.tuple #[.slice pl 1 1,.slice pp 1 cp,↑true])/\SH B w' (aU 165 5 (.slice pl 1 1) 1 [.int .i64 4,.int .i64 52,.int .i64 0,.int .i64 0,.slice none 0 0]::L):=by
 have hz:(Ct.oW 151).1.size<=100000000000:=by have:=Ct.Bh 151 (by decide);omega
 have hc:=Tl (Ct.oW 151).1 zs pn pc cn cc Ct.DP 4 Ct.V1 h hzs hz Ct.Zv (lS (Ct.Fw 151 (by decide)) hz) Ct.LS Ct.Xv (by rw[Ct.GR];decide)
 refine hc.mono ?_
 rintro e w' ⟨pl,pp,cp,rfl,h⟩
 rw[Ct.DX]at h ⊢
 exact⟨pl,pp,cp,rfl,(h.fr (.c r0 (.c r1 (.c r1 (.c r1 .n))))).drop.drop.drop.drop⟩
theorem P1(pa pb:Option Addr)(ca cb:Nat)(h:SH B w (aU 122 2 (.slice pa 1 ca) 1 [.string ⟨#[98]⟩,.int .u64 3]::aU 122 2 (.slice pb 1 cb) 1 [.string ⟨#[98]⟩,.int .u64 3]::L)):
  Calls prog 53 #[.slice pa 1 ca,.slice pb 1 cb] w λe w'=>e=.returned ↑true/\SH B w' L:=by
 have h:=SH.fz h
 have h:=SH.fz (h.fr (.c r1 .n))
 refine(Fe [⟨⟨#[98]⟩,3⟩] pa pb ca cb (h.fr (.c r1 .n)) (by decide)).mono ?_
 rintro e w' ⟨rfl,h⟩
 exact⟨rfl,h.drop.drop⟩
theorem S4(h:SH B w (L)):
  Calls prog 51 #[] w λe w'=>∃mb,e=.returned (.tuple #[.pointer (some ⟨mb,0,none⟩),.agg (cU Ct.DP).toArray])/\SH B w' (cR mb Ct.OS::L):=by
 obtain⟨g0,hW0⟩:=Ct.V8
 refine bZ func51 ntmps51 h λw h=>?_
 refine jA h λb1 w h=>?_
 refine cG (EG h.to) λmb w h=>?_
 refine bA (YV _ h.to) λw h=>?_
 refine jA h λb2 w h=>?_
 refine sf (bu [.string (⟨#[97]⟩),.string (⟨#[98]⟩)] h fR.h Ss.h rfl (by kernel_rfl) rfl (by decide) (by decide)) ?_
 rintro _ w ⟨b3,rfl,h⟩
 refine go h λw h=>?_
 have h:SH B w (aU 9 1 (.slice (some ⟨b3,0,none⟩) 2 2) 2 (Ct.V0.flatMap G6)::bl b2 (cU Ct.DP) 38::cR mb (Ct.Eo 0)::bl b1 ([.int .i64 0,↑false]) 38::L):=h
 refine lp (α:=Nat×Ct.Ga) (λρ=>(.c 1 ↑b1 (.c 2 ↑mb (.c 3 ↑b2 (.c 10 (.slice (some ⟨b3,0,none⟩) 2 2) (.c 11 (.int .i64 2) (.c 12 (.int .i64 (ρ.1:Int)) .n))))))) (λρ w=>SH B w (cR mb (Ct.Eo ρ.1)::aU 9 1 (.slice (some ⟨b3,0,none⟩) 2 2) 2 (Ct.V0.flatMap G6)::bl b2 (cU Ct.DP) 38::bl b1 ([.int .i64 0,↑false]) 38::L)/\(ρ.1<=2)/\(Ct.W8 ρ.2 (Ct.Eo ρ.1))) (λρ=>2-ρ.1) (0,g0) ⟨rfl,rfl,rfl,rfl,rfl,rfl,trivial⟩ ⟨h.to,(dF _),hW0⟩ ?_
 rintro⟨jj,g⟩ w ⟨h,hj,hW⟩
 dsimp only at *
 refine go h λw h=>?_
 refine qc h (λhd4 w h=>?_) λhd4 w h=>?_
 ·have hg5:=cW hd4
  refine go h λw h=>?_
  refine st (ld One.h rfl ((h.ro a1).x RS (by decide) (by show _<2;omega) {} 0 _ rfl))<|go h λw h=>?_
  have hj2:jj<2:=by omega
  have hcok:Ct.kZ g (Ct.T1 jj):=⟨by show (7:Int)<=8;decide,by show (8:Int)<=12;decide,hW.2.2.2,λ_=>Ct.U1⟩
  have hsz:=Ct.YT jj (by omega)
  have hst:=Ct.gW (c:=Ct.T1 jj) hW.2.2.1 (by unfold Ct.room;omega)
  refine z5 (rW _ _ (Ct.T1 jj) _ h.to hst.1 hst.2 (by decide) (by show (0:Nat)<18446744073709551616;decide) (Ct.XB jj hj2) hcok.lo hcok.hi) λxb w h kk=>?_
  have hl:=Ct.uM.start hW.1 hW.2.1 hW.2.2.1 hcok (by show (0:Nat)<18446744073709551616;decide) (Ct.XB jj hj2) kk
  refine go h λw h=>?_
  refine lp (α:=Nat) (λρ=>(.c 1 ↑b1 (.c 2 ↑mb (.c 3 ↑b2 (.c 6 ↑xb (.c 10 (.slice (some ⟨b3,0,none⟩) 2 2) (.c 11 (.int .i64 2) (.c 12 ↑(jj:Int) .n)))))))) (λρ w=>SH B w (XA xb mb (Ct.U3 (Ct.Eo jj) (Ct.T1 jj) ρ)::aU 9 1 (.slice (some ⟨b3,0,none⟩) 2 2) 2 (Ct.V0.flatMap G6)::bl b2 (cU Ct.DP) 38::bl b1 ([.int .i64 0,↑false]) 38::L)/\(ρ<=8)/\(Ct.uM g (Ct.Eo jj).size ρ (Ct.U3 (Ct.Eo jj) (Ct.T1 jj) ρ))) (λρ=>8-ρ) 0 ⟨rfl,rfl,rfl,rfl,rfl,rfl,rfl,trivial⟩ ⟨h,(dF _),hl⟩ ?_
  rintro i w ⟨h,hi,hl⟩
  refine go h λw h=>?_
  refine bA (vH _ _ _ h.to) λw h=>?_
  refine qc h (λhd6 w h=>?_) λhd6 w h=>?_
  ·have hd7:=(lC _).mp hd6
   refine go h λw h=>?_
   have hi8:i+1<=8:=by
    rcases zT i 8 with hz|hz
    ·exact hz
    ·obtain rfl:i=8:=by omega
     have h1:=hd7
     rw[Ct.U0 jj hj2]at h1;cases h1
   have hrd:(Ct.Eo jj).size+199*i+120<=Ct.room:=by unfold Ct.room;omega
   refine go h λw h=>?_
   refine SS (Pq _ _ _ _ h.to hd7 (hl.ready hrd).1 (hl.ready hrd).2 (by decide) hl.call.1 hl.call.2.1 hl.call.2.2.1 hl.call.2.2.2) λw h k=>?_
   exact⟨((i+1)),⟨rfl,rfl,rfl,rfl,rfl,rfl,rfl,trivial⟩,⟨h,hi8,(hl.step hd7 (by unfold Ct.Cx;omega) k)⟩,by(try dsimp only);omega⟩
  ·have hd8:=(mD _).mp hd6
   refine go h λw h=>?_
   have hi8:i=8:=by
    rcases zT i 8 with hz|hz
    ·have h1:=hd8
     rw[Ct.U4 jj hj2 i hz]at h1;cases h1
    ·omega
   subst hi8
   obtain⟨g2,u1,u2,hge,hgw,htyp,hfit,hEr⟩:=hl.ex
   have hW2:Ct.W8 g2 (Ct.Eo (jj+1)):=⟨hgw,htyp,hfit,hW.2.2.2.ge hge⟩
   have h:=SH.Qi (h.fr (.c r0 .n))
   have h:SH B w (cR mb (Ct.Eo (jj+1))::aU 9 1 (.slice (some ⟨b3,0,none⟩) 2 2) 2 (Ct.V0.flatMap G6)::bl b2 (cU Ct.DP) 38::bl b1 ([.int .i64 0,↑false]) 38::L):=h
   refine go h λw h=>?_
   exact⟨((jj+1),g2),⟨rfl,rfl,rfl,rfl,rfl,rfl,trivial⟩,⟨h,by(try dsimp only);omega,hW2⟩,by(try dsimp only);omega⟩
 ·have hg9:=dA hd4
  refine go h λw h=>?_
  have hjj:jj=2:=by omega
  subst hjj
  have h:=h.fr (.c r0 .n)
  have h:SH B w (cR mb Ct.OS::aU 9 1 (.slice (some ⟨b3,0,none⟩) 2 2) 2 (Ct.V0.flatMap G6)::bl b2 (cU Ct.DP) 38::bl b1 ([.int .i64 0,↑false]) 38::L):=h
  refine dZ [1,3,4,6] (by kernel_rfl) h (.c r2 .n) λw h=>go h λw h=>?_
  exact rr (V5 rfl rfl rfl (h.b a3) Row.h)<|⟨mb,rfl,h.to⟩
section
attribute [local semireducible] gB wpS Go.E.X XS C jU kP fin Y U F Ca jT bl rb aU bV ex ce pu sK gK bK zK gM fO dH gP nE rD
attribute [local irreducible] gB wpS
variable{B w:World}{L:List As}
theorem QD(zs:List (Ct.Node×Lq))(pn pc:Option Addr)(cn cc:Nat)(h:SH B w (aU 90 14 (.slice pn zs.length cn) zs.length (zs.flatMap cB)::aU 39 1 (.slice pc (Ct.oW 151).1.cells.length cc) (Ct.oW 151).1.cells.length ((Ct.oW 151).1.cells.map (Value.int .i64))::bE zs::L))(hzs:zs.map Prod.fst=aW (Ct.oW 151).1):
  Calls prog 54 #[.agg [.slice pn zs.length cn,.slice pc (Ct.oW 151).1.cells.length cc,.int .i64 (((Ct.oW 151).1.gen:Nat):Int)].toArray,.agg (cU Ct.DP).toArray] w λe w'=>e=.returned (.int .i64 0)/\SH B w' L:=by
 refine Ea (args:=[_,_]) func54 rfl ntmps54 rfl ?_
 refine sq<|rg<|sf (bx h rfl rfl)<|?_
 rintro _ w ⟨b1,rfl,h⟩
 refine sf (bx h rfl rfl)<|?_
 rintro _ w ⟨b2,rfl,h⟩
 refine st (sg rfl)<|xe<|nx<|sq<|rg<|st (gJ rfl (dK (h.b a1)) PC)<|st (gJ rfl (dK (h.b a0)) Hc)<|cl (ca eF rfl) ((XZ zs pn pc cn cc (h.fr (.c r2 (.c r2 (.c r2 .n)))) hzs).mono ?_)
 rintro _ w ⟨pl3,pp4,cp5,rfl,h⟩
 refine⟨_,rfl,?_⟩
 refine st (mv rfl)<|st (xr rfl rfl)<|st (xr rfl rfl)<|st (xr rfl rfl)<|st (sg rfl)<|st (sg rfl)<|st (sg rfl)<|xe<|nx<|sq<|sq<|rg<|st (mv rfl)<|st (nt rfl)<|xe<|nx<|cF rfl<|sk<|nx<|sq<|rg<|st (sg rfl)<|xe<|nx<|sq<|sq<|rg<|st (sg rfl)<|xe<|nx<|bk<|?_
 refine lp (α:=Nat) (λρ=>(.c 5 (.slice pl3 1 1) (.c 8 (.int .i64 0) (.c 9 (.int .i64 (ρ:Int)) .n)))) (λρ w=>SH B w (aU 165 5 (.slice pl3 1 1) 1 ([.int .i64 4,.int .i64 52,.int .i64 0,.int .i64 0,.slice none 0 0])::bl b2 (cU Ct.DP) 38::bl b1 ([.slice pn zs.length cn,.slice pc (Ct.oW 151).1.cells.length cc,.int .i64 (((Ct.oW 151).1.gen:Nat):Int)]) 74::L)/\(ρ<=1)) (λρ=>1-ρ) 0 ⟨rfl,rfl,rfl,trivial⟩ ⟨h,(dF _)⟩ ?_
 rintro k1 w ⟨h,hk1⟩
 rcases(show k1=0\/k1=1 by omega)with rfl|rfl
 ·refine sq<|sq<|rg<|st (mv rfl)<|st (mv rfl)<|st (ln RG rfl rfl)<|st (bi rfl rfl rfl)<|xe<|nx<|cT rfl<|sk<|nx<|sq<|bk<|rg<|st (mv rfl)<|st (mv rfl)<|st (mv rfl)<|?_
  obtain⟨b6,rfl⟩:=h.fp a0 (by omega)
  refine st (ix (j:=0) RG T7 rfl rfl (by omega))<|st (fa P5 rfl)<|st (ld jE rfl ((h.ro a0).2 3 _ rfl))<|st (mx rfl rfl rfl)<|st (sg rfl)<|xe<|bn<|nx<|rg<|st (mv rfl)<|st (bw rfl rfl (gN (c:=1) (by omega) (by omega) (by omega)))<|st (sg rfl)<|xe<|nx<|?_
  exact⟨((0+1)),⟨rfl,rfl,rfl,trivial⟩,⟨h,by(try dsimp only);omega⟩,by(try dsimp only);omega⟩
 ·refine sq<|sq<|rg<|st (mv rfl)<|st (mv rfl)<|st (ln RG rfl rfl)<|st (bi rfl rfl rfl)<|xe<|nx<|cF rfl<|xt<|tx<|tx<|be<|nx<|sq<|rg<|st (mv rfl)<|st (sg rfl)<|xe<|nx<|rt<|?_
  refine rr (jP results54 rfl)<|⟨rfl,h.drop.drop.drop⟩
end
variable{B w:World}{L:List As}
theorem Li(h:SH B w (L)):
  Calls prog 17 #[] w λe w'=>e=.returned ↑true/\SH B w' L:=by
 refine bZ func17 ntmps17 h λw h=>?_
 refine cl (ca eF rfl) ((S4 (h.fr .n)).mono ?_)
 rintro _ w ⟨mb,rfl,h⟩
 refine⟨_,rfl,?_⟩
 refine st (mv rfl)<|st (xr rfl rfl)<|st (xr rfl rfl)<|?_
 refine jA h λb1 w h=>?_
 have h:=h.fr (.c r1 .n)
 obtain⟨⟨pn,cn,pc,cc,zs⟩,hz0,h⟩:=h.mo
 have h:SH B w (bl mb ([.slice pn zs.length cn,.slice pc Ct.OS.cells.length cc,↑(Ct.OS.gen:Int),↑(Ct.OS.acc:Int)]) 76::aU 90 14 (.slice pn zs.length cn) zs.length (zs.flatMap cB)::aU 39 1 (.slice pc Ct.OS.cells.length cc) Ct.OS.cells.length (Ct.OS.cells.map (Value.int .i64))::bE zs::bl b1 (cU Ct.DP) 38::L):=h
 have hzs:zs.map Prod.fst=aW Ct.OS:=hz0
 clear hz0
 have hsz:Ct.OS.size<=100000000000:=by have:=Ct.P6;omega
 refine st (gJ (cs:=[.slice pn zs.length cn,.slice pc Ct.OS.cells.length cc,↑(Ct.OS.gen:Int)]) rfl (eP (h.b a0) 0 rfl) Row.h)<|go h λw h=>?_
 refine cG (OT _ _ _ _ _ _ h.to hzs Ct.TY (lS Ct.S3 hsz) hsz) λab w h=>?_
 refine st (i4 Oq rfl rfl)<|go h λw h=>?_
 refine st (mi Oq rfl rfl)<|go h λw h=>?_
 refine cl (ca eF rfl) ((O8 ab (h.fr (.c r0 .n))).mono ?_)
 rintro _ w ⟨tb,rfl,h⟩
 refine⟨_,rfl,?_⟩
 refine st (sg rfl)<|xe<|nx<|sq<|sq<|rg<|st (mv rfl)<|?_
 refine st (i4 ME rfl rfl)<|go h λw h=>?_
 refine bA (T2 _ _ h.to) λw h=>?_
 refine dZ [1,5,2,6,9,11,13,14,16] (by kernel_rfl) h (.c r6 .n) λw h=>go h λw h=>?_
 refine cs (ca eF rfl) ((Oi ab (Ct.oW 151).1 (h.fr (.c r1 .n)) (by have:=Ct.Bh 151 (by decide);omega) (Ct.Fw 151 (by decide))).mono ?_)
 rintro _ w ⟨pnz3,cnz4,pcz5,ccz6,yz2,hyz7,rfl,h⟩
 refine⟨_,rfl,h.hs (.c r9 .n),?_⟩
 refine AN (R4 _ _ _ _ _ h.to hyz7) λppz ZW w h=>?_
 refine dZ [1,5,2,7,9,11,13,15,17,19,21,22,24,27,29,31,35,32,36,39,41,42] (by kernel_rfl) h (.c r7 .n) λw h=>go h λw h=>?_
 refine gO (Ew (cV ab) _ _ _ (Ct.oW 151).2 h.to) λw h=>?_
 refine tk (λW H=>n5 UX rfl rfl rfl rfl)<|go h λw h=>?_
 refine oX rfl rfl VM<|go h λw h=>?_
 refine oX rfl rfl VM<|go h λw h=>?_
 refine tk (λW H=>pT rfl VM rfl)<|go h λw h=>?_
 refine ff (bu [.string (⟨#[98]⟩),.int .u64 3] h fR.h Ss.h rfl (by kernel_rfl) rfl (by decide) (by decide)) ?_
 rintro _ w ⟨b8,rfl,h⟩
 refine gz h λw h=>?_
 refine gO (P1 _ _ _ _ h.to) λw h=>?_
 refine cs (ca eF rfl) ((Oi ab (Ct.oW 151).1 (h.fr (.c r1 .n)) (by have:=Ct.Bh 151 (by decide);omega) (Ct.Fw 151 (by decide))).mono ?_)
 rintro _ w ⟨pnz10,cnz11,pcz12,ccz13,yz9,hyz14,rfl,h⟩
 refine⟨_,rfl,h.hs (.c r9 .n),?_⟩
 refine oX rfl rfl rfl<|?_
 refine cs (ca eF rfl) ((QD yz9 pnz10 pcz12 cnz11 ccz13 (h.fr (.c r0 (.c r0 (.c r0 .n)))) hyz14).mono ?_)
 rintro _ w ⟨rfl,h⟩
 refine⟨_,rfl,h.hs (.c r6 .n),?_⟩
 refine oX rfl rfl rfl<|tk (λW H=>bi rfl rfl rfl)<|tk (λW H=>pT rfl rfl rfl)<|ef (sg rfl) (h.hs (.c r6 .n))<|xz<|nx<|rt<|?_
 exact rz ⟨rfl,h.drop.drop.drop.drop.drop.drop.drop⟩
theorem Zh(ab:Nat)(c:Ct.Call)(s:Ct.St)(h:SH B w ((cV ab).a s::L))(hk:c.kind=9)(hs:Ct.Rm 60 s)(hky:c.key.size<=9223372036854775807)(hmk:c.aI<18446744073709551616):
  Calls prog 14 #[↑ab,.agg [↑c.kind,↑c.aE.root,↑c.aE.readOnly,↑c.a,↑c.b,↑c.n,↑c.index,.int .u64 (c.hash:Int),.int .u64 (c.aI:Int),↑c.key,.int .u64 (c.value:Int),.int .u64 (c.expect:Int),↑c.bF,↑c.only,↑c.walk.started,.slice none 0 0,.slice none 0 0,↑c.answer.err,↑c.answer.found,.int .u64 (c.answer.value:Int),↑c.answer.key,↑c.answer.count,↑c.answer.ref,↑c.answer.aE.root,↑c.answer.aE.readOnly].toArray] w λe w'=>∃tb,e=.returned (.pointer (some ⟨tb,0,none⟩))/\SH B w' (eN (cV ab) 99999999 tb ((Ct.mS c Ct.FU).head s).2 0::(cV ab).a ((Ct.mS c Ct.FU).head s).1::L):=by
 refine bZ func14 ntmps14 h λw h=>?_
 refine jX h λb1 w h=>?_
 refine st (mi Oq rfl rfl)<|go h λw h=>?_
 refine st (gJ (cs:=[↑c.aE.root,↑c.aE.readOnly]) rfl (eP (h.b a0) 1 rfl) Row.h)<|go h λw h=>?_
 refine cl (ca eF rfl) ((XK ab c s (h.fr (.c r1 .n)) hk hs hky hmk).mono ?_)
 rintro _ w ⟨tkb,rfl,h⟩
 refine⟨_,rfl,?_⟩
 refine st (sg rfl)<|xe<|nx<|rt<|?_
 refine go h λw h=>?_
 exact rz ⟨tkb,rfl,h.to⟩
theorem Ji(l0:List Int)(p0:Option Addr)(c0:Nat)(l1:List Int)(p1:Option Addr)(c1:Nat)(l2:List Int)(p2:Option Addr)(c2:Nat)(h:SH B w (bV 1 (.slice p0 l0.length c0) l0.length (l0.map (Value.int .i64))::bV 1 (.slice p1 l1.length c1) l1.length (l1.map (Value.int .i64))::bV 1 (.slice p2 l2.length c2) l2.length (l2.map (Value.int .i64))::L)):
  Calls prog 4 #[.slice p0 l0.length c0,.slice p1 l1.length c1,.slice p2 l2.length c2] w λe w'=>e=.returned ↑true/\SH B w' L:=by
 refine bZ func4 ntmps4 h λw h=>?_
 refine cl (ca eF rfl) ((Zz l0 p0 c0 (h.fr (.c r0 .n))).mono ?_)
 rintro _ w ⟨b,mb,aI,g,s,ts,zs,hmk,hW,rfl,h⟩
 have hsz:s.size<=37000000000:=by have:=hW.size;omega
 refine⟨_,rfl,?_⟩
 refine st (sg rfl)<|xe<|nx<|sq<|rg<|st (mv rfl)<|?_
 refine go h λw h=>?_
 refine cG (NS _ _ _ h.to) λtpb w h=>?_
 have h:=h.fr (.c r1 .n)
 obtain⟨⟨twp,twc,xwp,xwc⟩,h⟩:=h.wo
 have h:SH B w (bl b ([↑mb,.int .u64 (aI:Int),.slice twp ts.length twc,.slice xwp zs.length xwc]) 34::aU 38 2 (.slice twp ts.length twc) ts.length (ts.flatMap cU)::aU 52 1 (.slice xwp zs.length xwc) zs.length (zs.flatMap Ii)::gQ tpb l1::eV mb zs::cR mb s::bV 1 (.slice p2 l2.length c2) l2.length (l2.map (Value.int .i64))::L):=h
 refine go h λw h=>?_
 refine cG (CN _ _ h.to (by omega) (Ct.IE hW.gw hW.PI) (lS hW.fit (by omega))) λab w h=>?_
 obtain⟨hl0,hs0⟩:=hW.M7
 refine go h λw h=>?_
 refine st (i4 Oq rfl rfl)<|go h λw h=>?_
 have h:=h.fr (.c r2 (.c r2 (.c r2 .n)))
 have h:SH B w (nS b mb aI ts zs::wW ab {s with acc:=0}::cR mb {s with acc:=0}::gQ tpb l1::eV mb zs::bV 1 (.slice p2 l2.length c2) l2.length (l2.map (Value.int .i64))::L):=SH.wi ⟨twp,twc,xwp,xwc⟩ h
 have h:=LX (h.fr (.c r1 .n))
 have h:=SH.nil 55 2 (SH.VH (mb:=mb) (i9 (S:=cV ab) (n:=400) h))
 refine go h λw h=>?_
 refine lp (α:=Nat×Ct.Ga×Ct.St×List Ct.Px×List (Nat×Nat)×Option Addr×Nat) (λρ=>(.c 2 (.slice p2 l2.length c2) (.c 7 ↑b (.c 8 ↑tpb (.c 9 ↑ab (.c 10 (.slice ρ.2.2.2.2.2.1 ρ.2.2.2.2.1.length ρ.2.2.2.2.2.2) (.c 11 (.int .i64 (ρ.1:Int)) .n))))))) (λρ w=>SH B w (nS b mb aI ts zs::gQ tpb l1::(cV ab).a ρ.2.2.1::cR mb ρ.2.2.1::nR (cV ab) 400 ρ.2.2.2.1::eV mb (ρ.2.2.2.1.map Af)::aU 55 2 (.slice ρ.2.2.2.2.2.1 ρ.2.2.2.2.1.length ρ.2.2.2.2.2.2) ρ.2.2.2.2.1.length (ρ.2.2.2.2.1.flatMap Ns)::eV mb zs::bV 1 (.slice p2 l2.length c2) l2.length (l2.map (Value.int .i64))::L)/\(Ct.Ub 0 ρ.2.1 ρ.2.2.1 ρ.2.2.2.1)/\(Ct.Ge g ρ.2.1)/\(ρ.2.2.1.size<=37100000000+300*ρ.1)/\(ρ.2.2.2.1.map AW=ρ.2.2.2.2.1)/\(ρ.2.2.2.2.1.length=2*ρ.1)/\(ρ.1<=2)) (λρ=>2-ρ.1) (0,g,{s with acc:=0},([]:List Ct.Px),([]:List (Nat×Nat)),none,0) ⟨rfl,rfl,rfl,rfl,rfl,rfl,trivial⟩ ⟨h.to,hl0,(Ct.Ge.refl hW.gw),(by show Ct.St.size {s with acc:=0}<=37100000000+300*0;omega),rfl,rfl,by omega⟩ ?_
 rintro⟨i,g1,s1,ys,ps,pp,cp⟩ w ⟨h,hL,hge,hz,hps,hpl,hi⟩
 dsimp only at *
 refine go h λw h=>?_
 refine qc h (λhd1 w h=>?_) λhd1 w h=>?_
 have hg2:=cW hd1
 refine go h λw h=>?_
 refine cl (ca eF rfl) ((wN b mb tpb aI ts zs l1 9 (h.fr (.c r0 (.c r0 .n))) hW.some hW.Qr (by decide) (by decide) hW.first).mono ?_)
 rintro _ w ⟨kc3,hck4,hcm5,hcky6,hct7,hcw8,rfl,h⟩
 have hcok9:Ct.kZ g kc3:=hW.Gz (by rw[hck4];decide) (by rw[hck4];decide) hct7 hcw8
 have kc3m:kc3.aI<18446744073709551616:=by rw[hcm5];exact hmk
 have kc3k:kc3.key.size<=9223372036854775807:=by omega
 refine⟨_,rfl,?_⟩
 refine st (mv rfl)<|st (mv rfl)<|?_
 refine go h λw h=>?_
 refine cl (ca eF rfl) ((wN b mb tpb aI ts zs l1 8 (h.fr (.c r0 (.c r0 .n))) hW.some hW.Qr (by decide) (by decide) hW.first).mono ?_)
 rintro _ w ⟨kc10,hck11,hcm12,hcky13,hct14,hcw15,rfl,h⟩
 have hcok16:Ct.kZ g kc10:=hW.Gz (by rw[hck11];decide) (by rw[hck11];decide) hct14 hcw15
 have kc10m:kc10.aI<18446744073709551616:=by rw[hcm12];exact hmk
 have kc10k:kc10.key.size<=9223372036854775807:=by omega
 refine⟨_,rfl,?_⟩
 refine go h λw h=>?_
 refine jA h λb17 w h=>?_
 refine jA h λb18 w h=>?_
 have h:=h.fr (.c r2 .n)
 obtain⟨⟨twp,twc,xwp,xwc⟩,h⟩:=h.wo
 have h:SH B w (bl b ([↑mb,.int .u64 (aI:Int),.slice twp ts.length twc,.slice xwp zs.length xwc]) 34::aU 38 2 (.slice twp ts.length twc) ts.length (ts.flatMap cU)::aU 52 1 (.slice xwp zs.length xwc) zs.length (zs.flatMap Ii)::bl b18 ([↑kc10.kind,↑kc10.aE.root,↑kc10.aE.readOnly,↑kc10.a,↑kc10.b,↑kc10.n,↑kc10.index,.int .u64 (kc10.hash:Int),.int .u64 (kc10.aI:Int),↑kc10.key,.int .u64 (kc10.value:Int),.int .u64 (kc10.expect:Int),↑kc10.bF,↑kc10.only,↑kc10.walk.started,.slice none 0 0,.slice none 0 0,↑kc10.answer.err,↑kc10.answer.found,.int .u64 (kc10.answer.value:Int),↑kc10.answer.key,↑kc10.answer.count,↑kc10.answer.ref,↑kc10.answer.aE.root,↑kc10.answer.aE.readOnly]) 48::bl b17 ([↑kc3.kind,↑kc3.aE.root,↑kc3.aE.readOnly,↑kc3.a,↑kc3.b,↑kc3.n,↑kc3.index,.int .u64 (kc3.hash:Int),.int .u64 (kc3.aI:Int),↑kc3.key,.int .u64 (kc3.value:Int),.int .u64 (kc3.expect:Int),↑kc3.bF,↑kc3.only,↑kc3.walk.started,.slice none 0 0,.slice none 0 0,↑kc3.answer.err,↑kc3.answer.found,.int .u64 (kc3.answer.value:Int),↑kc3.answer.key,↑kc3.answer.count,↑kc3.answer.ref,↑kc3.answer.aE.root,↑kc3.answer.aE.readOnly]) 48::gQ tpb l1::(cV ab).a s1::cR mb s1::nR (cV ab) 400 ys::eV mb (ys.map Af)::aU 55 2 (.slice pp ps.length cp) ps.length (ps.flatMap Ns)::eV mb zs::bV 1 (.slice p2 l2.length c2) l2.length (l2.map (Value.int .i64))::L):=h
 refine dZ [1,3,5,9,11,13,15,17,6,18,21,22,24,26] (by kernel_rfl) h (.c r4 (.c r0 .n)) λw h=>go h λw h=>?_
 refine cs (ca eF rfl) ((Zh ab kc3 s1 (h.fr (.c r6 .n)) hck4 ⟨hL.fit,by unfold Ct.cN;omega⟩ kc3k kc3m).mono ?_)
 rintro _ w ⟨tkb19,rfl,h⟩
 refine⟨_,rfl,h.hs (.c r6 (.c r2 .n)),?_⟩
 refine go h λw h=>?_
 refine TA (rW _ _ kc3 _ h.to (Ct.gW (c:=kc3) hL.fit (by unfold Ct.room;omega)).1 (Ct.gW (c:=kc3) hL.fit (by unfold Ct.room;omega)).2 (by decide) kc3m kc3k hcok9.lo hcok9.hi) λxb20 w h hok21=>?_
 refine ff (bu [↑tkb19,↑xb20] h fR.h Ss.h rfl (by kernel_rfl) rfl (by decide) (by decide)) ?_
 rintro _ w ⟨b22,rfl,h⟩
 refine gz h λw h=>?_
 refine ff (ap h UR rfl UU rfl (by decide) rfl rfl (λ_=>K3) (h.ro a0) (by simp[Value.oneCell']) (DB ps (tkb19,xb20)) (fW (enc:=Ns) _ (tkb19,xb20)) (by(try simp only[cO,eC]);unfold maxLen;omega) (by(try simp only[cO,eC]);omega))<|?_
 rintro _ w ⟨p23,c24,rfl,h⟩
 refine⟨h.hs (.c r8 (.c r4 .n)),?_⟩
 refine ef (sg rfl) (h.hs (.c r8 (.c r4 .n)))<|xz<|nx<|?_
 refine go h λw h=>?_
 have h:=h.fr (.c r2 (.c r2 (.c r1 (.c r7 (.c r7 .n)))))
 obtain⟨g25,ss26,ys27,hL28,hps29,hge30,hz31,h⟩:=Gy hL hps (by omega) (hcok9.ge hge) kc3m kc3k hok21 h
 have hge:=hge.trans hge30
 refine dZ [1,3,5,7,9,11,13,15,17,19,21,23,25,27,29,33,35,37,39,41,30,42,45,46,48,50] (by kernel_rfl) h (.c r8 (.c r5 .n)) λw h=>go h λw h=>?_
 refine tk (λW H=>mi Oq rfl rfl)<|go h λw h=>?_
 refine tk (λW H=>gJ (cs:=[↑kc10.aE.root,↑kc10.aE.readOnly]) rfl (eP (H.b a0) 1 rfl) Row.h)<|go h λw h=>?_
 refine lH (WV _ kc10 _ h.to hck11 ⟨hL28.fit,by unfold Ct.cN;omega⟩ kc10k kc10m) λtkb32 w h=>?_
 refine TA (rW _ _ kc10 _ h.to (Ct.gW (c:=kc10) hL28.fit (by unfold Ct.room;omega)).1 (Ct.gW (c:=kc10) hL28.fit (by unfold Ct.room;omega)).2 (by decide) kc10m kc10k hcok16.lo hcok16.hi) λxb33 w h hok34=>?_
 refine ff (bu [↑tkb32,↑xb33] h fR.h Ss.h rfl (by kernel_rfl) rfl (by decide) (by decide)) ?_
 rintro _ w ⟨b35,rfl,h⟩
 refine gz h λw h=>?_
 refine ff (ap h fR.h rfl Ss.h rfl (by decide) rfl rfl (λ_=>K9) (h.ro a0) (by simp[Value.oneCell']) (DB (ps++[(tkb19,xb20)]) (tkb32,xb33)) (fW (enc:=Ns) _ (tkb32,xb33)) (by(try simp only[cO,eC]);unfold maxLen;omega) (by(try simp only[cO,eC]);omega)) ?_
 rintro _ w ⟨p36,c37,rfl,h⟩
 refine gz h λw h=>?_
 have h:=h.fr (.c r2 (.c r2 (.c r1 (.c r1 (.c r1 .n)))))
 obtain⟨g38,ss39,ys40,hL41,hps42,hge43,hz44,h⟩:=Gy hL28 hps29 (by omega) (hcok16.ge hge) kc10m kc10k hok34 h
 have hge:=hge.trans hge43
 have h:=h.fr (.c r6 (.c r6 (.c r6 .n)))
 have h:SH B w (nS b mb aI ts zs::cR mb ss39::(cV ab).a ss39::nR (cV ab) 400 ys40::eV mb (ys40.map Af)::aU 55 2 (.slice (some ⟨b35,0,none⟩) 1 1) 1 ([.pointer (some ⟨tkb32,0,none⟩),.pointer (some ⟨xb33,0,none⟩)])::aU 55 2 (.slice (some ⟨b22,0,none⟩) 1 1) 1 ([.pointer (some ⟨tkb19,0,none⟩),.pointer (some ⟨xb20,0,none⟩)])::bl b18 ([.int .i64 kc10.kind,.int .i64 kc10.aE.root,.bool kc10.aE.readOnly,.int .i64 kc10.a,.int .i64 kc10.b,.int .i64 kc10.n,.int .i64 kc10.index,.int .u64 (kc10.hash:Int),.int .u64 (kc10.aI:Int),.string kc10.key,.int .u64 (kc10.value:Int),.int .u64 (kc10.expect:Int),.int .i64 kc10.bF,.bool kc10.only,.bool kc10.walk.started,.slice none 0 0,.slice none 0 0,.int .i64 kc10.answer.err,.bool kc10.answer.found,.int .u64 (kc10.answer.value:Int),.string kc10.answer.key,.int .i64 kc10.answer.count,.int .i64 kc10.answer.ref,.int .i64 kc10.answer.aE.root,.bool kc10.answer.aE.readOnly]) 48::bl b17 ([.int .i64 kc3.kind,.int .i64 kc3.aE.root,.bool kc3.aE.readOnly,.int .i64 kc3.a,.int .i64 kc3.b,.int .i64 kc3.n,.int .i64 kc3.index,.int .u64 (kc3.hash:Int),.int .u64 (kc3.aI:Int),.string kc3.key,.int .u64 (kc3.value:Int),.int .u64 (kc3.expect:Int),.int .i64 kc3.bF,.bool kc3.only,.bool kc3.walk.started,.slice none 0 0,.slice none 0 0,.int .i64 kc3.answer.err,.bool kc3.answer.found,.int .u64 (kc3.answer.value:Int),.string kc3.answer.key,.int .i64 kc3.answer.count,.int .i64 kc3.answer.ref,.int .i64 kc3.answer.aE.root,.bool kc3.answer.aE.readOnly]) 48::gQ tpb l1::aU 55 2 (.slice p36 ((ps++[(tkb19,xb20)])++[(tkb32,xb33)]).length c37) ((ps++[(tkb19,xb20)])++[(tkb32,xb33)]).length (((ps++[(tkb19,xb20)])++[(tkb32,xb33)]).flatMap Ns)::eV mb zs::bV 1 (.slice p2 l2.length c2) l2.length (l2.map (Value.int .i64))::L):=SH.wi ⟨twp,twc,xwp,xwc⟩ h
 refine go h λw h=>?_
 exact⟨((i+1),g38,ss39,ys40,((ps++[(tkb19,xb20)])++[(tkb32,xb33)]),p36,c37),⟨rfl,rfl,rfl,rfl,rfl,rfl,trivial⟩,⟨(h.to.fr (.c r0 (.c r4 (.c r1 (.c r0 (.c r0 (.c r0 (.c r0 (.c r0 (.c r0 .n)))))))))),hL41,hge,by(try dsimp only);omega,hps42,(by(try dsimp only);simp only[cO,eC];omega),by(try dsimp only);omega⟩,by(try dsimp only);omega⟩
 have hg45:=dA hd1
 refine go h λw h=>?_
 refine cl (ca eF rfl) ((wN b mb tpb aI ts zs l1 7 (h.fr (.c r0 (.c r0 .n))) hW.some hW.Qr (by decide) (by decide) hW.first).mono ?_)
 rintro _ w ⟨kc46,hck47,hcm48,hcky49,hct50,hcw51,rfl,h⟩
 have hcok52:Ct.kZ g kc46:=hW.Gz (by rw[hck47];decide) (by rw[hck47];decide) hct50 hcw51
 have kc46m:kc46.aI<18446744073709551616:=by rw[hcm48];exact hmk
 have kc46k:kc46.key.size<=9223372036854775807:=by omega
 refine⟨_,rfl,?_⟩
 refine go h λw h=>?_
 refine jA h λb53 w h=>?_
 have h:=h.fr (.c r1 .n)
 obtain⟨⟨twp,twc,xwp,xwc⟩,h⟩:=h.wo
 have h:SH B w (bl b ([↑mb,.int .u64 (aI:Int),.slice twp ts.length twc,.slice xwp zs.length xwc]) 34::aU 38 2 (.slice twp ts.length twc) ts.length (ts.flatMap cU)::aU 52 1 (.slice xwp zs.length xwc) zs.length (zs.flatMap Ii)::bl b53 ([↑kc46.kind,↑kc46.aE.root,↑kc46.aE.readOnly,↑kc46.a,↑kc46.b,↑kc46.n,↑kc46.index,.int .u64 (kc46.hash:Int),.int .u64 (kc46.aI:Int),↑kc46.key,.int .u64 (kc46.value:Int),.int .u64 (kc46.expect:Int),↑kc46.bF,↑kc46.only,↑kc46.walk.started,.slice none 0 0,.slice none 0 0,↑kc46.answer.err,↑kc46.answer.found,.int .u64 (kc46.answer.value:Int),↑kc46.answer.key,↑kc46.answer.count,↑kc46.answer.ref,↑kc46.answer.aE.root,↑kc46.answer.aE.readOnly]) 48::gQ tpb l1::(cV ab).a s1::cR mb s1::nR (cV ab) 400 ys::eV mb (ys.map Af)::aU 55 2 (.slice pp ps.length cp) ps.length (ps.flatMap Ns)::eV mb zs::bV 1 (.slice p2 l2.length c2) l2.length (l2.map (Value.int .i64))::L):=h
 refine dZ [1,3,5,7,9,11,13,15,17,21,23,25,27,29,18,30,33,34,36,38] (by kernel_rfl) h (.c r3 (.c r0 .n)) λw h=>go h λw h=>?_
 refine tk (λW H=>mi Oq rfl rfl)<|go h λw h=>?_
 refine tk (λW H=>gJ (cs:=[↑kc46.aE.root,↑kc46.aE.readOnly]) rfl (eP (H.b a0) 1 rfl) Row.h)<|go h λw h=>?_
 refine lH (JE _ kc46 _ h.to hck47 ⟨hL.fit,by unfold Ct.cN;omega⟩ kc46k kc46m) λtkb54 w h=>?_
 refine TA (rW _ _ kc46 _ h.to (Ct.gW (c:=kc46) hL.fit (by unfold Ct.room;omega)).1 (Ct.gW (c:=kc46) hL.fit (by unfold Ct.room;omega)).2 (by decide) kc46m kc46k hcok52.lo hcok52.hi) λxb55 w h hok56=>?_
 refine ff (bu [↑tkb54,↑xb55] h fR.h Ss.h rfl (by kernel_rfl) rfl (by decide) (by decide)) ?_
 rintro _ w ⟨b57,rfl,h⟩
 refine gz h λw h=>?_
 refine ff (ap h UR rfl UU rfl (by decide) rfl rfl (λ_=>N3) (h.ro a0) (by simp[Value.oneCell']) (DB ps (tkb54,xb55)) (fW (enc:=Ns) _ (tkb54,xb55)) (by(try simp only[cO,eC]);unfold maxLen;omega) (by(try simp only[cO,eC]);omega))<|?_
 rintro _ w ⟨p58,c59,rfl,h⟩
 refine⟨h.hs (.c r7 (.c r4 .n)),?_⟩
 refine ef (sg rfl) (h.hs (.c r7 (.c r4 .n)))<|xz<|nx<|sq<|?_
 refine go h λw h=>?_
 have h:=h.fr (.c r2 (.c r2 (.c r1 (.c r6 (.c r6 .n)))))
 obtain⟨g60,ss61,ys62,hL63,hps64,hge65,hz66,h⟩:=Gy hL hps (by omega) (hcok52.ge hge) kc46m kc46k hok56 h
 have hge:=hge.trans hge65
 have h:=SH.fz (h.fr (.c L8 .n))
 refine go h λw h=>?_
 refine cl (ca eF rfl) ((Li (h.fr .n)).mono ?_)
 rintro _ w ⟨rfl,h⟩
 refine⟨_,rfl,?_⟩
 refine st (mv rfl)<|gT rfl rfl rfl<|st (mv rfl)<|gT rfl rfl rfl<|st (mv rfl)<|gT rfl rfl rfl<|st (nc rfl rfl)<|gT rfl rfl rfl<|st (fa SQ rfl)<|gT rfl rfl rfl<|st (ld Jo rfl (h.c a6 rfl))<|gT rfl rfl rfl<|st (mv rfl)<|gT rfl rfl rfl<|st (mv rfl)<|gT rfl rfl rfl<|?_
 refine go h λw h=>?_
 refine cl (ca eF rfl) ((LK ab mb g60 ss61 ys62 (ps++[(tkb54,xb55)]) l2 p58 p2 c59 c2 (h.fr (.c r3 (.c r3 (.c r1 (.c r1 (.c r0 (.c r7 .n))))))) hL63 hps64 (by simp only[cO,eC];omega) (by simp only[cO,eC];omega)).mono ?_)
 rintro _ w ⟨sz,hf1,hz1,rfl,h⟩
 refine⟨_,rfl,?_⟩
 refine st (pT rfl rfl rfl)<|st (sg rfl)<|xe<|nx<|rt<|?_
 refine go h λw h=>?_
 exact rz ⟨rfl,h.drop.drop.drop.drop.drop.drop.drop.drop.drop⟩
theorem S1(ab:Nat)(c:Ct.Call)(s:Ct.St)(h:SH B w (wW ab s::L))(hk:c.kind=9)(hs:Ct.Rm 60 s)(hky:c.key.size<=9223372036854775807)(hmk:c.aI<18446744073709551616):Calls prog 14 #[↑ab,.agg [↑c.kind,↑c.aE.root,↑c.aE.readOnly,↑c.a,↑c.b,↑c.n,↑c.index,.int .u64 (c.hash:Int),.int .u64 (c.aI:Int),↑c.key,.int .u64 (c.value:Int),.int .u64 (c.expect:Int),↑c.bF,↑c.only,↑c.walk.started,.slice none 0 0,.slice none 0 0,↑c.answer.err,↑c.answer.found,.int .u64 (c.answer.value:Int),↑c.answer.key,↑c.answer.count,↑c.answer.ref,↑c.answer.aE.root,↑c.answer.aE.readOnly].toArray] w λe w'=>∃tb,e=.returned (.pointer (some ⟨tb,0,none⟩))/\SH B w' (eN (cV ab) 99999999 tb ((Ct.mS c Ct.FU).head s).2 0::(cV ab).a ((Ct.mS c Ct.FU).head s).1::L):=Zh ab c s (LX h) hk hs hky hmk
theorem BP(l0:List Int)(p0:Option Addr)(c0:Nat)(l1:List Int)(p1:Option Addr)(c1:Nat)(key:ByteArray)(raw:Bool)(h:SH B w (bV 1 (.slice p0 l0.length c0) l0.length (l0.map (Value.int .i64))::bV 1 (.slice p1 l1.length c1) l1.length (l1.map (Value.int .i64))::L))(hkey:key.size<=9223372036854775807):
  Calls prog 5 #[.slice p0 l0.length c0,.slice p1 l1.length c1,↑key,↑raw] w λe w'=>e=.returned ↑true/\SH B w' L:=by
 refine bZ func5 ntmps5 h λw h=>?_
 refine cl (ca eF rfl) ((Zz l0 p0 c0 (h.fr (.c r0 .n))).mono ?_)
 rintro _ w ⟨b,mb,aI,g,s,ts,zs,hmk,hW,rfl,h⟩
 have hsz:s.size<=37000000000:=by have:=hW.size;omega
 refine⟨_,rfl,?_⟩
 refine st (sg rfl)<|xe<|nx<|sq<|?_
 refine go h λw h=>?_
 have h:=h.fr (.c r0 .n)
 obtain⟨⟨twp,twc,xwp,xwc⟩,h⟩:=h.wo
 have h:SH B w (bl b ([↑mb,.int .u64 (aI:Int),.slice twp ts.length twc,.slice xwp zs.length xwc]) 34::aU 38 2 (.slice twp ts.length twc) ts.length (ts.flatMap cU)::aU 52 1 (.slice xwp zs.length xwc) zs.length (zs.flatMap Ii)::eV mb zs::cR mb s::bV 1 (.slice p1 l1.length c1) l1.length (l1.map (Value.int .i64))::L):=h
 refine go h λw h=>?_
 refine cG (CN _ _ h.to (by omega) (Ct.IE hW.gw hW.PI) (lS hW.fit (by omega))) λab w h=>?_
 obtain⟨hl0,hs0⟩:=hW.M7
 refine go h λw h=>?_
 refine st (i4 Oq rfl rfl)<|go h λw h=>?_
 have h:=h.fr (.c r2 (.c r2 (.c r2 .n)))
 have h:SH B w (nS b mb aI ts zs::wW ab {s with acc:=0}::cR mb {s with acc:=0}::eV mb zs::bV 1 (.slice p1 l1.length c1) l1.length (l1.map (Value.int .i64))::L):=SH.wi ⟨twp,twc,xwp,xwc⟩ h
 refine go h λw h=>?_
 refine cG (NS _ _ _ h.to) λtpb w h=>?_
 refine cl (ca eF rfl) ((wN b mb tpb aI ts zs l1 9 (h.fr (.c r1 (.c r0 .n))) hW.some hW.Qr (by decide) (by decide) hW.first).mono ?_)
 rintro _ w ⟨c,hck,hcm,hcky,hct,hcw,rfl,h⟩
 have hcok:Ct.kZ g c:=hW.Gz (by rw[hck];decide) (by rw[hck];decide) hct hcw
 have hcm2:c.aI<18446744073709551616:=by rw[hcm];exact hmk
 have hcky2:c.key.size<=9223372036854775807:=by omega
 have hst:=Ct.gW (c:=c) hl0.fit (by unfold Ct.room;omega)
 refine⟨_,rfl,?_⟩
 refine go h λw h=>?_
 refine sf (al h Ej)<|?_
 rintro _ w ⟨b1,rfl,h⟩
 refine sf (so h rfl rfl rfl xP rfl (.r (.r (.r (.r (.r (.r (.r (.r (.r (.r (.r (.r (.r (.r (.r (.r (.r (.r (.r (.r (.r (.r (.r (.r (.r .d))))))))))))))))))))))))) u0)<|?_
 rintro _ w h
 refine xe<|nx<|?_
 refine sm (λe w=>∃c2:Ct.Call,Sub 48 e (.c 9 ↑b (.c 10 ↑ab (.c 11 ↑b1 .n)))/\SH B w (bl b1 ([↑c2.kind,↑c2.aE.root,↑c2.aE.readOnly,↑c2.a,↑c2.b,↑c2.n,↑c2.index,.int .u64 (c2.hash:Int),.int .u64 (c2.aI:Int),↑c2.key,.int .u64 (c2.value:Int),.int .u64 (c2.expect:Int),↑c2.bF,↑c2.only,↑c2.walk.started,.slice none 0 0,.slice none 0 0,↑c2.answer.err,↑c2.answer.found,.int .u64 (c2.answer.value:Int),↑c2.answer.key,↑c2.answer.count,↑c2.answer.ref,↑c2.answer.aE.root,↑c2.answer.aE.readOnly]) 48::nS b mb aI ts zs::gQ tpb l1::wW ab {s with acc:=0}::cR mb {s with acc:=0}::eV mb zs::L)/\(Ct.kZ g c2/\c2.aI<18446744073709551616/\c2.key.size<=9223372036854775807/\c2.kind=9)) ?_ ?_
 refine go h λw h=>?_
 refine qc h (λhd2 w h=>?_) λhd2 w h=>?_
 exact⟨({c with key:=key}:Ct.Call),⟨rfl,rfl,rfl,trivial⟩,h,⟨⟨hcok.lo,hcok.hi,hcok.aE,hcok.ro⟩,hcm2,hkey,hck⟩⟩
 exact⟨c,⟨rfl,rfl,rfl,trivial⟩,h,⟨hcok,hcm2,hcky2,hck⟩⟩
 rintro e w ⟨c2,hE,h,hc2⟩
 refine C.sub hE ?_
 clear hE e
 have hst2:=Ct.gW (c:=c2) hl0.fit (by unfold Ct.room;omega)
 refine go h λw h=>?_
 have h:=h.fr (.c r1 .n)
 obtain⟨⟨twp,twc,xwp,xwc⟩,h⟩:=h.wo
 have h:SH B w (bl b ([↑mb,.int .u64 (aI:Int),.slice twp ts.length twc,.slice xwp zs.length xwc]) 34::aU 38 2 (.slice twp ts.length twc) ts.length (ts.flatMap cU)::aU 52 1 (.slice xwp zs.length xwc) zs.length (zs.flatMap Ii)::bl b1 ([↑c2.kind,↑c2.aE.root,↑c2.aE.readOnly,↑c2.a,↑c2.b,↑c2.n,↑c2.index,.int .u64 (c2.hash:Int),.int .u64 (c2.aI:Int),↑c2.key,.int .u64 (c2.value:Int),.int .u64 (c2.expect:Int),↑c2.bF,↑c2.only,↑c2.walk.started,.slice none 0 0,.slice none 0 0,↑c2.answer.err,↑c2.answer.found,.int .u64 (c2.answer.value:Int),↑c2.answer.key,↑c2.answer.count,↑c2.answer.ref,↑c2.answer.aE.root,↑c2.answer.aE.readOnly]) 48::gQ tpb l1::wW ab {s with acc:=0}::cR mb {s with acc:=0}::eV mb zs::L):=h
 refine dZ [0,3,5,7,9,11,13,15,17,21,23,25,27,29,18,30,33,34,36,39,40] (by kernel_rfl) h (.c r0 (.c r2 .n)) λw h=>go h λw h=>?_
 refine cs (ca eF rfl) ((Li (h.fr .n)).mono ?_)
 rintro _ w ⟨rfl,h⟩
 refine⟨_,rfl,h.hs (.c r0 (.c r2 .n)),?_⟩
 refine tk (λW H=>mv rfl)<|oX rfl rfl rfl<|tk (λW H=>mv rfl)<|oX rfl rfl rfl<|tk (λW H=>mv rfl)<|oX rfl rfl rfl<|tk (λW H=>nc rfl rfl)<|oX rfl rfl rfl<|tk (λW H=>fa SQ rfl)<|oX rfl rfl rfl<|tk (λW H=>ld Jo rfl (H.c a0 rfl))<|oX rfl rfl rfl<|tk (λW H=>mv rfl)<|oX rfl rfl rfl<|tk (λW H=>gJ rfl (dK (H.b a1)) yL)<|oX rfl rfl rfl<|tk (λW H=>mv rfl)<|oX rfl rfl rfl<|tk (λW H=>nc rfl rfl)<|oX rfl rfl rfl<|tk (λW H=>fa SQ rfl)<|oX rfl rfl rfl<|tk (λW H=>ld Jo rfl (H.c a0 rfl))<|oX rfl rfl rfl<|tk (λW H=>gJ rfl (dK (H.b a1)) yL)<|oX rfl rfl rfl<|?_
 refine go h λw h=>?_
 refine cs (ca eF rfl) ((S1 ab c2 {s with acc:=0} (h.fr (.c r5 .n)) hc2.2.2.2 ⟨hl0.fit,by unfold Ct.cN;omega⟩ hc2.2.2.1 hc2.2.1).mono ?_)
 rintro _ w ⟨tkb,rfl,h⟩
 refine⟨_,rfl,h.hs (.c r2 (.c r4 .n)),?_⟩
 refine oX rfl rfl rfl<|?_
 refine go h λw h=>?_
 refine TA (rW _ _ c2 _ h.to hst2.1 hst2.2 (by decide) hc2.2.1 hc2.2.2.1 hc2.1.lo hc2.1.hi) λxb w h hok=>?_
 refine ff (bu [↑tkb,↑xb] h fR.h Ss.h rfl (by kernel_rfl) rfl (by decide) (by decide)) ?_
 rintro _ w ⟨b3,rfl,h⟩
 refine gz h λw h=>?_
 refine cs (ca eF rfl) ((P8 ab mb tkb xb b3 99999999 g {s with acc:=0} c2 (h.fr (.c r2 (.c r2 (.c r1 (.c r0 .n))))) hl0 (by omega) (by decide) hc2.1 hc2.2.1 hc2.2.2.1 hok).mono ?_)
 rintro _ w ⟨s1,hf1,hz1,rfl,h⟩
 refine⟨_,rfl,h.hs (.c r2 (.c r4 .n)),?_⟩
 refine tk (λW H=>pT rfl rfl rfl)<|ef (sg rfl) (h.hs (.c r2 (.c r4 .n)))<|xz<|nx<|rt<|?_
 refine go h λw h=>?_
 exact rz ⟨rfl,h.drop.drop.drop.drop.drop.drop.drop.drop⟩
end Go.Q9
end
