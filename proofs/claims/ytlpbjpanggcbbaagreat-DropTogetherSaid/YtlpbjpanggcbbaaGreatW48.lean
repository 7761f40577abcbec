/- Parts of a proof: Ayx, Wt, Ayw. -/
import Derived.Test.YtlpbjpanggcbbaaGreatW47
set_option linter.unusedVariables false
set_option linter.unusedSimpArgs false
set_option maxRecDepth 100000
set_option maxHeartbeats 4000000
section
namespace Go.Q9
open Go.Proofs.Tryz
open Go.E
end Go.Q9
end
section
namespace Go.Q9
open Go.Proofs.Tryz
open Go.RowKit Go.E
attribute [local irreducible] gB wpS Go.E.X XS C jU kP fin Y U F Ca jT bl rb aU bV ex ce pu sK gK bK zK gM fO dH gP nE rD
variable{B w:World}{L:List As}
theorem WV(ab:Nat)(c:Ct.Call)(s:Ct.St)(h:SH B w ((cV ab).a s::L))(hk:c.kind=8)(hs:Ct.Rm 60 s)(hky:c.key.size<=9223372036854775807)(hmk:c.aI<18446744073709551616):Calls prog 15 #[(cV ab).v,.agg (cU c.aE).toArray,.int .u64 (c.aI:Int),↑c.key,.int .u64 (c.value:Int),↑c.bF,.int .u64 (c.expect:Int)] w λe w'=>∃tb,e=.returned (.pointer (some ⟨tb,0,none⟩))/\SH B w' (eN (cV ab) 99999999 tb ((Ct.mS c Ct.FU).head s).2 0::(cV ab).a ((Ct.mS c Ct.FU).head s).1::L):=by
 refine(RC (cV ab) 99999999 c s h hs hky hmk (by decide)).mono ?_
 rintro e w' ⟨tb,s',u,hq,rfl,h⟩
 have e0:(Ct.mS c Ct.FU).head s=(s',u):=by
  unfold Ct.mS
  rw[hk,if_neg (by decide),if_pos (by decide)]
  exact hq
 rw[e0]
 exact⟨tb,rfl,h⟩
theorem JE(ab:Nat)(c:Ct.Call)(s:Ct.St)(h:SH B w ((cV ab).a s::L))(hk:c.kind=7)(hs:Ct.Rm 60 s)(hky:c.key.size<=9223372036854775807)(hmk:c.aI<18446744073709551616):Calls prog 16 #[(cV ab).v,.agg (cU c.aE).toArray,.int .u64 (c.aI:Int),↑c.key] w λe w'=>∃tb,e=.returned (.pointer (some ⟨tb,0,none⟩))/\SH B w' (eN (cV ab) 99999999 tb ((Ct.mS c Ct.FU).head s).2 0::(cV ab).a ((Ct.mS c Ct.FU).head s).1::L):=by
 refine(Sy (cV ab) 99999999 c s h hs hky hmk (by decide)).mono ?_
 rintro e w' ⟨tb,s',u,hq,rfl,h⟩
 have e0:(Ct.mS c Ct.FU).head s=(s',u):=by
  unfold Ct.mS
  rw[hk,if_pos (by decide)]
  exact hq
 rw[e0]
 exact⟨tb,rfl,h⟩
theorem Gy{ab mb tb xb:Nat}{g:Ct.Ga}{s:Ct.St}{ys:List Ct.Px}{ps:List (Nat×Nat)}{c:Ct.Call}(hL:Ct.Ub 0 g s ys)(hps:ys.map AW=ps)(hs:s.size+1000<=38000000000)(hc:Ct.kZ g c)(hm:c.aI<18446744073709551616)(hk:c.key.size<=9223372036854775807)(hok:Ct.Ok 50 (Ct.bX (Ct.bY c Ct.FU) 0 ⟨{call:=c},s⟩))
  (h:SH B w (eN (cV ab) 99999999 tb ((Ct.mS c Ct.FU).head s).2 0::(cV ab).a ((Ct.mS c Ct.FU).head s).1::XA xb mb (Ct.bX (Ct.bY c Ct.FU) 0 ⟨{call:=c},s⟩)::nR (cV ab) 400 ys::eV mb (ys.map Af)::L)):
  ∃g' s' ys',Ct.Ub 0 g' s' ys'/\ys'.map AW=ps++[(tb,xb)]/\Ct.Ge g g'/\s'.size<=s.size+120/\SH B w (cR mb s'::(cV ab).a s'::nR (cV ab) 400 ys'::eV mb (ys'.map Af)::L):=by
 obtain⟨g',u,h1,hge,hz,hL'⟩:=hL.add (tb:=tb) (xb:=xb) hs hc hm hk hok
 rw[h1]at h
 have h:=SH.n0 (m:=400) (by decide) h
 have h:=ZR (xb:=xb) (e:=(Ct.bX (Ct.bY c Ct.FU) 0 ⟨{call:=c},s⟩).e) (h.fr (.c r0 (.c r2 .n)))
 have h:=SH.VL (h.fr (.c r2 (.c r2 .n)))
 refine⟨g',_,_,hL',by rw[tX,hps];rfl,hge,hz,?_⟩
 rw[tX]
 exact h.fr (.c r1 (.c r2 (.c r1 .n)))
end Go.Q9
end
section
namespace Go.Q9
open Go.Proofs.Tryz
open Go.E
theorem S2:KY prog 138=some ([.nilIface,.int .i64 0,↑false,.string .empty,.int .u64 0,↑false,.int .u64 0,.int .i64 0,.slice none 0 0],[(0,3),(3,1),(4,1),(5,1),(6,1),(7,1),(8,1)]):=by kernel_rfl
end Go.Q9
end
