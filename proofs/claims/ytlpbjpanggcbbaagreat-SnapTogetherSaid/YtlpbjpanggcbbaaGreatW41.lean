/- Parts of a proof: Pz2, Sr. -/
import Derived.Test.YtlpbjpanggcbbaaGreatW40
import Derived.Shelf.Abstract
set_option linter.unusedVariables false
set_option linter.unusedSimpArgs false
set_option maxRecDepth 100000
set_option maxHeartbeats 4000000
section
namespace Go.Q9
open Go.Proofs.Tryz
open Go.RowKit Go.E Go.Ct
attribute [local irreducible] gB wpS Go.E.X XS C jU kP fin Y U F Ca jT bl rb aU bV ex ce pu sK gK bK zK gM fO dH gP nE
def DT(a b c:List Int):Nat->List Int|0=>[]|1=>[]++a|2=>[]++a++b|_=>[]++a++b++c
theorem XY(a b:List Int):a.length+b.length=(a++b).length:=by rw[tW]
section
attribute [local semireducible] gB wpS Go.E.X XS C jU kP fin Y U F Ca jT bl rb aU bV ex ce pu sK gK bK zK gM fO dH gP nE
attribute [local irreducible] gB wpS
variable{B w:World}{L:List As}
theorem EB(l1:List Int)(pl1:Option Addr)(cl1:Nat)(l2:List Int)(pl2:Option Addr)(cl2:Nat)(lb:Nat)(h:SH B w (aU 72 1 (.slice (some ⟨lb,0,none⟩) 2 2) 2 ([.slice pl1 l1.length cl1,.slice pl2 l2.length cl2])::bV 1 (.slice pl1 l1.length cl1) l1.length (l1.map (Value.int .i64))::bV 1 (.slice pl2 l2.length cl2) l2.length (l2.map (Value.int .i64))::L))(hl1:l1.length<=1000000)(hl2:l2.length<=1000000):
  Calls prog 297 #[.slice (some ⟨lb,0,none⟩) 2 2] w λe w'=>∃p c',e=.returned (.slice p (l1++l2).length c')/\SH B w' (bV 1 (.slice p (l1++l2).length c') (l1++l2).length ((l1++l2).map (Value.int .i64))::L):=by
 refine Ea (args:=[_]) func297 rfl ntmps297 rfl ?_
 refine sq<|rg<|st (sg rfl)<|xe<|nx<|sq<|rg<|st (sg rfl)<|xe<|nx<|sq<|sq<|rg<|st (mv rfl)<|st (ln nO rfl rfl)<|st (mv rfl)<|xe<|nx<|bk<|?_
 refine lp (α:=Nat×Nat) (λρ=>(.c 0 (.slice (some ⟨lb,0,none⟩) 2 2) (.c 3 (.int .i64 (ρ.2:Int)) (.c 9 (.slice (some ⟨lb,0,none⟩) 2 2) (.c 10 (.int .i64 2) (.c 11 (.int .i64 (ρ.1:Int)) .n)))))) (λρ w=>SH B w (aU 72 1 (.slice (some ⟨lb,0,none⟩) 2 2) 2 ([.slice pl1 l1.length cl1,.slice pl2 l2.length cl2])::bV 1 (.slice pl1 l1.length cl1) l1.length (l1.map (Value.int .i64))::bV 1 (.slice pl2 l2.length cl2) l2.length (l2.map (Value.int .i64))::L)/\(ρ.1<=2)/\(ρ.2<=ρ.1*1000000)) (λρ=>2-ρ.1) (0,0) ⟨rfl,rfl,rfl,rfl,rfl,trivial⟩ ⟨h,(dI _),(dI _)⟩ ?_
 rintro⟨k,m⟩ w ⟨h,hk,hm⟩
 rcases(show k=0\/k=1\/k=2 by omega)with rfl|rfl|rfl
 ·refine sq<|rg<|st (bi rfl rfl rfl)<|xe<|nx<|sq<|cT rfl<|sk<|nx<|sq<|bk<|sq<|rg<|st (ix (j:=0) nO oW rfl rfl (by omega))<|st (ld fS rfl ((h.ro a0).2 0 _ rfl))<|st (sg rfl)<|xe<|nx<|rg<|st (mv rfl)<|st (mv rfl)<|st (ln dJ rfl rfl)<|st (bw rfl rfl (gN (c:=((m+l1.length:Nat):Int)) (by omega) (by omega) (by omega)))<|st (sg rfl)<|xe<|bn<|nx<|rg<|st (bw rfl rfl (gN (c:=1) (by omega) (by omega) (by omega)))<|st (mv rfl)<|xe<|nx<|?_
  exact⟨((0+1),(m+l1.length)),⟨rfl,rfl,rfl,rfl,rfl,trivial⟩,⟨h,by(try dsimp only);omega,by(try dsimp only);omega⟩,by(try dsimp only);omega⟩
 ·refine sq<|rg<|st (bi rfl rfl rfl)<|xe<|nx<|sq<|cT rfl<|sk<|nx<|sq<|bk<|sq<|rg<|st (ix (j:=1) nO oW rfl rfl (by omega))<|st (ld fS rfl ((h.ro a0).2 1 _ rfl))<|st (sg rfl)<|xe<|nx<|rg<|st (mv rfl)<|st (mv rfl)<|st (ln dJ rfl rfl)<|st (bw rfl rfl (gN (c:=((m+l2.length:Nat):Int)) (by omega) (by omega) (by omega)))<|st (sg rfl)<|xe<|bn<|nx<|rg<|st (bw rfl rfl (gN (c:=2) (by omega) (by omega) (by omega)))<|st (mv rfl)<|xe<|nx<|?_
  exact⟨((1+1),(m+l2.length)),⟨rfl,rfl,rfl,rfl,rfl,trivial⟩,⟨h,by(try dsimp only);omega,by(try dsimp only);omega⟩,by(try dsimp only);omega⟩
 ·refine sq<|rg<|st (bi rfl rfl rfl)<|xe<|nx<|sq<|cF rfl<|xt<|tx<|tx<|be<|nx<|sq<|rg<|st (mv rfl)<|sf (m9 h dJ oG rfl rfl (by omega) (by unfold maxLen;omega))<|?_
  rintro _ w ⟨b1,rfl,h⟩
  refine st (sg rfl)<|xe<|nx<|sq<|sq<|rg<|st (mv rfl)<|st (ln nO rfl rfl)<|st (mv rfl)<|xe<|nx<|bk<|?_
  refine lp (α:=Nat×List Int×Option Addr×Nat) (λρ=>(.c 6 (.slice ρ.2.2.1 ρ.2.1.length ρ.2.2.2) (.c 22 (.slice (some ⟨lb,0,none⟩) 2 2) (.c 23 (.int .i64 2) (.c 24 (.int .i64 (ρ.1:Int)) .n))))) (λρ w=>SH B w (aU 39 1 (.slice ρ.2.2.1 ρ.2.1.length ρ.2.2.2) ρ.2.1.length (ρ.2.1.map (Value.int .i64))::aU 72 1 (.slice (some ⟨lb,0,none⟩) 2 2) 2 ([.slice pl1 l1.length cl1,.slice pl2 l2.length cl2])::bV 1 (.slice pl1 l1.length cl1) l1.length (l1.map (Value.int .i64))::bV 1 (.slice pl2 l2.length cl2) l2.length (l2.map (Value.int .i64))::L)/\(ρ.1<=2)/\(ρ.2.1=DT l1 l2 [] ρ.1)) (λρ=>2-ρ.1) (0,[],some ⟨b1,0,none⟩,m) ⟨rfl,rfl,rfl,rfl,trivial⟩ ⟨h,(dI _),rfl⟩ ?_
  rintro⟨k,out,q,cq⟩ w ⟨h,hk,hW⟩
  dsimp only at *
  rcases(show k=0\/k=1\/k=2 by omega)with rfl|rfl|rfl
  ·refine sq<|rg<|st (bi rfl rfl rfl)<|xe<|nx<|sq<|cT rfl<|sk<|nx<|sq<|bk<|sq<|rg<|st (ix (j:=0) nO oW rfl rfl (by omega))<|st (ld fS rfl ((h.ro a1).2 0 _ rfl))<|st (sg rfl)<|xe<|nx<|rg<|st (mv rfl)<|st (mv rfl)<|sf (XN h a2 a0 dJ rfl oG rfl (by decide) rfl rfl (λ_=>u0) (oZ _) (XY out l1) List.map_append.symm (by rw[hW];unfold maxLen DT;simp;omega) (by rw[hW];unfold DT;simp;omega))<|?_
   rintro _ w ⟨p2,c3,rfl,h⟩
   refine st (sg rfl)<|xe<|bn<|nx<|rg<|st (bw rfl rfl (gN (c:=1) (by omega) (by omega) (by omega)))<|st (mv rfl)<|xe<|nx<|?_
   exact⟨((0+1),(out++l1),p2,c3),⟨rfl,rfl,rfl,rfl,trivial⟩,⟨h,by(try dsimp only);omega,by(try dsimp only);rw[hW];rfl⟩,by(try dsimp only);omega⟩
  ·refine sq<|rg<|st (bi rfl rfl rfl)<|xe<|nx<|sq<|cT rfl<|sk<|nx<|sq<|bk<|sq<|rg<|st (ix (j:=1) nO oW rfl rfl (by omega))<|st (ld fS rfl ((h.ro a1).2 1 _ rfl))<|st (sg rfl)<|xe<|nx<|rg<|st (mv rfl)<|st (mv rfl)<|sf (XN h a3 a0 dJ rfl oG rfl (by decide) rfl rfl (λ_=>u0) (oZ _) (XY out l2) List.map_append.symm (by rw[hW];unfold maxLen DT;simp;omega) (by rw[hW];unfold DT;simp;omega))<|?_
   rintro _ w ⟨p4,c5,rfl,h⟩
   refine st (sg rfl)<|xe<|bn<|nx<|rg<|st (bw rfl rfl (gN (c:=2) (by omega) (by omega) (by omega)))<|st (mv rfl)<|xe<|nx<|?_
   exact⟨((1+1),(out++l2),p4,c5),⟨rfl,rfl,rfl,rfl,trivial⟩,⟨h,by(try dsimp only);omega,by(try dsimp only);rw[hW];rfl⟩,by(try dsimp only);omega⟩
  ·refine sq<|rg<|st (bi rfl rfl rfl)<|xe<|nx<|sq<|cF rfl<|xt<|tx<|tx<|be<|nx<|sq<|rg<|st (mv rfl)<|st (sg rfl)<|xe<|nx<|rt<|?_
   refine rr (jP results297 rfl)<|?_
   subst hW
   exact⟨_,_,rfl,((h.fr (.c r1 (.c r1 (.c r1 .n)))).drop.drop.drop).fz⟩
end
variable{B w:World}{L:List As}
theorem OS(bm:Nat)(l1:List Int)(pl1:Option Addr)(cl1:Nat)(l2:List Int)(pl2:Option Addr)(cl2:Nat)(lb:Nat)(h:SH B w (aU 72 1 (.slice (some ⟨lb,0,none⟩) 2 2) 2 ([.slice pl1 l1.length cl1,.slice pl2 l2.length cl2])::bV 1 (.slice pl1 l1.length cl1) l1.length (l1.map (Value.int .i64))::bV 1 (.slice pl2 l2.length cl2) l2.length (l2.map (Value.int .i64))::L))(hl1:l1.length<=1000000)(hl2:l2.length<=1000000):
  Calls prog 270 #[.int .u64 (bm:Int),.slice (some ⟨lb,0,none⟩) 2 2] w λe w'=>∃q',e=.returned (.agg (aL {kind:=3,aD:=bm,aA:=l1++l2} q').toArray)/\SH B w' (aM {kind:=3,aD:=bm,aA:=l1++l2} q'::L):=by
 refine bZ func270 ntmps270 h λw h=>?_
 refine jA h λb1 w h=>?_
 refine Sd (EB _ _ _ _ _ _ _ h.to (by assumption) (by assumption)) λq2 c3 w h=>?_
 exact rr (bP rfl rfl (h.b a1) Row.h)<|⟨⟨q2,c3,none,0⟩,rfl,SH.YX (m:={kind:=3,aD:=bm,aA:=l1++l2}) h.to rfl⟩
section
attribute [local semireducible] gB wpS Go.E.X XS C jU kP fin Y U F Ca jT bl rb aU bV ex ce pu sK gK bK zK gM fO dH gP nE
attribute [local irreducible] gB wpS
variable{B w:World}{L:List As}
theorem Xf(l1:List Int)(pl1:Option Addr)(cl1:Nat)(l2:List Int)(pl2:Option Addr)(cl2:Nat)(l3:List Int)(pl3:Option Addr)(cl3:Nat)(lb:Nat)(h:SH B w (aU 72 1 (.slice (some ⟨lb,0,none⟩) 3 3) 3 ([.slice pl1 l1.length cl1,.slice pl2 l2.length cl2,.slice pl3 l3.length cl3])::bV 1 (.slice pl1 l1.length cl1) l1.length (l1.map (Value.int .i64))::bV 1 (.slice pl2 l2.length cl2) l2.length (l2.map (Value.int .i64))::bV 1 (.slice pl3 l3.length cl3) l3.length (l3.map (Value.int .i64))::L))(hl1:l1.length<=1000000)(hl2:l2.length<=1000000)(hl3:l3.length<=1000000):
  Calls prog 297 #[.slice (some ⟨lb,0,none⟩) 3 3] w λe w'=>∃p c',e=.returned (.slice p (l1++l2++l3).length c')/\SH B w' (bV 1 (.slice p (l1++l2++l3).length c') (l1++l2++l3).length ((l1++l2++l3).map (Value.int .i64))::L):=by
 refine Ea (args:=[_]) func297 rfl ntmps297 rfl ?_
 refine sq<|rg<|st (sg rfl)<|xe<|nx<|sq<|rg<|st (sg rfl)<|xe<|nx<|sq<|sq<|rg<|st (mv rfl)<|st (ln nO rfl rfl)<|st (mv rfl)<|xe<|nx<|bk<|?_
 refine lp (α:=Nat×Nat) (λρ=>(.c 0 (.slice (some ⟨lb,0,none⟩) 3 3) (.c 3 (.int .i64 (ρ.2:Int)) (.c 9 (.slice (some ⟨lb,0,none⟩) 3 3) (.c 10 (.int .i64 3) (.c 11 (.int .i64 (ρ.1:Int)) .n)))))) (λρ w=>SH B w (aU 72 1 (.slice (some ⟨lb,0,none⟩) 3 3) 3 ([.slice pl1 l1.length cl1,.slice pl2 l2.length cl2,.slice pl3 l3.length cl3])::bV 1 (.slice pl1 l1.length cl1) l1.length (l1.map (Value.int .i64))::bV 1 (.slice pl2 l2.length cl2) l2.length (l2.map (Value.int .i64))::bV 1 (.slice pl3 l3.length cl3) l3.length (l3.map (Value.int .i64))::L)/\(ρ.1<=3)/\(ρ.2<=ρ.1*1000000)) (λρ=>3-ρ.1) (0,0) ⟨rfl,rfl,rfl,rfl,rfl,trivial⟩ ⟨h,(dI _),(dI _)⟩ ?_
 rintro⟨k,m⟩ w ⟨h,hk,hm⟩
 dsimp only at *
 rcases(show k=0\/k=1\/k=2\/k=3 by omega)with rfl|rfl|rfl|rfl
 ·refine sq<|rg<|st (bi rfl rfl rfl)<|xe<|nx<|sq<|cT rfl<|sk<|nx<|sq<|bk<|sq<|rg<|st (ix (j:=0) nO oW rfl rfl (by omega))<|st (ld fS rfl ((h.ro a0).2 0 _ rfl))<|st (sg rfl)<|xe<|nx<|rg<|st (mv rfl)<|st (mv rfl)<|st (ln dJ rfl rfl)<|st (bw rfl rfl (gN (c:=((m+l1.length:Nat):Int)) (by omega) (by omega) (by omega)))<|st (sg rfl)<|xe<|bn<|nx<|rg<|st (bw rfl rfl (gN (c:=1) (by omega) (by omega) (by omega)))<|st (mv rfl)<|xe<|nx<|?_
  exact⟨((0+1),(m+l1.length)),⟨rfl,rfl,rfl,rfl,rfl,trivial⟩,⟨h,by(try dsimp only);omega,by(try dsimp only);omega⟩,by(try dsimp only);omega⟩
 ·refine sq<|rg<|st (bi rfl rfl rfl)<|xe<|nx<|sq<|cT rfl<|sk<|nx<|sq<|bk<|sq<|rg<|st (ix (j:=1) nO oW rfl rfl (by omega))<|st (ld fS rfl ((h.ro a0).2 1 _ rfl))<|st (sg rfl)<|xe<|nx<|rg<|st (mv rfl)<|st (mv rfl)<|st (ln dJ rfl rfl)<|st (bw rfl rfl (gN (c:=((m+l2.length:Nat):Int)) (by omega) (by omega) (by omega)))<|st (sg rfl)<|xe<|bn<|nx<|rg<|st (bw rfl rfl (gN (c:=2) (by omega) (by omega) (by omega)))<|st (mv rfl)<|xe<|nx<|?_
  exact⟨((1+1),(m+l2.length)),⟨rfl,rfl,rfl,rfl,rfl,trivial⟩,⟨h,by(try dsimp only);omega,by(try dsimp only);omega⟩,by(try dsimp only);omega⟩
 ·refine sq<|rg<|st (bi rfl rfl rfl)<|xe<|nx<|sq<|cT rfl<|sk<|nx<|sq<|bk<|sq<|rg<|st (ix (j:=2) nO oW rfl rfl (by omega))<|st (ld fS rfl ((h.ro a0).2 2 _ rfl))<|st (sg rfl)<|xe<|nx<|rg<|st (mv rfl)<|st (mv rfl)<|st (ln dJ rfl rfl)<|st (bw rfl rfl (gN (c:=((m+l3.length:Nat):Int)) (by omega) (by omega) (by omega)))<|st (sg rfl)<|xe<|bn<|nx<|rg<|st (bw rfl rfl (gN (c:=3) (by omega) (by omega) (by omega)))<|st (mv rfl)<|xe<|nx<|?_
  exact⟨((2+1),(m+l3.length)),⟨rfl,rfl,rfl,rfl,rfl,trivial⟩,⟨h,by(try dsimp only);omega,by(try dsimp only);omega⟩,by(try dsimp only);omega⟩
 ·refine sq<|rg<|st (bi rfl rfl rfl)<|xe<|nx<|sq<|cF rfl<|xt<|tx<|tx<|be<|nx<|sq<|rg<|st (mv rfl)<|sf (m9 h dJ oG rfl rfl (by omega) (by unfold maxLen;omega))<|?_
  rintro _ w ⟨b1,rfl,h⟩
  refine st (sg rfl)<|xe<|nx<|sq<|sq<|rg<|st (mv rfl)<|st (ln nO rfl rfl)<|st (mv rfl)<|xe<|nx<|bk<|?_
  refine lp (α:=Nat×List Int×Option Addr×Nat) (λρ=>(.c 6 (.slice ρ.2.2.1 ρ.2.1.length ρ.2.2.2) (.c 22 (.slice (some ⟨lb,0,none⟩) 3 3) (.c 23 (.int .i64 3) (.c 24 (.int .i64 (ρ.1:Int)) .n))))) (λρ w=>SH B w (aU 39 1 (.slice ρ.2.2.1 ρ.2.1.length ρ.2.2.2) ρ.2.1.length (ρ.2.1.map (Value.int .i64))::aU 72 1 (.slice (some ⟨lb,0,none⟩) 3 3) 3 ([.slice pl1 l1.length cl1,.slice pl2 l2.length cl2,.slice pl3 l3.length cl3])::bV 1 (.slice pl1 l1.length cl1) l1.length (l1.map (Value.int .i64))::bV 1 (.slice pl2 l2.length cl2) l2.length (l2.map (Value.int .i64))::bV 1 (.slice pl3 l3.length cl3) l3.length (l3.map (Value.int .i64))::L)/\(ρ.1<=3)/\(ρ.2.1=DT l1 l2 l3 ρ.1)) (λρ=>3-ρ.1) (0,[],some ⟨b1,0,none⟩,m) ⟨rfl,rfl,rfl,rfl,trivial⟩ ⟨h,(dI _),rfl⟩ ?_
  rintro⟨k,out,q,cq⟩ w ⟨h,hk,hW⟩
  dsimp only at *
  rcases(show k=0\/k=1\/k=2\/k=3 by omega)with rfl|rfl|rfl|rfl
  ·refine sq<|rg<|st (bi rfl rfl rfl)<|xe<|nx<|sq<|cT rfl<|sk<|nx<|sq<|bk<|sq<|rg<|st (ix (j:=0) nO oW rfl rfl (by omega))<|st (ld fS rfl ((h.ro a1).2 0 _ rfl))<|st (sg rfl)<|xe<|nx<|rg<|st (mv rfl)<|st (mv rfl)<|sf (XN h a2 a0 dJ rfl oG rfl (by decide) rfl rfl (λ_=>u0) (oZ _) (XY out l1) List.map_append.symm (by rw[hW];unfold maxLen DT;simp;omega) (by rw[hW];unfold DT;simp;omega))<|?_
   rintro _ w ⟨p2,c3,rfl,h⟩
   refine st (sg rfl)<|xe<|bn<|nx<|rg<|st (bw rfl rfl (gN (c:=1) (by omega) (by omega) (by omega)))<|st (mv rfl)<|xe<|nx<|?_
   exact⟨((0+1),(out++l1),p2,c3),⟨rfl,rfl,rfl,rfl,trivial⟩,⟨h,by(try dsimp only);omega,by(try dsimp only);rw[hW];rfl⟩,by(try dsimp only);omega⟩
  ·refine sq<|rg<|st (bi rfl rfl rfl)<|xe<|nx<|sq<|cT rfl<|sk<|nx<|sq<|bk<|sq<|rg<|st (ix (j:=1) nO oW rfl rfl (by omega))<|st (ld fS rfl ((h.ro a1).2 1 _ rfl))<|st (sg rfl)<|xe<|nx<|rg<|st (mv rfl)<|st (mv rfl)<|sf (XN h a3 a0 dJ rfl oG rfl (by decide) rfl rfl (λ_=>u0) (oZ _) (XY out l2) List.map_append.symm (by rw[hW];unfold maxLen DT;simp;omega) (by rw[hW];unfold DT;simp;omega))<|?_
   rintro _ w ⟨p4,c5,rfl,h⟩
   refine st (sg rfl)<|xe<|bn<|nx<|rg<|st (bw rfl rfl (gN (c:=2) (by omega) (by omega) (by omega)))<|st (mv rfl)<|xe<|nx<|?_
   exact⟨((1+1),(out++l2),p4,c5),⟨rfl,rfl,rfl,rfl,trivial⟩,⟨h,by(try dsimp only);omega,by(try dsimp only);rw[hW];rfl⟩,by(try dsimp only);omega⟩
  ·refine sq<|rg<|st (bi rfl rfl rfl)<|xe<|nx<|sq<|cT rfl<|sk<|nx<|sq<|bk<|sq<|rg<|st (ix (j:=2) nO oW rfl rfl (by omega))<|st (ld fS rfl ((h.ro a1).2 2 _ rfl))<|st (sg rfl)<|xe<|nx<|rg<|st (mv rfl)<|st (mv rfl)<|sf (XN h a4 a0 dJ rfl oG rfl (by decide) rfl rfl (λ_=>u0) (oZ _) (XY out l3) List.map_append.symm (by rw[hW];unfold maxLen DT;simp;omega) (by rw[hW];unfold DT;simp;omega))<|?_
   rintro _ w ⟨p6,c7,rfl,h⟩
   refine st (sg rfl)<|xe<|bn<|nx<|rg<|st (bw rfl rfl (gN (c:=3) (by omega) (by omega) (by omega)))<|st (mv rfl)<|xe<|nx<|?_
   exact⟨((2+1),(out++l3),p6,c7),⟨rfl,rfl,rfl,rfl,trivial⟩,⟨h,by(try dsimp only);omega,by(try dsimp only);rw[hW];rfl⟩,by(try dsimp only);omega⟩
  ·refine sq<|rg<|st (bi rfl rfl rfl)<|xe<|nx<|sq<|cF rfl<|xt<|tx<|tx<|be<|nx<|sq<|rg<|st (mv rfl)<|st (sg rfl)<|xe<|nx<|rt<|?_
   refine rr (jP results297 rfl)<|?_
   subst hW
   exact⟨_,_,rfl,((h.fr (.c r1 (.c r1 (.c r1 (.c r1 .n))))).drop.drop.drop.drop).fz⟩
end
variable{B w:World}{L:List As}
theorem DC(bm:Nat)(l1:List Int)(pl1:Option Addr)(cl1:Nat)(l2:List Int)(pl2:Option Addr)(cl2:Nat)(l3:List Int)(pl3:Option Addr)(cl3:Nat)(lb:Nat)(h:SH B w (aU 72 1 (.slice (some ⟨lb,0,none⟩) 3 3) 3 ([.slice pl1 l1.length cl1,.slice pl2 l2.length cl2,.slice pl3 l3.length cl3])::bV 1 (.slice pl1 l1.length cl1) l1.length (l1.map (Value.int .i64))::bV 1 (.slice pl2 l2.length cl2) l2.length (l2.map (Value.int .i64))::bV 1 (.slice pl3 l3.length cl3) l3.length (l3.map (Value.int .i64))::L))(hl1:l1.length<=1000000)(hl2:l2.length<=1000000)(hl3:l3.length<=1000000):
  Calls prog 270 #[.int .u64 (bm:Int),.slice (some ⟨lb,0,none⟩) 3 3] w λe w'=>∃q',e=.returned (.agg (aL {kind:=3,aD:=bm,aA:=l1++l2++l3} q').toArray)/\SH B w' (aM {kind:=3,aD:=bm,aA:=l1++l2++l3} q'::L):=by
 refine bZ func270 ntmps270 h λw h=>?_
 refine jA h λb1 w h=>?_
 refine Sd (Xf _ _ _ _ _ _ _ _ _ _ h.to (by assumption) (by assumption) (by assumption)) λq2 c3 w h=>?_
 exact rr (bP rfl rfl (h.b a1) Row.h)<|⟨⟨q2,c3,none,0⟩,rfl,SH.YX (m:={kind:=3,aD:=bm,aA:=l1++l2++l3}) h.to rfl⟩
theorem k9(bm:Nat)(l1:List Int)(pl1:Option Addr)(cl1:Nat)(l2:List Int)(pl2:Option Addr)(cl2:Nat)(lb:Nat){ml1 ml2:Nat}(h:SH B w (aU 72 1 (.slice (some ⟨lb,0,none⟩) 2 2) 2 ([.slice pl1 ml1 cl1,.slice pl2 ml2 cl2])::bV 1 (.slice pl1 ml1 cl1) ml1 (l1.map (Value.int .i64))::bV 1 (.slice pl2 ml2 cl2) ml2 (l2.map (Value.int .i64))::L))(el1:l1.length=ml1)(el2:l2.length=ml2)(hl1:l1.length<=1000000)(hl2:l2.length<=1000000):
  Calls prog 270 #[.int .u64 (bm:Int),.slice (some ⟨lb,0,none⟩) 2 2] w λe w'=>∃q',e=.returned (.agg (aL {kind:=3,aD:=bm,aA:=l1++l2} q').toArray)/\SH B w' (aM {kind:=3,aD:=bm,aA:=l1++l2} q'::L):=by
 subst el1 el2;exact OS bm l1 pl1 cl1 l2 pl2 cl2 lb h hl1 hl2
theorem Yc(bm:Nat)(l1:List Int)(pl1:Option Addr)(cl1:Nat)(l2:List Int)(pl2:Option Addr)(cl2:Nat)(l3:List Int)(pl3:Option Addr)(cl3:Nat)(lb:Nat){ml1 ml2 ml3:Nat}(h:SH B w (aU 72 1 (.slice (some ⟨lb,0,none⟩) 3 3) 3 ([.slice pl1 ml1 cl1,.slice pl2 ml2 cl2,.slice pl3 ml3 cl3])::bV 1 (.slice pl1 ml1 cl1) ml1 (l1.map (Value.int .i64))::bV 1 (.slice pl2 ml2 cl2) ml2 (l2.map (Value.int .i64))::bV 1 (.slice pl3 ml3 cl3) ml3 (l3.map (Value.int .i64))::L))(el1:l1.length=ml1)(el2:l2.length=ml2)(el3:l3.length=ml3)(hl1:l1.length<=1000000)(hl2:l2.length<=1000000)(hl3:l3.length<=1000000):
  Calls prog 270 #[.int .u64 (bm:Int),.slice (some ⟨lb,0,none⟩) 3 3] w λe w'=>∃q',e=.returned (.agg (aL {kind:=3,aD:=bm,aA:=l1++l2++l3} q').toArray)/\SH B w' (aM {kind:=3,aD:=bm,aA:=l1++l2++l3} q'::L):=by
 subst el1 el2 el3;exact DC bm l1 pl1 cl1 l2 pl2 cl2 l3 pl3 cl3 lb h hl1 hl2 hl3
theorem Xp{α:Type}{f:α->Value}(xs:List α)(k:Nat):(xs.map f).take (k*1)=(xs.take k).map f:=by rw[Nat.mul_one,List.map_take]
theorem FZ{n:Ct.Node}(hc:n.lO=true)(i:Int):Bm.aO n.aD i<=n.aA.length:=by rw[(hG hc).2];exact LR _ _
theorem RR{n:Ct.Node}{i r:Int}(hc:n.lO=true)(h0:0<=i)(h1:i<64)(hr:1<=r)(hh:Bm.has n.aD i=false):(Ct.aS n i r).1={kind:=3,aD:=Bm.cI n.aD i,aA:=n.aA.take (Bm.aO n.aD i)++[r]++n.aA.drop (Bm.aO n.aD i)}:=by unfold Ct.aS;rw[if_neg (by simp[hc,hh];omega)];simp
theorem qH(n:Ct.Node)(pb:Option Addr)(cb:Nat)(pp:Option Addr)(cp:Nat)(i r:Int)(h:SH B w (aM n (⟨pb,cb,pp,cp⟩)::L))(nf:NF n)(hc:n.lO=true)(h0:0<=i)(h1:i<64)(hr:1<=r)(hh:Bm.has n.aD i=false):
  Calls prog 279 #[.agg (aL n (⟨pb,cb,pp,cp⟩)).toArray,↑i,↑r] w λe w'=>∃q',e=.returned (.tuple #[.agg (aL (Ct.aS n i r).1 q').toArray,↑true])/\SH B w' (aM (Ct.aS n i r).1 q'::aM n ⟨pb,cb,pp,cp⟩::L):=by
 have nf_br:=nf.br
 have nf_pr:=nf.pr
 have nf_bm:=nf.bm
 have nf_hs:=nf.hs
 have nf_ks:=nf.ks
 have hpl:=FZ hc i
 have hwb:=Bm.iM n.aD i nf_bm
 refine bZ func279 ntmps279 h λw h=>?_
 refine jX h λb1 w h=>?_
 refine jA h λb2 w h=>?_
 refine bA (Et _ (⟨pb,cb,pp,cp⟩) _ h.to nf hc h0 h1) λw h=>?_
 refine cl (ca eF rfl) ((Ax n.aD i _ (by omega)).mono ?_)
 rintro _ _ ⟨rfl,rfl⟩
 refine⟨_,rfl,?_⟩
 refine st (pF rfl (mI (by omega)) rfl)<|xe<|nx<|cf rfl hh<|sk<|nx<|sq<|rg<|st (fa iS rfl)<|st (ld nC rfl (h.c a2 rfl))<|st (mv rfl)<|?_
 refine go h λw h=>?_
 refine cl (ca eF rfl) ((tE n.aD i _ (by omega)).mono ?_)
 rintro _ _ ⟨rfl,rfl⟩
 refine⟨_,rfl,?_⟩
 refine st (sg rfl)<|xe<|nx<|sq<|rg<|st (fa iS rfl)<|st (ld nC rfl (h.c a2 rfl))<|st (mv rfl)<|?_
 refine go h λw h=>?_
 refine cl (ca eF rfl) ((JO n.aD i _ (by omega)).mono ?_)
 rintro _ _ ⟨rfl,rfl⟩
 refine⟨_,rfl,?_⟩
 refine st (sg rfl)<|xe<|nx<|sq<|?_
 refine go h λw h=>?_
 have h:=SH.se (l:=[aY n (⟨pb,cb,pp,cp⟩),cH n (⟨pb,cb,pp,cp⟩)]) h
 have hcap:n.aA.length<=cb:=h.MS a0
 have h:=h.tl (k:=(Bm.aO n.aD i)) a0 (by omega)
 rw[Vb]at h
 have h:=h.cut (k:=(Bm.aO n.aD i)) a1 (by omega)
 rw[Xp]at h
 refine dZ [1,3,5,7,9,11,15,17,19,21,12,22,24,26,28] (by kernel_rfl) h (.c r5 .n) λw h=>go h λw h=>?_
 refine tk (λW H=>B4 (k:=(Bm.aO n.aD i)) fR.h Sz.h rfl rfl (by(try dsimp only);omega))<|go h λw h=>?_
 refine tk (λW H=>YD (k:=(Bm.aO n.aD i)) fR.h Sz.h rfl rfl (by(try dsimp only);omega) (by(try dsimp only);omega))<|go h λw h=>?_
 refine ff (bu [↑r] h fR.h Ss.h rfl (by kernel_rfl) rfl (by decide) (by decide)) ?_
 rintro _ w ⟨b3,rfl,h⟩
 refine gz h λw h=>?_
 refine ff (bu [.slice pb (Bm.aO n.aD i) cb,.slice (some ⟨b3,0,none⟩) 1 1,.slice (tl pb cb (Bm.aO n.aD i) 1) (n.aA.length-(Bm.aO n.aD i)) (cb-(Bm.aO n.aD i))] h fR.h Ss.h rfl (by kernel_rfl) rfl (by decide) (by decide)) ?_
 rintro _ w ⟨b4,rfl,h⟩
 refine gz h λw h=>?_
 have h:SH B w (bV 1 (.slice (some ⟨b3,0,none⟩) 1 1) 1 ([r].map (Value.int .i64))::aU 72 1 (.slice (some ⟨b4,0,none⟩) 3 3) 3 ([.slice pb (Bm.aO n.aD i) cb,.slice (some ⟨b3,0,none⟩) 1 1,.slice (tl pb cb (Bm.aO n.aD i) 1) (n.aA.length-(Bm.aO n.aD i)) (cb-(Bm.aO n.aD i))])::bV 1 (.slice pb (Bm.aO n.aD i) cb) (Bm.aO n.aD i) ((n.aA.take (Bm.aO n.aD i)).map (Value.int .i64))::bV 1 (.slice (tl pb cb (Bm.aO n.aD i) 1) (n.aA.length-(Bm.aO n.aD i)) (cb-(Bm.aO n.aD i))) (n.aA.length-(Bm.aO n.aD i)) ((n.aA.drop (Bm.aO n.aD i)).map (Value.int .i64))::bV 1 (.slice pb n.aA.length cb) n.aA.length (n.aA.map (Value.int .i64))::bV 2 (.slice pp n.aF.length cp) n.aF.length (n.aF.flatMap aR)::bl b2 ([.int .i64 0,.int .i64 0,.int .i64 0,.int .u64 0,.slice none 0 0,.int .u64 0,.string .empty,.int .u64 0,.slice none 0 0,.int .i64 0,.int .i64 0,.int .i64 0,.int .i64 0,.int .i64 0]) 90::bl b1 (aL n (⟨pb,cb,pp,cp⟩)) 90::L):=(h.fr (.c r1 .n)).fz
 refine lH (Yc (Bm.cI n.aD i) (n.aA.take (Bm.aO n.aD i)) _ _ [r] _ _ (n.aA.drop (Bm.aO n.aD i)) _ _ _ h.to (by rw[dF];exact Hg (by omega)) rfl (by rw[uZ]) (by first|omega|(simp;done)|(simp;omega)) (by first|omega|(simp;done)|(simp;omega)) (by first|omega|(simp;done)|(simp;omega))) λq5 w h=>?_
 refine rr (cL rfl rfl (h.b a3) Row.h rfl) ?_
 rw[RR hc h0 h1 hr hh]
 have h:=(h.fr (.c r3 (.c r3 .n))).drop.drop
 have h:=h.fr (.c r1 (.c r1 .n))
 exact⟨q5,rfl,(SH.is (l:=[aY n ⟨pb,cb,pp,cp⟩,cH n ⟨pb,cb,pp,cp⟩]) h).fr (.c r1 .n)⟩
theorem RL{n:Ct.Node}{i r:Int}(hc:n.lO=true)(h0:0<=i)(h1:i<64)(hr:1<=r)(hh:Bm.has n.aD i=true):(Ct.aP n i r).1={kind:=3,aD:=n.aD,aA:=n.aA.take (Bm.aO n.aD i)++[r]++n.aA.drop (Bm.aO n.aD i+1)}:=by unfold Ct.aP;rw[if_neg (by simp[hc,hh];omega)];simp
theorem AZ(n:Ct.Node)(pb:Option Addr)(cb:Nat)(pp:Option Addr)(cp:Nat)(i r:Int)(h:SH B w (aM n (⟨pb,cb,pp,cp⟩)::L))(nf:NF n)(hc:n.lO=true)(h0:0<=i)(h1:i<64)(hr:1<=r)(hh:Bm.has n.aD i=true):
  Calls prog 241 #[.agg (aL n (⟨pb,cb,pp,cp⟩)).toArray,↑i,↑r] w λe w'=>∃q',e=.returned (.tuple #[.agg (aL (Ct.aP n i r).1 q').toArray,↑true])/\SH B w' (aM (Ct.aP n i r).1 q'::aM n ⟨pb,cb,pp,cp⟩::L):=by
 have nf_br:=nf.br
 have nf_pr:=nf.pr
 have nf_bm:=nf.bm
 have nf_hs:=nf.hs
 have nf_ks:=nf.ks
 have hpl:=FZ hc i
 have hlt:Bm.aO n.aD i<n.aA.length:=by rw[(hG hc).2];exact Ij hh
 refine bZ func241 ntmps241 h λw h=>?_
 refine jX h λb1 w h=>?_
 refine jA h λb2 w h=>?_
 refine bA (Et _ (⟨pb,cb,pp,cp⟩) _ h.to nf hc h0 h1) λw h=>?_
 refine cl (ca eF rfl) ((Ax n.aD i _ (by omega)).mono ?_)
 rintro _ _ ⟨rfl,rfl⟩
 refine⟨_,rfl,?_⟩
 refine gT rfl rfl (mI (by omega))<|st (nt rfl)<|st (pF rfl (mI (by omega)) rfl)<|xe<|nx<|cf rfl (sZ hh)<|sk<|nx<|sq<|rg<|st (fa iS rfl)<|st (ld nC rfl (h.c a2 rfl))<|st (mv rfl)<|?_
 refine go h λw h=>?_
 refine cl (ca eF rfl) ((tE n.aD i _ (by omega)).mono ?_)
 rintro _ _ ⟨rfl,rfl⟩
 refine⟨_,rfl,?_⟩
 refine st (sg rfl)<|xe<|nx<|sq<|?_
 refine go h λw h=>?_
 have h:=SH.se (l:=[aY n (⟨pb,cb,pp,cp⟩),cH n (⟨pb,cb,pp,cp⟩)]) h
 have hcap:n.aA.length<=cb:=h.MS a0
 have h:=h.tl (k:=(Bm.aO n.aD i+1)) a0 (by omega)
 rw[Vb]at h
 have h:=h.cut (k:=(Bm.aO n.aD i)) a1 (by omega)
 rw[Xp]at h
 refine dZ [1,3,5,7,9,11,13,17,19,21,23,25,14,26,28,30,32] (by kernel_rfl) h (.c r5 .n) λw h=>go h λw h=>?_
 refine tk (λW H=>B4 (k:=(Bm.aO n.aD i)) fR.h Sz.h rfl rfl (by(try dsimp only);omega))<|go h λw h=>?_
 refine tk (λW H=>YD (k:=(Bm.aO n.aD i+1)) fR.h Sz.h rfl rfl (by(try dsimp only);omega) (by(try dsimp only);omega))<|go h λw h=>?_
 refine ff (bu [↑r] h fR.h Ss.h rfl (by kernel_rfl) rfl (by decide) (by decide)) ?_
 rintro _ w ⟨b3,rfl,h⟩
 refine gz h λw h=>?_
 refine ff (bu [.slice pb (Bm.aO n.aD i) cb,.slice (some ⟨b3,0,none⟩) 1 1,.slice (tl pb cb (Bm.aO n.aD i+1) 1) (n.aA.length-(Bm.aO n.aD i+1)) (cb-(Bm.aO n.aD i+1))] h fR.h Ss.h rfl (by kernel_rfl) rfl (by decide) (by decide)) ?_
 rintro _ w ⟨b4,rfl,h⟩
 refine gz h λw h=>?_
 have h:SH B w (bV 1 (.slice (some ⟨b3,0,none⟩) 1 1) 1 ([r].map (Value.int .i64))::aU 72 1 (.slice (some ⟨b4,0,none⟩) 3 3) 3 ([.slice pb (Bm.aO n.aD i) cb,.slice (some ⟨b3,0,none⟩) 1 1,.slice (tl pb cb (Bm.aO n.aD i+1) 1) (n.aA.length-(Bm.aO n.aD i+1)) (cb-(Bm.aO n.aD i+1))])::bV 1 (.slice pb (Bm.aO n.aD i) cb) (Bm.aO n.aD i) ((n.aA.take (Bm.aO n.aD i)).map (Value.int .i64))::bV 1 (.slice (tl pb cb (Bm.aO n.aD i+1) 1) (n.aA.length-(Bm.aO n.aD i+1)) (cb-(Bm.aO n.aD i+1))) (n.aA.length-(Bm.aO n.aD i+1)) ((n.aA.drop (Bm.aO n.aD i+1)).map (Value.int .i64))::bV 1 (.slice pb n.aA.length cb) n.aA.length (n.aA.map (Value.int .i64))::bV 2 (.slice pp n.aF.length cp) n.aF.length (n.aF.flatMap aR)::bl b2 ([.int .i64 0,.int .i64 0,.int .i64 0,.int .u64 0,.slice none 0 0,.int .u64 0,.string .empty,.int .u64 0,.slice none 0 0,.int .i64 0,.int .i64 0,.int .i64 0,.int .i64 0,.int .i64 0]) 90::bl b1 (aL n (⟨pb,cb,pp,cp⟩)) 90::L):=(h.fr (.c r1 .n)).fz
 refine lH (Yc n.aD (n.aA.take (Bm.aO n.aD i)) _ _ [r] _ _ (n.aA.drop (Bm.aO n.aD i+1)) _ _ _ h.to (by rw[dF];exact Hg (by omega)) rfl (by rw[uZ]) (by first|omega|(simp;done)|(simp;omega)) (by first|omega|(simp;done)|(simp;omega)) (by first|omega|(simp;done)|(simp;omega))) λq5 w h=>?_
 refine rr (cL rfl rfl (h.b a3) Row.h rfl) ?_
 rw[RL hc h0 h1 hr hh]
 have h:=(h.fr (.c r3 (.c r3 .n))).drop.drop
 have h:=h.fr (.c r1 (.c r1 .n))
 exact⟨q5,rfl,(SH.is (l:=[aY n ⟨pb,cb,pp,cp⟩,cH n ⟨pb,cb,pp,cp⟩]) h).fr (.c r1 .n)⟩
theorem P2{n:Ct.Node}{i:Int}(hc:n.lO=true)(h0:0<=i)(h1:i<64)(hh:Bm.has n.aD i=true):(Ct.bL n i).1={kind:=3,aD:=Bm.jD n.aD i,aA:=n.aA.take (Bm.aO n.aD i)++n.aA.drop (Bm.aO n.aD i+1)}:=by unfold Ct.bL;rw[if_neg (by simp[hc,hh];omega)]
theorem NX(n:Ct.Node)(pb:Option Addr)(cb:Nat)(pp:Option Addr)(cp:Nat)(i:Int)(h:SH B w (aM n (⟨pb,cb,pp,cp⟩)::L))(nf:NF n)(hc:n.lO=true)(h0:0<=i)(h1:i<64)(hh:Bm.has n.aD i=true):
  Calls prog 305 #[.agg (aL n (⟨pb,cb,pp,cp⟩)).toArray,↑i] w λe w'=>∃q',e=.returned (.tuple #[.agg (aL (Ct.bL n i).1 q').toArray,↑true])/\SH B w' (aM (Ct.bL n i).1 q'::aM n ⟨pb,cb,pp,cp⟩::L):=by
 have nf_br:=nf.br
 have nf_pr:=nf.pr
 have nf_bm:=nf.bm
 have nf_hs:=nf.hs
 have nf_ks:=nf.ks
 have hpl:=FZ hc i
 have hlt:Bm.aO n.aD i<n.aA.length:=by rw[(hG hc).2];exact Ij hh
 refine bZ func305 ntmps305 h λw h=>?_
 refine jX h λb1 w h=>?_
 refine jA h λb2 w h=>?_
 refine bA (Et _ (⟨pb,cb,pp,cp⟩) _ h.to nf hc h0 h1) λw h=>?_
 refine cl (ca eF rfl) ((Ax n.aD i _ (by omega)).mono ?_)
 rintro _ _ ⟨rfl,rfl⟩
 refine⟨_,rfl,?_⟩
 refine gT rfl rfl rfl<|st (nt rfl)<|st (pF rfl rfl rfl)<|xe<|nx<|cf rfl (sZ hh)<|sk<|nx<|sq<|rg<|st (fa iS rfl)<|st (ld nC rfl (h.c a2 rfl))<|st (mv rfl)<|?_
 refine go h λw h=>?_
 refine cl (ca eF rfl) ((tE n.aD i _ (by omega)).mono ?_)
 rintro _ _ ⟨rfl,rfl⟩
 refine⟨_,rfl,?_⟩
 refine st (sg rfl)<|xe<|nx<|sq<|rg<|st (fa iS rfl)<|st (ld nC rfl (h.c a2 rfl))<|st (mv rfl)<|?_
 refine go h λw h=>?_
 refine cl (ca eF rfl) ((CZ n.aD i _ (by omega)).mono ?_)
 rintro _ _ ⟨rfl,rfl⟩
 refine⟨_,rfl,?_⟩
 refine st (sg rfl)<|xe<|nx<|sq<|?_
 refine go h λw h=>?_
 have h:=SH.se (l:=[aY n (⟨pb,cb,pp,cp⟩),cH n (⟨pb,cb,pp,cp⟩)]) h
 have hcap:n.aA.length<=cb:=h.MS a0
 have h:=h.tl (k:=(Bm.aO n.aD i+1)) a0 (by omega)
 rw[Vb]at h
 have h:=h.cut (k:=(Bm.aO n.aD i)) a1 (by omega)
 rw[Xp]at h
 refine dZ [1,3,5,7,9,11,13,15,17,19,20,22,24,26] (by kernel_rfl) h (.c r5 .n) λw h=>go h λw h=>?_
 refine tk (λW H=>B4 (k:=(Bm.aO n.aD i)) fR.h Sz.h rfl rfl (by(try dsimp only);omega))<|go h λw h=>?_
 refine tk (λW H=>YD (k:=(Bm.aO n.aD i+1)) fR.h Sz.h rfl rfl (by(try dsimp only);omega) (by(try dsimp only);omega))<|go h λw h=>?_
 refine ff (bu [.slice pb (Bm.aO n.aD i) cb,.slice (tl pb cb (Bm.aO n.aD i+1) 1) (n.aA.length-(Bm.aO n.aD i+1)) (cb-(Bm.aO n.aD i+1))] h fR.h Ss.h rfl (by kernel_rfl) rfl (by decide) (by decide)) ?_
 rintro _ w ⟨b3,rfl,h⟩
 refine gz h λw h=>?_
 refine lH (k9 _ _ _ _ _ _ _ _ h.to (by rw[dF];exact Hg (by omega)) (by rw[uZ]) (by first|omega|(simp;done)|(simp;omega)) (by first|omega|(simp;done)|(simp;omega))) λq4 w h=>?_
 refine rr (cL rfl rfl (h.b a3) Row.h rfl) ?_
 rw[P2 hc h0 h1 hh]
 have h:=(h.fr (.c r3 (.c r3 .n))).drop.drop
 have h:=h.fr (.c r1 (.c r1 .n))
 exact⟨q4,rfl,(SH.is (l:=[aY n ⟨pb,cb,pp,cp⟩,cH n ⟨pb,cb,pp,cp⟩]) h).fr (.c r1 .n)⟩
end Go.Q9
end
section
namespace Go.Q9
open Go.Proofs.Tryz
open Go.RowKit
theorem sM{n:Nat}{w W:World}{b o:Nat}{v:Value}(hB:Below n w W)(hb:b<n)(h:w.cell? ⟨b,o,none⟩=some v):W.cell? ⟨b,o,none⟩=some v:=(World.cell?_of_block (hB.block b hb)).trans h
theorem zN{n:Nat}{a b c:World}(h1:Below n a b)(hn:n<=b.heap.size)(h2:Below b.heap.size b c):Below n a c:=h1.trans ⟨h2.os,h2.tape,h2.output,h2.size,λk hk=>h2.block k (by omega)⟩
def ZG(w:World)(p:Option Addr)(xs:List Ct.bN):Prop:=∀j,j<xs.length->∃b off,p=some ⟨b,off,none⟩/\b<w.heap.size/\w.cell? ⟨b,off+j*2,none⟩=some (.string (Ct.iE xs j).key)/\w.cell? ⟨b,off+j*2+1,none⟩=some (.int .u64 ((Ct.iE xs j).value:Nat))
theorem Le(a b:ByteArray)(w:World):
  Calls prog 253 #[↑a,↑b] w λe w'=>e=.returned (.int .i64 (Lib.compareBytes a.data.toList b.data.toList))/\w=w':=by
 go_enter func253,ntmps253
 go_wp2
 rw[run_callFunc_extern func282 (by kernel_rfl) (by kernel_rfl) (by kernel_rfl) (e:=Extern.BytealgCompare.compare) (by kernel_rfl),Lib.run_compareString]
 simp only[Result.andThen]
 rw[Oper.upon_value]
 go_wp2
 go_ret
 exact⟨rfl,rfl⟩
theorem Ey(a b:ByteArray)(w:World):
  Calls prog 204 #[↑a,↑b] w λe w'=>e=.returned (.int .i64 (Lib.compareBytes a.data.toList b.data.toList))/\w=w':=by
 go_enter func204,ntmps204
 go_wp2_with (go_at_call 253;refine(Le _ _ _).mono ?_;rintro e w' ⟨rfl,rfl⟩)
 go_ret
 exact⟨rfl,rfl⟩
theorem Eb(k:ByteArray)(v:Nat)(key:ByteArray)(w:World):
  Calls prog 203 #[.agg #[↑k,.int .u64 (v:Nat)],↑key] w λe w'=>e=.returned (.int .i64 (Lib.compareBytes k.data.toList key.data.toList))/\Below w.heap.size w w':=by
 go_enter func203,ntmps203
 go_wp2_with (go_at_call 204;refine(Ey _ _ _).mono ?_;rintro e w' ⟨rfl,rfl⟩)
 go_ret
 exact⟨rfl,(Below.refl _ _).alloc (JV _) _⟩
theorem LF(w:World)(p:Option Addr)(cap:Nat)(xs:List Ct.bN)(key:ByteArray)(hc:ZG w p xs)(hl:xs.length<=1000000000000)(hv:Ct.aQ xs=true):
  Calls prog 202 #[.slice p xs.length cap,↑key,.func (.func 203) #[] #[]] w λe w'=>e=.returned (.tuple #[.int .i64 (Ct.aZ xs key:Nat),.bool (Ct.iZ xs key)])/\Below w.heap.size w w':=by
 have HC:=Lib.hid hc;have HV:=Lib.hid hv
 have hent:∀args w,(callFunc 203 args).run prog w=.ok (.enter 203 args) w:=Go.Proofs.enters_of func203 (by kernel_rfl) rfl
 clear hc hv
 go_enter func202,ntmps202
 go_wp2_with fail
 go_loopw [9,10] (λa b W=>∃i j:Nat,i<=j/\j<=xs.length/\a=.int .i64 (i:Int)/\b=.int .i64 (j:Int)/\(∀m,m<i->Ct.dM (Ct.iE xs m).key key=true)/\(∀m,j<=m->m<xs.length->Ct.dM (Ct.iE xs m).key key=false)/\Below w.heap.size w W) (λa b _=>(intOf b).toNat -(intOf a).toNat)
 case atStart=>exact⟨0,xs.length,by omega,by omega,rfl,rfl,λm hm=>by omega,λm h1 h2=>by omega,Below.refl _ _⟩
 case round=>
  obtain⟨i,j,hij,hj,rfl,rfl,hlo,hhi,hB⟩:=hrel
  have HLO:=Lib.hid hlo;have HHI:=Lib.hid hhi
  clear hlo hhi
  by_cases hlt:i<j
  ·have hh:(i+j)/2<xs.length:=by omega
   obtain⟨b,off,rfl,hb,c0,c1⟩:=HC.out _ hh
   have d0:=sM hB hb c0;have d1:=sM hB hb c1
   clear c0 c1
   have HCP:=Lib.hid (Eb (Ct.iE xs ((i+j)/2)).key (Ct.iE xs ((i+j)/2)).value key)
   have E2:=Lib.hid (show ((i:Int)+j)/2=(((i+j)/2:Nat):Int) by omega)
   cases hk:Ct.dM (Ct.iE xs ((i+j)/2)).key key with
   |true=>
    have HLO2:=Lib.hid (show ∀m,m<(i+j)/2+1->Ct.dM (Ct.iE xs m).key key=true from λm hm=>Ct.Ul HV.out (by omega) hh hk)
    have hneg:=(Ct.vX _ _).1 hk
    clear hk
    generalize Lib.compareBytes (Ct.iE xs ((i+j)/2)).key.data.toList key.data.toList=C at HCP hneg
    go_wp2_with (go_at_call 203;refine(HCP.out _).mono ?_;rintro e w1 ⟨rfl,hb1⟩)
    go_roundw
    case rel=>exact⟨(i+j)/2+1,j,by omega,hj,by rw[E2.out];go_num,rfl,HLO2.out,HHI.out,zN hB hB.size hb1⟩
    case measure=>simp[intOf];omega
   |false=>
    have HHI2:=Lib.hid (show ∀m,(i+j)/2<=m->m<xs.length->Ct.dM (Ct.iE xs m).key key=false from λm h1 hm=>Ct.BW HV.out h1 hm hk)
    have hneg:¬Lib.compareBytes (Ct.iE xs ((i+j)/2)).key.data.toList key.data.toList<0:=λhn=>by rw[(Ct.vX _ _).2 hn]at hk;cases hk
    clear hk
    generalize Lib.compareBytes (Ct.iE xs ((i+j)/2)).key.data.toList key.data.toList=C at HCP hneg
    go_wp2_with (go_at_call 203;refine(HCP.out _).mono ?_;rintro e w1 ⟨rfl,hb1⟩)
    go_roundw
    case rel=>exact⟨i,(i+j)/2,by omega,by omega,rfl,by rw[E2.out],HLO.out,HHI2.out,zN hB hB.size hb1⟩
    case measure=>simp[intOf];omega
  ·obtain rfl:i=j:=by omega
   have HP:=Lib.hid (Ct.Ny xs key i hj HLO.out HHI.out)
   by_cases hin:i<xs.length
   ·obtain⟨b,off,rfl,hb,c0,c1⟩:=HC.out _ hin
    have d0:=sM hB hb c0;have d1:=sM hB hb c1
    clear c0 c1
    have HCP:=Lib.hid (Eb (Ct.iE xs i).key (Ct.iE xs i).value key)
    have HPH:=Lib.hid (show Ct.iZ xs key=(Lib.compareBytes (Ct.iE xs i).key.data.toList key.data.toList==0) by
     unfold Ct.iZ
     rw[HP.out,Bool.eq_iff_iff]
     simp only[Qb,fU,Ct.JP,mQ,hin,true_and])
    generalize Lib.compareBytes (Ct.iE xs i).key.data.toList key.data.toList=C at HCP HPH
    go_wp2_with (go_at_call 203;refine(HCP.out _).mono ?_;rintro e w1 ⟨rfl,hb1⟩)
    go_ret2
    exact⟨by rw[HP.out,HPH.out];rfl,zN hB hB.size hb1⟩
   ·have HPH:=Lib.hid (show Ct.iZ xs key=false by unfold Ct.iZ;rw[HP.out];simp[hin])
    go_wp2_with fail
    go_ret2
    exact⟨by rw[HP.out,HPH.out];rfl,hB⟩
end Go.Q9
end
