/- Parts of a proof: Rp, Q1, Q2. -/
import Derived.Test.YtnhdmcipglnkfaaGreatW19
import Derived.Test.YtnhdmcipglnkfaaGreatW24
set_option linter.unusedVariables false
set_option linter.unusedSimpArgs false
set_option maxRecDepth 100000
set_option maxHeartbeats 4000000
section
namespace Go.Q9
open Go.Proofs.Tryz
open Go.RowKit Go.E
attribute [local irreducible] gB wpS Go.E.X XS C jU kP fin Y U F Ca jT bl rb aU bV ex ce pu sK gK bK zK
variable{B w:World}{L:List As}
theorem Ry(xb mb:Nat)(x:Ct.X)(t:Ct.bC)(i m:Int)(h:SH B w (XA xb mb x::L))(k:Ct.Ok 30 x):
  Calls prog 178 #[↑xb,.agg (cU t).toArray,↑i,↑m] w λe w'=>∃y v,Ct.aX (Ct.wQ t i m) x=Ct.out y v/\e=.returned (.int .i64 v)/\SH B w' (XA xb mb y::L)/\Ct.Ok 60 y:=by
 refine bZ func178 ntmps178 h λw h=>?_
 refine jX h λb1 w h=>?_
 refine cG (aN xb mb x m h.to k.dR) λp2 w h=>?_
 have h:=h.drop
 refine dE (mU xb mb x ((x.node m).prev) h.to (k.less (by omega))) λy3 v4 q5 w h k=>?_
 refine st (ld (v:=.bool y3.e.aC) One.h rfl (h.xc a0 λ_=>rfl))<|go h λw h=>?_
 refine qg h (λhd6 w h=>?_) λhd6 w h=>?_
 exact rz ⟨_,_,Ct.rN<|Ct.rL q5<|Ct.rS hd6,rfl,h.to,(k.stop hd6)⟩
 refine qc h (λhd7 w h=>?_) λhd7 w h=>?_
 exact rz ⟨_,_,Ct.rN<|Ct.rL q5<|Ct.rT hd7<|Ct.rR,rfl,h.to,(k.less (by omega))⟩
 refine cG (aN xb mb y3 v4 h.to k.dR) λp10 w h=>?_
 have h:=h.drop
 refine bA (Sj (y3.node v4) p10 h.to) λw h=>?_
 refine qc h (λhd11 w h=>?_) λhd11 w h=>?_
 refine qc h (λhd12 w h=>?_) λhd12 w h=>?_
 have hd13:t.readOnly=false:=by simpa using hd12
 refine dE (PW xb mb y3 t h.to (k.less (by omega))) λy14 v15 q16 w h k=>?_
 refine cG (aN xb mb y14 v15 h.to k.dR) λp17 w h=>?_
 have h:=h.drop
 refine cG (aN xb mb y14 i h.to k.dR) λp18 w h=>?_
 have h:=h.drop
 refine qc h (λhd19 w h=>?_) λhd19 w h=>?_
 refine cG (aN xb mb y14 m h.to k.dR) λp21 w h=>?_
 have h:=h.drop
 refine dE (nQ xb mb y14 ((y14.node m).prev) v4 0 h.to (k.less (by omega))) λy22 v23 q24 w h k=>?_
 refine cG (aN xb mb y22 m h.to k.dR) λp25 w h=>?_
 have h:=h.drop
 refine dE (mU xb mb y22 ((y22.node m).prev) h.to (k.less (by omega))) λy26 v27 q28 w h k=>?_
 refine st (ld (v:=.bool y26.e.aC) One.h rfl (h.xc a0 λ_=>rfl))<|go h λw h=>?_
 refine qg h (λhd29 w h=>?_) λhd29 w h=>?_
 exact rz ⟨_,_,Ct.rN<|Ct.rL q5<|Ct.rF hd7<|Ct.rN<|Ct.rT hd11<|Ct.rF hd13<|Ct.rB q16<|Ct.rN<|Ct.rN<|Ct.rT hd19<|Ct.rN<|Ct.rC q24<|Ct.rN<|Ct.rL q28<|Ct.rS hd29,rfl,h.to,(k.stop hd29)⟩
 refine qc h (λhd30 w h=>?_) λhd30 w h=>?_
 exact rz ⟨_,_,Ct.rN<|Ct.rL q5<|Ct.rF hd7<|Ct.rN<|Ct.rT hd11<|Ct.rF hd13<|Ct.rB q16<|Ct.rN<|Ct.rN<|Ct.rT hd19<|Ct.rN<|Ct.rC q24<|Ct.rN<|Ct.rL q28<|Ct.rT hd30<|Ct.rR,rfl,h.to,(k.less (by omega))⟩
 refine cG (aN xb mb y26 i h.to k.dR) λp33 w h=>?_
 have h:=h.drop
 refine cG (aN xb mb y26 v27 h.to k.dR) λp34 w h=>?_
 have h:=h.drop
 refine dE (nQ xb mb y26 ((y26.node i).main) m ((y26.node v27).dC) h.to (k.less (by omega))) λy35 v36 q37 w h k=>?_
 refine cG (aN xb mb y35 v27 h.to k.dR) λp38 w h=>?_
 have h:=h.drop
 exact rz ⟨_,_,Ct.rN<|Ct.rL q5<|Ct.rF hd7<|Ct.rN<|Ct.rT hd11<|Ct.rF hd13<|Ct.rB q16<|Ct.rN<|Ct.rN<|Ct.rT hd19<|Ct.rN<|Ct.rC q24<|Ct.rN<|Ct.rL q28<|Ct.rF hd30<|Ct.rN<|Ct.rN<|Ct.rC q37<|Ct.rN<|Ct.rR,rfl,h.to,(k.less (by omega))⟩
 refine cG (aN xb mb y14 m h.to k.dR) λp40 w h=>?_
 have h:=h.drop
 refine dE (dS (j:=59) xb mb y14 ({kind:=7,dC:=v4}) {} 0 (SH.eE ({kind:=7,dC:=v4}) rfl rfl h.to) (k.less (by omega)) (Ct.bG _ 7 0 v4 0 0)) λy41 v42 q43 w h ⟨k,hly41⟩=>?_
 refine dE (nQ xb mb y41 ((y14.node m).prev) v4 v42 h.to (k.less (by omega))) λy44 v45 q46 w h k=>?_
 refine cG (aN xb mb y44 m h.to k.dR) λp47 w h=>?_
 have h:=h.drop
 refine dE (mU xb mb y44 ((y44.node m).prev) h.to (k.less (by omega))) λy48 v49 q50 w h k=>?_
 refine st (ld (v:=.bool y48.e.aC) One.h rfl (h.xc a0 λ_=>rfl))<|go h λw h=>?_
 refine qg h (λhd51 w h=>?_) λhd51 w h=>?_
 exact rz ⟨_,_,Ct.rN<|Ct.rL q5<|Ct.rF hd7<|Ct.rN<|Ct.rT hd11<|Ct.rF hd13<|Ct.rB q16<|Ct.rN<|Ct.rN<|Ct.rF hd19<|Ct.rN<|Ct.rA q43<|Ct.rC q46<|Ct.rN<|Ct.rL q50<|Ct.rS hd51,rfl,h.to,(k.stop hd51)⟩
 refine qc h (λhd52 w h=>?_) λhd52 w h=>?_
 exact rz ⟨_,_,Ct.rN<|Ct.rL q5<|Ct.rF hd7<|Ct.rN<|Ct.rT hd11<|Ct.rF hd13<|Ct.rB q16<|Ct.rN<|Ct.rN<|Ct.rF hd19<|Ct.rN<|Ct.rA q43<|Ct.rC q46<|Ct.rN<|Ct.rL q50<|Ct.rT hd52<|Ct.rR,rfl,h.to,(k.less (by omega))⟩
 refine cG (aN xb mb y48 i h.to k.dR) λp55 w h=>?_
 have h:=h.drop
 refine cG (aN xb mb y48 v49 h.to k.dR) λp56 w h=>?_
 have h:=h.drop
 refine dE (nQ xb mb y48 ((y48.node i).main) m ((y48.node v49).dC) h.to (k.less (by omega))) λy57 v58 q59 w h k=>?_
 refine cG (aN xb mb y57 v49 h.to k.dR) λp60 w h=>?_
 have h:=h.drop
 exact rz ⟨_,_,Ct.rN<|Ct.rL q5<|Ct.rF hd7<|Ct.rN<|Ct.rT hd11<|Ct.rF hd13<|Ct.rB q16<|Ct.rN<|Ct.rN<|Ct.rF hd19<|Ct.rN<|Ct.rA q43<|Ct.rC q46<|Ct.rN<|Ct.rL q50<|Ct.rF hd52<|Ct.rN<|Ct.rN<|Ct.rC q59<|Ct.rN<|Ct.rR,rfl,h.to,(k.less (by omega))⟩
 have hd61:t.readOnly=true:=by simpa using hd12
 refine cG (aN xb mb y3 m h.to k.dR) λp62 w h=>?_
 have h:=h.drop
 refine dE (dS (j:=89) xb mb y3 ({kind:=7,dC:=v4}) {} 0 (SH.eE ({kind:=7,dC:=v4}) rfl rfl h.to) (k.less (by omega)) (Ct.bG _ 7 0 v4 0 0)) λy63 v64 q65 w h ⟨k,hly63⟩=>?_
 refine dE (nQ xb mb y63 ((y3.node m).prev) v4 v64 h.to (k.less (by omega))) λy66 v67 q68 w h k=>?_
 refine cG (aN xb mb y66 m h.to k.dR) λp69 w h=>?_
 have h:=h.drop
 refine dE (mU xb mb y66 ((y66.node m).prev) h.to (k.less (by omega))) λy70 v71 q72 w h k=>?_
 refine st (ld (v:=.bool y70.e.aC) One.h rfl (h.xc a0 λ_=>rfl))<|go h λw h=>?_
 refine qg h (λhd73 w h=>?_) λhd73 w h=>?_
 exact rz ⟨_,_,Ct.rN<|Ct.rL q5<|Ct.rF hd7<|Ct.rN<|Ct.rT hd11<|Ct.rT hd61<|Ct.rN<|Ct.rA q65<|Ct.rC q68<|Ct.rN<|Ct.rL q72<|Ct.rS hd73,rfl,h.to,(k.stop hd73)⟩
 refine qc h (λhd74 w h=>?_) λhd74 w h=>?_
 exact rz ⟨_,_,Ct.rN<|Ct.rL q5<|Ct.rF hd7<|Ct.rN<|Ct.rT hd11<|Ct.rT hd61<|Ct.rN<|Ct.rA q65<|Ct.rC q68<|Ct.rN<|Ct.rL q72<|Ct.rT hd74<|Ct.rR,rfl,h.to,(k.less (by omega))⟩
 refine cG (aN xb mb y70 i h.to k.dR) λp77 w h=>?_
 have h:=h.drop
 refine cG (aN xb mb y70 v71 h.to k.dR) λp78 w h=>?_
 have h:=h.drop
 refine dE (nQ xb mb y70 ((y70.node i).main) m ((y70.node v71).dC) h.to (k.less (by omega))) λy79 v80 q81 w h k=>?_
 refine cG (aN xb mb y79 v71 h.to k.dR) λp82 w h=>?_
 have h:=h.drop
 exact rz ⟨_,_,Ct.rN<|Ct.rL q5<|Ct.rF hd7<|Ct.rN<|Ct.rT hd11<|Ct.rT hd61<|Ct.rN<|Ct.rA q65<|Ct.rC q68<|Ct.rN<|Ct.rL q72<|Ct.rF hd74<|Ct.rN<|Ct.rN<|Ct.rC q81<|Ct.rN<|Ct.rR,rfl,h.to,(k.less (by omega))⟩
 refine cG (aN xb mb y3 i h.to k.dR) λp83 w h=>?_
 have h:=h.drop
 refine cG (aN xb mb y3 v4 h.to k.dR) λp84 w h=>?_
 have h:=h.drop
 refine dE (nQ xb mb y3 ((y3.node i).main) m ((y3.node v4).dC) h.to (k.less (by omega))) λy85 v86 q87 w h k=>?_
 refine cG (aN xb mb y85 v4 h.to k.dR) λp88 w h=>?_
 have h:=h.drop
 exact rz ⟨_,_,Ct.rN<|Ct.rL q5<|Ct.rF hd7<|Ct.rN<|Ct.rF hd11<|Ct.rN<|Ct.rN<|Ct.rC q87<|Ct.rN<|Ct.rR,rfl,h.to,(k.less (by omega))⟩
theorem hU(xb mb:Nat)(x:Ct.X)(t:Ct.bC)(i:Int)(h:SH B w (XA xb mb x::L))(k:Ct.Ok 30 x):
  Calls prog 145 #[↑xb,.agg (cU t).toArray,↑i] w λe w'=>∃y v,Ct.aX (Ct.oJ t i) x=Ct.out y v/\e=.returned (.int .i64 v)/\SH B w' (XA xb mb y::L)/\Ct.Ok 60 y:=by
 refine bZ func145 ntmps145 h λw h=>?_
 refine jX h λb1 w h=>?_
 refine dZ [1,3,5,7,9,11,12,15,16,18,20] (by kernel_rfl) h (.c r0 .n) λw h=>go h λw h=>?_
 refine lH (aN _ _ _ _ h.to k.dR) λp2 w h=>?_
 have h:=h.drop
 refine go h λw h=>?_
 refine mF (mU _ _ _ _ h.to (k.less (by omega))) λy3 v4 q5 w h k=>?_
 refine mF (Ry _ _ _ _ _ _ h.to (k.less (by omega))) λy6 v7 q8 w h k=>?_
 exact rz ⟨_,_,Ct.rN<|Ct.rL q5<|q8,rfl,h.to,k⟩
theorem Yd(xb mb:Nat)(x:Ct.X)(t:Ct.bC)(i:Int)(h:SH B w (XA xb mb x::L))(k:Ct.Ok 30 x):
  Calls prog 182 #[↑xb,.agg (cU t).toArray,↑i] w λe w'=>∃y v,Ct.aX (Ct.vR t i) x=Ct.out y v/\e=.returned (.tuple #[])/\SH B w' (XA xb mb y::L)/\Ct.Ok 60 y:=by
 refine bZ func182 ntmps182 h λw h=>?_
 refine jX h λb1 w h=>?_
 refine dZ [1,3,5,7,15,17,8,11,12,18,21,23] (by kernel_rfl) h (.c r0 .n) λw h=>go h λw h=>?_
 refine lH (aN _ _ _ _ h.to k.dR) λp2 w h=>?_
 have h:=h.drop
 refine go h λw h=>?_
 refine mF (hU _ _ _ _ _ h.to (k.less (by omega))) λy3 v4 q5 w h k=>?_
 refine lH (aN _ _ _ _ h.to k.dR) λp6 w h=>?_
 have h:=h.drop
 refine go h λw h=>?_
 refine qc h (λhd7 w h=>?_) λhd7 w h=>?_
 have hg8:=eq_of_beq hd7
 refine go h λw h=>?_
 refine cG (aN _ _ _ _ h.to k.dR) λp9 w h=>?_
 have h:=h.drop
 refine go h λw h=>?_
 refine dE (nQ _ _ _ _ _ _ h.to (k.less (by omega))) λy10 v11 q12 w h k=>?_
 refine rn (rK results182)<|go h λw h=>?_
 refine⟨_,(),Ct.rN<|Ct.rB q5<|Ct.rN<|Ct.rT hd7<|Ct.rN<|Ct.rC q12<|Ct.rR,rfl,h.to,(k.less (by omega))⟩
 have hg13:=dP hd7
 refine go h λw h=>?_
 refine cG (aN _ _ _ _ h.to k.dR) λp14 w h=>?_
 have h:=h.drop
 refine go h λw h=>?_
 refine dE (nQ _ _ _ _ _ _ h.to (k.less (by omega))) λy15 v16 q17 w h k=>?_
 refine rn (rK results182)<|go h λw h=>?_
 refine⟨_,(),Ct.rN<|Ct.rB q5<|Ct.rN<|Ct.rF hd7<|Ct.rN<|Ct.rC q17<|Ct.rR,rfl,h.to,(k.less (by omega))⟩
theorem nV(xb mb:Nat)(x:Ct.X)(t:Ct.bC)(h:SH B w (XA xb mb x::L))(k:Ct.Ok 30 x):
  Calls prog 147 #[↑xb,.agg (cU t).toArray] w λe w'=>∃y v,Ct.aX (Ct.tV t) x=Ct.out y v/\e=.returned (.int .i64 v)/\SH B w' (XA xb mb y::L)/\Ct.Ok 60 y:=by
 refine bZ func147 ntmps147 h λw h=>?_
 refine jX h λb1 w h=>?_
 refine dE (mU _ _ _ _ h.to (k.less (by omega))) λy2 v3 q4 w h k=>?_
 refine st (ld (v:=.bool y2.e.aC) One.h rfl (h.xc a0 λ_=>rfl))<|go h λw h=>?_
 refine qg h (λhd5 w h=>?_) λhd5 w h=>?_
 exact rz ⟨_,_,Ct.rL q4<|Ct.rS hd5,rfl,h.to,(k.stop hd5)⟩
 refine cG (aN _ _ _ _ h.to k.dR) λp6 w h=>?_
 have h:=h.drop
 refine qc h (λhd7 w h=>?_) λhd7 w h=>?_
 exact rz ⟨_,_,Ct.rL q4<|Ct.rN<|Ct.rT hd7<|Ct.rR,rfl,h.to,(k.less (by omega))⟩
 refine cG (aN _ _ _ _ h.to k.dR) λp10 w h=>?_
 have h:=h.drop
 refine dE (mU _ _ _ _ h.to (k.less (by omega))) λy11 v12 q13 w h k=>?_
 refine qc h (λhd14 w h=>?_) λhd14 w h=>?_
 refine dE (Yd _ _ _ _ _ h.to (k.less (by omega))) λy16 v17 q18 w h k=>?_
 refine cG (aN _ _ _ _ h.to k.dR) λp19 w h=>?_
 have h:=h.drop
 refine dE (mU _ _ _ _ h.to (k.less (by omega))) λy20 v21 q22 w h k=>?_
 refine Pv (pC _ _ _ _ _ h.to k) λv23 q24 w h=>?_
 refine dE (nQ _ _ _ _ _ _ h.to (k.less (by omega))) λy25 v26 q27 w h k=>?_
 exact rz ⟨_,_,Ct.rL q4<|Ct.rN<|Ct.rF hd7<|Ct.rN<|Ct.rL q13<|Ct.rT hd14<|Ct.rB q18<|Ct.rN<|Ct.rL q22<|Ct.rB q24<|Ct.rC q27<|Ct.rR,rfl,h.to,(k.less (by omega))⟩
 refine Pv (pC _ _ _ _ _ h.to k) λv29 q30 w h=>?_
 refine dE (nQ _ _ _ _ _ _ h.to (k.less (by omega))) λy31 v32 q33 w h k=>?_
 exact rz ⟨_,_,Ct.rL q4<|Ct.rN<|Ct.rF hd7<|Ct.rN<|Ct.rL q13<|Ct.rF hd14<|Ct.rB q30<|Ct.rC q33<|Ct.rR,rfl,h.to,(k.less (by omega))⟩
theorem gH(xb mb:Nat)(x:Ct.X)(t:Ct.bC)(i o n:Int)(h:SH B w (XA xb mb x::L))(k:Ct.Ok 30 x):
  Calls prog 146 #[↑xb,.agg (cU t).toArray,↑i,↑o,↑n] w λe w'=>∃y v,Ct.aX (Ct.mE t i o n) x=Ct.out y v/\e=.returned (.bool v)/\SH B w' (XA xb mb y::L)/\Ct.Ok 60 y:=by
 refine bZ func146 ntmps146 h λw h=>?_
 refine jX h λb1 w h=>?_
 refine cG (aN _ _ _ _ h.to k.dR) λp2 w h=>?_
 have h:=h.drop
 refine go h λw h=>?_
 refine dE (nQ _ _ _ _ _ _ h.to (k.less (by omega))) λy3 v4 q5 w h k=>?_
 refine qc h (λhd6 w h=>?_) λhd6 w h=>?_
 have hd7:v4=false:=by simpa using hd6
 refine go h λw h=>?_
 exact rz ⟨_,false,Ct.rN<|Ct.rC q5<|Ct.rF hd7<|Ct.rR,rfl,h.to,(k.less (by omega))⟩
 have hd8:v4=true:=by simpa using hd6
 refine go h λw h=>?_
 refine dE (Ry _ _ _ _ _ _ h.to (k.less (by omega))) λy9 v10 q11 w h k=>?_
 refine st (ld (v:=.bool y9.e.aC) One.h rfl (h.xc a0 λ_=>rfl))<|go h λw h=>?_
 refine qg h (λhd12 w h=>?_) λhd12 w h=>?_
 have hd13:y9.e.aC=false:=by simpa using hd12
 refine go h λw h=>?_
 exact rz ⟨_,((v10:Int)==n),Ct.rN<|Ct.rC q5<|Ct.rT hd8<|Ct.rB q11<|Ct.rR,rfl,h.to,k⟩
 have hd14:y9.e.aC=true:=by simpa using hd12
 refine go h λw h=>?_
 exact rz ⟨_,false,Ct.rN<|Ct.rC q5<|Ct.rT hd8<|Ct.rB q11<|Ct.rS hd14,rfl,h.to,(k.stop hd14)⟩
theorem No(xb mb:Nat)(x:Ct.X)(t:Ct.bC)(o m n:Int)(h:SH B w (XA xb mb x::L))(k:Ct.Ok 30 x):
  Calls prog 148 #[↑xb,.agg (cU t).toArray,↑o,↑m,↑n] w λe w'=>∃y v,Ct.aX (Ct.Dn t o m n) x=Ct.out y v/\e=.returned (.bool v)/\SH B w' (XA xb mb y::L)/\Ct.Ok 60 y:=by
 refine bZ func148 ntmps148 h λw h=>?_
 refine jX h λb1 w h=>?_
 refine dE (dS (j:=29) xb mb x ({kind:=8,dC:=o,aK:=m,new:=n}) {} 0 (SH.eE ({kind:=8,dC:=o,aK:=m,new:=n}) rfl rfl h.to) (k.less (by omega)) (Ct.bG _ 8 0 o m n)) λy2 v3 q4 w h ⟨k,hly2⟩=>?_
 refine dE (nQ xb mb y2 t.root o v3 h.to (k.less (by omega))) λy5 v6 q7 w h k=>?_
 refine qc h (λhd8 w h=>?_) λhd8 w h=>?_
 have hd9:v6=false:=by simpa using hd8
 refine go h λw h=>?_
 exact rz ⟨_,false,Ct.rA q4<|Ct.rC q7<|Ct.rF hd9<|Ct.rR,rfl,h.to,(k.less (by omega))⟩
 have hd10:v6=true:=by simpa using hd8
 refine go h λw h=>?_
 refine dE (Yd xb mb y5 t v3 h.to (k.less (by omega))) λy11 v12 q13 w h k=>?_
 refine cG (aN xb mb y11 v3 h.to k.dR) λp14 w h=>?_
 have h:=h.drop
 refine go h λw h=>?_
 refine dE (mU xb mb y11 ((y11.node v3).status) h.to (k.less (by omega))) λy15 v16 q17 w h k=>?_
 refine dZ [1,3,5,7,9,11,13,14,16] (by kernel_rfl) h (.c r1 .n) λw h=>go h λw h=>?_
 refine B5 (pC xb mb y15 v3 v16 h.to k) λv18 q19 w h=>?_
 refine mF (nQ xb mb y15 t.root v3 v18 h.to (k.less (by omega))) λy20 v21 q22 w h k=>?_
 refine st (ld (v:=.bool y20.e.aC) One.h rfl (h.xc a0 λ_=>rfl))<|go h λw h=>?_
 refine qg h (λhd23 w h=>?_) λhd23 w h=>?_
 have hd24:y20.e.aC=false:=by simpa using hd23
 refine go h λw h=>?_
 exact rz ⟨_,((v16:Int)==1),Ct.rA q4<|Ct.rC q7<|Ct.rT hd10<|Ct.rB q13<|Ct.rN<|Ct.rL q17<|Ct.rB q19<|Ct.rC q22<|Ct.rR,rfl,h.to,(k.less (by omega))⟩
 have hd25:y20.e.aC=true:=by simpa using hd23
 refine go h λw h=>?_
 exact rz ⟨_,false,Ct.rA q4<|Ct.rC q7<|Ct.rT hd10<|Ct.rB q13<|Ct.rN<|Ct.rL q17<|Ct.rB q19<|Ct.rC q22<|Ct.rS hd25,rfl,h.to,(k.stop hd25)⟩
end Go.Q9
end
section
namespace Go.Q9
open Go.Proofs.Tryz
open Go.RowKit Go.E Go.Ct
attribute [local irreducible] gB wpS Go.E.X XS C jU kP fin Y U F Ca jT bl rb aU bV ex ce pu sK gK bK zK
variable{B w:World}{L:List As}
theorem uG{j:Nat}(xb mb:Nat)(x:Ct.X)(cr ix r:Int)(h:SH B w (XA xb mb x::L))(k:Ct.Ok (j+1) x):
  Calls prog 186 #[↑xb,↑cr,↑ix,↑r] w λe w'=>∃y v,Ct.aX (Ct.nU cr ix r) x=Ct.out y v/\e=.returned (.int .i64 v)/\SH B w' (XA xb mb y::L)/\Ct.Ok j y:=by
 have hlen:=k.len
 refine bZ func186 ntmps186 h λw h=>?_
 refine cG (aN _ _ _ _ h.to k.dR) λp1 w h=>?_
 have f2:=k.lN cr
 have bf2:=k.len
 refine go h λw h=>?_
 refine cG (Bc _ _ _ _ h.to (Ct.Node.Fit.nf f2 (by omega))) λq3 w h=>?_
 refine jA h λb4 w h=>?_
 refine dE (dS (j:=j) _ _ _ _ _ _ ((SH.Gs h.to .z).fr (.c r0 (.c r1 .n))) k ((Ct.fH f2 ix r).mono (by omega))) λy5 v6 q7 w h ⟨k,hly5⟩=>?_
 have lq7:=Ct.Gq q7
 refine go h λw h=>?_
 exact rz ⟨_,_,Ct.rN<|Ct.rA q7<|Ct.rR,rfl,h.to,k⟩
theorem JL(xb mb:Nat)(x:Ct.X)(t:Ct.bC)(i cr ix:Int)(h:SH B w (XA xb mb x::L))(k:Ct.Ok 30 x):
  Calls prog 149 #[↑xb,.agg (cU t).toArray,↑i,↑cr,↑ix] w λe w'=>∃y v,Ct.aX (Ct.Hx t i cr ix) x=Ct.out y v/\e=.returned (.int .i64 v)/\SH B w' (XA xb mb y::L)/\Ct.Ok 60 y:=by
 refine bZ func149 ntmps149 h λw h=>?_
 refine jX h λb1 w h=>?_
 refine cG (aN xb mb x cr h.to k.dR) λp2 w h=>?_
 have f3:=k.lN cr
 have bf3:=k.len
 refine go h λw h=>?_
 refine bA (fG (x.node cr) p2.pb p2.cb p2.pp p2.cp ix h.to (Ct.Node.Fit.nf f3 (by omega))) λw h=>?_
 refine dE (hU xb mb x t (Ct.aB (x.node cr) ix).1 h.to (k.less (by omega))) λy4 v5 q6 w h k=>?_
 refine cG (aN xb mb y4 i h.to k.dR) λp7 w h=>?_
 refine dE (dS (j:=59) xb mb y4 ({kind:=2,gen:=(y4.node i).gen}) {} v5 (SH.eE ({kind:=2,gen:=(y4.node i).gen}) rfl rfl h.to) (k.less (by omega)) (Ct.bG _ 2 (y4.node i).gen 0 0 0)) λy9 v10 q11 w h ⟨k,hly9⟩=>?_
 refine dZ [1,3,5,7,9,11,13,15,16,18] (by kernel_rfl) h (.c r3 .n) λw h=>go h λw h=>?_
 refine mF (uG (j:=58) xb mb y9 cr ix v10 h.to (k.less (by omega))) λy12 v13 q14 w h k=>?_
 refine mF (gH xb mb y12 t i cr v13 h.to (k.less (by omega))) λy15 v16 q17 w h k=>?_
 refine qc h (λhd18 w h=>?_) λhd18 w h=>?_
 exact rz ⟨_,v10,Ct.rN<|Ct.rB q6<|Ct.rN<|Ct.rA q11<|Ct.rB q14<|Ct.rB q17<|Ct.rT hd18<|Ct.rR,rfl,h.to,k⟩
 exact rz ⟨_,0,Ct.rN<|Ct.rB q6<|Ct.rN<|Ct.rA q11<|Ct.rB q14<|Ct.rB q17<|Ct.rF hd18<|Ct.rR,rfl,h.to,k⟩
theorem rI(xb mb:Nat)(x:Ct.X)(t:Ct.bC)(i cr:Int)(h0:Nat)(lv:Int)(h:SH B w (XA xb mb x::L))(k:Ct.Ok 30 x)(hh:h0<18446744073709551616):
  Calls prog 150 #[↑xb,.agg (cU t).toArray,↑i,↑cr,.int .u64 (h0:Int),↑lv] w λe w'=>∃y v,Ct.aX (Ct.yF t i cr h0 lv) x=Ct.out y v/\e=.returned (.bool v)/\SH B w' (XA xb mb y::L)/\Ct.Ok 60 y:=by
 refine bZ func150 ntmps150 h λw h=>?_
 refine jX h λb1 w h=>?_
 refine dE (hU _ _ _ _ _ h.to (k.less (by omega))) λy2 v3 q4 w h k=>?_
 refine cl (ca eF rfl) ((eH h0 lv _ (by omega)).mono ?_)
 rintro _ _ ⟨rfl,rfl⟩
 refine⟨_,rfl,?_⟩
 refine st (sg rfl)<|xe<|nx<|sq<|sq<|rg<|st (mv rfl)<|st (mv rfl)<|?_
 refine cG (aN _ _ _ _ h.to k.dR) λp5 w h=>?_
 have f6:=k.lN v3
 have bf6:=k.len
 refine go h λw h=>?_
 refine bA (fG _ _ _ _ _ _ h.to (Ct.Node.Fit.nf f6 (by omega))) λw h=>?_
 refine st (ld (v:=.bool y2.e.aC) One.h rfl (h.xc a1 λ_=>rfl))<|go h λw h=>?_
 refine qg h (λhd7 w h=>?_) λhd7 w h=>?_
 exact rz ⟨_,false,Ct.rB q4<|Ct.rN<|Ct.rS hd7,rfl,h.to,(k.stop hd7)⟩
 refine qg h (λhd8 w h=>?_) λhd8 w h=>?_
 have hd9:(Ct.aB (y2.node v3) (Ct.slice h0 lv)).2=false:=by simpa using hd8
 exact rz ⟨_,false,Ct.rB q4<|Ct.rN<|Ct.Zo hd9<|Ct.rR,rfl,h.to,k⟩
 have hd10:(Ct.aB (y2.node v3) (Ct.slice h0 lv)).2=true:=by simpa using hd8
 refine qc h (λhd11 w h=>?_) λhd11 w h=>?_
 exact rz ⟨_,false,Ct.rB q4<|Ct.rN<|Ct.wF hd10<|Ct.rT hd11<|Ct.rR,rfl,h.to,k⟩
 refine dE (hU _ _ _ _ _ h.to (k.less (by omega))) λy14 v15 q16 w h k=>?_
 refine cG (aN _ _ _ _ h.to k.dR) λp17 w h=>?_
 have f18:=k.lN v15
 refine cG (Lj _ _ h.to) λq19 w h=>?_
 refine jA h λb20 w h=>?_
 refine st (ld (v:=.bool y14.e.aC) One.h rfl (h.xc a3 λ_=>rfl))<|go h λw h=>?_
 refine qg h (λhd21 w h=>?_) λhd21 w h=>?_
 exact rz ⟨_,false,Ct.rB q4<|Ct.rN<|Ct.wF hd10<|Ct.rF hd11<|Ct.rB q16<|Ct.rN<|Ct.rS hd21,rfl,h.to,(k.stop hd21)⟩
 refine qc h (λhd22 w h=>?_) λhd22 w h=>?_
 have hd23:(Ct.aT (y14.node v15)).2=false:=by simpa using hd22
 exact rz ⟨_,false,Ct.rB q4<|Ct.rN<|Ct.wF hd10<|Ct.rF hd11<|Ct.rB q16<|Ct.rN<|Ct.Zo hd23<|Ct.rR,rfl,h.to,k⟩
 have hd24:(Ct.aT (y14.node v15)).2=true:=by simpa using hd22
 refine dE (dS (j:=59) _ _ _ _ _ _ ((SH.Gs h.to .z).fr (.c r0 (.c r1 .n))) (k.less (by omega)) ((Ct.tL f18).mono (by omega))) λy25 v26 q27 w h ⟨k,hly25⟩=>?_
 refine cG (aN _ _ _ _ h.to k.dR) λp28 w h=>?_
 have f29:=k.lN v3
 have bf29:=k.len
 refine go h λw h=>?_
 refine cG (Bc _ _ _ _ h.to (Ct.Node.Fit.nf f29 (by omega))) λq30 w h=>?_
 refine jA h λb31 w h=>?_
 refine dZ [1,3,5,7,9,11,13,15,19,16,20,22,24] (by kernel_rfl) h (.c r8 (.c r0 (.c r4 .n))) λw h=>go h λw h=>?_
 refine lH (jC _ _ _ _ _ h.to (Ct.Node.Fit.nf (Ct.fH f29 (Ct.slice h0 lv) v26) (by omega))) λq32 w h=>?_
 refine mF (dS (j:=58) _ _ _ _ _ _ ((SH.Gs h.to .z).fr (.c r0 (.c r1 .n))) (k.less (by omega)) (Ct.fA ((Ct.fH f29 (Ct.slice h0 lv) v26).mono (by omega)) ((Ct.tL f18).mono (by omega)) lv)) λy33 v34 q35 w h ⟨k,hly33⟩=>?_
 refine mF (gH _ _ _ _ _ _ _ h.to (k.less (by omega))) λy36 v37 q38 w h k=>?_
 exact rz ⟨_,v37,Ct.rB q4<|Ct.rN<|Ct.wF hd10<|Ct.rF hd11<|Ct.rB q16<|Ct.rN<|Ct.wF hd24<|Ct.rA q27<|Ct.rN<|Ct.rA q35<|q38,rfl,h.to,k⟩
end Go.Q9
end
section
namespace Go.Q9
open Go.Proofs.Tryz
open Go.RowKit Go.E Go.Ct
attribute [local irreducible] gB wpS Go.E.X XS C jU kP fin Y U F Ca jT bl rb aU bV ex ce pu sK gK bK zK
variable{B w:World}{L:List As}
theorem dJ(f:Bool)(v:Nat)(h:SH B w (L)):
  Calls prog 190 #[↑f,.int .u64 (v:Int)] w λe w'=>e=.returned (.agg (xC (Ct.cC f v)).toArray)/\SH B w' L:=by
 refine bZ func190 ntmps190 h λw h=>?_
 refine jA h λb1 w h=>?_
 exact rr (bP rfl rfl (h.b a0) Row.h)<|⟨rfl,h.drop⟩
theorem qE(xb mb:Nat)(x:Ct.X)(c:Ct.Call)(f:Bool)(v:Nat)(h:SH B w (XA xb mb (Ct.X.of c x)::L)):
  Calls prog 215 #[↑xb,↑f,.int .u64 (v:Int)] w λe w'=>e=.returned (.bool (Ct.cS c f v))/\SH B w' (XA xb mb (Ct.X.of c x)::L):=by
 refine bZ func215 ntmps215 h λw h=>?_
 refine st (ld (v:=.int .i64 c.bF) One.h rfl (h.xc a0 λ_=>rfl))<|go h λw h=>?_
 refine qc h (λhd1 w h=>?_) λhd1 w h=>?_
 refine rz ?_
 refine⟨?_,h⟩
 unfold Ct.cS;simp[Cd,hd1]
 refine qc h (λhd4 w h=>?_) λhd4 w h=>?_
 refine rz ?_
 refine⟨?_,h⟩
 unfold Ct.cS;simp[Cd,hd1,hd4]
 refine qc h (λhd7 w h=>?_) λhd7 w h=>?_
 refine qg h (λhd9 w h=>?_) λhd9 w h=>?_
 refine st (ld (v:=.int .u64 (c.expect:Int)) One.h rfl (h.xc a0 λ_=>rfl))<|go h λw h=>?_
 refine rz ?_
 refine⟨?_,h⟩
 unfold Ct.cS;simp[Cd,hd1,hd4,hd7,hd9]
 refine rz ?_
 refine⟨?_,h⟩
 unfold Ct.cS;simp[Cd,hd1,hd4,hd7,hd9]
 refine rz ?_
 refine⟨?_,h⟩
 unfold Ct.cS;simp[Cd,hd1,hd4,hd7]
theorem eM(p:Value)(ok f:Bool)(v:Nat)(h:SH B w (L)):
  Calls prog 217 #[p,↑ok,↑f,.int .u64 (v:Int)] w λe w'=>e=.returned (.tuple #[.agg (xC (Ct.dL f v)).toArray,.int .i64 (bif ok then 1 else 0)])/\SH B w' L:=by
 refine bZ func217 ntmps217 h λw h=>?_
 refine jA h λb1 w h=>?_
 refine bA (dJ _ _ h.to) λw h=>?_
 refine jA h λb2 w h=>?_
 refine qc h (λhd3 w h=>?_) λhd3 w h=>?_
 have hd4:ok=false:=by simpa using hd3
 refine go h λw h=>?_
 refine rr (cL rfl rfl (h.b a1) Row.h rfl) ?_
 exact⟨by rw[show ok=false by simpa using hd3];rfl,h.drop.drop⟩
 have hd5:ok=true:=by simpa using hd3
 refine go h λw h=>?_
 refine rr (cL rfl rfl (h.b a1) Row.h rfl) ?_
 exact⟨by rw[show ok=true by simpa using hd3];rfl,h.drop.drop⟩
theorem QA(xb mb:Nat)(x:Ct.X)(c:Ct.Call)(F:Nat)(h:SH B w (XA xb mb (Ct.X.of c x)::L))(k:Ct.Ok 60 (Ct.X.of c x))(hx:(Ct.X.of c x).left<=F)(hF:F<=1000000000000)(hm:c.aI<18446744073709551616)(hky:c.key.size<=9223372036854775807):
  Calls prog 151 #[↑xb] w λe w'=>∃y v,Ct.aX (Ct.tH c F) (Ct.X.of c x)=Ct.out y v/\e=.returned (.agg (xC v).toArray)/\SH B w' (XA xb mb y::L)/\Ct.Ok 60 y:=by
 have hh:=Ct.eI c.key c.aI
 have hlen:=k.len
 refine bZ func151 ntmps151 h λw h=>?_
 refine jA h λb1 w h=>?_
 refine XL (F:=[XA xb mb (Ct.X.of c x)]) [1,3,5,7,9,11,13,15,17,19,21,23,25,27,29] 15 16 [32,34,36] [30,34,36] (by kernel_rfl) h (λw h=>(hC (h.at_ a1) hN)) λw h=>go h λw h=>?_
 refine tk (λW H=>gJ (cs:=cU c.aE) rfl (H.xr 2 a0 λ_=>rfl) Row.h)<|go h λw h=>?_
 refine tk (λW H=>ld (v:=.string c.key) One.h rfl (H.xc a0 λ_=>rfl))<|go h λw h=>?_
 refine tk (λW H=>ld (v:=.int .u64 (c.aI:Int)) One.h rfl (H.xc a0 λ_=>rfl))<|go h λw h=>?_
 refine YJ ?_ ?_
 refine cs (ca eF rfl) ((pA c.key c.aI _ (by omega) (by omega)).mono ?_)
 rintro _ _ ⟨rfl,rfl⟩
 refine⟨_,rfl,(hC (h.at_ a1) hN),?_⟩
 refine go h λw h=>?_
 refine jB h λb2 w h=>?_
 have kb3:=k
 refine dE (nV _ _ _ _ h.to (k.less (by omega))) λy4 v5 q6 w h k=>?_
 obtain⟨z7,rfl⟩:=Ct.mB q6
 have lq6:=Ct.nY q6
 have ltq6:=Ct.pY kb3 (by omega) q6
 refine go h λw h=>?_
 refine lp (α:=Ct.X×Nat×Int×Int) (λρ=>(.c 0 ↑xb (.c 2 ↑b1 (.c 3 ↑b2 (.c 4 (.int .u64 ((Ct.aH c.key c.aI:Nat):Int)) (.c 5 (.int .i64 ρ.2.2.1) (.c 6 (.int .i64 ρ.2.2.2) .n))))))) (λρ w=>SH B w (XA xb mb (Ct.X.of c ρ.1)::bl b2 (cU c.aE) 35::bl b1 ([.int .i64 0,↑false,.int .u64 0,.string .empty,.int .i64 0,.int .i64 0,.int .i64 0,↑false]) 49::L)/\(Ct.aX (Ct.tH c F) (Ct.X.of c x)=Ct.aX (Ct.Mp c.aE c.key (Ct.aH c.key c.aI) ρ.2.1 ρ.2.2.1 ρ.2.2.2) (Ct.X.of c ρ.1))/\(Ct.Ok 60 (Ct.X.of c ρ.1))/\((Ct.X.of c ρ.1).e.aC=true\/(Ct.X.of c ρ.1).left<ρ.2.1)/\(0<=ρ.2.2.2/\ρ.2.2.2+(ρ.2.1:Int)<=(F:Int))) (λρ=>ρ.2.1) (z7,F,v5,0) ⟨rfl,rfl,rfl,rfl,rfl,rfl,trivial⟩ ⟨h,(Ct.rB q6<|rfl),k,(ltq6.imp id λh=>by have:=h.2;(try dsimp only);omega),⟨by(try dsimp only);omega,by(try dsimp only);omega⟩⟩ ?_
 rintro⟨y,n,i,l⟩ w ⟨h,hq,k,hn,hl⟩
 dsimp only at *
 refine go h λw h=>?_
 refine st (ld (v:=.bool (Ct.X.of c y).e.aC) One.h rfl (h.xc a0 λ_=>rfl))<|go h λw h=>?_
 refine qc h (λhd8 w h=>?_) λhd8 w h=>?_
 have hd9:(Ct.X.of c y).e.aC=false:=by simpa using hd8
 refine go h λw h=>?_
 obtain⟨n,rfl⟩:∃k,n=k+1:=⟨n-1,by have:=hn.resolve_left (by rw[hd9];decide);omega⟩
 replace hn:=hn.resolve_left (by rw[hd9];decide)
 refine go h λw h=>?_
 have kb10:=k
 refine dE (hU _ _ _ _ _ h.to (k.less (by omega))) λy11 v12 q13 w h k=>?_
 obtain⟨z14,rfl⟩:=Ct.mB q13
 have lq13:=Ct.nY q13
 have ltq13:=Ct.oK kb10 q13
 refine go h λw h=>?_
 refine cG (aN _ _ _ _ h.to k.dR) λp15 w h=>?_
 have f16:=k.lN v12
 have bf16:=k.len
 refine go h λw h=>?_
 refine jA h λb17 w h=>?_
 refine qc h (λhd18 w h=>?_) λhd18 w h=>?_
 have hg19:=eq_of_beq hd18
 refine go h λw h=>?_
 refine dZ [1,3,5,7,9,11,13,15] (by kernel_rfl) h (.c r0 (.c r1 .n)) λw h=>go h λw h=>?_
 refine tk (λW H=>ld (v:=.string c.key) One.h rfl (H.xc a1 λ_=>rfl))<|go h λw h=>?_
 refine qc h (λhd20 w h=>?_) λhd20 w h=>?_
 refine bA (dJ _ _ h.to) λw h=>?_
 exact rr (bP rfl rfl (h.b a4) Row.h)<|⟨_,Ct.cC true ((Ct.X.of c z14).node v12).value,hq.trans<|Ct.rB q13<|Ct.rN<|Ct.rT hd18<|Ct.rT hd20<|Ct.rR,rfl,h.to,k⟩
 refine bA (dJ _ _ h.to) λw h=>?_
 exact rr (bP rfl rfl (h.b a4) Row.h)<|⟨_,Ct.cC false 0,hq.trans<|Ct.rB q13<|Ct.rN<|Ct.rT hd18<|Ct.rF hd20<|Ct.rR,rfl,h.to,k⟩
 have hg21:=dP hd18
 refine go h λw h=>?_
 refine qc h (λhd22 w h=>?_) λhd22 w h=>?_
 have hg23:=eq_of_beq hd22
 refine go h λw h=>?_
 have h:=h.fr (.c r1 .n)
 have h:=SH.se (l:=[aY ((Ct.X.of c z14).node v12) p15,cH ((Ct.X.of c z14).node v12) p15]) h
 have hpv:=(Ct.fJ (((Ct.Node.Fit.nf f16 (by omega))).v6 (eq_of_beq hd22))).kG (eq_of_beq hd22)
 have hpl:=((Ct.Node.Fit.nf f16 (by omega))).pr
 refine dZ [1,3,5,7,9,11,13,14,17,19,21,22,24] (by kernel_rfl) h (.c r2 (.c r2 .n)) λw h=>go h λw h=>?_
 refine tk (λW H=>ld (v:=.string c.key) One.h rfl (H.xc a1 λ_=>rfl))<|go h λw h=>?_
 refine gO (oY _ _ _ _ h.to hpv (by omega)) λw h=>?_
 refine bA (dJ _ _ h.to) λw h=>?_
 exact rr (bP rfl rfl (h.b a5) Row.h)<|⟨_,Ct.cC (Ct.bB ((Ct.X.of c z14).node v12).aF c.key).2 (Ct.bB ((Ct.X.of c z14).node v12).aF c.key).1,hq.trans<|Ct.rB q13<|Ct.rN<|Ct.rF hd18<|Ct.rT hd22<|Ct.rR,rfl,h.to,k⟩
 have hg24:=dP hd22
 refine go h λw h=>?_
 refine dZ [1,3,5,6,8,11,13,15,16,18] (by kernel_rfl) h (.c r0 .n) λw h=>go h λw h=>?_
 refine cs (ca eF rfl) ((eH (Ct.aH c.key c.aI) l _ (by omega)).mono ?_)
 rintro _ _ ⟨rfl,rfl⟩
 refine⟨_,rfl,h.hs (.c r0 .n),?_⟩
 refine go h λw h=>?_
 refine gO (fG _ _ _ _ _ _ h.to (Ct.Node.Fit.nf f16 (by omega))) λw h=>?_
 refine st (ld (v:=.bool (Ct.X.of c z14).e.aC) One.h rfl (h.xc a2 λ_=>rfl))<|go h λw h=>?_
 refine qg h (λhd25 w h=>?_) λhd25 w h=>?_
 refine bA (dJ _ _ h.to) λw h=>?_
 exact rr (bP rfl rfl (h.b a4) Row.h)<|⟨_,Ct.cC false 0,hq.trans<|Ct.rB q13<|Ct.rN<|Ct.rF hd18<|Ct.rF hd22<|Ct.rS hd25,rfl,h.to,(k.stop hd25)⟩
 refine qc h (λhd26 w h=>?_) λhd26 w h=>?_
 have hd27:(Ct.aB ((Ct.X.of c z14).node v12) (Ct.slice (Ct.aH c.key c.aI) l)).2=false:=by simpa using hd26
 refine go h λw h=>?_
 refine bA (dJ _ _ h.to) λw h=>?_
 exact rr (bP rfl rfl (h.b a4) Row.h)<|⟨_,Ct.cC false 0,hq.trans<|Ct.rB q13<|Ct.rN<|Ct.rF hd18<|Ct.rF hd22<|Ct.Zo hd27<|Ct.rR,rfl,h.to,k⟩
 have hd28:(Ct.aB ((Ct.X.of c z14).node v12) (Ct.slice (Ct.aH c.key c.aI) l)).2=true:=by simpa using hd26
 refine go h λw h=>?_
 refine cG (aN _ _ _ _ h.to k.dR) λp29 w h=>?_
 have f30:=k.lN (Ct.aB ((Ct.X.of c z14).node v12) (Ct.slice (Ct.aH c.key c.aI) l)).1
 have bf30:=k.len
 refine go h λw h=>?_
 refine jA h λb31 w h=>?_
 refine qc h (λhd32 w h=>?_) λhd32 w h=>?_
 have hg33:=eq_of_beq hd32
 refine go h λw h=>?_
 refine dZ [1,3,5,7,9,11,13,15] (by kernel_rfl) h (.c r0 (.c r1 .n)) λw h=>go h λw h=>?_
 refine tk (λW H=>ld (v:=.string c.key) One.h rfl (H.xc a1 λ_=>rfl))<|go h λw h=>?_
 refine qc h (λhd34 w h=>?_) λhd34 w h=>?_
 refine bA (dJ _ _ h.to) λw h=>?_
 exact rr (bP rfl rfl (h.b a6) Row.h)<|⟨_,Ct.cC true ((Ct.X.of c z14).node (Ct.aB ((Ct.X.of c z14).node v12) (Ct.slice (Ct.aH c.key c.aI) l)).1).value,hq.trans<|Ct.rB q13<|Ct.rN<|Ct.rF hd18<|Ct.rF hd22<|Ct.wF hd28<|Ct.rN<|Ct.rT hd32<|Ct.rT hd34<|Ct.rR,rfl,h.to,k⟩
 refine bA (dJ _ _ h.to) λw h=>?_
 exact rr (bP rfl rfl (h.b a6) Row.h)<|⟨_,Ct.cC false 0,hq.trans<|Ct.rB q13<|Ct.rN<|Ct.rF hd18<|Ct.rF hd22<|Ct.wF hd28<|Ct.rN<|Ct.rT hd32<|Ct.rF hd34<|Ct.rR,rfl,h.to,k⟩
 have hg35:=dP hd32
 refine go h λw h=>?_
 refine st (ba (l+1))<|go h λw h=>?_
 exact⟨(z14,n,(Ct.aB ((Ct.X.of c z14).node v12) (Ct.slice (Ct.aH c.key c.aI) l)).1,l+1),⟨rfl,rfl,rfl,rfl,rfl,rfl,trivial⟩,⟨h.to,(hq.trans<|Ct.rB q13<|Ct.rN<|Ct.rF hd18<|Ct.rF hd22<|Ct.wF hd28<|Ct.rN<|Ct.rF hd32<|rfl),k,(.inr (by have:=(ltq13.resolve_left (by rw[hd25];decide)).2;(try dsimp only);omega)),⟨by(try dsimp only);omega,by(try dsimp only);omega⟩⟩,by(try dsimp only);omega⟩
 have hd36:(Ct.X.of c y).e.aC=true:=by simpa using hd8
 refine go h λw h=>?_
 exact rr (bP rfl rfl (h.b a2) Row.h)<|⟨_,{},hq.trans<|Ct.rS hd36,rfl,h.to,(k.stop hd36)⟩
 refine jB h λb37 w h=>?_
 refine cs (ca eF rfl) ((pA c.key c.aI _ (by omega) (by omega)).mono ?_)
 rintro _ _ ⟨rfl,rfl⟩
 refine⟨_,rfl,(hC (h.at_ a2) hN),?_⟩
 refine ff (so h rfl rfl rfl Ba rfl (.r (.r .d)) u0)<|?_
 rintro _ w h
 refine⟨(hC (h.at_ a2) hN),?_⟩
 refine ef (sg rfl) ((hC (h.at_ a2) hN))<|xz<|nx<|sq<|rg<|st (mv rfl)<|st (gJ rfl (dK (h.b a0)) xP)<|?_
 refine go h λw h=>?_
 have kb38:=k
 refine dE (nV _ _ _ _ h.to (k.less (by omega))) λy39 v40 q41 w h k=>?_
 obtain⟨z42,rfl⟩:=Ct.mB q41
 have lq41:=Ct.nY q41
 have ltq41:=Ct.pY kb38 (by omega) q41
 refine go h λw h=>?_
 refine lp (α:=Ct.X×Nat×Int×Int) (λρ=>(.c 0 ↑xb (.c 2 ↑b1 (.c 3 ↑b37 (.c 4 (.int .u64 ((Ct.aH c.key c.aI:Nat):Int)) (.c 5 (.int .i64 ρ.2.2.1) (.c 6 (.int .i64 ρ.2.2.2) .n))))))) (λρ w=>SH B w (XA xb mb (Ct.X.of c ρ.1)::bl b37 (cU c.aE) 35::bl b1 ([.int .i64 0,↑false,.int .u64 0,.string .empty,.int .i64 0,.int .i64 0,.int .i64 0,↑false]) 49::L)/\(Ct.aX (Ct.tH c F) (Ct.X.of c x)=Ct.aX (Ct.Mp c.aE c.key (Ct.aH c.key c.aI) ρ.2.1 ρ.2.2.1 ρ.2.2.2) (Ct.X.of c ρ.1))/\(Ct.Ok 60 (Ct.X.of c ρ.1))/\((Ct.X.of c ρ.1).e.aC=true\/(Ct.X.of c ρ.1).left<ρ.2.1)/\(0<=ρ.2.2.2/\ρ.2.2.2+(ρ.2.1:Int)<=(F:Int))) (λρ=>ρ.2.1) (z42,F,v40,0) ⟨rfl,rfl,rfl,rfl,rfl,rfl,trivial⟩ ⟨h,(Ct.rB q41<|rfl),k,(ltq41.imp id λh=>by have:=h.2;(try dsimp only);omega),⟨by(try dsimp only);omega,by(try dsimp only);omega⟩⟩ ?_
 rintro⟨y,n,i,l⟩ w ⟨h,hq,k,hn,hl⟩
 dsimp only at *
 refine go h λw h=>?_
 refine st (ld (v:=.bool (Ct.X.of c y).e.aC) One.h rfl (h.xc a0 λ_=>rfl))<|go h λw h=>?_
 refine qc h (λhd43 w h=>?_) λhd43 w h=>?_
 have hd44:(Ct.X.of c y).e.aC=false:=by simpa using hd43
 refine go h λw h=>?_
 obtain⟨n,rfl⟩:∃k,n=k+1:=⟨n-1,by have:=hn.resolve_left (by rw[hd44];decide);omega⟩
 replace hn:=hn.resolve_left (by rw[hd44];decide)
 refine go h λw h=>?_
 have kb45:=k
 refine dE (hU _ _ _ _ _ h.to (k.less (by omega))) λy46 v47 q48 w h k=>?_
 obtain⟨z49,rfl⟩:=Ct.mB q48
 have lq48:=Ct.nY q48
 have ltq48:=Ct.oK kb45 q48
 refine go h λw h=>?_
 refine cG (aN _ _ _ _ h.to k.dR) λp50 w h=>?_
 have f51:=k.lN v47
 have bf51:=k.len
 refine go h λw h=>?_
 refine jA h λb52 w h=>?_
 refine qc h (λhd53 w h=>?_) λhd53 w h=>?_
 have hg54:=eq_of_beq hd53
 refine go h λw h=>?_
 refine dZ [1,3,5,7,9,11,13,15] (by kernel_rfl) h (.c r0 (.c r1 .n)) λw h=>go h λw h=>?_
 refine tk (λW H=>ld (v:=.string c.key) One.h rfl (H.xc a1 λ_=>rfl))<|go h λw h=>?_
 refine qc h (λhd55 w h=>?_) λhd55 w h=>?_
 refine bA (dJ _ _ h.to) λw h=>?_
 exact rr (bP rfl rfl (h.b a4) Row.h)<|⟨_,Ct.cC true ((Ct.X.of c z49).node v47).value,hq.trans<|Ct.rB q48<|Ct.rN<|Ct.rT hd53<|Ct.rT hd55<|Ct.rR,rfl,h.to,k⟩
 refine bA (dJ _ _ h.to) λw h=>?_
 exact rr (bP rfl rfl (h.b a4) Row.h)<|⟨_,Ct.cC false 0,hq.trans<|Ct.rB q48<|Ct.rN<|Ct.rT hd53<|Ct.rF hd55<|Ct.rR,rfl,h.to,k⟩
 have hg56:=dP hd53
 refine go h λw h=>?_
 refine qc h (λhd57 w h=>?_) λhd57 w h=>?_
 have hg58:=eq_of_beq hd57
 refine go h λw h=>?_
 have h:=h.fr (.c r1 .n)
 have h:=SH.se (l:=[aY ((Ct.X.of c z49).node v47) p50,cH ((Ct.X.of c z49).node v47) p50]) h
 have hpv:=(Ct.fJ (((Ct.Node.Fit.nf f51 (by omega))).v6 (eq_of_beq hd57))).kG (eq_of_beq hd57)
 have hpl:=((Ct.Node.Fit.nf f51 (by omega))).pr
 refine dZ [1,3,5,7,9,11,13,14,17,19,21,22,24] (by kernel_rfl) h (.c r2 (.c r2 .n)) λw h=>go h λw h=>?_
 refine tk (λW H=>ld (v:=.string c.key) One.h rfl (H.xc a1 λ_=>rfl))<|go h λw h=>?_
 refine gO (oY _ _ _ _ h.to hpv (by omega)) λw h=>?_
 refine bA (dJ _ _ h.to) λw h=>?_
 exact rr (bP rfl rfl (h.b a5) Row.h)<|⟨_,Ct.cC (Ct.bB ((Ct.X.of c z49).node v47).aF c.key).2 (Ct.bB ((Ct.X.of c z49).node v47).aF c.key).1,hq.trans<|Ct.rB q48<|Ct.rN<|Ct.rF hd53<|Ct.rT hd57<|Ct.rR,rfl,h.to,k⟩
 have hg59:=dP hd57
 refine go h λw h=>?_
 refine dZ [1,3,5,6,8,11,13,15,16,18] (by kernel_rfl) h (.c r0 .n) λw h=>go h λw h=>?_
 refine cs (ca eF rfl) ((eH (Ct.aH c.key c.aI) l _ (by omega)).mono ?_)
 rintro _ _ ⟨rfl,rfl⟩
 refine⟨_,rfl,h.hs (.c r0 .n),?_⟩
 refine go h λw h=>?_
 refine gO (fG _ _ _ _ _ _ h.to (Ct.Node.Fit.nf f51 (by omega))) λw h=>?_
 refine st (ld (v:=.bool (Ct.X.of c z49).e.aC) One.h rfl (h.xc a2 λ_=>rfl))<|go h λw h=>?_
 refine qg h (λhd60 w h=>?_) λhd60 w h=>?_
 refine bA (dJ _ _ h.to) λw h=>?_
 exact rr (bP rfl rfl (h.b a4) Row.h)<|⟨_,Ct.cC false 0,hq.trans<|Ct.rB q48<|Ct.rN<|Ct.rF hd53<|Ct.rF hd57<|Ct.rS hd60,rfl,h.to,(k.stop hd60)⟩
 refine qc h (λhd61 w h=>?_) λhd61 w h=>?_
 have hd62:(Ct.aB ((Ct.X.of c z49).node v47) (Ct.slice (Ct.aH c.key c.aI) l)).2=false:=by simpa using hd61
 refine go h λw h=>?_
 refine bA (dJ _ _ h.to) λw h=>?_
 exact rr (bP rfl rfl (h.b a4) Row.h)<|⟨_,Ct.cC false 0,hq.trans<|Ct.rB q48<|Ct.rN<|Ct.rF hd53<|Ct.rF hd57<|Ct.Zo hd62<|Ct.rR,rfl,h.to,k⟩
 have hd63:(Ct.aB ((Ct.X.of c z49).node v47) (Ct.slice (Ct.aH c.key c.aI) l)).2=true:=by simpa using hd61
 refine go h λw h=>?_
 refine cG (aN _ _ _ _ h.to k.dR) λp64 w h=>?_
 have f65:=k.lN (Ct.aB ((Ct.X.of c z49).node v47) (Ct.slice (Ct.aH c.key c.aI) l)).1
 have bf65:=k.len
 refine go h λw h=>?_
 refine jA h λb66 w h=>?_
 refine qc h (λhd67 w h=>?_) λhd67 w h=>?_
 have hg68:=eq_of_beq hd67
 refine go h λw h=>?_
 refine dZ [1,3,5,7,9,11,13,15] (by kernel_rfl) h (.c r0 (.c r1 .n)) λw h=>go h λw h=>?_
 refine tk (λW H=>ld (v:=.string c.key) One.h rfl (H.xc a1 λ_=>rfl))<|go h λw h=>?_
 refine qc h (λhd69 w h=>?_) λhd69 w h=>?_
 refine bA (dJ _ _ h.to) λw h=>?_
 exact rr (bP rfl rfl (h.b a6) Row.h)<|⟨_,Ct.cC true ((Ct.X.of c z49).node (Ct.aB ((Ct.X.of c z49).node v47) (Ct.slice (Ct.aH c.key c.aI) l)).1).value,hq.trans<|Ct.rB q48<|Ct.rN<|Ct.rF hd53<|Ct.rF hd57<|Ct.wF hd63<|Ct.rN<|Ct.rT hd67<|Ct.rT hd69<|Ct.rR,rfl,h.to,k⟩
 refine bA (dJ _ _ h.to) λw h=>?_
 exact rr (bP rfl rfl (h.b a6) Row.h)<|⟨_,Ct.cC false 0,hq.trans<|Ct.rB q48<|Ct.rN<|Ct.rF hd53<|Ct.rF hd57<|Ct.wF hd63<|Ct.rN<|Ct.rT hd67<|Ct.rF hd69<|Ct.rR,rfl,h.to,k⟩
 have hg70:=dP hd67
 refine go h λw h=>?_
 refine st (ba (l+1))<|go h λw h=>?_
 exact⟨(z49,n,(Ct.aB ((Ct.X.of c z49).node v47) (Ct.slice (Ct.aH c.key c.aI) l)).1,l+1),⟨rfl,rfl,rfl,rfl,rfl,rfl,trivial⟩,⟨h.to,(hq.trans<|Ct.rB q48<|Ct.rN<|Ct.rF hd53<|Ct.rF hd57<|Ct.wF hd63<|Ct.rN<|Ct.rF hd67<|rfl),k,(.inr (by have:=(ltq48.resolve_left (by rw[hd60];decide)).2;(try dsimp only);omega)),⟨by(try dsimp only);omega,by(try dsimp only);omega⟩⟩,by(try dsimp only);omega⟩
 have hd71:(Ct.X.of c y).e.aC=true:=by simpa using hd43
 refine go h λw h=>?_
 exact rr (bP rfl rfl (h.b a2) Row.h)<|⟨_,{},hq.trans<|Ct.rS hd71,rfl,h.to,(k.stop hd71)⟩
end Go.Q9
end
