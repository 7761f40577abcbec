/- Parts of a proof: Lp, Rp, Q1. -/
import Derived.Test.YthhcpkikpammmaaGreatW26
set_option linter.unusedVariables false
set_option linter.unusedSimpArgs false
set_option maxRecDepth 100000
set_option maxHeartbeats 4000000
section
namespace Go.Ct
variable{g:Ga}
structure Px where
 tb:Nat:=0
 xb:Nat:=0
 k:Nat:=0
 e:Ex:={}
 u:I Result:=.ret {}
structure Ub(i:Nat)(g:Ga)(s:St)(ys:List Px):Prop where
 gw:GW g
 PI:nZ g s
 fit:eK s
 ex:∀z∈ys,z.e.eG.length=z.k/\z.k<=i/\∃u',Er g z.e z.u u'
 size:s.size<=38000000000+200000*i
theorem Er.same{e:Ex}{u u':I Result}(h:Er g e u u'):e.done=u.ended.isSome/\(u.ended=none->e.next=u.acc)/\∀r,u.ended=some r->e.result=r:=by
 obtain⟨h1,h2⟩:=h.sh.acc
 exact⟨by rw[h.rest.done,<- h2],λq=>by rw[h.rest.next (by rw[<- h2];exact q),h1],λr q=>h.rest.A6 r (by rw[<- h2];exact q)⟩
theorem Ub.ready{i:Nat}{s:St}{ys:List Px}(h:Ub i g s ys)(hi:i<=1000){z:Px}(hz:z∈ys):Ok 60 (cD 1 ⟨z.e,s⟩)/\(cD 1 ⟨z.e,s⟩).left<FU/\z.e.call.aI<18446744073709551616/\z.e.call.key.size<=9223372036854775807/\7<=z.e.call.kind/\(z.e.call.kind<=12\/z.e.call.kind=14):=by
 obtain⟨h1,h2,u',hE⟩:=h.ex z hz
 have hs:=h.size
 obtain⟨a,b⟩:=hE.ready h.PI h.fit (by unfold room;omega)
 exact⟨a,b,hE.aI,hE.key,hE.ok.lo,hE.ok.hi⟩
def Px.next(z:Px)(s:St):Px:={z with k:=z.k+1,e:=(bX (bY z.e.call FU) 1 ⟨z.e,s⟩).e,u:=(z.u.step s).2}
theorem Ub.step{i j:Nat}{s:St}{ys:List Px}(h:Ub i g s ys)(hi:i<=1000)(hj:j<ys.length)(hd:ys[j].e.done=false)(hok:Ok 50 (bX (bY ys[j].e.call FU) 1 ⟨ys[j].e,s⟩)):
  ((ys[j].u).step s).1=(bX (bY ys[j].e.call FU) 1 ⟨ys[j].e,s⟩).s/\∃g',Ub (i+1) g' (bX (bY ys[j].e.call FU) 1 ⟨ys[j].e,s⟩).s (ys.set j (ys[j].next s)):=by
 obtain⟨h1,h2,u',hE⟩:=h.ex _ (RD hj)
 obtain⟨g',v,v',e1,k2,w2,t2,f2,E2,l2,b2,b3,hP⟩:=hE.step h.gw h.PI h.fit hd (by unfold Cx;omega) hok
 have hs:=h.size
 refine⟨by rw[e1],g',w2,t2,f2,?_,by omega⟩
 intro z m
 rcases List.mem_or_eq_of_mem_set m with m|rfl
 ·obtain⟨a,b,q,c⟩:=h.ex z m
  exact⟨a,by omega,q,c.ge h.gw k2⟩
 ·refine⟨by show (bX (bY ys[j].e.call FU) 1 ⟨ys[j].e,s⟩).e.eG.length=ys[j].k+1;rw[l2,h1],by show ys[j].k+1<=i+1;omega,v',?_⟩
  show Er g' _ ((ys[j].u).step s).2 v'
  rw[e1];exact E2
theorem Ub.add{i tb xb:Nat}{s:St}{ys:List Px}{c:Call}(h:Ub i g s ys)(hs:s.size+1000<=38000000000)(hc:kZ g c)(hm:c.aI<18446744073709551616)(hk:c.key.size<=9223372036854775807)(hok:Ok 50 (bX (bY c FU) 0 ⟨{call:=c},s⟩)):
  ∃g' u,(mS c FU).head s=((bX (bY c FU) 0 ⟨{call:=c},s⟩).s,u)/\Ge g g'/\(bX (bY c FU) 0 ⟨{call:=c},s⟩).s.size<=s.size+120/\Ub i g' (bX (bY c FU) 0 ⟨{call:=c},s⟩).s (ys++[{tb:=tb,xb:=xb,e:=(bX (bY c FU) 0 ⟨{call:=c},s⟩).e,u:=u}]):=by
 obtain⟨g',u,u',h1,h2,h3,h4,h5,h6,h7,h8,h9,h10,_⟩:=Er.start h.gw h.PI h.fit hc hm hk hok
 refine⟨g',u,h1,h2,h8,h3,h4,h5,?_,by omega⟩
 intro z m
 rcases List.mem_append.1 m with m|m
 ·obtain⟨a,b,q,c'⟩:=h.ex z m
  exact⟨a,b,q,c'.ge h.gw h2⟩
 ·rw[List.mem_singleton.1 m]
  exact⟨by show (bX (bY c FU) 0 ⟨{call:=c},s⟩).e.eG.length=0;rw[h7];rfl,Hg _,u',h6⟩
theorem nZ.acc{s:St}(h:nZ g s)(a:Nat):nZ g {s with acc:=a}:=⟨h.nodes,h.gen,h.len,h.holds,h.dec,h.RL⟩
theorem Lc.M7{s:St}{ts:List bC}{zs:List (Nat×Ex)}(h:Lc 36 g s ts zs):Ub 0 g {s with acc:=0} []/\({s with acc:=0}:St).size+500<=37100000000:=by
 have hs:=h.size
 have:({s with acc:=0}:St).size<=s.size:=by unfold St.size;dsimp only;omega
 exact⟨⟨h.gw,h.PI.acc 0,h.fit,(λz m=>by cases m),by omega⟩,by omega⟩
end Go.Ct
end
section
namespace Go.Q9
open Go.Proofs.Tryz
open Go.RowKit Go.E
attribute [local irreducible] gB wpS Go.E.X XS C jU kP fin Y U F Ca jT bl rb aU bV ex ce pu sK gK bK zK
variable{B w:World}{L:List As}
theorem Xr(xb mb:Nat)(x:Ct.X)(t:Ct.bC)(i m:Int)(h:SH B w (XA xb mb x::L))(k:Ct.Ok 30 x):
  Calls prog 194 #[↑xb,.agg (cU t).toArray,↑i,↑m] w λe w'=>∃y v,Ct.aX (Ct.wQ t i m) x=Ct.out y v/\e=.returned (.int .i64 v)/\SH B w' (XA xb mb y::L)/\Ct.Ok 60 y:=by
 refine bZ func194 ntmps194 h λw h=>?_
 refine jX h λb1 w h=>?_
 refine cG (aN xb mb x m h.to k.dR) λp2 w h=>?_
 have h:=h.drop
 refine dE (mU xb mb x ((x.node m).prev) h.to (k.less (by omega))) λy3 v4 q5 w h k=>?_
 refine st (ld (v:=.bool y3.e.aC) One.h rfl (h.xc a0 λ_=>rfl))<|go h λw h=>?_
 refine qg h (λhd6 w h=>?_) λhd6 w h=>?_
 exact rz ⟨_,_,Ct.rN<|Ct.rL q5<|Ct.rS hd6,rfl,h.to,(k.stop hd6)⟩
 refine qc h (λhd7 w h=>?_) λhd7 w h=>?_
 exact rz ⟨_,_,Ct.rN<|Ct.rL q5<|Ct.rT hd7<|Ct.rR,rfl,h.to,(k.less (by omega))⟩
 refine cG (aN xb mb y3 v4 h.to k.dR) λp10 w h=>?_
 have h:=h.drop
 refine bA (Sj (y3.node v4) p10 h.to) λw h=>?_
 refine qc h (λhd11 w h=>?_) λhd11 w h=>?_
 refine qc h (λhd12 w h=>?_) λhd12 w h=>?_
 have hd13:t.readOnly=false:=by simpa using hd12
 refine dE (PW xb mb y3 t h.to (k.less (by omega))) λy14 v15 q16 w h k=>?_
 refine cG (aN xb mb y14 v15 h.to k.dR) λp17 w h=>?_
 have h:=h.drop
 refine cG (aN xb mb y14 i h.to k.dR) λp18 w h=>?_
 have h:=h.drop
 refine qc h (λhd19 w h=>?_) λhd19 w h=>?_
 refine cG (aN xb mb y14 m h.to k.dR) λp21 w h=>?_
 have h:=h.drop
 refine dE (nQ xb mb y14 ((y14.node m).prev) v4 0 h.to (k.less (by omega))) λy22 v23 q24 w h k=>?_
 refine cG (aN xb mb y22 m h.to k.dR) λp25 w h=>?_
 have h:=h.drop
 refine dE (mU xb mb y22 ((y22.node m).prev) h.to (k.less (by omega))) λy26 v27 q28 w h k=>?_
 refine st (ld (v:=.bool y26.e.aC) One.h rfl (h.xc a0 λ_=>rfl))<|go h λw h=>?_
 refine qg h (λhd29 w h=>?_) λhd29 w h=>?_
 exact rz ⟨_,_,Ct.rN<|Ct.rL q5<|Ct.rF hd7<|Ct.rN<|Ct.rT hd11<|Ct.rF hd13<|Ct.rB q16<|Ct.rN<|Ct.rN<|Ct.rT hd19<|Ct.rN<|Ct.rC q24<|Ct.rN<|Ct.rL q28<|Ct.rS hd29,rfl,h.to,(k.stop hd29)⟩
 refine qc h (λhd30 w h=>?_) λhd30 w h=>?_
 exact rz ⟨_,_,Ct.rN<|Ct.rL q5<|Ct.rF hd7<|Ct.rN<|Ct.rT hd11<|Ct.rF hd13<|Ct.rB q16<|Ct.rN<|Ct.rN<|Ct.rT hd19<|Ct.rN<|Ct.rC q24<|Ct.rN<|Ct.rL q28<|Ct.rT hd30<|Ct.rR,rfl,h.to,(k.less (by omega))⟩
 refine cG (aN xb mb y26 i h.to k.dR) λp33 w h=>?_
 have h:=h.drop
 refine cG (aN xb mb y26 v27 h.to k.dR) λp34 w h=>?_
 have h:=h.drop
 refine dE (nQ xb mb y26 ((y26.node i).main) m ((y26.node v27).dC) h.to (k.less (by omega))) λy35 v36 q37 w h k=>?_
 refine cG (aN xb mb y35 v27 h.to k.dR) λp38 w h=>?_
 have h:=h.drop
 exact rz ⟨_,_,Ct.rN<|Ct.rL q5<|Ct.rF hd7<|Ct.rN<|Ct.rT hd11<|Ct.rF hd13<|Ct.rB q16<|Ct.rN<|Ct.rN<|Ct.rT hd19<|Ct.rN<|Ct.rC q24<|Ct.rN<|Ct.rL q28<|Ct.rF hd30<|Ct.rN<|Ct.rN<|Ct.rC q37<|Ct.rN<|Ct.rR,rfl,h.to,(k.less (by omega))⟩
 refine cG (aN xb mb y14 m h.to k.dR) λp40 w h=>?_
 have h:=h.drop
 refine dE (dS (j:=59) xb mb y14 ({kind:=7,dC:=v4}) {} 0 (SH.eE ({kind:=7,dC:=v4}) rfl rfl h.to) (k.less (by omega)) (Ct.bG _ 7 0 v4 0 0)) λy41 v42 q43 w h ⟨k,hly41⟩=>?_
 refine dE (nQ xb mb y41 ((y14.node m).prev) v4 v42 h.to (k.less (by omega))) λy44 v45 q46 w h k=>?_
 refine cG (aN xb mb y44 m h.to k.dR) λp47 w h=>?_
 have h:=h.drop
 refine dE (mU xb mb y44 ((y44.node m).prev) h.to (k.less (by omega))) λy48 v49 q50 w h k=>?_
 refine st (ld (v:=.bool y48.e.aC) One.h rfl (h.xc a0 λ_=>rfl))<|go h λw h=>?_
 refine qg h (λhd51 w h=>?_) λhd51 w h=>?_
 exact rz ⟨_,_,Ct.rN<|Ct.rL q5<|Ct.rF hd7<|Ct.rN<|Ct.rT hd11<|Ct.rF hd13<|Ct.rB q16<|Ct.rN<|Ct.rN<|Ct.rF hd19<|Ct.rN<|Ct.rA q43<|Ct.rC q46<|Ct.rN<|Ct.rL q50<|Ct.rS hd51,rfl,h.to,(k.stop hd51)⟩
 refine qc h (λhd52 w h=>?_) λhd52 w h=>?_
 exact rz ⟨_,_,Ct.rN<|Ct.rL q5<|Ct.rF hd7<|Ct.rN<|Ct.rT hd11<|Ct.rF hd13<|Ct.rB q16<|Ct.rN<|Ct.rN<|Ct.rF hd19<|Ct.rN<|Ct.rA q43<|Ct.rC q46<|Ct.rN<|Ct.rL q50<|Ct.rT hd52<|Ct.rR,rfl,h.to,(k.less (by omega))⟩
 refine cG (aN xb mb y48 i h.to k.dR) λp55 w h=>?_
 have h:=h.drop
 refine cG (aN xb mb y48 v49 h.to k.dR) λp56 w h=>?_
 have h:=h.drop
 refine dE (nQ xb mb y48 ((y48.node i).main) m ((y48.node v49).dC) h.to (k.less (by omega))) λy57 v58 q59 w h k=>?_
 refine cG (aN xb mb y57 v49 h.to k.dR) λp60 w h=>?_
 have h:=h.drop
 exact rz ⟨_,_,Ct.rN<|Ct.rL q5<|Ct.rF hd7<|Ct.rN<|Ct.rT hd11<|Ct.rF hd13<|Ct.rB q16<|Ct.rN<|Ct.rN<|Ct.rF hd19<|Ct.rN<|Ct.rA q43<|Ct.rC q46<|Ct.rN<|Ct.rL q50<|Ct.rF hd52<|Ct.rN<|Ct.rN<|Ct.rC q59<|Ct.rN<|Ct.rR,rfl,h.to,(k.less (by omega))⟩
 have hd61:t.readOnly=true:=by simpa using hd12
 refine cG (aN xb mb y3 m h.to k.dR) λp62 w h=>?_
 have h:=h.drop
 refine dE (dS (j:=89) xb mb y3 ({kind:=7,dC:=v4}) {} 0 (SH.eE ({kind:=7,dC:=v4}) rfl rfl h.to) (k.less (by omega)) (Ct.bG _ 7 0 v4 0 0)) λy63 v64 q65 w h ⟨k,hly63⟩=>?_
 refine dE (nQ xb mb y63 ((y3.node m).prev) v4 v64 h.to (k.less (by omega))) λy66 v67 q68 w h k=>?_
 refine cG (aN xb mb y66 m h.to k.dR) λp69 w h=>?_
 have h:=h.drop
 refine dE (mU xb mb y66 ((y66.node m).prev) h.to (k.less (by omega))) λy70 v71 q72 w h k=>?_
 refine st (ld (v:=.bool y70.e.aC) One.h rfl (h.xc a0 λ_=>rfl))<|go h λw h=>?_
 refine qg h (λhd73 w h=>?_) λhd73 w h=>?_
 exact rz ⟨_,_,Ct.rN<|Ct.rL q5<|Ct.rF hd7<|Ct.rN<|Ct.rT hd11<|Ct.rT hd61<|Ct.rN<|Ct.rA q65<|Ct.rC q68<|Ct.rN<|Ct.rL q72<|Ct.rS hd73,rfl,h.to,(k.stop hd73)⟩
 refine qc h (λhd74 w h=>?_) λhd74 w h=>?_
 exact rz ⟨_,_,Ct.rN<|Ct.rL q5<|Ct.rF hd7<|Ct.rN<|Ct.rT hd11<|Ct.rT hd61<|Ct.rN<|Ct.rA q65<|Ct.rC q68<|Ct.rN<|Ct.rL q72<|Ct.rT hd74<|Ct.rR,rfl,h.to,(k.less (by omega))⟩
 refine cG (aN xb mb y70 i h.to k.dR) λp77 w h=>?_
 have h:=h.drop
 refine cG (aN xb mb y70 v71 h.to k.dR) λp78 w h=>?_
 have h:=h.drop
 refine dE (nQ xb mb y70 ((y70.node i).main) m ((y70.node v71).dC) h.to (k.less (by omega))) λy79 v80 q81 w h k=>?_
 refine cG (aN xb mb y79 v71 h.to k.dR) λp82 w h=>?_
 have h:=h.drop
 exact rz ⟨_,_,Ct.rN<|Ct.rL q5<|Ct.rF hd7<|Ct.rN<|Ct.rT hd11<|Ct.rT hd61<|Ct.rN<|Ct.rA q65<|Ct.rC q68<|Ct.rN<|Ct.rL q72<|Ct.rF hd74<|Ct.rN<|Ct.rN<|Ct.rC q81<|Ct.rN<|Ct.rR,rfl,h.to,(k.less (by omega))⟩
 refine cG (aN xb mb y3 i h.to k.dR) λp83 w h=>?_
 have h:=h.drop
 refine cG (aN xb mb y3 v4 h.to k.dR) λp84 w h=>?_
 have h:=h.drop
 refine dE (nQ xb mb y3 ((y3.node i).main) m ((y3.node v4).dC) h.to (k.less (by omega))) λy85 v86 q87 w h k=>?_
 refine cG (aN xb mb y85 v4 h.to k.dR) λp88 w h=>?_
 have h:=h.drop
 exact rz ⟨_,_,Ct.rN<|Ct.rL q5<|Ct.rF hd7<|Ct.rN<|Ct.rF hd11<|Ct.rN<|Ct.rN<|Ct.rC q87<|Ct.rN<|Ct.rR,rfl,h.to,(k.less (by omega))⟩
theorem hU(xb mb:Nat)(x:Ct.X)(t:Ct.bC)(i:Int)(h:SH B w (XA xb mb x::L))(k:Ct.Ok 30 x):
  Calls prog 154 #[↑xb,.agg (cU t).toArray,↑i] w λe w'=>∃y v,Ct.aX (Ct.oJ t i) x=Ct.out y v/\e=.returned (.int .i64 v)/\SH B w' (XA xb mb y::L)/\Ct.Ok 60 y:=by
 refine bZ func154 ntmps154 h λw h=>?_
 refine jX h λb1 w h=>?_
 refine dZ [1,3,5,7,9,11,12,15,16,18,20] (by kernel_rfl) h (.c r0 .n) λw h=>go h λw h=>?_
 refine lH (aN _ _ _ _ h.to k.dR) λp2 w h=>?_
 have h:=h.drop
 refine go h λw h=>?_
 refine mF (mU _ _ _ _ h.to (k.less (by omega))) λy3 v4 q5 w h k=>?_
 refine mF (Xr _ _ _ _ _ _ h.to (k.less (by omega))) λy6 v7 q8 w h k=>?_
 exact rz ⟨_,_,Ct.rN<|Ct.rL q5<|q8,rfl,h.to,k⟩
theorem Wr(xb mb:Nat)(x:Ct.X)(t:Ct.bC)(i:Int)(h:SH B w (XA xb mb x::L))(k:Ct.Ok 30 x):
  Calls prog 198 #[↑xb,.agg (cU t).toArray,↑i] w λe w'=>∃y v,Ct.aX (Ct.vR t i) x=Ct.out y v/\e=.returned (.tuple #[])/\SH B w' (XA xb mb y::L)/\Ct.Ok 60 y:=by
 refine bZ func198 ntmps198 h λw h=>?_
 refine jX h λb1 w h=>?_
 refine dZ [1,3,5,7,15,17,8,11,12,18,21,23] (by kernel_rfl) h (.c r0 .n) λw h=>go h λw h=>?_
 refine lH (aN _ _ _ _ h.to k.dR) λp2 w h=>?_
 have h:=h.drop
 refine go h λw h=>?_
 refine mF (hU _ _ _ _ _ h.to (k.less (by omega))) λy3 v4 q5 w h k=>?_
 refine lH (aN _ _ _ _ h.to k.dR) λp6 w h=>?_
 have h:=h.drop
 refine go h λw h=>?_
 refine qc h (λhd7 w h=>?_) λhd7 w h=>?_
 have hg8:=eq_of_beq hd7
 refine go h λw h=>?_
 refine cG (aN _ _ _ _ h.to k.dR) λp9 w h=>?_
 have h:=h.drop
 refine go h λw h=>?_
 refine dE (nQ _ _ _ _ _ _ h.to (k.less (by omega))) λy10 v11 q12 w h k=>?_
 refine rn (rK results198)<|go h λw h=>?_
 refine⟨_,(),Ct.rN<|Ct.rB q5<|Ct.rN<|Ct.rT hd7<|Ct.rN<|Ct.rC q12<|Ct.rR,rfl,h.to,(k.less (by omega))⟩
 have hg13:=AD hd7
 refine go h λw h=>?_
 refine cG (aN _ _ _ _ h.to k.dR) λp14 w h=>?_
 have h:=h.drop
 refine go h λw h=>?_
 refine dE (nQ _ _ _ _ _ _ h.to (k.less (by omega))) λy15 v16 q17 w h k=>?_
 refine rn (rK results198)<|go h λw h=>?_
 refine⟨_,(),Ct.rN<|Ct.rB q5<|Ct.rN<|Ct.rF hd7<|Ct.rN<|Ct.rC q17<|Ct.rR,rfl,h.to,(k.less (by omega))⟩
theorem nV(xb mb:Nat)(x:Ct.X)(t:Ct.bC)(h:SH B w (XA xb mb x::L))(k:Ct.Ok 30 x):
  Calls prog 156 #[↑xb,.agg (cU t).toArray] w λe w'=>∃y v,Ct.aX (Ct.tV t) x=Ct.out y v/\e=.returned (.int .i64 v)/\SH B w' (XA xb mb y::L)/\Ct.Ok 60 y:=by
 refine bZ func156 ntmps156 h λw h=>?_
 refine jX h λb1 w h=>?_
 refine dE (mU _ _ _ _ h.to (k.less (by omega))) λy2 v3 q4 w h k=>?_
 refine st (ld (v:=.bool y2.e.aC) One.h rfl (h.xc a0 λ_=>rfl))<|go h λw h=>?_
 refine qg h (λhd5 w h=>?_) λhd5 w h=>?_
 exact rz ⟨_,_,Ct.rL q4<|Ct.rS hd5,rfl,h.to,(k.stop hd5)⟩
 refine cG (aN _ _ _ _ h.to k.dR) λp6 w h=>?_
 have h:=h.drop
 refine qc h (λhd7 w h=>?_) λhd7 w h=>?_
 exact rz ⟨_,_,Ct.rL q4<|Ct.rN<|Ct.rT hd7<|Ct.rR,rfl,h.to,(k.less (by omega))⟩
 refine cG (aN _ _ _ _ h.to k.dR) λp10 w h=>?_
 have h:=h.drop
 refine dE (mU _ _ _ _ h.to (k.less (by omega))) λy11 v12 q13 w h k=>?_
 refine qc h (λhd14 w h=>?_) λhd14 w h=>?_
 refine dE (Wr _ _ _ _ _ h.to (k.less (by omega))) λy16 v17 q18 w h k=>?_
 refine cG (aN _ _ _ _ h.to k.dR) λp19 w h=>?_
 have h:=h.drop
 refine dE (mU _ _ _ _ h.to (k.less (by omega))) λy20 v21 q22 w h k=>?_
 refine Pv (pC _ _ _ _ _ h.to k) λv23 q24 w h=>?_
 refine dE (nQ _ _ _ _ _ _ h.to (k.less (by omega))) λy25 v26 q27 w h k=>?_
 exact rz ⟨_,_,Ct.rL q4<|Ct.rN<|Ct.rF hd7<|Ct.rN<|Ct.rL q13<|Ct.rT hd14<|Ct.rB q18<|Ct.rN<|Ct.rL q22<|Ct.rB q24<|Ct.rC q27<|Ct.rR,rfl,h.to,(k.less (by omega))⟩
 refine Pv (pC _ _ _ _ _ h.to k) λv29 q30 w h=>?_
 refine dE (nQ _ _ _ _ _ _ h.to (k.less (by omega))) λy31 v32 q33 w h k=>?_
 exact rz ⟨_,_,Ct.rL q4<|Ct.rN<|Ct.rF hd7<|Ct.rN<|Ct.rL q13<|Ct.rF hd14<|Ct.rB q30<|Ct.rC q33<|Ct.rR,rfl,h.to,(k.less (by omega))⟩
theorem gH(xb mb:Nat)(x:Ct.X)(t:Ct.bC)(i o n:Int)(h:SH B w (XA xb mb x::L))(k:Ct.Ok 30 x):
  Calls prog 155 #[↑xb,.agg (cU t).toArray,↑i,↑o,↑n] w λe w'=>∃y v,Ct.aX (Ct.mE t i o n) x=Ct.out y v/\e=.returned (.bool v)/\SH B w' (XA xb mb y::L)/\Ct.Ok 60 y:=by
 refine bZ func155 ntmps155 h λw h=>?_
 refine jX h λb1 w h=>?_
 refine cG (aN _ _ _ _ h.to k.dR) λp2 w h=>?_
 have h:=h.drop
 refine go h λw h=>?_
 refine dE (nQ _ _ _ _ _ _ h.to (k.less (by omega))) λy3 v4 q5 w h k=>?_
 refine qc h (λhd6 w h=>?_) λhd6 w h=>?_
 have hd7:v4=false:=by simpa using hd6
 refine go h λw h=>?_
 exact rz ⟨_,false,Ct.rN<|Ct.rC q5<|Ct.rF hd7<|Ct.rR,rfl,h.to,(k.less (by omega))⟩
 have hd8:v4=true:=by simpa using hd6
 refine go h λw h=>?_
 refine dE (Xr _ _ _ _ _ _ h.to (k.less (by omega))) λy9 v10 q11 w h k=>?_
 refine st (ld (v:=.bool y9.e.aC) One.h rfl (h.xc a0 λ_=>rfl))<|go h λw h=>?_
 refine qg h (λhd12 w h=>?_) λhd12 w h=>?_
 have hd13:y9.e.aC=false:=by simpa using hd12
 refine go h λw h=>?_
 exact rz ⟨_,((v10:Int)==n),Ct.rN<|Ct.rC q5<|Ct.rT hd8<|Ct.rB q11<|Ct.rR,rfl,h.to,k⟩
 have hd14:y9.e.aC=true:=by simpa using hd12
 refine go h λw h=>?_
 exact rz ⟨_,false,Ct.rN<|Ct.rC q5<|Ct.rT hd8<|Ct.rB q11<|Ct.rS hd14,rfl,h.to,(k.stop hd14)⟩
theorem No(xb mb:Nat)(x:Ct.X)(t:Ct.bC)(o m n:Int)(h:SH B w (XA xb mb x::L))(k:Ct.Ok 30 x):
  Calls prog 157 #[↑xb,.agg (cU t).toArray,↑o,↑m,↑n] w λe w'=>∃y v,Ct.aX (Ct.Dn t o m n) x=Ct.out y v/\e=.returned (.bool v)/\SH B w' (XA xb mb y::L)/\Ct.Ok 60 y:=by
 refine bZ func157 ntmps157 h λw h=>?_
 refine jX h λb1 w h=>?_
 refine dE (dS (j:=29) xb mb x ({kind:=8,dC:=o,aK:=m,new:=n}) {} 0 (SH.eE ({kind:=8,dC:=o,aK:=m,new:=n}) rfl rfl h.to) (k.less (by omega)) (Ct.bG _ 8 0 o m n)) λy2 v3 q4 w h ⟨k,hly2⟩=>?_
 refine dE (nQ xb mb y2 t.root o v3 h.to (k.less (by omega))) λy5 v6 q7 w h k=>?_
 refine qc h (λhd8 w h=>?_) λhd8 w h=>?_
 have hd9:v6=false:=by simpa using hd8
 refine go h λw h=>?_
 exact rz ⟨_,false,Ct.rA q4<|Ct.rC q7<|Ct.rF hd9<|Ct.rR,rfl,h.to,(k.less (by omega))⟩
 have hd10:v6=true:=by simpa using hd8
 refine go h λw h=>?_
 refine dE (Wr xb mb y5 t v3 h.to (k.less (by omega))) λy11 v12 q13 w h k=>?_
 refine cG (aN xb mb y11 v3 h.to k.dR) λp14 w h=>?_
 have h:=h.drop
 refine go h λw h=>?_
 refine dE (mU xb mb y11 ((y11.node v3).status) h.to (k.less (by omega))) λy15 v16 q17 w h k=>?_
 refine dZ [1,3,5,7,9,11,13,14,16] (by kernel_rfl) h (.c r1 .n) λw h=>go h λw h=>?_
 refine B5 (pC xb mb y15 v3 v16 h.to k) λv18 q19 w h=>?_
 refine mF (nQ xb mb y15 t.root v3 v18 h.to (k.less (by omega))) λy20 v21 q22 w h k=>?_
 refine st (ld (v:=.bool y20.e.aC) One.h rfl (h.xc a0 λ_=>rfl))<|go h λw h=>?_
 refine qg h (λhd23 w h=>?_) λhd23 w h=>?_
 have hd24:y20.e.aC=false:=by simpa using hd23
 refine go h λw h=>?_
 exact rz ⟨_,((v16:Int)==1),Ct.rA q4<|Ct.rC q7<|Ct.rT hd10<|Ct.rB q13<|Ct.rN<|Ct.rL q17<|Ct.rB q19<|Ct.rC q22<|Ct.rR,rfl,h.to,(k.less (by omega))⟩
 have hd25:y20.e.aC=true:=by simpa using hd23
 refine go h λw h=>?_
 exact rz ⟨_,false,Ct.rA q4<|Ct.rC q7<|Ct.rT hd10<|Ct.rB q13<|Ct.rN<|Ct.rL q17<|Ct.rB q19<|Ct.rC q22<|Ct.rS hd25,rfl,h.to,(k.stop hd25)⟩
end Go.Q9
end
section
namespace Go.Q9
open Go.Proofs.Tryz
open Go.RowKit Go.E Go.Ct
attribute [local irreducible] gB wpS Go.E.X XS C jU kP fin Y U F Ca jT bl rb aU bV ex ce pu sK gK bK zK
variable{B w:World}{L:List As}
theorem uG{j:Nat}(xb mb:Nat)(x:Ct.X)(cr ix r:Int)(h:SH B w (XA xb mb x::L))(k:Ct.Ok (j+1) x):
  Calls prog 202 #[↑xb,↑cr,↑ix,↑r] w λe w'=>∃y v,Ct.aX (Ct.nU cr ix r) x=Ct.out y v/\e=.returned (.int .i64 v)/\SH B w' (XA xb mb y::L)/\Ct.Ok j y:=by
 have hlen:=k.len
 refine bZ func202 ntmps202 h λw h=>?_
 refine cG (aN _ _ _ _ h.to k.dR) λp1 w h=>?_
 have f2:=k.lN cr
 have bf2:=k.len
 refine go h λw h=>?_
 refine cG (Bc _ _ _ _ h.to (Ct.Node.Fit.nf f2 (by omega))) λq3 w h=>?_
 refine jA h λb4 w h=>?_
 refine dE (dS (j:=j) _ _ _ _ _ _ ((SH.Gs h.to .z).fr (.c r0 (.c r1 .n))) k ((Ct.fH f2 ix r).mono (by omega))) λy5 v6 q7 w h ⟨k,hly5⟩=>?_
 have lq7:=Ct.Gq q7
 refine go h λw h=>?_
 exact rz ⟨_,_,Ct.rN<|Ct.rA q7<|Ct.rR,rfl,h.to,k⟩
theorem JL(xb mb:Nat)(x:Ct.X)(t:Ct.bC)(i cr ix:Int)(h:SH B w (XA xb mb x::L))(k:Ct.Ok 30 x):
  Calls prog 158 #[↑xb,.agg (cU t).toArray,↑i,↑cr,↑ix] w λe w'=>∃y v,Ct.aX (Ct.Hx t i cr ix) x=Ct.out y v/\e=.returned (.int .i64 v)/\SH B w' (XA xb mb y::L)/\Ct.Ok 60 y:=by
 refine bZ func158 ntmps158 h λw h=>?_
 refine jX h λb1 w h=>?_
 refine cG (aN xb mb x cr h.to k.dR) λp2 w h=>?_
 have f3:=k.lN cr
 have bf3:=k.len
 refine go h λw h=>?_
 refine bA (fG (x.node cr) p2.pb p2.cb p2.pp p2.cp ix h.to (Ct.Node.Fit.nf f3 (by omega))) λw h=>?_
 refine dE (hU xb mb x t (Ct.aB (x.node cr) ix).1 h.to (k.less (by omega))) λy4 v5 q6 w h k=>?_
 refine cG (aN xb mb y4 i h.to k.dR) λp7 w h=>?_
 refine dE (dS (j:=59) xb mb y4 ({kind:=2,gen:=(y4.node i).gen}) {} v5 (SH.eE ({kind:=2,gen:=(y4.node i).gen}) rfl rfl h.to) (k.less (by omega)) (Ct.bG _ 2 (y4.node i).gen 0 0 0)) λy9 v10 q11 w h ⟨k,hly9⟩=>?_
 refine dZ [1,3,5,7,9,11,13,15,16,18] (by kernel_rfl) h (.c r3 .n) λw h=>go h λw h=>?_
 refine mF (uG (j:=58) xb mb y9 cr ix v10 h.to (k.less (by omega))) λy12 v13 q14 w h k=>?_
 refine mF (gH xb mb y12 t i cr v13 h.to (k.less (by omega))) λy15 v16 q17 w h k=>?_
 refine qc h (λhd18 w h=>?_) λhd18 w h=>?_
 exact rz ⟨_,v10,Ct.rN<|Ct.rB q6<|Ct.rN<|Ct.rA q11<|Ct.rB q14<|Ct.rB q17<|Ct.rT hd18<|Ct.rR,rfl,h.to,k⟩
 exact rz ⟨_,0,Ct.rN<|Ct.rB q6<|Ct.rN<|Ct.rA q11<|Ct.rB q14<|Ct.rB q17<|Ct.rF hd18<|Ct.rR,rfl,h.to,k⟩
theorem rI(xb mb:Nat)(x:Ct.X)(t:Ct.bC)(i cr:Int)(h0:Nat)(lv:Int)(h:SH B w (XA xb mb x::L))(k:Ct.Ok 30 x)(hh:h0<18446744073709551616):
  Calls prog 159 #[↑xb,.agg (cU t).toArray,↑i,↑cr,.int .u64 (h0:Int),↑lv] w λe w'=>∃y v,Ct.aX (Ct.yF t i cr h0 lv) x=Ct.out y v/\e=.returned (.bool v)/\SH B w' (XA xb mb y::L)/\Ct.Ok 60 y:=by
 refine bZ func159 ntmps159 h λw h=>?_
 refine jX h λb1 w h=>?_
 refine dE (hU _ _ _ _ _ h.to (k.less (by omega))) λy2 v3 q4 w h k=>?_
 refine cl (ca eF rfl) ((eH h0 lv _ (by omega)).mono ?_)
 rintro _ _ ⟨rfl,rfl⟩
 refine⟨_,rfl,?_⟩
 refine st (sg rfl)<|xe<|nx<|sq<|sq<|rg<|st (mv rfl)<|st (mv rfl)<|?_
 refine cG (aN _ _ _ _ h.to k.dR) λp5 w h=>?_
 have f6:=k.lN v3
 have bf6:=k.len
 refine go h λw h=>?_
 refine bA (fG _ _ _ _ _ _ h.to (Ct.Node.Fit.nf f6 (by omega))) λw h=>?_
 refine st (ld (v:=.bool y2.e.aC) One.h rfl (h.xc a1 λ_=>rfl))<|go h λw h=>?_
 refine qg h (λhd7 w h=>?_) λhd7 w h=>?_
 exact rz ⟨_,false,Ct.rB q4<|Ct.rN<|Ct.rS hd7,rfl,h.to,(k.stop hd7)⟩
 refine qg h (λhd8 w h=>?_) λhd8 w h=>?_
 have hd9:(Ct.aB (y2.node v3) (Ct.slice h0 lv)).2=false:=by simpa using hd8
 exact rz ⟨_,false,Ct.rB q4<|Ct.rN<|Ct.Zo hd9<|Ct.rR,rfl,h.to,k⟩
 have hd10:(Ct.aB (y2.node v3) (Ct.slice h0 lv)).2=true:=by simpa using hd8
 refine qc h (λhd11 w h=>?_) λhd11 w h=>?_
 exact rz ⟨_,false,Ct.rB q4<|Ct.rN<|Ct.wF hd10<|Ct.rT hd11<|Ct.rR,rfl,h.to,k⟩
 refine dE (hU _ _ _ _ _ h.to (k.less (by omega))) λy14 v15 q16 w h k=>?_
 refine cG (aN _ _ _ _ h.to k.dR) λp17 w h=>?_
 have f18:=k.lN v15
 refine cG (Lj _ _ h.to) λq19 w h=>?_
 refine jA h λb20 w h=>?_
 refine st (ld (v:=.bool y14.e.aC) One.h rfl (h.xc a3 λ_=>rfl))<|go h λw h=>?_
 refine qg h (λhd21 w h=>?_) λhd21 w h=>?_
 exact rz ⟨_,false,Ct.rB q4<|Ct.rN<|Ct.wF hd10<|Ct.rF hd11<|Ct.rB q16<|Ct.rN<|Ct.rS hd21,rfl,h.to,(k.stop hd21)⟩
 refine qc h (λhd22 w h=>?_) λhd22 w h=>?_
 have hd23:(Ct.aT (y14.node v15)).2=false:=by simpa using hd22
 exact rz ⟨_,false,Ct.rB q4<|Ct.rN<|Ct.wF hd10<|Ct.rF hd11<|Ct.rB q16<|Ct.rN<|Ct.Zo hd23<|Ct.rR,rfl,h.to,k⟩
 have hd24:(Ct.aT (y14.node v15)).2=true:=by simpa using hd22
 refine dE (dS (j:=59) _ _ _ _ _ _ ((SH.Gs h.to .z).fr (.c r0 (.c r1 .n))) (k.less (by omega)) ((Ct.tU f18).mono (by omega))) λy25 v26 q27 w h ⟨k,hly25⟩=>?_
 refine cG (aN _ _ _ _ h.to k.dR) λp28 w h=>?_
 have f29:=k.lN v3
 have bf29:=k.len
 refine go h λw h=>?_
 refine cG (Bc _ _ _ _ h.to (Ct.Node.Fit.nf f29 (by omega))) λq30 w h=>?_
 refine jA h λb31 w h=>?_
 refine dZ [1,3,5,7,9,11,13,15,19,16,20,22,24] (by kernel_rfl) h (.c r8 (.c r0 (.c r4 .n))) λw h=>go h λw h=>?_
 refine lH (jC _ _ _ _ _ h.to (Ct.Node.Fit.nf (Ct.fH f29 (Ct.slice h0 lv) v26) (by omega))) λq32 w h=>?_
 refine mF (dS (j:=58) _ _ _ _ _ _ ((SH.Gs h.to .z).fr (.c r0 (.c r1 .n))) (k.less (by omega)) (Ct.fA ((Ct.fH f29 (Ct.slice h0 lv) v26).mono (by omega)) ((Ct.tU f18).mono (by omega)) lv)) λy33 v34 q35 w h ⟨k,hly33⟩=>?_
 refine mF (gH _ _ _ _ _ _ _ h.to (k.less (by omega))) λy36 v37 q38 w h k=>?_
 exact rz ⟨_,v37,Ct.rB q4<|Ct.rN<|Ct.wF hd10<|Ct.rF hd11<|Ct.rB q16<|Ct.rN<|Ct.wF hd24<|Ct.rA q27<|Ct.rN<|Ct.rA q35<|q38,rfl,h.to,k⟩
end Go.Q9
end
