/- Parts of a proof: Ayg, Pt, Ayh, Cw, Lp, Rp, Q1. -/
import Derived.Test.YtnhdmcipglnkfaaGreatW33
set_option linter.unusedVariables false
set_option linter.unusedSimpArgs false
set_option maxRecDepth 100000
set_option maxHeartbeats 4000000
section
namespace Go.Q9
open Go.Proofs.Tryz
open Go.E
theorem ZT:fo prog 102 1=some 1:=by kernel_rfl
theorem GJ:fo prog 102 2=some 15:=by kernel_rfl
theorem GD:fo prog 102 3=some 16:=by kernel_rfl
end Go.Q9
end
section
namespace Go.Q9
open Go.Proofs.Tryz
open Go.RowKit Go.E
attribute [local irreducible] gA wpS Go.E.X XS C kV lL fin Y U F Ca kU bl rb aV bS ex ce pu sK gK bK zK gG fE cZ gY mA rQ
variable{B w:World}{L:List As}
theorem Na(S:fX)(tb:Nat)(c:Cc)(k:Nat)(b:Bool)(h:SH B w (bl tb (xU S c k b) 102::L)):
  Calls prog 18 #[↑tb] w λe w'=>e=.returned (.bool (c.kind==0))/\SH B w' (bl tb (xU S c k b) 102::L):=by
 refine cN func18 ntmps18 h λw h=>?_
 exact rz ⟨rfl,h⟩
theorem WZ(S:fX)(tb:Nat)(c:Cc)(k:Nat)(b:Bool)(h:SH B w (bl tb (xU S c k b) 102::L)):
  Calls prog 13 #[↑tb] w λe w'=>e=.returned (.agg (B5 (if(c.kind==0)=true then c.r else{})).toArray)/\SH B w' (bl tb (xU S c k b) 102::L):=by
 refine cN func13 ntmps13 h λw h=>?_
 refine jA h λb1 w h=>?_
 refine bQ (Na S _ c _ _ h.to) λw h=>?_
 refine qc h (λcO w h=>?_) λcO w h=>?_
 have cJ:((c.kind:Int)==0)=false:=(gZ _).mp cO
 have Tv:=bM cJ
 refine go h λw h=>?_
 refine rr (cD rfl rfl (h.b a1) Row.h) ?_
 refine⟨?_,h.to⟩
 rw[cJ];rfl
 have dM:((c.kind:Int)==0)=true:=(hU _).mp cO
 have CX:=eq_of_beq dM
 refine go h λw h=>?_
 refine st (kB (cs:=[↑c.r.err,↑c.r.found,.int .u64 (c.r.value:Int),↑c.r.key,↑c.r.count,↑c.r.ref,↑c.r.aF.root,↑c.r.aF.readOnly]) rfl (hX (h.b a0) 7 rfl) Row.h)<|go h λw h=>?_
 refine rr (cD rfl rfl (h.b a1) Row.h) ?_
 refine⟨?_,h.to⟩
 rw[dM];rfl
theorem T'(S:fX)(hM:∀w,OP S.t S.x S.ab w)(n tb:Nat)(u:Ct.I Ct.Result)(c:Cc)(k:Nat)(s:Ct.St)(h:SH B w (bl tb (xU S c k false) 102::mA S jG (n+1) u c::S.a s::L))(hs:Ct.Rm 101 s)(hu:u.ended=none)(hd:(c.kind==0)=false)(hk:k<=9000000000000000000):
  Calls prog 45 #[↑tb] w λe w'=>∃s' u' c',u.step s=(s',u')/\e=.returned (.tuple #[])/\SH B w' (bl tb (xU S c' (k+1) false) 102::mA S jG n u' c'::S.a s'::L):=by
 refine cN func45 ntmps45 h λw h=>?_
 refine cl (ca eF rfl) ((Na S tb c k false (h.fr (.c r0 .n))).mono ?_)
 rintro _ w ⟨rfl,h⟩
 refine⟨_,rfl,?_⟩
 refine st (mv rfl)<|gT rfl rfl hd<|st (mv rfl)<|gT rfl rfl hd<|st (nc rfl rfl)<|gT rfl rfl hd<|st (fa GD rfl)<|gT rfl rfl hd<|st (ld Cx rfl (h.c a0 rfl))<|st (pF rfl hd rfl)<|xe<|nx<|cF rfl<|sk<|nx<|sq<|rg<|st (mv rfl)<|st (nc rfl rfl)<|st (fa GD rfl)<|?_
 refine sf (so h rfl rfl rfl MQ rfl (.s (.s (.s (.s (.s (.s (.s (.s (.s (.s (.s (.s (.s (.s (.s (.s (.r .d))))))))))))))))) u0)<|?_
 rintro _ w h
 refine xe<|nx<|sq<|rg<|st (mv rfl)<|st (nc rfl rfl)<|st (fa GJ rfl)<|st (ld jZ rfl (h.c a0 rfl))<|st (bw rfl rfl (iR (c:=((k+1:Nat):Int)) (by omega) (by omega) (by omega)))<|st (nc rfl rfl)<|st (fa GJ rfl)<|?_
 refine sf (so h rfl rfl rfl Gu rfl (.s (.s (.s (.s (.s (.s (.s (.s (.s (.s (.s (.s (.s (.s (.s (.r .d)))))))))))))))) u0)<|?_
 rintro _ w h
 refine xe<|nx<|sq<|?_
 refine DD (F:=[bl tb ([S.v,↑c.kind,↑c.cell,↑c.dO,↑c.new,c.ld.val,c.tr.val,↑c.r.err,↑c.r.found,.int .u64 (c.r.value:Int),↑c.r.key,↑c.r.count,↑c.r.ref,↑c.r.aF.root,↑c.r.aF.readOnly,.int .i64 ((k+1:Nat):Int),↑true]) 102]) [(true,[1,3,5,7,9,11,13,15,17,18,21,23]),(false,[24])] (by kernel_rfl) h (λw h=>(hC (h.at_ a0) hN)) λw h=>go h λw h=>?_
 refine tk (λW H=>kB (cs:=[↑c.kind,↑c.cell,↑c.dO,↑c.new,c.ld.val,c.tr.val,↑c.r.err,↑c.r.found,.int .u64 (c.r.value:Int),↑c.r.key,↑c.r.count,↑c.r.ref,↑c.r.aF.root,↑c.r.aF.readOnly]) rfl (hX (H.b a0) 1 rfl) Row.h)<|go h λw h=>?_
 refine OI (Zl S hM _ u c _ h.to hs hu) λs1 uz2 c3 hq4 w h=>?_
 refine rn (wC results45)<|go h λw h=>?_
 refine⟨s1,uz2,c3,hq4,rfl,h.to⟩
theorem n6(S:fX)(n:Nat)(th:Fv)(k:Unit->Ct.I Ct.Result)(s:Ct.St)(h:SH B w (gY S jG n 60 yJ k th::S.a s::L))(hs:Ct.Rm 60 s):
  Calls prog 36 #[S.v,th.val] w λe w'=>∃tb s' u,(k ()).head s=(s',u)/\e=.returned (.pointer (some ⟨tb,0,none⟩))/\SH B w' (nM S n tb u 0::S.a s'::L):=by
 refine cN func36 ntmps36 h λw h=>?_
 refine jX h λb1 w h=>?_
 refine cl (ca eF rfl) ((Uw S jG n th k s (h.fr (.c r1 (.c r1 .n))) hs).mono ?_)
 rintro _ w ⟨s2,uz3,c4,Vo,rfl,h⟩
 refine⟨_,rfl,?_⟩
 refine st (nc rfl rfl)<|st (fa ZT rfl)<|?_
 refine sf (so h rfl rfl rfl uI (kF _) (.s (.r (.r (.r (.r (.r (.r (.r (.r (.r (.r (.r (.r (.r (.r .d))))))))))))))) u2)<|?_
 rintro _ w h
 refine xe<|nx<|sq<|rg<|st (mv rfl)<|st (sg rfl)<|xe<|nx<|rt<|?_
 refine go h λw h=>?_
 refine rz ?_
 have h:=(h.fr (.c r2 (.c r0 (.c r0 .n))))
 exact⟨b1,s2,uz3,Vo,rfl,SH.bX c4 (SH.is (l:=[bl b1 (xU S c4 0 false) 102,mA S jG n uz3 c4]) h)⟩
theorem SH.to{S:fX}{n tb k:Nat}{u:Ct.I Ct.Result}(h:SH B w (nM S n tb u k::L)):∃c,SH B w (bl tb (xU S c k false) 102::mA S jG n u c::L):=by
 obtain⟨c,h⟩:=SH.ex (f:=λc:Cc=>Go.E.se [bl tb (xU S c k false) 102,mA S jG n u c]) h
 exact⟨c,SH.se h⟩
theorem SH.ti{S:fX}{n tb k:Nat}{u:Ct.I Ct.Result}{c:Cc}(h:SH B w (bl tb (xU S c k false) 102::mA S jG n u c::L)):SH B w (nM S n tb u k::L):=
 SH.bX (f:=λc:Cc=>Go.E.se [bl tb (xU S c k false) 102,mA S jG n u c]) c (SH.is (l:=[_,_]) h)
theorem LB(S:fX)(n tb k:Nat)(u:Ct.I Ct.Result)(h:SH B w (nM S n tb u k::L)):
  Calls prog 18 #[↑tb] w λe w'=>e=.returned ↑u.ended.isSome/\SH B w' (nM S n tb u k::L):=by
 obtain⟨c,h⟩:=SH.to h
 have hc:=Hr (h.fr (.c r1 .n))
 refine(Na S tb c k false h).mono ?_
 rintro e w' ⟨rfl,h⟩
 exact⟨by rw[hc.1],SH.ti h⟩
theorem IJ(S:fX)(n tb k:Nat)(u:Ct.I Ct.Result)(h:SH B w (nM S n tb u k::L)):
  Calls prog 13 #[↑tb] w λe w'=>e=.returned (.agg (B5 (u.ended.getD {})).toArray)/\SH B w' (nM S n tb u k::L):=by
 obtain⟨c,h⟩:=SH.to h
 have hc:=Hr (h.fr (.c r1 .n))
 refine(WZ S tb c k false h).mono ?_
 rintro e w' ⟨rfl,h⟩
 refine⟨?_,SH.ti h⟩
 cases he:u.ended with
 |none=>rw[hc.1,he];rfl
 |some r=>rw[hc.1,he,hc.2.2.2.2.2 r he];rfl
theorem VH(S:fX)(hM:∀w,OP S.t S.x S.ab w)(n tb k:Nat)(u:Ct.I Ct.Result)(s:Ct.St)(h:SH B w (nM S (n+1) tb u k::S.a s::L))(hs:Ct.Rm 101 s)(hu:u.ended=none)(hk:k<=9000000000000000000):
  Calls prog 45 #[↑tb] w λe w'=>e=.returned (.tuple #[])/\SH B w' (nM S n tb (u.step s).2 (k+1)::S.a (u.step s).1::L):=by
 obtain⟨c,h⟩:=SH.to h
 have hc:=Hr (h.fr (.c r1 .n))
 refine(T' S hM n tb u c k s h hs hu (by rw[hc.1,hu];rfl) hk).mono ?_
 rintro e w' ⟨s',u',c',hq,rfl,h⟩
 rw[hq]
 exact⟨rfl,SH.ti h⟩
section
attribute [local semireducible] mA gY rQ cZ
end
end Go.Q9
end
section
namespace Go.Q9
open Go.Proofs.Tryz
open Go.E
end Go.Q9
end
section
namespace Go.Q9
open Go.Proofs.Tryz
open Go.RowKit Go.E
attribute [local irreducible] gA wpS Go.E.X XS C kV lL fin Y U F Ca kU bl rb aV bS ex ce pu sK gK bK zK gG fE cZ gY mA rQ
open Go.Ct (qN qA qC qG qT qF)
end Go.Q9
end
section
namespace Go.Ct
variable{g:Ga}
structure Px where
 tb:Nat:=0
 xb:Nat:=0
 k:Nat:=0
 e:Ex:={}
 u:I Result:=.ret {}
structure J'(i:Nat)(g:Ga)(s:St)(ys:List Px):Prop where
 gw:GW g
 gC:oS g s
 fit:cL s
 ex:∀z∈ys,z.e.eV.length=z.k/\z.k<=i/\∃u',Er g z.e z.u u'
 size:s.size<=38000000000+200000*i
theorem Er.same{e:Ex}{u u':I Result}(h:Er g e u u'):e.done=u.ended.isSome/\(u.ended=none->e.next=u.acc)/\∀r,u.ended=some r->e.result=r:=by
 obtain⟨h1,h2⟩:=h.sh.acc
 exact⟨by rw[h.rest.done,<- h2],λq=>by rw[h.rest.next (by rw[<- h2];exact q),h1],λr q=>h.rest.res r (by rw[<- h2];exact q)⟩
theorem J'.ready{i:Nat}{s:St}{ys:List Px}(h:J' i g s ys)(hi:i<=1000){z:Px}(hz:z∈ys):Ok 60 (cE 1 ⟨z.e,s⟩)/\(cE 1 ⟨z.e,s⟩).left<FU/\z.e.call.aI<18446744073709551616/\z.e.call.key.size<=9223372036854775807/\7<=z.e.call.kind/\(z.e.call.kind<=12\/z.e.call.kind<=12):=by
 obtain⟨h1,h2,u',hE⟩:=h.ex z hz
 have hs:=h.size
 obtain⟨a,b⟩:=hE.ready h.gC h.fit (by unfold room;omega)
 exact⟨a,b,hE.aI,hE.key,hE.ok.lo,hE.ok.hi⟩
def Px.next(z:Px)(s:St):Px:={z with k:=z.k+1,e:=(cC (cA z.e.call FU) 1 ⟨z.e,s⟩).e,u:=(z.u.step s).2}
theorem J'.step{i j:Nat}{s:St}{ys:List Px}(h:J' i g s ys)(hi:i<=1000)(hj:j<ys.length)(hd:ys[j].e.done=false)(Tr:Ok 50 (cC (cA ys[j].e.call FU) 1 ⟨ys[j].e,s⟩)):
  ((ys[j].u).step s).1=(cC (cA ys[j].e.call FU) 1 ⟨ys[j].e,s⟩).s/\∃g',J' (i+1) g' (cC (cA ys[j].e.call FU) 1 ⟨ys[j].e,s⟩).s (ys.set j (ys[j].next s)):=by
 obtain⟨h1,h2,u',hE⟩:=h.ex _ (uY hj)
 obtain⟨g',v,v',e1,k2,w2,t2,f2,E2,l2,b2,b3,hP⟩:=hE.step h.gw h.gC h.fit hd (by unfold Jp;omega) Tr
 have hs:=h.size
 refine⟨by rw[e1],g',w2,t2,f2,?_,by omega⟩
 intro z m
 rcases List.mem_or_eq_of_mem_set m with m|rfl
 ·obtain⟨a,b,q,c⟩:=h.ex z m
  exact⟨a,by omega,q,c.ge h.gw k2⟩
 ·refine⟨by show (cC (cA ys[j].e.call FU) 1 ⟨ys[j].e,s⟩).e.eV.length=ys[j].k+1;rw[l2,h1],by show ys[j].k+1<=i+1;omega,v',?_⟩
  show Er g' _ ((ys[j].u).step s).2 v'
  rw[e1];exact E2
theorem J'.add{i tb xb:Nat}{s:St}{ys:List Px}{c:Call}(h:J' i g s ys)(hs:s.size+1000<=38000000000)(hc:nQ g c)(hm:c.aI<18446744073709551616)(hk:c.key.size<=9223372036854775807)(Tr:Ok 50 (cC (cA c FU) 0 ⟨{call:=c},s⟩)):
  ∃g' u,(jC c FU).head s=((cC (cA c FU) 0 ⟨{call:=c},s⟩).s,u)/\Ge g g'/\(cC (cA c FU) 0 ⟨{call:=c},s⟩).s.size<=s.size+120/\J' i g' (cC (cA c FU) 0 ⟨{call:=c},s⟩).s (ys++[{tb:=tb,xb:=xb,e:=(cC (cA c FU) 0 ⟨{call:=c},s⟩).e,u:=u}]):=by
 obtain⟨g',u,u',h1,h2,h3,h4,h5,h6,h7,h8,h9,N7,_⟩:=Er.start h.gw h.gC h.fit hc hm hk Tr
 refine⟨g',u,h1,h2,h8,h3,h4,h5,?_,by omega⟩
 intro z m
 rcases List.mem_append.1 m with m|m
 ·obtain⟨a,b,q,c'⟩:=h.ex z m
  exact⟨a,b,q,c'.ge h.gw h2⟩
 ·rw[List.mem_singleton.1 m]
  exact⟨by show (cC (cA c FU) 0 ⟨{call:=c},s⟩).e.eV.length=0;rw[h7];rfl,bZ _,u',h6⟩
theorem oS.acc{s:St}(h:oS g s)(a:Nat):oS g {s with acc:=a}:=⟨h.nodes,h.gen,h.len,h.holds,h.dec,h.DL⟩
theorem Mx.lkd{s:St}{ts:List aX}{zs:List (Nat×Ex)}(h:Mx 36 g s ts zs):J' 0 g {s with acc:=0} []/\({s with acc:=0}:St).size+500<=37100000000:=by
 have hs:=h.size
 have:({s with acc:=0}:St).size<=s.size:=by unfold St.size;dsimp only;omega
 exact⟨⟨h.gw,h.gC.acc 0,h.fit,(λz m=>by cases m),by omega⟩,by omega⟩
end Go.Ct
end
section
namespace Go.Q9
open Go.Proofs.Tryz
open Go.RowKit Go.E
attribute [local irreducible] gA wpS Go.E.X XS C kV lL fin Y U F Ca kU bl rb aV bS ex ce pu sK gK bK zK
variable{B w:World}{L:List As}
theorem Sd(xb mb:Nat)(x:Ct.X)(t:Ct.aX)(i m:Int)(h:SH B w (XA xb mb x::L))(k:Ct.Ok 30 x):
  Calls prog 178 #[↑xb,.agg (dV t).toArray,↑i,↑m] w λe w'=>∃y v,Ct.bC (Ct.Av t i m) x=Ct.out y v/\e=.returned (.int .i64 v)/\SH B w' (XA xb mb y::L)/\Ct.Ok 60 y:=by
 refine cN func178 ntmps178 h λw h=>?_
 refine jX h λb1 w h=>?_
 refine cS (aQ xb mb x m h.to k.eY) λp2 w h=>?_
 have h:=h.drop
 refine eI (qM xb mb x ((x.node m).prev) h.to (k.less (by omega))) λy3 v4 q5 w h k=>?_
 refine st (ld (v:=.bool y3.e.aD) One.h rfl (h.xc a0 λ_=>rfl))<|go h λw h=>?_
 refine qg h (λdJ w h=>?_) λdJ w h=>?_
 exact rz ⟨_,_,Ct.rN<|Ct.rL q5<|Ct.rS dJ,rfl,h.to,(k.stop dJ)⟩
 refine qc h (λfF w h=>?_) λfF w h=>?_
 exact rz ⟨_,_,Ct.rN<|Ct.rL q5<|Ct.rT fF<|Ct.rR,rfl,h.to,(k.less (by omega))⟩
 refine cS (aQ xb mb y3 v4 h.to k.eY) λp10 w h=>?_
 have h:=h.drop
 refine bQ (BW (y3.node v4) p10 h.to) λw h=>?_
 refine qc h (λiT w h=>?_) λiT w h=>?_
 refine qc h (λfO w h=>?_) λfO w h=>?_
 have eJ:t.readOnly=false:=by simpa using fO
 refine eI (J8 xb mb y3 t h.to (k.less (by omega))) λYX v15 Ui w h k=>?_
 refine cS (aQ xb mb YX v15 h.to k.eY) λp17 w h=>?_
 have h:=h.drop
 refine cS (aQ xb mb YX i h.to k.eY) λR5 w h=>?_
 have h:=h.drop
 refine qc h (λiM w h=>?_) λiM w h=>?_
 refine cS (aQ xb mb YX m h.to k.eY) λM6 w h=>?_
 have h:=h.drop
 refine eI (rO xb mb YX ((YX.node m).prev) v4 0 h.to (k.less (by omega))) λy22 v23 S3 w h k=>?_
 refine cS (aQ xb mb y22 m h.to k.eY) λp25 w h=>?_
 have h:=h.drop
 refine eI (qM xb mb y22 ((y22.node m).prev) h.to (k.less (by omega))) λy26 v27 R6 w h k=>?_
 refine st (ld (v:=.bool y26.e.aD) One.h rfl (h.xc a0 λ_=>rfl))<|go h λw h=>?_
 refine qg h (λCV w h=>?_) λCV w h=>?_
 exact rz ⟨_,_,Ct.rN<|Ct.rL q5<|Ct.rF fF<|Ct.rN<|Ct.rT iT<|Ct.rF eJ<|Ct.rB Ui<|Ct.rN<|Ct.rN<|Ct.rT iM<|Ct.rN<|Ct.rC S3<|Ct.rN<|Ct.rL R6<|Ct.rS CV,rfl,h.to,(k.stop CV)⟩
 refine qc h (λMt w h=>?_) λMt w h=>?_
 exact rz ⟨_,_,Ct.rN<|Ct.rL q5<|Ct.rF fF<|Ct.rN<|Ct.rT iT<|Ct.rF eJ<|Ct.rB Ui<|Ct.rN<|Ct.rN<|Ct.rT iM<|Ct.rN<|Ct.rC S3<|Ct.rN<|Ct.rL R6<|Ct.rT Mt<|Ct.rR,rfl,h.to,(k.less (by omega))⟩
 refine cS (aQ xb mb y26 i h.to k.eY) λp33 w h=>?_
 have h:=h.drop
 refine cS (aQ xb mb y26 v27 h.to k.eY) λp34 w h=>?_
 have h:=h.drop
 refine eI (rO xb mb y26 ((y26.node i).main) m ((y26.node v27).dO) h.to (k.less (by omega))) λy35 v36 q37 w h k=>?_
 refine cS (aQ xb mb y35 v27 h.to k.eY) λp38 w h=>?_
 have h:=h.drop
 exact rz ⟨_,_,Ct.rN<|Ct.rL q5<|Ct.rF fF<|Ct.rN<|Ct.rT iT<|Ct.rF eJ<|Ct.rB Ui<|Ct.rN<|Ct.rN<|Ct.rT iM<|Ct.rN<|Ct.rC S3<|Ct.rN<|Ct.rL R6<|Ct.rF Mt<|Ct.rN<|Ct.rN<|Ct.rC q37<|Ct.rN<|Ct.rR,rfl,h.to,(k.less (by omega))⟩
 refine cS (aQ xb mb YX m h.to k.eY) λp40 w h=>?_
 have h:=h.drop
 refine eI (fA (j:=59) xb mb YX ({kind:=7,dO:=v4}) {} 0 (SH.fI ({kind:=7,dO:=v4}) rfl rfl h.to) (k.less (by omega)) (Ct.bP _ 7 0 v4 0 0)) λy41 v42 q43 w h ⟨k,aU4⟩=>?_
 refine eI (rO xb mb y41 ((YX.node m).prev) v4 v42 h.to (k.less (by omega))) λy44 v45 q46 w h k=>?_
 refine cS (aQ xb mb y44 m h.to k.eY) λp47 w h=>?_
 have h:=h.drop
 refine eI (qM xb mb y44 ((y44.node m).prev) h.to (k.less (by omega))) λy48 v49 q50 w h k=>?_
 refine st (ld (v:=.bool y48.e.aD) One.h rfl (h.xc a0 λ_=>rfl))<|go h λw h=>?_
 refine qg h (λMn w h=>?_) λMn w h=>?_
 exact rz ⟨_,_,Ct.rN<|Ct.rL q5<|Ct.rF fF<|Ct.rN<|Ct.rT iT<|Ct.rF eJ<|Ct.rB Ui<|Ct.rN<|Ct.rN<|Ct.rF iM<|Ct.rN<|Ct.rA q43<|Ct.rC q46<|Ct.rN<|Ct.rL q50<|Ct.rS Mn,rfl,h.to,(k.stop Mn)⟩
 refine qc h (λMr w h=>?_) λMr w h=>?_
 exact rz ⟨_,_,Ct.rN<|Ct.rL q5<|Ct.rF fF<|Ct.rN<|Ct.rT iT<|Ct.rF eJ<|Ct.rB Ui<|Ct.rN<|Ct.rN<|Ct.rF iM<|Ct.rN<|Ct.rA q43<|Ct.rC q46<|Ct.rN<|Ct.rL q50<|Ct.rT Mr<|Ct.rR,rfl,h.to,(k.less (by omega))⟩
 refine cS (aQ xb mb y48 i h.to k.eY) λp55 w h=>?_
 have h:=h.drop
 refine cS (aQ xb mb y48 v49 h.to k.eY) λp56 w h=>?_
 have h:=h.drop
 refine eI (rO xb mb y48 ((y48.node i).main) m ((y48.node v49).dO) h.to (k.less (by omega))) λy57 v58 q59 w h k=>?_
 refine cS (aQ xb mb y57 v49 h.to k.eY) λp60 w h=>?_
 have h:=h.drop
 exact rz ⟨_,_,Ct.rN<|Ct.rL q5<|Ct.rF fF<|Ct.rN<|Ct.rT iT<|Ct.rF eJ<|Ct.rB Ui<|Ct.rN<|Ct.rN<|Ct.rF iM<|Ct.rN<|Ct.rA q43<|Ct.rC q46<|Ct.rN<|Ct.rL q50<|Ct.rF Mr<|Ct.rN<|Ct.rN<|Ct.rC q59<|Ct.rN<|Ct.rR,rfl,h.to,(k.less (by omega))⟩
 have CQ:t.readOnly=true:=by simpa using fO
 refine cS (aQ xb mb y3 m h.to k.eY) λp62 w h=>?_
 have h:=h.drop
 refine eI (fA (j:=89) xb mb y3 ({kind:=7,dO:=v4}) {} 0 (SH.fI ({kind:=7,dO:=v4}) rfl rfl h.to) (k.less (by omega)) (Ct.bP _ 7 0 v4 0 0)) λy63 v64 q65 w h ⟨k,aUr⟩=>?_
 refine eI (rO xb mb y63 ((y3.node m).prev) v4 v64 h.to (k.less (by omega))) λy66 v67 q68 w h k=>?_
 refine cS (aQ xb mb y66 m h.to k.eY) λp69 w h=>?_
 have h:=h.drop
 refine eI (qM xb mb y66 ((y66.node m).prev) h.to (k.less (by omega))) λy70 v71 q72 w h k=>?_
 refine st (ld (v:=.bool y70.e.aD) One.h rfl (h.xc a0 λ_=>rfl))<|go h λw h=>?_
 refine qg h (λN3 w h=>?_) λN3 w h=>?_
 exact rz ⟨_,_,Ct.rN<|Ct.rL q5<|Ct.rF fF<|Ct.rN<|Ct.rT iT<|Ct.rT CQ<|Ct.rN<|Ct.rA q65<|Ct.rC q68<|Ct.rN<|Ct.rL q72<|Ct.rS N3,rfl,h.to,(k.stop N3)⟩
 refine qc h (λQL w h=>?_) λQL w h=>?_
 exact rz ⟨_,_,Ct.rN<|Ct.rL q5<|Ct.rF fF<|Ct.rN<|Ct.rT iT<|Ct.rT CQ<|Ct.rN<|Ct.rA q65<|Ct.rC q68<|Ct.rN<|Ct.rL q72<|Ct.rT QL<|Ct.rR,rfl,h.to,(k.less (by omega))⟩
 refine cS (aQ xb mb y70 i h.to k.eY) λp77 w h=>?_
 have h:=h.drop
 refine cS (aQ xb mb y70 v71 h.to k.eY) λp78 w h=>?_
 have h:=h.drop
 refine eI (rO xb mb y70 ((y70.node i).main) m ((y70.node v71).dO) h.to (k.less (by omega))) λy79 v80 q81 w h k=>?_
 refine cS (aQ xb mb y79 v71 h.to k.eY) λp82 w h=>?_
 have h:=h.drop
 exact rz ⟨_,_,Ct.rN<|Ct.rL q5<|Ct.rF fF<|Ct.rN<|Ct.rT iT<|Ct.rT CQ<|Ct.rN<|Ct.rA q65<|Ct.rC q68<|Ct.rN<|Ct.rL q72<|Ct.rF QL<|Ct.rN<|Ct.rN<|Ct.rC q81<|Ct.rN<|Ct.rR,rfl,h.to,(k.less (by omega))⟩
 refine cS (aQ xb mb y3 i h.to k.eY) λp83 w h=>?_
 have h:=h.drop
 refine cS (aQ xb mb y3 v4 h.to k.eY) λp84 w h=>?_
 have h:=h.drop
 refine eI (rO xb mb y3 ((y3.node i).main) m ((y3.node v4).dO) h.to (k.less (by omega))) λy85 v86 q87 w h k=>?_
 refine cS (aQ xb mb y85 v4 h.to k.eY) λp88 w h=>?_
 have h:=h.drop
 exact rz ⟨_,_,Ct.rN<|Ct.rL q5<|Ct.rF fF<|Ct.rN<|Ct.rF iT<|Ct.rN<|Ct.rN<|Ct.rC q87<|Ct.rN<|Ct.rR,rfl,h.to,(k.less (by omega))⟩
theorem mR(xb mb:Nat)(x:Ct.X)(t:Ct.aX)(i:Int)(h:SH B w (XA xb mb x::L))(k:Ct.Ok 30 x):
  Calls prog 145 #[↑xb,.agg (dV t).toArray,↑i] w λe w'=>∃y v,Ct.bC (Ct.sE t i) x=Ct.out y v/\e=.returned (.int .i64 v)/\SH B w' (XA xb mb y::L)/\Ct.Ok 60 y:=by
 refine cN func145 ntmps145 h λw h=>?_
 refine jX h λb1 w h=>?_
 refine fD [1,3,5,7,9,11,12,15,16,18,20] (by kernel_rfl) h (.c r0 .n) λw h=>go h λw h=>?_
 refine nP (aQ _ _ _ _ h.to k.eY) λp2 w h=>?_
 have h:=h.drop
 refine go h λw h=>?_
 refine pO (qM _ _ _ _ h.to (k.less (by omega))) λy3 v4 q5 w h k=>?_
 refine pO (Sd _ _ _ _ _ _ h.to (k.less (by omega))) λy6 v7 q8 w h k=>?_
 exact rz ⟨_,_,Ct.rN<|Ct.rL q5<|q8,rfl,h.to,k⟩
theorem Nw(xb mb:Nat)(x:Ct.X)(t:Ct.aX)(i:Int)(h:SH B w (XA xb mb x::L))(k:Ct.Ok 30 x):
  Calls prog 182 #[↑xb,.agg (dV t).toArray,↑i] w λe w'=>∃y v,Ct.bC (Ct.Bg t i) x=Ct.out y v/\e=.returned (.tuple #[])/\SH B w' (XA xb mb y::L)/\Ct.Ok 60 y:=by
 refine cN func182 ntmps182 h λw h=>?_
 refine jX h λb1 w h=>?_
 refine fD [1,3,5,7,15,17,8,11,12,18,21,23] (by kernel_rfl) h (.c r0 .n) λw h=>go h λw h=>?_
 refine nP (aQ _ _ _ _ h.to k.eY) λp2 w h=>?_
 have h:=h.drop
 refine go h λw h=>?_
 refine pO (mR _ _ _ _ _ h.to (k.less (by omega))) λy3 v4 q5 w h k=>?_
 refine nP (aQ _ _ _ _ h.to k.eY) λp6 w h=>?_
 have h:=h.drop
 refine go h λw h=>?_
 refine qc h (λfF w h=>?_) λfF w h=>?_
 have Ua:=eq_of_beq fF
 refine go h λw h=>?_
 refine cS (aQ _ _ _ _ h.to k.eY) λp9 w h=>?_
 have h:=h.drop
 refine go h λw h=>?_
 refine eI (rO _ _ _ _ _ _ h.to (k.less (by omega))) λy10 v11 q12 w h k=>?_
 refine rn (wC results182)<|go h λw h=>?_
 refine⟨_,(),Ct.rN<|Ct.rB q5<|Ct.rN<|Ct.rT fF<|Ct.rN<|Ct.rC q12<|Ct.rR,rfl,h.to,(k.less (by omega))⟩
 have N2:=bM fF
 refine go h λw h=>?_
 refine cS (aQ _ _ _ _ h.to k.eY) λp14 w h=>?_
 have h:=h.drop
 refine go h λw h=>?_
 refine eI (rO _ _ _ _ _ _ h.to (k.less (by omega))) λy15 v16 Vr w h k=>?_
 refine rn (wC results182)<|go h λw h=>?_
 refine⟨_,(),Ct.rN<|Ct.rB q5<|Ct.rN<|Ct.rF fF<|Ct.rN<|Ct.rC Vr<|Ct.rR,rfl,h.to,(k.less (by omega))⟩
theorem zV(xb mb:Nat)(x:Ct.X)(t:Ct.aX)(h:SH B w (XA xb mb x::L))(k:Ct.Ok 30 x):
  Calls prog 147 #[↑xb,.agg (dV t).toArray] w λe w'=>∃y v,Ct.bC (Ct.xP t) x=Ct.out y v/\e=.returned (.int .i64 v)/\SH B w' (XA xb mb y::L)/\Ct.Ok 60 y:=by
 refine cN func147 ntmps147 h λw h=>?_
 refine jX h λb1 w h=>?_
 refine eI (qM _ _ _ _ h.to (k.less (by omega))) λy2 v3 q4 w h k=>?_
 refine st (ld (v:=.bool y2.e.aD) One.h rfl (h.xc a0 λ_=>rfl))<|go h λw h=>?_
 refine qg h (λdM w h=>?_) λdM w h=>?_
 exact rz ⟨_,_,Ct.rL q4<|Ct.rS dM,rfl,h.to,(k.stop dM)⟩
 refine cS (aQ _ _ _ _ h.to k.eY) λp6 w h=>?_
 have h:=h.drop
 refine qc h (λfF w h=>?_) λfF w h=>?_
 exact rz ⟨_,_,Ct.rL q4<|Ct.rN<|Ct.rT fF<|Ct.rR,rfl,h.to,(k.less (by omega))⟩
 refine cS (aQ _ _ _ _ h.to k.eY) λp10 w h=>?_
 have h:=h.drop
 refine eI (qM _ _ _ _ h.to (k.less (by omega))) λy11 v12 Bj w h k=>?_
 refine qc h (λgD w h=>?_) λgD w h=>?_
 refine eI (Nw _ _ _ _ _ h.to (k.less (by omega))) λy16 v17 PY w h k=>?_
 refine cS (aQ _ _ _ _ h.to k.eY) λp19 w h=>?_
 have h:=h.drop
 refine eI (qM _ _ _ _ h.to (k.less (by omega))) λy20 v21 q22 w h k=>?_
 refine VX (tE _ _ _ _ _ h.to k) λv23 S3 w h=>?_
 refine eI (rO _ _ _ _ _ _ h.to (k.less (by omega))) λy25 v26 UB w h k=>?_
 exact rz ⟨_,_,Ct.rL q4<|Ct.rN<|Ct.rF fF<|Ct.rN<|Ct.rL Bj<|Ct.rT gD<|Ct.rB PY<|Ct.rN<|Ct.rL q22<|Ct.rB S3<|Ct.rC UB<|Ct.rR,rfl,h.to,(k.less (by omega))⟩
 refine VX (tE _ _ _ _ _ h.to k) λv29 QG w h=>?_
 refine eI (rO _ _ _ _ _ _ h.to (k.less (by omega))) λy31 v32 q33 w h k=>?_
 exact rz ⟨_,_,Ct.rL q4<|Ct.rN<|Ct.rF fF<|Ct.rN<|Ct.rL Bj<|Ct.rF gD<|Ct.rB QG<|Ct.rC q33<|Ct.rR,rfl,h.to,(k.less (by omega))⟩
theorem lH(xb mb:Nat)(x:Ct.X)(t:Ct.aX)(i o n:Int)(h:SH B w (XA xb mb x::L))(k:Ct.Ok 30 x):
  Calls prog 146 #[↑xb,.agg (dV t).toArray,↑i,↑o,↑n] w λe w'=>∃y v,Ct.bC (Ct.pD t i o n) x=Ct.out y v/\e=.returned (.bool v)/\SH B w' (XA xb mb y::L)/\Ct.Ok 60 y:=by
 refine cN func146 ntmps146 h λw h=>?_
 refine jX h λb1 w h=>?_
 refine cS (aQ _ _ _ _ h.to k.eY) λp2 w h=>?_
 have h:=h.drop
 refine go h λw h=>?_
 refine eI (rO _ _ _ _ _ _ h.to (k.less (by omega))) λy3 v4 q5 w h k=>?_
 refine qc h (λdJ w h=>?_) λdJ w h=>?_
 have fF:v4=false:=by simpa using dJ
 refine go h λw h=>?_
 exact rz ⟨_,false,Ct.rN<|Ct.rC q5<|Ct.rF fF<|Ct.rR,rfl,h.to,(k.less (by omega))⟩
 have fG:v4=true:=by simpa using dJ
 refine go h λw h=>?_
 refine eI (Sd _ _ _ _ _ _ h.to (k.less (by omega))) λy9 v10 Ug w h k=>?_
 refine st (ld (v:=.bool y9.e.aD) One.h rfl (h.xc a0 λ_=>rfl))<|go h λw h=>?_
 refine qg h (λfO w h=>?_) λfO w h=>?_
 have eJ:y9.e.aD=false:=by simpa using fO
 refine go h λw h=>?_
 exact rz ⟨_,((v10:Int)==n),Ct.rN<|Ct.rC q5<|Ct.rT fG<|Ct.rB Ug<|Ct.rR,rfl,h.to,k⟩
 have gD:y9.e.aD=true:=by simpa using fO
 refine go h λw h=>?_
 exact rz ⟨_,false,Ct.rN<|Ct.rC q5<|Ct.rT fG<|Ct.rB Ug<|Ct.rS gD,rfl,h.to,(k.stop gD)⟩
theorem Yt(xb mb:Nat)(x:Ct.X)(t:Ct.aX)(o m n:Int)(h:SH B w (XA xb mb x::L))(k:Ct.Ok 30 x):
  Calls prog 148 #[↑xb,.agg (dV t).toArray,↑o,↑m,↑n] w λe w'=>∃y v,Ct.bC (Ct.Iw t o m n) x=Ct.out y v/\e=.returned (.bool v)/\SH B w' (XA xb mb y::L)/\Ct.Ok 60 y:=by
 refine cN func148 ntmps148 h λw h=>?_
 refine jX h λb1 w h=>?_
 refine eI (fA (j:=29) xb mb x ({kind:=8,dO:=o,aS:=m,new:=n}) {} 0 (SH.fI ({kind:=8,dO:=o,aS:=m,new:=n}) rfl rfl h.to) (k.less (by omega)) (Ct.bP _ 8 0 o m n)) λy2 v3 q4 w h ⟨k,bD2⟩=>?_
 refine eI (rO xb mb y2 t.root o v3 h.to (k.less (by omega))) λy5 v6 q7 w h k=>?_
 refine qc h (λfG w h=>?_) λfG w h=>?_
 have wE:v6=false:=by simpa using fG
 refine go h λw h=>?_
 exact rz ⟨_,false,Ct.rA q4<|Ct.rC q7<|Ct.rF wE<|Ct.rR,rfl,h.to,(k.less (by omega))⟩
 have dG:v6=true:=by simpa using fG
 refine go h λw h=>?_
 refine eI (Nw xb mb y5 t v3 h.to (k.less (by omega))) λy11 v12 Bj w h k=>?_
 refine cS (aQ xb mb y11 v3 h.to k.eY) λp14 w h=>?_
 have h:=h.drop
 refine go h λw h=>?_
 refine eI (qM xb mb y11 ((y11.node v3).status) h.to (k.less (by omega))) λy15 v16 Vr w h k=>?_
 refine fD [1,3,5,7,9,11,13,14,16] (by kernel_rfl) h (.c r1 .n) λw h=>go h λw h=>?_
 refine aIc (tE xb mb y15 v3 v16 h.to k) λv18 Bk w h=>?_
 refine pO (rO xb mb y15 t.root v3 v18 h.to (k.less (by omega))) λy20 v21 q22 w h k=>?_
 refine st (ld (v:=.bool y20.e.aD) One.h rfl (h.xc a0 λ_=>rfl))<|go h λw h=>?_
 refine qg h (λfP w h=>?_) λfP w h=>?_
 have rY:y20.e.aD=false:=by simpa using fP
 refine go h λw h=>?_
 exact rz ⟨_,((v16:Int)==1),Ct.rA q4<|Ct.rC q7<|Ct.rT dG<|Ct.rB Bj<|Ct.rN<|Ct.rL Vr<|Ct.rB Bk<|Ct.rC q22<|Ct.rR,rfl,h.to,(k.less (by omega))⟩
 have KE:y20.e.aD=true:=by simpa using fP
 refine go h λw h=>?_
 exact rz ⟨_,false,Ct.rA q4<|Ct.rC q7<|Ct.rT dG<|Ct.rB Bj<|Ct.rN<|Ct.rL Vr<|Ct.rB Bk<|Ct.rC q22<|Ct.rS KE,rfl,h.to,(k.stop KE)⟩
end Go.Q9
end
section
namespace Go.Q9
open Go.Proofs.Tryz
open Go.RowKit Go.E Go.Ct
attribute [local irreducible] gA wpS Go.E.X XS C kV lL fin Y U F Ca kU bl rb aV bS ex ce pu sK gK bK zK
variable{B w:World}{L:List As}
theorem yG{j:Nat}(xb mb:Nat)(x:Ct.X)(cr ix r:Int)(h:SH B w (XA xb mb x::L))(k:Ct.Ok (j+1) x):
  Calls prog 186 #[↑xb,↑cr,↑ix,↑r] w λe w'=>∃y v,Ct.bC (Ct.rK cr ix r) x=Ct.out y v/\e=.returned (.int .i64 v)/\SH B w' (XA xb mb y::L)/\Ct.Ok j y:=by
 have hlen:=k.len
 refine cN func186 ntmps186 h λw h=>?_
 refine cS (aQ _ _ _ _ h.to k.eY) λp1 w h=>?_
 have f2:=k.qJ cr
 have bf2:=k.len
 refine go h λw h=>?_
 refine cS (Gl _ _ _ _ h.to (Ct.Node.Fit.nf f2 (by omega))) λq3 w h=>?_
 refine jA h λb4 w h=>?_
 refine eI (fA (j:=j) _ _ _ _ _ _ ((SH.Wr h.to .z).fr (.c r0 (.c r1 .n))) k ((Ct.fY f2 ix r).mono (by omega))) λy5 v6 q7 w h ⟨k,aPs⟩=>?_
 have lq7:=Ct.AX q7
 refine go h λw h=>?_
 exact rz ⟨_,_,Ct.rN<|Ct.rA q7<|Ct.rR,rfl,h.to,k⟩
theorem UD(xb mb:Nat)(x:Ct.X)(t:Ct.aX)(i cr ix:Int)(h:SH B w (XA xb mb x::L))(k:Ct.Ok 30 x):
  Calls prog 149 #[↑xb,.agg (dV t).toArray,↑i,↑cr,↑ix] w λe w'=>∃y v,Ct.bC (Ct.Rj t i cr ix) x=Ct.out y v/\e=.returned (.int .i64 v)/\SH B w' (XA xb mb y::L)/\Ct.Ok 60 y:=by
 refine cN func149 ntmps149 h λw h=>?_
 refine jX h λb1 w h=>?_
 refine cS (aQ xb mb x cr h.to k.eY) λp2 w h=>?_
 have f3:=k.qJ cr
 have bf3:=k.len
 refine go h λw h=>?_
 refine bQ (iO (x.node cr) p2.pb p2.cb p2.pp p2.cp ix h.to (Ct.Node.Fit.nf f3 (by omega))) λw h=>?_
 refine eI (mR xb mb x t (Ct.aB (x.node cr) ix).1 h.to (k.less (by omega))) λy4 v5 q6 w h k=>?_
 refine cS (aQ xb mb y4 i h.to k.eY) λp7 w h=>?_
 refine eI (fA (j:=59) xb mb y4 ({kind:=2,gen:=(y4.node i).gen}) {} v5 (SH.fI ({kind:=2,gen:=(y4.node i).gen}) rfl rfl h.to) (k.less (by omega)) (Ct.bP _ 2 (y4.node i).gen 0 0 0)) λy9 v10 Ug w h ⟨k,aZa⟩=>?_
 refine fD [1,3,5,7,9,11,13,15,16,18] (by kernel_rfl) h (.c r3 .n) λw h=>go h λw h=>?_
 refine pO (yG (j:=58) xb mb y9 cr ix v10 h.to (k.less (by omega))) λy12 YS QD w h k=>?_
 refine pO (lH xb mb y12 t i cr YS h.to (k.less (by omega))) λy15 v16 Vr w h k=>?_
 refine qc h (λjJ w h=>?_) λjJ w h=>?_
 exact rz ⟨_,v10,Ct.rN<|Ct.rB q6<|Ct.rN<|Ct.rA Ug<|Ct.rB QD<|Ct.rB Vr<|Ct.rT jJ<|Ct.rR,rfl,h.to,k⟩
 exact rz ⟨_,0,Ct.rN<|Ct.rB q6<|Ct.rN<|Ct.rA Ug<|Ct.rB QD<|Ct.rB Vr<|Ct.rF jJ<|Ct.rR,rfl,h.to,k⟩
theorem Ip(xb mb:Nat)(x:Ct.X)(t:Ct.aX)(i cr:Int)(h0:Nat)(lv:Int)(h:SH B w (XA xb mb x::L))(k:Ct.Ok 30 x)(hh:h0<18446744073709551616):
  Calls prog 150 #[↑xb,.agg (dV t).toArray,↑i,↑cr,.int .u64 (h0:Int),↑lv] w λe w'=>∃y v,Ct.bC (Ct.Dk t i cr h0 lv) x=Ct.out y v/\e=.returned (.bool v)/\SH B w' (XA xb mb y::L)/\Ct.Ok 60 y:=by
 refine cN func150 ntmps150 h λw h=>?_
 refine jX h λb1 w h=>?_
 refine eI (mR _ _ _ _ _ h.to (k.less (by omega))) λy2 v3 q4 w h k=>?_
 refine cl (ca eF rfl) ((iV h0 lv _ (by omega)).mono ?_)
 rintro _ _ ⟨rfl,rfl⟩
 refine⟨_,rfl,?_⟩
 refine st (sg rfl)<|xe<|nx<|sq<|sq<|rg<|st (mv rfl)<|st (mv rfl)<|?_
 refine cS (aQ _ _ _ _ h.to k.eY) λp5 w h=>?_
 have f6:=k.qJ v3
 have bf6:=k.len
 refine go h λw h=>?_
 refine bQ (iO _ _ _ _ _ _ h.to (Ct.Node.Fit.nf f6 (by omega))) λw h=>?_
 refine st (ld (v:=.bool y2.e.aD) One.h rfl (h.xc a1 λ_=>rfl))<|go h λw h=>?_
 refine qg h (λfF w h=>?_) λfF w h=>?_
 exact rz ⟨_,false,Ct.rB q4<|Ct.rN<|Ct.rS fF,rfl,h.to,(k.stop fF)⟩
 refine qg h (λfG w h=>?_) λfG w h=>?_
 have wE:(Ct.aB (y2.node v3) (Ct.slice h0 lv)).2=false:=by simpa using fG
 exact rz ⟨_,false,Ct.rB q4<|Ct.rN<|Ct.US wE<|Ct.rR,rfl,h.to,k⟩
 have dG:(Ct.aB (y2.node v3) (Ct.slice h0 lv)).2=true:=by simpa using fG
 refine qc h (λiT w h=>?_) λiT w h=>?_
 exact rz ⟨_,false,Ct.rB q4<|Ct.rN<|Ct.Nn dG<|Ct.rT iT<|Ct.rR,rfl,h.to,k⟩
 refine eI (mR _ _ _ _ _ h.to (k.less (by omega))) λYX v15 Ui w h k=>?_
 refine cS (aQ _ _ _ _ h.to k.eY) λp17 w h=>?_
 have f18:=k.qJ v15
 refine cS (Uv _ _ h.to) λBk w h=>?_
 refine jA h λb20 w h=>?_
 refine st (ld (v:=.bool YX.e.aD) One.h rfl (h.xc a3 λ_=>rfl))<|go h λw h=>?_
 refine qg h (λnX w h=>?_) λnX w h=>?_
 exact rz ⟨_,false,Ct.rB q4<|Ct.rN<|Ct.Nn dG<|Ct.rF iT<|Ct.rB Ui<|Ct.rN<|Ct.rS nX,rfl,h.to,(k.stop nX)⟩
 refine qc h (λmW w h=>?_) λmW w h=>?_
 have fP:(Ct.aP (YX.node v15)).2=false:=by simpa using mW
 exact rz ⟨_,false,Ct.rB q4<|Ct.rN<|Ct.Nn dG<|Ct.rF iT<|Ct.rB Ui<|Ct.rN<|Ct.US fP<|Ct.rR,rfl,h.to,k⟩
 have rY:(Ct.aP (YX.node v15)).2=true:=by simpa using mW
 refine eI (fA (j:=59) _ _ _ _ _ _ ((SH.Wr h.to .z).fr (.c r0 (.c r1 .n))) (k.less (by omega)) ((Ct.eQ f18).mono (by omega))) λy25 v26 UB w h ⟨k,aVi⟩=>?_
 refine cS (aQ _ _ _ _ h.to k.eY) λp28 w h=>?_
 have f29:=k.qJ v3
 have bCv:=k.len
 refine go h λw h=>?_
 refine cS (Gl _ _ _ _ h.to (Ct.Node.Fit.nf f29 (by omega))) λQG w h=>?_
 refine jA h λb31 w h=>?_
 refine fD [1,3,5,7,9,11,13,15,19,16,20,22,24] (by kernel_rfl) h (.c r8 (.c r0 (.c r4 .n))) λw h=>go h λw h=>?_
 refine nP (rX _ _ _ _ _ h.to (Ct.Node.Fit.nf (Ct.fY f29 (Ct.slice h0 lv) v26) (by omega))) λq32 w h=>?_
 refine pO (fA (j:=58) _ _ _ _ _ _ ((SH.Wr h.to .z).fr (.c r0 (.c r1 .n))) (k.less (by omega)) (Ct.iU ((Ct.fY f29 (Ct.slice h0 lv) v26).mono (by omega)) ((Ct.eQ f18).mono (by omega)) lv)) λy33 v34 q35 w h ⟨k,aV0⟩=>?_
 refine pO (lH _ _ _ _ _ _ _ h.to (k.less (by omega))) λy36 v37 q38 w h k=>?_
 exact rz ⟨_,v37,Ct.rB q4<|Ct.rN<|Ct.Nn dG<|Ct.rF iT<|Ct.rB Ui<|Ct.rN<|Ct.Nn rY<|Ct.rA UB<|Ct.rN<|Ct.rA q35<|q38,rfl,h.to,k⟩
end Go.Q9
end
