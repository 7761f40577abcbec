/- Parts of a proof: Lr, Azi, Gs, Vp, Wv, Ev9, Azj, Wr, BmPlace, C7, Azk. -/
import Derived.Test.YtlpbjpanggcbbaaGreatDoorW38
import Derived.Test.YtlpbjpanggcbbaaGreatDoorW21
set_option linter.unusedVariables false
set_option linter.unusedSimpArgs false
set_option maxRecDepth 100000
set_option maxHeartbeats 4000000
section
namespace Go.Q9
open Go.Proofs.Tryz
open Go.RowKit Go.E
attribute [local irreducible] gB wpS Go.E.X XS C jU kP fin Y U F Ca jT bl rb aU bV ex ce pu sK gK bK zK gM fO dH gP nE rD
theorem lS{s:Ct.St}(hf:Ct.eK s)(hr:s.size<=100000000000):∀n∈aW s,n.aA.length<=1000000/\n.aF.length<=200000000000/\n.aD<18446744073709551616:=by
 have hm:Ct.gY.aA.length<=1000000/\Ct.gY.aF.length<=200000000000/\Ct.gY.aD<18446744073709551616:=by decide
 intro n m
 unfold aW at m
 rcases List.mem_cons.1 m with rfl|m
 ·exact hm
 ·rcases List.mem_cons.1 m with rfl|m
  ·exact hm
  ·have h:=hf n m
   have h1:=zS h (by unfold Ct.St.size at hr;omega)
   exact⟨h1.1,h1.2,h.1.2.2.1⟩
end Go.Q9
end
section
namespace Go.Q9
open Go.Proofs.Tryz
open Go.E
end Go.Q9
end
section
namespace Go.Q9
open Go.Proofs.Tryz
open Go.RowKit Go.E
attribute [local irreducible] gB wpS
variable{B w:World}{L:List As}{β:Type}
theorem YT(h:SH B w L)(m:At L yL):SH B w (yL::L):=h.dup m λO R hA=>⟨R,⟨hA.1,λ_ h=>h,hA.2.2⟩,λ_ h=>h⟩
theorem DX{ρ:β->Ct.Result}{M:β->As}(S:dN)(hM:∀w,YA S.t S.x S.ab w)(n tb k:Nat)(u:Ct.I β)(s:Ct.St)(h:SH B w (eQ S (tM ρ M) (n+1) tb u k::S.a s::L))(hs:Ct.Rm 101 s)(hu:u.ended=none)(hk:k<=9000000000000000000):
  Calls prog 40 #[↑tb] w λe w'=>e=.returned (.tuple #[])/\SH B w' (eQ S (tM ρ M) n tb (u.step s).2 (k+1)::S.a (u.step s).1::L):=by
 have hr:=Yb h
 cases u with
 |ret z=>cases hu
 |load a f=>
  refine(CF S (S.a s) n tb k a (s.load a).2 f (s.load a).1 s (λh=>h) ⟨_,_,λw=>(hM w).load,eF,λB w L h=>JQ S s a h hs⟩ h (SY hs a) (hs.less (by decide)) hk).mono ?_
  rintro e w' ⟨s',u',hq,rfl,h⟩
  show _/\SH B w' (eQ S (tM ρ M) n tb ((f (s.load a).2).head (s.load a).1).2 (k+1)::S.a ((f (s.load a).2).head (s.load a).1).1::L)
  rw[hq];exact⟨rfl,h⟩
 |eA a o x f=>
  refine(KG S (S.a s) n tb k a o x (s.eA a o x).2 f (s.eA a o x).1 s (λh=>h) ⟨_,_,λw=>(hM w).eA,eF,λB w L h=>NE S s a o x h hs⟩ h (YS hs a o x) (hs.less (by decide)) hk).mono ?_
  rintro e w' ⟨s',u',hq,rfl,h⟩
  show _/\SH B w' (eQ S (tM ρ M) n tb ((f (s.eA a o x).2).head (s.eA a o x).1).2 (k+1)::S.a ((f (s.eA a o x).2).head (s.eA a o x).1).1::L)
  rw[hq];exact⟨rfl,h⟩
 |_=>exact hr.elim
theorem NR{rhe:β->Ct.Result}{M:β->As}(S:dN)(hM:∀w,YA S.t S.x S.ab w)(n tb k z Cx:Nat)(p:Nat->Ct.St×Ct.I β)(h:SH B w (eQ S (tM rhe M) n tb (p 0).2 k::S.a (p 0).1::L))(hstep:∀i,p (i+1)=(p i).2.step (p i).1)(hrun:∀i,i<z->(p i).2.ended.isSome=false)(hend:(p z).2.ended.isSome=true)(hzm:z<=Cx)(hzn:z<=n)(hrm:∀i,i<z->Ct.Rm 101 (p i).1)(hk:k+z<=1000000000000)(hm:Cx<=1000000000000):
  Calls prog 12 #[↑tb,↑(Cx:Int)] w λe w'=>e=.returned ↑(z:Int)/\SH B w' (eQ S (tM rhe M) (n-z) tb (p z).2 (k+z)::S.a (p z).1::L):=by
 refine Ea (args:=[_,_]) func12 rfl ntmps12 rfl ?_
 refine sq<|rg<|st (sg rfl)<|xe<|nx<|sq<|rg<|st (sg rfl)<|xe<|nx<|sq<|bk<|?_
 refine lp (α:=Nat) (λρ=>(.c 0 ↑tb (.c 1 ↑(Cx:Int) (.c 5 (.int .i64 (ρ:Int)) .n)))) (λρ w=>SH B w (eQ S (tM rhe M) (n-ρ) tb (p ρ).2 (k+ρ)::S.a (p ρ).1::L)/\(ρ<=z)) (λρ=>z-ρ) 0 ⟨rfl,rfl,rfl,trivial⟩ ⟨h,Xe _⟩ ?_
 rintro i w ⟨h,hi⟩
 refine sq<|sq<|?_
 have h:=h.fr (.c r0 .n)
 obtain⟨c,h⟩:=SH.PN h
 have hc:=pX (h.fr (.c r1 .n))
 refine rg<|st (mv rfl)<|st (mv rfl)<|st (bi rfl rfl rfl)<|st (mv rfl)<|?_
 rcases bI (decide (((i:Int):Int)<(Cx:Int)))with hd1|hd1
 ·have hg2:=dA hd1
  refine gT rfl rfl hd1<|st (mv rfl)<|gT rfl rfl hd1<|cl (ca eF rfl) ((Aa S tb c (k+i) false (h.fr (.c r0 .n))).mono ?_)
  rintro _ w ⟨rfl,h⟩
  refine⟨_,rfl,?_⟩
  refine gT rfl rfl hd1<|st (nt rfl)<|st (pT rfl hd1 rfl)<|st (mv rfl)<|?_
  rcases bI (!((c.kind:Int)==0))with hd3|hd3
  ·have hd4:((c.kind:Int)==0)=false:=(lC _).mp hd3
   have hg5:=mD hd4
   refine gT rfl rfl hd3<|st (mv rfl)<|gT rfl rfl hd3<|st (nc rfl rfl)<|gT rfl rfl hd3<|st (fa Hh rfl)<|gT rfl rfl hd3<|st (ld xN rfl (h.c a0 rfl))<|gT rfl rfl hd3<|st (nt rfl)<|st (pT rfl hd3 rfl)<|xe<|nx<|cT rfl<|sk<|nx<|bk<|sq<|?_
   have h:=SH.PC (h.fr (.c r0 (.c r0 .n)))
   have hiz:i<z:=by
    rcases PQ i z with hz|hz
    ·exact hz
    ·obtain rfl:i=z:=by omega
     have h1:=hc.1.symm.trans hd4
     rw[hend]at h1;cases h1
   rw[show n-i=n-(i+1)+1 by omega]at h
   refine rg<|st (mv rfl)<|cl (ca eF rfl) ((DX S hM (n-(i+1)) tb (k+i) (p i).2 (p i).1 (h.fr (.c r0 (.c r0 .n))) (hrm i hiz) (by have:=hrun i hiz;simpa using this) (by omega)).mono ?_)
   rintro _ w ⟨rfl,h⟩
   rw[<- hstep i]at h
   refine⟨_,rfl,?_⟩
   refine xe<|nx<|rg<|st (mv rfl)<|st (bw rfl rfl (gN (c:=((i+1:Nat):Int)) (by omega) (by omega) (by omega)))<|st (sg rfl)<|xe<|bn<|nx<|?_
   exact⟨((i+1)),⟨rfl,rfl,rfl,trivial⟩,⟨h,hiz⟩,by(try dsimp only);omega⟩
  ·have hd6:((c.kind:Int)==0)=true:=(Pe _).mp hd3
   have hg7:=eq_of_beq hd6
   refine gF rfl rfl hd3<|gF rfl rfl hd3<|gF rfl rfl hd3<|gF rfl rfl hd3<|gF rfl rfl hd3<|st (pF rfl hd3 rfl)<|xe<|nx<|cF rfl<|xt<|tx<|tx<|be<|nx<|sq<|?_
   have h:=SH.PC (h.fr (.c r0 (.c r0 .n)))
   refine rg<|st (mv rfl)<|st (sg rfl)<|xe<|nx<|rt<|?_
   refine rr (jP results12 rfl)<|?_
   have hiz:i=z:=by
    rcases PQ i z with hz|hz
    ·have h1:=hc.1.symm.trans hd6
     rw[hrun i hz]at h1;cases h1
    ·omega
   subst hiz
   exact⟨rfl,h⟩
 ·have hg8:=dP hd1
  refine gF rfl rfl hd1<|gF rfl rfl hd1<|gF rfl rfl hd1<|st (pF rfl hd1 rfl)<|st (mv rfl)<|gF rfl rfl rfl<|gF rfl rfl rfl<|gF rfl rfl rfl<|gF rfl rfl rfl<|gF rfl rfl rfl<|st (pF rfl rfl rfl)<|xe<|nx<|cF rfl<|xt<|tx<|tx<|be<|nx<|sq<|?_
  have h:=SH.PC (h.fr (.c r0 (.c r0 .n)))
  refine rg<|st (mv rfl)<|st (sg rfl)<|xe<|nx<|rt<|?_
  refine rr (jP results12 rfl)<|?_
  have hiz:i=z:=by
   rcases PQ i z with hz|hz
   ·omega
   ·omega
  subst hiz
  exact⟨rfl,h⟩
theorem Vo(ab:Nat)(s:Ct.St)(h:SH B w (wW ab s::L))(hr:s.size<=100000000000):
  Calls prog 14 #[↑ab] w λe w'=>e=.returned (.tuple #[.int .i64 ((2+s.aG.length:Nat):Int),↑(s.cells.length:Int),↑(s.acc:Int)])/\SH B w' (wW ab s::L):=by
 obtain⟨⟨pn,cn,pc,cc,zs⟩,hz0,h⟩:=h.ao
 have h:SH B w (bl ab ([.slice pn zs.length cn,.slice pc s.cells.length cc,↑(s.gen:Int),↑(s.acc:Int)]) 100::aU 118 14 (.slice pn zs.length cn) zs.length (zs.flatMap cB)::aU 43 1 (.slice pc s.cells.length cc) s.cells.length (s.cells.map (Value.int .i64))::bE zs::L):=h
 have hzs:zs.map Prod.fst=s.aG:=hz0
 clear hz0
 have hz:zs.length=s.aG.length:=by rw[<- hzs,mI]
 have hrm:s.aG.length+s.cells.length+s.gen+s.acc<=100000000000:=hr
 refine Ea (args:=[_]) func14 rfl ntmps14 rfl ?_
 refine sq<|rg<|st (sg rfl)<|st (sg rfl)<|st (sg rfl)<|xe<|nx<|sq<|dZ [1,5,7,9,11,13,15,17,19,21,2,22,24,26] (by kernel_rfl) h (.c r0 .n) λw h=>tk (λW H=>mv rfl)<|tk (λW H=>mv rfl)<|tk (λW H=>nc rfl rfl)<|tk (λW H=>fa JC rfl)<|tk (λW H=>ld lG rfl (H.c a0 rfl))<|tk (λW H=>ln iR rfl rfl)<|tk (λW H=>mv rfl)<|tk (λW H=>nc rfl rfl)<|tk (λW H=>fa NG rfl)<|tk (λW H=>ld jE rfl (H.c a0 rfl))<|cs (ca eF rfl) ((yS ab _ _ _ _ _ _ (h.fr (.c r0 .n)) (by omega)).mono ?_)
 rintro _ w ⟨rfl,h⟩
 refine⟨_,rfl,h.hs (.c r0 .n),?_⟩
 refine ef (sg rfl) (h.hs (.c r0 .n))<|ef (sg rfl) (h.hs (.c r0 .n))<|ef (sg rfl) (h.hs (.c r0 .n))<|xz<|nx<|rt<|?_
 refine rr (l8 results14 rfl rfl rfl)<|⟨by rw[<- hzs,mI],(SH.ai ⟨_,_,_,_,_⟩ hzs h)⟩
theorem Xv(ab:Nat)(s:Ct.St)(h:SH B w ((cV ab).a s::L))(hr:s.size<=100000000000):
  Calls prog 14 #[↑ab] w λe w'=>e=.returned (.tuple #[.int .i64 ((2+s.aG.length:Nat):Int),↑(s.cells.length:Int),↑(s.acc:Int)])/\SH B w' ((cV ab).a s::L):=
 (Vo ab s (SH.so (S:=cV ab) h) hr).mono λe w' h=>⟨h.1,SH.si (S:=cV ab) h.2⟩
end Go.Q9
end
section
namespace Go.Ct
def Dw(s:St)(t:bC):Int:=
 bif (s.node (s.load t.root).2).kind==8 then(bif (s.load (s.node (s.load t.root).2).status).2==1 then(s.node (s.load t.root).2).new else(s.node (s.load t.root).2).dC)else(s.load t.root).2
def rootOf(s:St)(t:bC):Int×Bool:=bif (s.node (Dw s t)).kind != 2 then(0,false)else(Dw s t,true)
def xR(s:St)(i:Int):Int:=(s.load (s.node i).main).2
def uW(s:St)(i:Int):Int:=(s.load (s.node (xR s i)).prev).2
def Bp(s:St)(i:Int):Int:=bif (s.node (uW s i)).kind==7 then(s.node (uW s i)).dC else uW s i
def jM(s:St)(i:Int):Int×Bool:=
 bif (s.node i).kind != 2 then(0,false)else bif !(s.node (xR s i)).bM then(0,false)else bif uW s i==0 then(xR s i,true)
 else bif !(s.node (Bp s i)).bM then(0,false)else(Bp s i,true)
structure Flat(s:St)(t:bC)(r m:Int):Prop where
 root:rootOf s t=(r,true)
 lo:1<=r
 hi:r<=((2+s.aG.length:Nat):Int)
 body:jM s r=(m,true)
 kind:(s.node m).kind=3
 br:∀k,k<(s.node m).aA.length->(s.node ((s.node m).aA.getD k 0)).kind=4
end Go.Ct
end
section
namespace Go.Ct
def QD:bC:=(hJ {}).2
def WQ:Call:={kind:=8,aE:=QD,key:=⟨#[97]⟩,value:=8}
def XO:Nat->X
 |0=>bX (bY WQ FU) 0 ⟨{call:=WQ},(hJ {}).1⟩
 |i+1=>bX (bY (XO i).e.call FU) 1 (XO i)
theorem RG:∀i,i<8->(XO i).e.done=false:=by decide+kernel
theorem TZ:(XO 8).e.done=true:=by decide+kernel
def AQ:St:=(XO 8).s
def WY:St:={AQ with acc:=0}
set_option maxRecDepth 100000
instance (n:Node)(L:Nat):Decidable (n.Fit L):=by unfold Node.Fit Node.fits;infer_instance
theorem EB:∀n∈WY.aG,n.Fit WY.aG.length:=by decide+kernel
theorem LI:WY.size<=1000:=by decide+kernel
theorem XR:Rm 60 WY:=⟨EB,by have:=LI;unfold cN;omega⟩
theorem BP:iV AQ:=⟨by decide+kernel,by decide+kernel,by decide+kernel,by decide+kernel,by decide+kernel,by decide+kernel,by decide+kernel⟩
theorem QB:AQ.size<=1000:=by decide+kernel
theorem TW:eK AQ:=EB
theorem GR:WQ.key.size<=9223372036854775807:=by decide+kernel
end Go.Ct
end
section
namespace Go.Ct
def z6:bC:={root:=QD.root,readOnly:=true}
theorem HX{α:Type}{u:I α}(h:u.ended.isSome=true)(d:α):u=.ret (u.ended.getD d):=by cases u<;>first|rfl|cases h
set_option maxRecDepth 100000
end Go.Ct
end
section
namespace Go.Q9
open Go.Proofs.Tryz
open Go.E
theorem DL:prog.underlying 25=some (.pointer 100):=by kernel_rfl
end Go.Q9
end
section
namespace Go.Q9
open Go.Proofs.Tryz
open Go.RowKit Go.E
attribute [local irreducible] gB wpS
variable{B w:World}{L:List As}
theorem HR(mb:Nat)(h:SH B w (cR mb {}::L)):Calls prog 28 #[↑mb] w λe w'=>e=.returned (.agg (cU Ct.QD).toArray)/\SH B w' (cR mb (Ct.hJ {}).1::L):=Jf mb {} h (by decide)
theorem DC(N:Nat)(h:N<=1000000000):Ct.oB N {}:=⟨⟨λp hp=>(by cases hp),by show 0+N<=1000000000;omega,Xe _⟩,λ_=>rfl⟩
theorem LN{β:Type}{ρ:β->Ct.Result}{M:β->As}(ab n tb k:Nat)(m:Nat)(z:β)(s:Ct.St)(hk:k<=100)(hm:m<=100)(h:SH B w (eQ (cV ab) (tM ρ M) n tb (.ret z) k::(cV ab).a s::L)):Calls prog 12 #[↑tb,↑(m:Int)] w λe w'=>e=.returned (.int .i64 0)/\SH B w' (eQ (cV ab) (tM ρ M) n tb (.ret z) k::(cV ab).a s::L):=
 NR (cV ab) (AB ab) n tb k 0 m (λ_=>(s,.ret z)) h (λi=>rfl) (λi hi=>by omega) rfl (by omega) (by omega) (λi hi=>by omega) (by omega) (by omega)
end Go.Q9
end
section
namespace Go.Bm
theorem Aj(n b j:Nat):j∈Nu n b↔j<n/\b.testBit j=true:=by
 unfold Nu
 rw[List.mem_filter,List.mem_range]
theorem Ej(n b:Nat):(Nu n b).Pairwise (·<·):=by
 unfold Nu
 exact List.Pairwise.filter _ List.pairwise_lt_range
theorem vA(b i:Nat):∀d,∃t,Nu (i+d) b=Nu i b++t
 |0=>⟨[],by simp⟩
 |d+1=>by
  obtain⟨t,ht⟩:=vA b i d
  exact⟨_,by rw[<- Nat.add_assoc,iS,ht,CG]⟩
theorem Ty(b p:Nat)(hp:p<(indices b).length):pop ((indices b)[p]) b=p:=by
 have hm:(indices b)[p]∈indices b:=qR hp
 have hs:=Ej 64 b
 have hmi:=(Aj 64 b _).1 hm
 generalize hi:(indices b)[p]=i at *
 rw[<- vD]
 obtain⟨d,hd⟩:∃d,64=i+1+d:=⟨64-i-1,by omega⟩
 obtain⟨t,ht⟩:=vA b (i+1) d
 have hx:indices b=Nu i b++(i::t):=by
  unfold indices
  rw[hd,ht,iS,hmi.2]
  simp
 have hl:(Nu i b).length<(indices b).length:=by rw[hx];simp
 have he:(indices b)[(Nu i b).length]'hl=i:=by
  simp only[hx]
  rw[List.getElem_append_right (bD _)]
  simp
 have hpw:(indices b).Pairwise (·<·):=hs
 rw[List.pairwise_iff_getElem]at hpw
 apply Classical.byContradiction
 intro hne
 rcases Nat.lt_or_gt_of_ne hne with h|h
 ·have:=hpw _ _ hl hp h
  omega
 ·have:=hpw _ _ hp hl h
  omega
def n0(xs:List Nat):Nat->Nat
 |0=>0
 |k+1=>n0 xs k|||2^xs.getD k 0
attribute [irreducible] n0
end Go.Bm
end
section
namespace Go.Ct
def Iu(t:bC)(N c:Nat):I Result:=bif !t.readOnly then .ret {err:=7}else tU t N c 0 {}
def Place.mu(p:Place):Nat:=64-p.pos
def PB(l:List Place):Nat:=(l.map Place.mu).sum
def jG.mu(w:jG):Nat:=w.wait.length+PB w.stack
theorem TP(p:Place)(h:p.out=false):p.step.mu<p.mu:=by
 unfold Place.out at h
 have h0:=dP (Bool.or_eq_false_iff.1 h).1
 have hp:p.pos<(Bm.indices p.node.aD).length/\p.idx=(((Bm.indices p.node.aD).getD p.pos 0:Nat):Int):=by
  unfold Place.idx Bm.at_ at h0 ⊢
  split at h0
  ·rename_i h1
   exact⟨by omega,by rw[if_pos h1];rfl⟩
  ·exact absurd (by decide) h0
 obtain⟨hp,hi⟩:=hp
 have hx:(Bm.indices p.node.aD).getD p.pos 0=(Bm.indices p.node.aD)[p.pos]'hp:=by
  rw[Fb,fM hp];rfl
 have hm:(Bm.indices p.node.aD)[p.pos]'hp∈Bm.indices p.node.aD:=qR hp
 have hmi:=(Bm.Aj 64 _ _).1 hm
 have hq:=Bm.Ty p.node.aD p.pos hp
 have hl:(Bm.indices p.node.aD).length<=64:=by
  unfold Bm.indices Bm.Nu
  exact lK (List.length_filter_le ..) (by simp)
 have hs:p.step.pos=p.pos+1:=by
  show Bm.aO p.node.aD (p.idx+1)=_
  rw[hi,hx]
  generalize (Bm.indices p.node.aD)[p.pos]'hp=x at *
  have hc:Bm.cut ((x:Int)+1)=x+1:=by
   unfold Bm.cut
   split
   ·omega
   ·split<;>omega
  unfold Bm.aO
  rw[hc,Bm.cZ,hmi.2,hq]
  rfl
 unfold Place.mu
 rw[hs]
 omega
theorem Vi{t:bC}{st:Bool}{K:jG->I (Result×jG)}{s s':St}{z:Result×jG}:∀l,(Bj t st K l).head s=(s',.ret z)->z.1.found=true->s'=s/\z.2.mu<PB l
 |[],h,hf=>by
  injection h with _ h2
  injection h2 with h2
  rw[<- h2]at hf
  cases hf
 |p::l,h,hf=>by
  unfold Bj at h
  cases ho:p.out with
  |true=>
   rw[ho]at h
   have:=Vi l h hf
   exact⟨this.1,by unfold PB at *;rw[GL,List.sum_cons];omega⟩
  |false=>
   rw[ho]at h
   have h:(bif (s.node p.branch).kind==4 then(.ret (Ey ⟨(s.node p.branch).key,(s.node p.branch).value⟩,⟨st,p.step::l,[]⟩):I (Result×jG))else mM t p.branch λm=>.node m λq=>K (jG.meet ⟨st,p.step::l,[]⟩ q)).head s=(s',.ret z):=h
   cases h4:(s.node p.branch).kind==4 with
   |true=>
    rw[h4]at h
    injection h with h1 h2
    injection h2 with h2
    subst h1 h2
    have:=TP p ho
    exact⟨rfl,by show 0+PB (p.step::l)<_;unfold PB at *;rw[GL,List.sum_cons,GL,List.sum_cons];omega⟩
   |false=>
    rw[h4]at h
    have h:=(Zd t p.branch _ s).symm.trans h
    injection h with _ h
    cases h
theorem KU{t:bC}{N:Nat}{w:jG}{s s':St}{z:Result×jG}(h:(xW t N w).head s=(s',.ret z))(hf:z.1.found=true):s'=s/\z.2.mu<w.mu:=by
 unfold xW at h
 cases hr:t.readOnly with
 |false=>
  rw[hr]at h
  injection h with _ h2
  injection h2 with h2
  rw[<- h2]at hf
  cases hf
 |true=>
  rw[hr]at h
  cases hw:w.started with
  |false=>
   rw[hw]at h
   injection h with _ h
   cases h
  |true=>
   rw[hw]at h
   obtain⟨sd,l,wt⟩:=w
   have key:∀K:jG->I (Result×jG),(Fq t K ⟨sd,l,wt⟩).head s=(s',.ret z)->s'=s/\z.2.mu<jG.mu ⟨sd,l,wt⟩:=λK h=>by
    cases wt with
    |nil=>
     have:=Vi l h hf
     exact⟨this.1,by show _<0+PB l;omega⟩
    |cons p ps=>
     injection h with h1 h2
     injection h2 with h2
     subst h1 h2
     exact⟨rfl,by show ps.length+PB l<(p::ps).length+PB l;rw[Qb];omega⟩
   cases N with
   |zero=>exact key _ h
   |succ N=>exact key _ h
theorem LA:∀l:List Place,PB l<=64*l.length
 |[]=>bD _
 |p::l=>by
  have:=LA l
  unfold PB at *
  rw[GL,List.sum_cons,Qb]
  have:p.mu<=64:=Nat.sub_le ..
  omega
theorem ZJ{n:Nat}{w:jG}(h:oB n w):w.mu<=1000000000000:=by
 have h1:=h.ok.deep
 have h2:=h.ok.wait
 have h3:=LA w.stack
 unfold jG.mu
 omega
theorem XC:jG.mu {}=0:=rfl
theorem DC(N:Nat)(h:N<=1000000000):oB N {}:=⟨⟨λp hp=>(by cases hp),by show 0+N<=1000000000;omega,Xe _⟩,λ_=>rfl⟩
def xK(n:Nat):Nat:=n*1000000000001
theorem fuel_lt{m n:Nat}(h:m<n):xK m+1000000000001<=xK n:=by
 obtain⟨d,rfl⟩:∃d,n=m+1+d:=⟨n-m-1,by omega⟩
 unfold xK
 rw[Nat.add_mul,Nat.add_mul];omega
def SQ(t:bC)(N c:Nat)(k:Int)(z:Result×jG):I Result:=bif !z.1.found then .ret {count:=k}else tU t N c (k+1) z.2
end Go.Ct
end
section
namespace Go.Q9
open Go.Proofs.Tryz
open Go.E
theorem YR:KY prog 106=some ([.nilIface,.pointer none,.int .i64 0],[(0,1),(1,1),(2,1)]):=by kernel_rfl
theorem Wx:fo prog 106 0=some 0:=by kernel_rfl
theorem LJ:fo prog 106 1=some 1:=by kernel_rfl
theorem vI:fo prog 106 2=some 2:=by kernel_rfl
theorem TT:fo prog 45 1=some 1:=by kernel_rfl
theorem TC:fv prog 45 1=some (1,1,false):=by kernel_rfl
end Go.Q9
end
