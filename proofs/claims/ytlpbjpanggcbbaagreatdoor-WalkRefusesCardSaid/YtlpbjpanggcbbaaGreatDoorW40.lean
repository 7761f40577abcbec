/- Parts of a proof: Lr, Azi, Gs, Vp, Wv, Ev9, Azj, Wr. -/
import Derived.Test.YtlpbjpanggcbbaaGreatDoorW39
import Derived.Test.YtlpbjpanggcbbaaGreatDoorW22
set_option linter.unusedVariables false
set_option linter.unusedSimpArgs false
set_option maxRecDepth 100000
set_option maxHeartbeats 4000000
section
namespace Go.Q9
open Go.Proofs.Tryz
open Go.RowKit Go.E
attribute [local irreducible] gB wpS Go.E.X XS C jU kP fin Y U F Ca jT bl rb aU bV ex ce pu sK gK bK zK gM fO dH gP nE rD
theorem lS{s:Ct.St}(hf:Ct.eK s)(hr:s.size<=100000000000):∀n∈aW s,n.aA.length<=1000000/\n.aF.length<=200000000000/\n.aD<18446744073709551616:=by
 have hm:Ct.gY.aA.length<=1000000/\Ct.gY.aF.length<=200000000000/\Ct.gY.aD<18446744073709551616:=by decide
 intro n m
 unfold aW at m
 rcases List.mem_cons.1 m with rfl|m
 ·exact hm
 ·rcases List.mem_cons.1 m with rfl|m
  ·exact hm
  ·have h:=hf n m
   have h1:=zS h (by unfold Ct.St.size at hr;omega)
   exact⟨h1.1,h1.2,h.1.2.2.1⟩
end Go.Q9
end
section
namespace Go.Q9
open Go.Proofs.Tryz
open Go.E
end Go.Q9
end
section
namespace Go.Q9
open Go.Proofs.Tryz
open Go.RowKit Go.E
attribute [local irreducible] gB wpS
variable{B w:World}{L:List As}{β:Type}
theorem RJ(h:SH B w L)(m:At L xP):SH B w (xP::L):=h.dup m λO R hA=>⟨R,⟨hA.1,λ_ h=>h,hA.2.2⟩,λ_ h=>h⟩
theorem Yx{ρ:β->Ct.Result}{M:β->As}(S:dN)(hM:∀w,PC S.t S.x S.ab w)(n tb k:Nat)(u:Ct.I β)(s:Ct.St)(h:SH B w (dJ S (qD ρ M) (n+1) tb u k::S.a s::L))(hs:Ct.Rm 101 s)(hu:u.ended=none)(hk:k<=9000000000000000000):
  Calls prog 40 #[↑tb] w λe w'=>e=.returned (.tuple #[])/\SH B w' (dJ S (qD ρ M) n tb (u.step s).2 (k+1)::S.a (u.step s).1::L):=by
 have hr:=Pw h
 cases u with
 |ret z=>cases hu
 |load a f=>
  refine(Vb S (S.a s) n tb k a (s.load a).2 f (s.load a).1 s (λh=>h) ⟨_,_,λw=>(hM w).load,eF,λB w L h=>JQ S s a h hs⟩ h (SY hs a) (hs.less (by decide)) hk).mono ?_
  rintro e w' ⟨s',u',hq,rfl,h⟩
  show _/\SH B w' (dJ S (qD ρ M) n tb ((f (s.load a).2).head (s.load a).1).2 (k+1)::S.a ((f (s.load a).2).head (s.load a).1).1::L)
  rw[hq];exact⟨rfl,h⟩
 |eA a o x f=>
  refine(FK S (S.a s) n tb k a o x (s.eA a o x).2 f (s.eA a o x).1 s (λh=>h) ⟨_,_,λw=>(hM w).eA,eF,λB w L h=>NE S s a o x h hs⟩ h (YS hs a o x) (hs.less (by decide)) hk).mono ?_
  rintro e w' ⟨s',u',hq,rfl,h⟩
  show _/\SH B w' (dJ S (qD ρ M) n tb ((f (s.eA a o x).2).head (s.eA a o x).1).2 (k+1)::S.a ((f (s.eA a o x).2).head (s.eA a o x).1).1::L)
  rw[hq];exact⟨rfl,h⟩
 |_=>exact hr.elim
theorem DA{rhe:β->Ct.Result}{M:β->As}(S:dN)(hM:∀w,PC S.t S.x S.ab w)(n tb k z Cx:Nat)(p:Nat->Ct.St×Ct.I β)(h:SH B w (dJ S (qD rhe M) n tb (p 0).2 k::S.a (p 0).1::L))(hstep:∀i,p (i+1)=(p i).2.step (p i).1)(hrun:∀i,i<z->(p i).2.ended.isSome=false)(hend:(p z).2.ended.isSome=true)(hzm:z<=Cx)(hzn:z<=n)(hrm:∀i,i<z->Ct.Rm 101 (p i).1)(hk:k+z<=1000000000000)(hm:Cx<=1000000000000):
  Calls prog 12 #[↑tb,↑(Cx:Int)] w λe w'=>e=.returned ↑(z:Int)/\SH B w' (dJ S (qD rhe M) (n-z) tb (p z).2 (k+z)::S.a (p z).1::L):=by
 refine Ea (args:=[_,_]) func12 rfl ntmps12 rfl ?_
 refine sq<|rg<|st (sg rfl)<|xe<|nx<|sq<|rg<|st (sg rfl)<|xe<|nx<|sq<|bk<|?_
 refine lp (α:=Nat) (λρ=>(.c 0 ↑tb (.c 1 ↑(Cx:Int) (.c 5 (.int .i64 (ρ:Int)) .n)))) (λρ w=>SH B w (dJ S (qD rhe M) (n-ρ) tb (p ρ).2 (k+ρ)::S.a (p ρ).1::L)/\(ρ<=z)) (λρ=>z-ρ) 0 ⟨rfl,rfl,rfl,trivial⟩ ⟨h,Hg _⟩ ?_
 rintro i w ⟨h,hi⟩
 refine sq<|sq<|?_
 have h:=h.fr (.c r0 .n)
 obtain⟨c,h⟩:=SH.JC h
 have hc:=oP (h.fr (.c r1 .n))
 refine rg<|st (mv rfl)<|st (mv rfl)<|st (bi rfl rfl rfl)<|st (mv rfl)<|?_
 rcases mD (decide (((i:Int):Int)<(Cx:Int)))with hd1|hd1
 ·have hg2:=dP hd1
  refine gT rfl rfl hd1<|st (mv rfl)<|gT rfl rfl hd1<|cl (ca eF rfl) ((Aa S tb c (k+i) false (h.fr (.c r0 .n))).mono ?_)
  rintro _ w ⟨rfl,h⟩
  refine⟨_,rfl,?_⟩
  refine gT rfl rfl hd1<|st (nt rfl)<|st (pT rfl hd1 rfl)<|st (mv rfl)<|?_
  rcases mD (!((c.kind:Int)==0))with hd3|hd3
  ·have hd4:((c.kind:Int)==0)=false:=(pJ _).mp hd3
   have hg5:=Pe hd4
   refine gT rfl rfl hd3<|st (mv rfl)<|gT rfl rfl hd3<|st (nc rfl rfl)<|gT rfl rfl hd3<|st (fa Bv rfl)<|gT rfl rfl hd3<|st (ld xN rfl (h.c a0 rfl))<|gT rfl rfl hd3<|st (nt rfl)<|st (pT rfl hd3 rfl)<|xe<|nx<|cT rfl<|sk<|nx<|bk<|sq<|?_
   have h:=SH.IK (h.fr (.c r0 (.c r0 .n)))
   have hiz:i<z:=by
    rcases mI i z with hz|hz
    ·exact hz
    ·obtain rfl:i=z:=by omega
     have h1:=hc.1.symm.trans hd4
     rw[hend]at h1;cases h1
   rw[show n-i=n-(i+1)+1 by omega]at h
   refine rg<|st (mv rfl)<|cl (ca eF rfl) ((Yx S hM (n-(i+1)) tb (k+i) (p i).2 (p i).1 (h.fr (.c r0 (.c r0 .n))) (hrm i hiz) (by have:=hrun i hiz;simpa using this) (by omega)).mono ?_)
   rintro _ w ⟨rfl,h⟩
   rw[<- hstep i]at h
   refine⟨_,rfl,?_⟩
   refine xe<|nx<|rg<|st (mv rfl)<|st (bw rfl rfl (gN (c:=((i+1:Nat):Int)) (by omega) (by omega) (by omega)))<|st (sg rfl)<|xe<|bn<|nx<|?_
   exact⟨((i+1)),⟨rfl,rfl,rfl,trivial⟩,⟨h,hiz⟩,by(try dsimp only);omega⟩
  ·have hd6:((c.kind:Int)==0)=true:=(AD _).mp hd3
   have hg7:=eq_of_beq hd6
   refine gF rfl rfl hd3<|gF rfl rfl hd3<|gF rfl rfl hd3<|gF rfl rfl hd3<|gF rfl rfl hd3<|st (pF rfl hd3 rfl)<|xe<|nx<|cF rfl<|xt<|tx<|tx<|be<|nx<|sq<|?_
   have h:=SH.IK (h.fr (.c r0 (.c r0 .n)))
   refine rg<|st (mv rfl)<|st (sg rfl)<|xe<|nx<|rt<|?_
   refine rr (jP results12 rfl)<|?_
   have hiz:i=z:=by
    rcases mI i z with hz|hz
    ·have h1:=hc.1.symm.trans hd6
     rw[hrun i hz]at h1;cases h1
    ·omega
   subst hiz
   exact⟨rfl,h⟩
 ·have hg8:=bI hd1
  refine gF rfl rfl hd1<|gF rfl rfl hd1<|gF rfl rfl hd1<|st (pF rfl hd1 rfl)<|st (mv rfl)<|gF rfl rfl rfl<|gF rfl rfl rfl<|gF rfl rfl rfl<|gF rfl rfl rfl<|gF rfl rfl rfl<|st (pF rfl rfl rfl)<|xe<|nx<|cF rfl<|xt<|tx<|tx<|be<|nx<|sq<|?_
  have h:=SH.IK (h.fr (.c r0 (.c r0 .n)))
  refine rg<|st (mv rfl)<|st (sg rfl)<|xe<|nx<|rt<|?_
  refine rr (jP results12 rfl)<|?_
  have hiz:i=z:=by
   rcases mI i z with hz|hz
   ·omega
   ·omega
  subst hiz
  exact⟨rfl,h⟩
theorem Lv(ab:Nat)(s:Ct.St)(h:SH B w (wW ab s::L))(hr:s.size<=100000000000):
  Calls prog 14 #[↑ab] w λe w'=>e=.returned (.tuple #[.int .i64 ((2+s.aG.length:Nat):Int),↑(s.cells.length:Int),↑(s.acc:Int)])/\SH B w' (wW ab s::L):=by
 obtain⟨⟨pn,cn,pc,cc,zs⟩,hz0,h⟩:=h.ao
 have h:SH B w (bl ab ([.slice pn zs.length cn,.slice pc s.cells.length cc,↑(s.gen:Int),↑(s.acc:Int)]) 100::aU 118 14 (.slice pn zs.length cn) zs.length (zs.flatMap cB)::aU 43 1 (.slice pc s.cells.length cc) s.cells.length (s.cells.map (Value.int .i64))::bE zs::L):=h
 have hzs:zs.map Prod.fst=s.aG:=hz0
 clear hz0
 have hz:zs.length=s.aG.length:=by rw[<- hzs,zE]
 have hrm:s.aG.length+s.cells.length+s.gen+s.acc<=100000000000:=hr
 refine Ea (args:=[_]) func14 rfl ntmps14 rfl ?_
 refine sq<|rg<|st (sg rfl)<|st (sg rfl)<|st (sg rfl)<|xe<|nx<|sq<|dZ [1,5,7,9,11,13,15,17,19,21,2,22,24,26] (by kernel_rfl) h (.c r0 .n) λw h=>tk (λW H=>mv rfl)<|tk (λW H=>mv rfl)<|tk (λW H=>nc rfl rfl)<|tk (λW H=>fa BD rfl)<|tk (λW H=>ld iS rfl (H.c a0 rfl))<|tk (λW H=>ln gI rfl rfl)<|tk (λW H=>mv rfl)<|tk (λW H=>nc rfl rfl)<|tk (λW H=>fa HN rfl)<|tk (λW H=>ld jE rfl (H.c a0 rfl))<|cs (ca eF rfl) ((yS ab _ _ _ _ _ _ (h.fr (.c r0 .n)) (by omega)).mono ?_)
 rintro _ w ⟨rfl,h⟩
 refine⟨_,rfl,h.hs (.c r0 .n),?_⟩
 refine ef (sg rfl) (h.hs (.c r0 .n))<|ef (sg rfl) (h.hs (.c r0 .n))<|ef (sg rfl) (h.hs (.c r0 .n))<|xz<|nx<|rt<|?_
 refine rr (l8 results14 rfl rfl rfl)<|⟨by rw[<- hzs,zE],(SH.ai ⟨_,_,_,_,_⟩ hzs h)⟩
theorem Mk(ab:Nat)(s:Ct.St)(h:SH B w ((cV ab).a s::L))(hr:s.size<=100000000000):
  Calls prog 14 #[↑ab] w λe w'=>e=.returned (.tuple #[.int .i64 ((2+s.aG.length:Nat):Int),↑(s.cells.length:Int),↑(s.acc:Int)])/\SH B w' ((cV ab).a s::L):=
 (Lv ab s (SH.so (S:=cV ab) h) hr).mono λe w' h=>⟨h.1,SH.si (S:=cV ab) h.2⟩
end Go.Q9
end
section
namespace Go.Ct
def Dw(s:St)(t:bC):Int:=
 bif (s.node (s.load t.root).2).kind==8 then(bif (s.load (s.node (s.load t.root).2).status).2==1 then(s.node (s.load t.root).2).new else(s.node (s.load t.root).2).dC)else(s.load t.root).2
def rootOf(s:St)(t:bC):Int×Bool:=bif (s.node (Dw s t)).kind != 2 then(0,false)else(Dw s t,true)
def xR(s:St)(i:Int):Int:=(s.load (s.node i).main).2
def uW(s:St)(i:Int):Int:=(s.load (s.node (xR s i)).prev).2
def Bp(s:St)(i:Int):Int:=bif (s.node (uW s i)).kind==7 then(s.node (uW s i)).dC else uW s i
def jM(s:St)(i:Int):Int×Bool:=
 bif (s.node i).kind != 2 then(0,false)else bif !(s.node (xR s i)).bM then(0,false)else bif uW s i==0 then(xR s i,true)
 else bif !(s.node (Bp s i)).bM then(0,false)else(Bp s i,true)
structure Flat(s:St)(t:bC)(r m:Int):Prop where
 root:rootOf s t=(r,true)
 lo:1<=r
 hi:r<=((2+s.aG.length:Nat):Int)
 body:jM s r=(m,true)
 kind:(s.node m).kind=3
 br:∀k,k<(s.node m).aA.length->(s.node ((s.node m).aA.getD k 0)).kind=4
end Go.Ct
end
section
namespace Go.Ct
def QD:bC:=(hJ {}).2
def WQ:Call:={kind:=8,aE:=QD,key:=⟨#[97]⟩,value:=8}
def XO:Nat->X
 |0=>bX (bY WQ FU) 0 ⟨{call:=WQ},(hJ {}).1⟩
 |i+1=>bX (bY (XO i).e.call FU) 1 (XO i)
theorem RG:∀i,i<8->(XO i).e.done=false:=by decide+kernel
theorem TZ:(XO 8).e.done=true:=by decide+kernel
def AQ:St:=(XO 8).s
def WY:St:={AQ with acc:=0}
set_option maxRecDepth 100000
instance (n:Node)(L:Nat):Decidable (n.Fit L):=by unfold Node.Fit Node.fits;infer_instance
theorem EB:∀n∈WY.aG,n.Fit WY.aG.length:=by decide+kernel
theorem LI:WY.size<=1000:=by decide+kernel
theorem XR:Rm 60 WY:=⟨EB,by have:=LI;unfold cN;omega⟩
theorem BP:iV AQ:=⟨by decide+kernel,by decide+kernel,by decide+kernel,by decide+kernel,by decide+kernel,by decide+kernel,by decide+kernel⟩
theorem QB:AQ.size<=1000:=by decide+kernel
theorem TW:eK AQ:=EB
theorem GR:WQ.key.size<=9223372036854775807:=by decide+kernel
end Go.Ct
end
section
namespace Go.Ct
def Zv:bC:={root:=QD.root,readOnly:=true}
def Gi:Nat->St×I (Result×nN)
 |0=>(Bj Zv 1001 {}).head WY
 |i+1=>(Gi i).2.step (Gi i).1
theorem IU:∀i,i<3->(Gi i).2.ended.isSome=false:=by decide+kernel
theorem Wo:(Gi 3).2.ended.isSome=true:=by decide+kernel
theorem Gf{α:Type}{u:I α}(h:u.ended.isSome=true)(d:α):u=.ret (u.ended.getD d):=by cases u<;>first|rfl|cases h
def Xp:Result×nN:=(Gi 3).2.ended.getD ({},{})
theorem LS:(Gi 3).2=.ret Xp:=Gf Wo _
theorem LF:Xp.1={found:=true,key:=⟨#[97]⟩,value:=8}:=by decide+kernel
set_option maxRecDepth 100000
theorem KW:∀i,i<4->∀n∈(Gi i).1.aG,n.Fit (Gi i).1.aG.length:=by decide+kernel
theorem AW:∀i,i<4->(Gi i).1.size<=1000:=by decide+kernel
theorem FZ(i:Nat)(h:i<4):Rm 101 (Gi i).1:=⟨KW i h,by have:=AW i h;unfold cN;omega⟩
theorem KF:∀p∈Xp.2.stack,p.node.Fit 100000000001:=by decide+kernel
theorem AG:Xp.2.stack.length+1002<=1000000000:=by decide+kernel
theorem HF:Xp.2.wait.length<=200000000003:=by decide+kernel
theorem JY:Xp.2.started=true:=by decide+kernel
def MX:St×I (Result×nN):=(Bj Zv 1001 Xp.2).head (Gi 3).1
theorem LJ:MX.2.ended.isSome=true:=by decide+kernel
theorem LG:(MX.2.ended.getD ({},{})).1={}:=by decide+kernel
end Go.Ct
end
section
namespace Go.Q9
open Go.Proofs.Tryz
open Go.E
theorem Ln:prog.underlying 25=some (.pointer 100):=by kernel_rfl
theorem MU:prog.underlying 36=some (.pointer 83):=by kernel_rfl
end Go.Q9
end
section
namespace Go.Q9
open Go.Proofs.Tryz
open Go.RowKit Go.E
attribute [local irreducible] gB wpS
variable{B w:World}{L:List As}
theorem Zs(mb:Nat)(h:SH B w (cR mb {}::L)):Calls prog 28 #[↑mb] w λe w'=>e=.returned (.agg (cU Ct.QD).toArray)/\SH B w' (cR mb (Ct.hJ {}).1::L):=Jf mb {} h (by decide)
theorem Ry(h:SH B w (L)):
  Calls prog 42 #[] w λe w'=>∃ab,e=.returned (.tuple #[.pointer (some ⟨ab,0,none⟩),.agg (cU Ct.Zv).toArray])/\SH B w' (wW ab Ct.WY::L):=by
 obtain⟨g,hW⟩:=Ct.d5
 have hcok:Ct.kZ g Ct.WQ:=hW.Gz (c:=Ct.WQ) (by decide) (by decide) (List.mem_singleton.2 rfl) (λ_=>rfl)
 have hst:=Ct.gW (c:=Ct.WQ) hW.fit (by decide)
 refine Ea (args:=[]) func42 rfl ntmps42 rfl ?_
 refine sq<|rg<|st (sg rfl)<|sf (al h Ow)<|?_
 rintro _ w ⟨b1,rfl,h⟩
 refine xe<|nx<|sq<|rg<|cl (ca eF rfl) ((EG (h.fr .n)).mono ?_)
 rintro _ w ⟨mb,rfl,h⟩
 refine⟨_,rfl,?_⟩
 refine st (sg rfl)<|xe<|nx<|sq<|rg<|st (mv rfl)<|cl (ca eF rfl) ((Zs mb (h.fr (.c r0 .n))).mono ?_)
 rintro _ w ⟨rfl,h⟩
 refine⟨_,rfl,?_⟩
 refine sf (al h Ow)<|?_
 rintro _ w ⟨b2,rfl,h⟩
 refine sf (so h rfl rfl rfl sI rfl (.r (.r .d)) u0)<|?_
 rintro _ w h
 refine xe<|nx<|sq<|rg<|st (mv rfl)<|st (gJ rfl (dK (h.b a0)) nW)<|st (bd [.int .i64 8,↑Ct.QD.root,↑Ct.QD.readOnly,.int .i64 0,.int .i64 0,.int .i64 0,.int .i64 0,.int .u64 0,.int .u64 0,.string (⟨#[97]⟩),.int .u64 8,.int .u64 0,.int .i64 0,↑false,↑false,.slice none 0 0,.slice none 0 0,.int .i64 0,↑false,.int .u64 0,.string .empty,.int .i64 0,.int .i64 0,.int .i64 0,↑false] Ew rfl (by kernel_rfl))<|cl (ca eF rfl) ((rW mb (Ct.hJ {}).1 Ct.WQ Ct.FU (h.fr (.c r1 .n)) hst.1 hst.2 (by decide) (by decide) Ct.GR (by decide) (by decide)).mono ?_)
 rintro _ w ⟨xb,rfl,h,k⟩
 have hl:=Ct.uM.start hW.gw hW.PI hW.fit hcok (by decide) Ct.GR k
 refine⟨_,rfl,?_⟩
 refine st (sg rfl)<|xe<|nx<|sq<|bk<|?_
 refine lp (α:=Nat) (λρ=>(.c 1 ↑b1 (.c 2 ↑mb (.c 3 ↑b2 (.c 4 ↑xb .n))))) (λρ w=>SH B w (XA xb mb (Ct.XO ρ)::bl b2 (cU Ct.QD) 35::bl b1 ([.int .i64 0,↑false]) 35::L)/\(ρ<=8)/\(Ct.uM g (Ct.hJ {}).1.size ρ (Ct.XO ρ))) (λρ=>8-ρ) 0 ⟨rfl,rfl,rfl,rfl,trivial⟩ ⟨h,(Hg _),hl⟩ ?_
 rintro i w ⟨h,hi,hl⟩
 refine sq<|sq<|rg<|st (mv rfl)<|cl (ca eF rfl) ((vH xb mb (Ct.XO i) (h.fr (.c r0 .n))).mono ?_)
 rintro _ w ⟨rfl,h⟩
 refine⟨_,rfl,?_⟩
 refine st (nt rfl)<|xe<|nx<|?_
 rcases mD (!(Ct.XO i).e.done)with hd3|hd3
 ·have hd4:(Ct.XO i).e.done=false:=(pJ _).mp hd3
  refine ct rfl hd3<|sk<|nx<|bk<|?_
  have hi8:i+1<=8:=by
   rcases mI i 8 with hz|hz
   ·exact hz
   ·obtain rfl:i=8:=by omega
    have h1:=hd4
    rw[Ct.TZ]at h1;cases h1
  have h1:(Ct.hJ {}).1.size<=1000:=by decide
  have hrd:(Ct.hJ {}).1.size+199*i+120<=Ct.room:=by unfold Ct.room;omega
  refine rg<|st (mv rfl)<|cl (ca eF rfl) ((Pq xb mb (Ct.XO i) Ct.FU (h.fr (.c r0 .n)) hd4 (hl.ready hrd).1 (hl.ready hrd).2 (by decide) hl.call.1 hl.call.2.1 hl.call.2.2.1 hl.call.2.2.2).mono ?_)
  rintro _ w ⟨rfl,h,k⟩
  refine⟨_,rfl,?_⟩
  refine xe<|bn<|nx<|?_
  exact⟨((i+1)),⟨rfl,rfl,rfl,rfl,trivial⟩,⟨h,hi8,(hl.step hd4 (by unfold Ct.Cx;omega) k)⟩,by(try dsimp only);omega⟩
 ·have hd5:(Ct.XO i).e.done=true:=(AD _).mp hd3
  refine cf rfl hd3<|xt<|tx<|tx<|be<|nx<|sq<|?_
  have hi8:i=8:=by
   rcases mI i 8 with hz|hz
   ·have h1:=hd5
    rw[Ct.RG i hz]at h1;cases h1
   ·omega
  subst hi8
  have h:=SH.Qi (h.fr (.c r0 .n))
  have h:SH B w (cR mb Ct.AQ::bl b2 (cU Ct.QD) 35::bl b1 ([.int .i64 0,↑false]) 35::L):=h
  obtain⟨⟨pn,cn,pc,cc,zs⟩,hz0,h⟩:=h.mo
  have h:SH B w (bl mb ([.slice pn zs.length cn,.slice pc Ct.AQ.cells.length cc,↑(Ct.AQ.gen:Int),↑(Ct.AQ.acc:Int)]) 80::aU 118 14 (.slice pn zs.length cn) zs.length (zs.flatMap cB)::aU 43 1 (.slice pc Ct.AQ.cells.length cc) Ct.AQ.cells.length (Ct.AQ.cells.map (Value.int .i64))::bE zs::bl b2 (cU Ct.QD) 35::bl b1 ([.int .i64 0,↑false]) 35::L):=h
  have hzs:zs.map Prod.fst=aW Ct.AQ:=hz0
  clear hz0
  have hsz:Ct.AQ.size<=100000000000:=by have:=Ct.QB;omega
  refine rg<|st (mv rfl)<|st (nc rfl rfl)<|st (fa xY rfl)<|st (gJ (cs:=[.slice pn zs.length cn,.slice pc Ct.AQ.cells.length cc,↑(Ct.AQ.gen:Int)]) rfl (eP (h.b a0) 0 rfl) OD)<|cl (ca eF rfl) ((OT Ct.AQ zs pn pc cn cc (h.fr (.c r1 (.c r1 (.c r1 .n)))) hzs Ct.BP (lS Ct.TW hsz) hsz).mono ?_)
  rintro _ w ⟨ab,rfl,h⟩
  refine⟨_,rfl,?_⟩
  refine st (mv rfl)<|st (xr rfl rfl)<|st (xr rfl rfl)<|st (sg rfl)<|st (sg rfl)<|xe<|nx<|sq<|dZ [1,3,5,7,8,10] (by kernel_rfl) h (.c r5 .n) λw h=>tk (λW H=>mv rfl)<|tk (λW H=>fa Um rfl)<|tk (λW H=>ld oQ rfl (H.c a0 rfl))<|tk (λW H=>bd [↑Ct.QD.root,↑true] BR rfl (by kernel_rfl))<|ef (sg rfl) (h.hs (.c r5 .n))<|ff (so h rfl rfl rfl sI rfl (.r (.r .d)) u6)<|?_
  rintro _ w h
  refine⟨h.hs (.c r5 .n),?_⟩
  refine xz<|nx<|rt<|?_
  refine rr (TY results42 rfl rfl (h.b a6) nW)<|⟨ab,rfl,(h.fr (.c r1 (.c r1 (.c r1 (.c r1 (.c r1 (.c r1 .n))))))).drop.drop.drop.drop.drop.drop⟩
theorem RR:Fp 1000 Ct.Xp.2:=⟨⟨Ct.KF,Ct.AG,Ct.HF⟩,λh=>by rw[Ct.JY]at h;cases h⟩
theorem Wh(N:Nat)(h:N<=999999998):Fp N {}:=⟨⟨λp hp=>(by cases hp),by show 0+(N+2)<=1000000000;omega,Hg _⟩,λ_=>rfl⟩
theorem HR(ab ib:Nat)(h:SH B w (uD ib Ct.Zv {}::(cV ab).a Ct.WY::L)):
  Calls prog 10 #[↑ib,(cV ab).v] w λe w'=>∃tb,e=.returned (.pointer (some ⟨tb,0,none⟩))/\SH B w' (dJ (cV ab) (Al ib Ct.Zv) 1000 tb (Ct.Gi 0).2 0::(cV ab).a (Ct.Gi 0).1::L):=by
 refine(Fj (cV ab) (by show 1+1<=349;decide) ib Ct.Zv 1000 (by decide) {} Ct.WY h Ct.XR (Wh 1000 (by decide))).mono ?_
 rintro e w' ⟨tb,s',u,hq,rfl,h⟩
 have e0:Ct.Gi 0=(s',u):=hq
 rw[e0]
 exact⟨tb,rfl,h⟩
theorem JE(ab ib tb:Nat)(h:SH B w (dJ (cV ab) (Al ib Ct.Zv) 1000 tb (Ct.Gi 0).2 0::(cV ab).a (Ct.Gi 0).1::L)):Calls prog 12 #[↑tb,.int .i64 9] w λe w'=>e=.returned (.int .i64 3)/\SH B w' (dJ (cV ab) (Al ib Ct.Zv) 997 tb (.ret Ct.Xp) 3::(cV ab).a (Ct.Gi 3).1::L):=by
 refine(DA (cV ab) (AB ab) 1000 tb 0 3 9 Ct.Gi h (λi=>rfl) Ct.IU Ct.Wo (by decide) (by decide) (λi hi=>Ct.FZ i (by omega)) (by decide) (by decide)).mono ?_
 rintro e w' ⟨rfl,h⟩
 rw[Ct.LS]at h
 exact⟨rfl,h⟩
theorem BM(ab ib:Nat)(h:SH B w (uD ib Ct.Zv Ct.Xp.2::(cV ab).a (Ct.Gi 3).1::L)):
  Calls prog 10 #[↑ib,(cV ab).v] w λe w'=>∃tb,e=.returned (.pointer (some ⟨tb,0,none⟩))/\SH B w' (dJ (cV ab) (Al ib Ct.Zv) 1000 tb (.ret (Ct.MX.2.ended.getD ({},{}))) 0::(cV ab).a Ct.MX.1::L):=by
 refine(Fj (cV ab) (by show 1+1<=349;decide) ib Ct.Zv 1000 (by decide) Ct.Xp.2 (Ct.Gi 3).1 h ((Ct.FZ 3 (by decide)).less (by decide)) RR).mono ?_
 rintro e w' ⟨tb,s',u,hq,rfl,h⟩
 have e0:Ct.MX=(s',u):=hq
 have e1:=Ct.Gf Ct.LJ ({},{})
 rw[<- e1,e0]
 exact⟨tb,rfl,h⟩
theorem Nj{β:Type}{ρ:β->Ct.Result}{M:β->As}(ab n tb k:Nat)(m:Nat)(z:β)(s:Ct.St)(hk:k<=100)(hm:m<=100)(h:SH B w (dJ (cV ab) (qD ρ M) n tb (.ret z) k::(cV ab).a s::L)):Calls prog 12 #[↑tb,↑(m:Int)] w λe w'=>e=.returned (.int .i64 0)/\SH B w' (dJ (cV ab) (qD ρ M) n tb (.ret z) k::(cV ab).a s::L):=
 DA (cV ab) (AB ab) n tb k 0 m (λ_=>(s,.ret z)) h (λi=>rfl) (λi hi=>by omega) rfl (by omega) (by omega) (λi hi=>by omega) (by omega) (by omega)
theorem LB:Cn (Mf (Prod.fst Ct.Xp)) [.int .i64 0,↑true,.int .u64 8,.string ⟨#[97]⟩,.int .i64 0,.int .i64 0,.int .i64 0,↑false]=true:=by rw[Ct.LF];simp[Cn,WN,Mf]
theorem LU:Cn (Mf (Prod.fst (Ct.MX.2.ended.getD ({},{})))) [.int .i64 0,↑false,.int .u64 0,.string .empty,.int .i64 0,.int .i64 0,.int .i64 0,↑false]=true:=by rw[Ct.LG];simp[Cn,WN,Mf]
theorem Oq(h:SH B w (xP::L)):
  Calls prog 15 #[] w λe w'=>e=.returned ↑true/\SH B w' (xP::L):=by
 refine Ea (args:=[]) func15 rfl ntmps15 rfl ?_
 refine sq<|rg<|st (sg rfl)<|xe<|nx<|sq<|rg<|cl (ca eF rfl) ((Ry (h.fr .n)).mono ?_)
 rintro _ w ⟨ab,rfl,h⟩
 refine⟨_,rfl,?_⟩
 refine st (mv rfl)<|st (xr rfl rfl)<|st (xr rfl rfl)<|sf (al h Ow)<|?_
 rintro _ w ⟨b1,rfl,h⟩
 refine st (sg rfl)<|sf (so h rfl rfl rfl sI rfl (.r (.r .d)) u0)<|?_
 rintro _ w h
 refine xe<|nx<|sq<|rg<|st (gJ rfl (dK (h.b a0)) nW)<|cl (ca eF rfl) ((Ml Ct.Zv (h.fr .n)).mono ?_)
 rintro _ w ⟨ib,rfl,h⟩
 refine⟨_,rfl,?_⟩
 refine st (sg rfl)<|xe<|nx<|sq<|sq<|rg<|st (mv rfl)<|st (i4 Ln rfl rfl)<|st (mv rfl)<|gT rfl rfl rfl<|st (mv rfl)<|gT rfl rfl rfl<|st (i4 MU rfl rfl)<|st (pF rfl rfl rfl)<|xe<|nx<|cF rfl<|sk<|nx<|sq<|rg<|st (mv rfl)<|st (mv rfl)<|st (mi Ln rfl rfl)<|?_
 have h:=LX (h.fr (.c r2 (.c r2 .n)))
 refine cl (ca eF rfl) ((HR ab ib (h.fr (.c r1 (.c r0 .n)))).mono ?_)
 rintro _ w ⟨tb,rfl,h⟩
 refine⟨_,rfl,?_⟩
 refine st (sg rfl)<|xe<|nx<|sq<|sq<|rg<|st (mv rfl)<|st (i4 HO rfl rfl)<|st (mv rfl)<|gT rfl rfl rfl<|st (mv rfl)<|gT rfl rfl rfl<|cl (ca eF rfl) ((JE ab ib tb (h.fr (.c r0 (.c r0 .n)))).mono ?_)
 rintro _ w ⟨rfl,h⟩
 refine⟨_,rfl,?_⟩
 refine gT rfl rfl rfl<|st (bi rfl rfl rfl)<|st (pF rfl rfl rfl)<|st (mv rfl)<|gT rfl rfl rfl<|st (mv rfl)<|gT rfl rfl rfl<|cl (ca eF rfl) ((Hm (cV ab) 997 tb 3 Ct.Xp (h.fr (.c r0 .n))).mono ?_)
 rintro _ w ⟨rfl,h⟩
 refine⟨_,rfl,?_⟩
 refine gT rfl rfl rfl<|st (bd [.int .i64 0,↑true,.int .u64 8,.string (⟨#[97]⟩),.int .i64 0,.int .i64 0,.int .i64 0,↑false] Ek rfl (by kernel_rfl))<|gT rfl rfl rfl<|st (i3 BK rfl rfl rfl rfl)<|st (pF rfl rfl rfl)<|xe<|nx<|cf rfl (sZ LB)<|sk<|nx<|sq<|rg<|st (mv rfl)<|st (mv rfl)<|st (mi Ln rfl rfl)<|cl (ca eF rfl) ((BM ab ib (h.fr (.c r0 (.c r0 .n)))).mono ?_)
 rintro _ w ⟨tb2,rfl,h⟩
 refine⟨_,rfl,?_⟩
 refine st (sg rfl)<|xe<|nx<|sq<|rg<|st (mv rfl)<|st (WD HO rfl rfl)<|st (mv rfl)<|gT rfl rfl rfl<|st (mv rfl)<|gT rfl rfl rfl<|cl (ca eF rfl) ((Nj ab 1000 tb2 0 9 _ _ (by decide) (by decide) (h.fr (.c r0 (.c r0 .n)))).mono ?_)
 rintro _ w ⟨rfl,h⟩
 refine⟨_,rfl,?_⟩
 refine gT rfl rfl rfl<|st (bi rfl rfl rfl)<|st (pT rfl rfl rfl)<|st (mv rfl)<|gT rfl rfl rfl<|st (mv rfl)<|gT rfl rfl rfl<|cl (ca eF rfl) ((Vo (cV ab) 1000 tb2 0 (.ret (Ct.MX.2.ended.getD ({},{}))) (h.fr (.c r0 .n))).mono ?_)
 rintro _ w ⟨rfl,h⟩
 refine⟨_,rfl,?_⟩
 refine st (pT rfl rfl rfl)<|st (mv rfl)<|gT rfl rfl rfl<|st (mv rfl)<|gT rfl rfl rfl<|cl (ca eF rfl) ((Af (cV ab) 1000 tb2 0 (Ct.MX.2.ended.getD ({},{})) (h.fr (.c r0 .n))).mono ?_)
 rintro _ w ⟨rfl,h⟩
 refine⟨_,rfl,?_⟩
 refine gT rfl rfl rfl<|st (bd [.int .i64 0,↑false,.int .u64 0,.string .empty,.int .i64 0,.int .i64 0,.int .i64 0,↑false] Ek rfl (by kernel_rfl))<|gT rfl rfl rfl<|st (n5 BK rfl rfl rfl rfl)<|st (pT rfl rfl rfl)<|st (sg rfl)<|xe<|nx<|rt<|?_
 refine rr (jP results15 rfl)<|?_
 have h:=VB (h.fr (.c r1 .n))
 exact⟨by rw[LU],(h.fr (.c r0 (.c r1 (.c r1 .n)))).drop.drop.drop⟩
theorem LK(ab ib:Nat)(t:Ct.bC)(s:Ct.St)(hro:t.readOnly=false)(hs:Ct.Rm 60 s)(h:SH B w (uD ib t {}::(cV ab).a s::L)):
  Calls prog 10 #[↑ib,(cV ab).v] w λe w'=>∃tb,e=.returned (.pointer (some ⟨tb,0,none⟩))/\SH B w' (dJ (cV ab) (Al ib t) 1000 tb (.ret ({err:=7},{})) 0::(cV ab).a s::L):=by
 refine(Fj (cV ab) (by show 1+1<=349;decide) ib t 1000 (by decide) {} s h hs (Wh 1000 (by decide))).mono ?_
 rintro e w' ⟨tb,s',u,hq,rfl,h⟩
 have e0:(s,(.ret ({err:=7},{}):Ct.I (Ct.Result×Ct.nN)))=(s',u):=by rw[<- hq];unfold Ct.Bj;rw[hro];rfl
 injection e0 with e1 e2
 subst e1 e2
 exact⟨tb,rfl,h⟩
theorem RQ:Cn (Mf (Prod.fst (({err:=7}:Ct.Result),({}:Ct.nN)))) [.int .i64 7,↑false,.int .u64 0,.string .empty,.int .i64 0,.int .i64 0,.int .i64 0,↑false]=true:=by simp[Cn,WN,Mf]
theorem Bs(l0:List Int)(p0:Option Addr)(c0:Nat)(root:Int)(h:SH B w (bV 1 (.slice p0 l0.length c0) l0.length (l0.map (Value.int .i64))::xP::L)):
  Calls prog 3 #[.slice p0 l0.length c0,↑root] w λe w'=>e=.returned ↑true/\SH B w' (xP::L):=by
 refine Ea (args:=[_,_]) func3 rfl ntmps3 rfl ?_
 refine sq<|rg<|st (sg rfl)<|xe<|nx<|sq<|rg<|st (mv rfl)<|cl (ca eF rfl) ((Zz l0 p0 c0 (h.fr (.c r0 .n))).mono ?_)
 rintro _ w ⟨b,mb,aI,g,s,ts,zs,hmk,hW,rfl,h⟩
 have hsz:s.size<=37000000000:=by have:=hW.size;omega
 refine⟨_,rfl,?_⟩
 refine st (sg rfl)<|xe<|nx<|sq<|?_
 have h:=h.fr (.c r0 .n)
 obtain⟨⟨twp,twc,xwp,xwc⟩,h⟩:=h.wo
 have h:SH B w (bl b ([↑mb,.int .u64 (aI:Int),.slice twp ts.length twc,.slice xwp zs.length xwc]) 32::aU 35 2 (.slice twp ts.length twc) ts.length (ts.flatMap cU)::aU 57 1 (.slice xwp zs.length xwc) zs.length (zs.flatMap Ii)::eV mb zs::cR mb s::xP::L):=h
 refine rg<|st (mv rfl)<|st (nc rfl rfl)<|st (fa Vw rfl)<|st (ld Am rfl (h.c a0 rfl))<|cl (ca eF rfl) ((CN mb s (h.fr (.c r4 .n)) (by omega) (Ct.IE hW.gw hW.PI) (lS hW.fit (by omega))).mono ?_)
 rintro _ w ⟨ab,rfl,h⟩
 obtain⟨hl0,hs0⟩:=hW.M7
 refine⟨_,rfl,?_⟩
 refine st (sg rfl)<|xe<|nx<|sq<|sq<|?_
 have h:=RJ h a6
 have h:=LX (h.fr (.c r1 (.c r0 .n)))
 refine rg<|st (mv rfl)<|st (i4 Ln rfl rfl)<|xe<|nx<|cF rfl<|sk<|nx<|sq<|sq<|rg<|st (mv rfl)<|st (nc rfl rfl)<|st (fa pL rfl)<|st (ld Jo rfl (h.c a2 rfl))<|st (mv rfl)<|st (bd [↑root,↑false] BR rfl (by kernel_rfl))<|sf (bu [↑root,↑false] h vC Uh rfl (by kernel_rfl) rfl (by decide) (by decide))<|?_
 rintro _ w ⟨b1,rfl,h⟩
 refine sf (ap h vC rfl Uh rfl (by decide) rfl rfl (λ_=>u4) (h.ro a0) (by simp[Value.oneCell']) (NX ts ⟨root,false⟩) (fW (enc:=cU) ts ⟨root,false⟩) (by unfold maxLen;have:=hW.Qr;simp;omega) (by have:=hW.Qr;simp;omega))<|?_
 rintro _ w ⟨p2,c3,rfl,h⟩
 refine st (ln vC rfl rfl)<|st (mv rfl)<|xe<|nx<|bk<|?_
 have hxl:(ts++[(⟨root,false⟩:Ct.bC)]).length<=10:=by have:=hW.Qr;simp;omega
 refine lp (α:=Nat) (λρ=>(.c 6 (.pointer (some ⟨ab,0,none⟩)) (.c 30 (.slice p2 (ts++[(⟨root,false⟩:Ct.bC)]).length c3) (.c 31 (.int .i64 (((ts++[(⟨root,false⟩:Ct.bC)]).length:Nat):Int)) (.c 32 (.int .i64 (ρ:Int)) .n))))) (λρ w=>SH B w (aU 35 2 (.slice (some ⟨b1,0,none⟩) 1 1) 1 ([.int .i64 root,.bool false])::(cV ab).a ({s with acc:=0})::cR mb {s with acc:=0}::bl b ([.pointer (some ⟨mb,0,none⟩),.int .u64 (aI:Int),.slice twp ts.length twc,.slice xwp zs.length xwc]) 32::aU 35 2 (.slice p2 (ts++[(⟨root,false⟩:Ct.bC)]).length c3) (ts++[(⟨root,false⟩:Ct.bC)]).length ((ts++[(⟨root,false⟩:Ct.bC)]).flatMap cU)::aU 57 1 (.slice xwp zs.length xwc) zs.length (zs.flatMap Ii)::eV mb zs::xP::L)/\(ρ<=(ts++[(⟨root,false⟩:Ct.bC)]).length)) (λρ=>(ts++[(⟨root,false⟩:Ct.bC)]).length -ρ) 0 ⟨rfl,rfl,rfl,rfl,trivial⟩ ⟨h,Hg _⟩ ?_
 rintro i w ⟨h,hi⟩
 refine sq<|rg<|st (bi rfl rfl rfl)<|xe<|nx<|sq<|?_
 rcases mD (decide (((i:Int):Int)<(((ts++[(⟨root,false⟩:Ct.bC)]).length:Nat):Int)))with hd4|hd4
 have hg5:=dP hd4
 refine ct rfl hd4<|sk<|nx<|sq<|bk<|sq<|rg<|?_
 obtain⟨b6,rfl⟩:=h.fp a4 (by omega)
 refine st (ix (j:=i) vC sI rfl rfl (by omega))<|st (gJ rfl ((h.ro a4).x Ng (by decide) (by omega) {}) nW)<|sf (al h Ow)<|?_
 rintro _ w ⟨b7,rfl,h⟩
 refine sf (so h rfl rfl rfl sI rfl (.r (.r .d)) u0)<|?_
 rintro _ w h
 refine xe<|nx<|sq<|sq<|rg<|st (fa vL rfl)<|st (ld xN rfl (h.c a0 rfl))<|xe<|nx<|?_
 rcases mD ((ts++[(⟨root,false⟩:Ct.bC)]).getD i {}).readOnly with hd8|hd8
 refine ct rfl hd8<|xt<|tx<|be<|nx<|rg<|st (bw rfl rfl (gN (c:=((i+1:Nat):Int)) (by omega) (by omega) (by omega)))<|st (mv rfl)<|xe<|nx<|?_
 exact⟨((i+1)),⟨rfl,rfl,rfl,rfl,trivial⟩,⟨h.drop,by(try dsimp only);omega⟩,by(try dsimp only);omega⟩
 refine cf rfl hd8<|sk<|nx<|sq<|rg<|st (gJ rfl (dK (h.b a0)) nW)<|cl (ca eF rfl) ((Ml ((ts++[(⟨root,false⟩:Ct.bC)]).getD i {}) (h.fr .n)).mono ?_)
 rintro _ w ⟨ib,rfl,h⟩
 refine⟨_,rfl,?_⟩
 refine st (sg rfl)<|xe<|nx<|sq<|sq<|rg<|st (mv rfl)<|st (i4 MU rfl rfl)<|xe<|nx<|cF rfl<|sk<|nx<|sq<|rg<|st (mv rfl)<|st (mv rfl)<|st (mi Ln rfl rfl)<|cl (ca eF rfl) ((LK ab ib ((ts++[(⟨root,false⟩:Ct.bC)]).getD i {}) {s with acc:=0} hd8 ⟨hl0.fit,by unfold Ct.cN;omega⟩ (h.fr (.c r0 (.c r2 .n)))).mono ?_)
 rintro _ w ⟨tb,rfl,h⟩
 refine⟨_,rfl,?_⟩
 refine st (sg rfl)<|xe<|nx<|sq<|rg<|st (mv rfl)<|st (i4 HO rfl rfl)<|st (mv rfl)<|gT rfl rfl rfl<|st (mv rfl)<|gT rfl rfl rfl<|cl (ca eF rfl) ((Vo (cV ab) 1000 tb 0 (.ret (({err:=7}:Ct.Result),({}:Ct.nN))) (h.fr (.c r0 .n))).mono ?_)
 rintro _ w ⟨rfl,h⟩
 refine⟨_,rfl,?_⟩
 refine gT rfl rfl rfl<|st (nt rfl)<|st (pF rfl rfl rfl)<|st (mv rfl)<|gT rfl rfl rfl<|st (mv rfl)<|gT rfl rfl rfl<|cl (ca eF rfl) ((Nj ab 1000 tb 0 5 _ _ (by decide) (by decide) (h.fr (.c r0 (.c r0 .n)))).mono ?_)
 rintro _ w ⟨rfl,h⟩
 refine⟨_,rfl,?_⟩
 refine gT rfl rfl rfl<|st (bi rfl rfl rfl)<|st (pF rfl rfl rfl)<|st (mv rfl)<|gT rfl rfl rfl<|st (mv rfl)<|gT rfl rfl rfl<|cl (ca eF rfl) ((Af (cV ab) 1000 tb 0 (({err:=7}:Ct.Result),({}:Ct.nN)) (h.fr (.c r0 .n))).mono ?_)
 rintro _ w ⟨rfl,h⟩
 refine⟨_,rfl,?_⟩
 refine gT rfl rfl rfl<|st (bd [.int .i64 7,↑false,.int .u64 0,.string .empty,.int .i64 0,.int .i64 0,.int .i64 0,↑false] Ek rfl (by kernel_rfl))<|gT rfl rfl rfl<|st (i3 BK rfl rfl rfl rfl)<|st (pF rfl rfl rfl)<|xe<|nx<|cf rfl (sZ RQ)<|sk<|bn<|nx<|rg<|st (bw rfl rfl (gN (c:=((i+1:Nat):Int)) (by omega) (by omega) (by omega)))<|st (mv rfl)<|xe<|nx<|?_
 exact⟨((i+1)),⟨rfl,rfl,rfl,rfl,trivial⟩,⟨((h.fr (.c r0 (.c r1 .n))).drop.drop.fr (.c r1 (.c r0 (.c r0 (.c r0 (.c r0 (.c r0 (.c r0 (.c r0 .n))))))))),by(try dsimp only);omega⟩,by(try dsimp only);omega⟩
 have hg9:=bI hd4
 refine cf rfl hd4<|xt<|tx<|tx<|be<|nx<|sq<|rg<|st (mv rfl)<|cl (ca eF rfl) ((Mk ab {s with acc:=0} (h.fr (.c r1 .n)) (by omega)).mono ?_)
 rintro _ w ⟨rfl,h⟩
 refine⟨_,rfl,?_⟩
 refine st (mv rfl)<|st (xr rfl rfl)<|st (xr rfl rfl)<|st (xr rfl rfl)<|st (sg rfl)<|st (sg rfl)<|st (sg rfl)<|xe<|nx<|sq<|rg<|cl (ca eF rfl) ((Oq (h.fr (.c r7 .n))).mono ?_)
 rintro _ w ⟨rfl,h⟩
 refine⟨_,rfl,?_⟩
 refine st (mv rfl)<|gT rfl rfl rfl<|st (mv rfl)<|gT rfl rfl rfl<|st (bi rfl rfl rfl)<|st (pT rfl rfl rfl)<|st (sg rfl)<|xe<|nx<|rt<|?_
 refine rr (jP results3 rfl)<|⟨rfl,(h.fr (.c r1 (.c r1 (.c r1 (.c r1 (.c r1 (.c r1 (.c r1 .n)))))))).drop.drop.drop.drop.drop.drop.drop⟩
end Go.Q9
end
