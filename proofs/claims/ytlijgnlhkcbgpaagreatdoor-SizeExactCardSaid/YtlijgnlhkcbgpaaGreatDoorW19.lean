/- Parts of a proof: Pt, Gt, Wn, Cv, Azf. -/
import Derived.Test.YtlijgnlhkcbgpaaGreatDoorW18
set_option linter.unusedVariables false
set_option linter.unusedSimpArgs false
set_option maxRecDepth 100000
set_option maxHeartbeats 4000000
section
namespace Go.Q9
open Go.Proofs.Tryz
open Go.RowKit Go.E
attribute [local irreducible] gB wpS Go.E.X XS C jU kP fin Y U F Ca jT bl rb aU bV ex ce pu sK gK bK zK gM fO dH gP nE rD
variable{B w:World}{L:List As}
theorem Aa(S:dN)(tb:Nat)(c:Cc)(k:Nat)(b:Bool)(h:SH B w (bl tb (oI S c k b) 123::L)):
  Calls prog 36 #[↑tb] w λe w'=>e=.returned (.bool (c.kind==0))/\SH B w' (bl tb (oI S c k b) 123::L):=by
 refine bZ func36 ntmps36 h λw h=>?_
 exact rz ⟨rfl,h⟩
theorem PN(S:dN)(tb:Nat)(c:Cc)(k:Nat)(b:Bool)(h:SH B w (bl tb (oI S c k b) 123::L)):
  Calls prog 52 #[↑tb] w λe w'=>e=.returned ↑(k:Int)/\SH B w' (bl tb (oI S c k b) 123::L):=by
 refine bZ func52 ntmps52 h λw h=>?_
 exact rz ⟨rfl,h⟩
theorem KA(S:dN)(tb:Nat)(c:Cc)(k:Nat)(b:Bool)(h:SH B w (bl tb (oI S c k b) 123::L)):
  Calls prog 35 #[↑tb] w λe w'=>e=.returned (.agg (Mf (if(c.kind==0)=true then c.r else{})).toArray)/\SH B w' (bl tb (oI S c k b) 123::L):=by
 refine bZ func35 ntmps35 h λw h=>?_
 refine jA h λb1 w h=>?_
 refine bA (Aa S _ c _ _ h.to) λw h=>?_
 refine qc h (λhd2 w h=>?_) λhd2 w h=>?_
 have hd3:((c.kind:Int)==0)=false:=(lC _).mp hd2
 have hg4:=Pe hd3
 refine go h λw h=>?_
 refine rr (bP rfl rfl (h.b a1) Row.h) ?_
 refine⟨?_,h.to⟩
 rw[hd3];rfl
 have hd5:((c.kind:Int)==0)=true:=(AD _).mp hd2
 have hg6:=eq_of_beq hd5
 refine go h λw h=>?_
 refine st (gJ (cs:=[↑c.r.err,↑c.r.found,.int .u64 (c.r.value:Int),↑c.r.key,↑c.r.count,↑c.r.ref,↑c.r.aE.root,↑c.r.aE.readOnly]) rfl (eP (h.b a0) 7 rfl) Row.h)<|go h λw h=>?_
 refine rr (bP rfl rfl (h.b a1) Row.h) ?_
 refine⟨?_,h.to⟩
 rw[hd5];rfl
theorem RT(S:dN)(tb:Nat)(c:Cc)(k:Nat)(b:Bool)(h:SH B w (bl tb (oI S c k b) 123::L)):
  Calls prog 54 #[↑tb] w λe w'=>e=.returned (.tuple #[.agg (Dh (if(c.kind==0)=true then{}else⟨c.kind,c.cell,c.dC,c.new⟩)).toArray,.bool (!(c.kind==0))])/\SH B w' (bl tb (oI S c k b) 123::L):=by
 refine bZ func54 ntmps54 h λw h=>?_
 refine jA h λb1 w h=>?_
 refine bA (Aa S _ c _ _ h.to) λw h=>?_
 refine qc h (λhd2 w h=>?_) λhd2 w h=>?_
 have hg3:=eq_of_beq hd2
 refine go h λw h=>?_
 refine rr (cL rfl rfl (h.b a1) Row.h rfl) ?_
 refine⟨?_,h.to⟩
 rw[hd2];rfl
 have hg4:=Pe hd2
 refine go h λw h=>?_
 refine st (gJ (cs:=[↑c.kind,↑c.cell,↑c.dC,↑c.new]) rfl (eP (h.b a0) 1 rfl) Row.h)<|go h λw h=>?_
 refine rr (cL rfl rfl (h.b a1) Row.h rfl) ?_
 refine⟨?_,h.to⟩
 rw[hd2];rfl
theorem RJ(S:dN)(hM:∀w,PK S.t S.x S.ab w)(n tb:Nat)(u:Ct.I Ct.Result)(c:Cc)(k:Nat)(s:Ct.St)(h:SH B w (bl tb (oI S c k false) 123::nE S dW (n+1) u c::S.a s::L))(hs:Ct.Rm 101 s)(hu:u.ended=none)(hd:(c.kind==0)=false)(hk:k<=9000000000000000000):
  Calls prog 27 #[↑tb] w λe w'=>∃s' u' c',u.step s=(s',u')/\e=.returned (.tuple #[])/\SH B w' (bl tb (oI S c' (k+1) false) 123::nE S dW n u' c'::S.a s'::L):=by
 refine bZ func27 ntmps27 h λw h=>?_
 refine cl (ca eF rfl) ((Aa S tb c k false (h.fr (.c r0 .n))).mono ?_)
 rintro _ w ⟨rfl,h⟩
 refine⟨_,rfl,?_⟩
 refine st (mv rfl)<|gT rfl rfl hd<|st (mv rfl)<|gT rfl rfl hd<|st (nc rfl rfl)<|gT rfl rfl hd<|st (fa Bv rfl)<|gT rfl rfl hd<|st (ld xN rfl (h.c a0 rfl))<|st (pF rfl hd rfl)<|xe<|nx<|cF rfl<|sk<|nx<|sq<|rg<|st (mv rfl)<|st (nc rfl rfl)<|st (fa Bv rfl)<|?_
 refine sf (so h rfl rfl rfl AU rfl (.s (.s (.s (.s (.s (.s (.s (.s (.s (.s (.s (.s (.s (.s (.s (.s (.r .d))))))))))))))))) u0)<|?_
 rintro _ w h
 refine xe<|nx<|sq<|rg<|st (mv rfl)<|st (nc rfl rfl)<|st (fa Lt rfl)<|st (ld jE rfl (h.c a0 rfl))<|st (bw rfl rfl (gN (c:=((k+1:Nat):Int)) (by omega) (by omega) (by omega)))<|st (nc rfl rfl)<|st (fa Lt rfl)<|?_
 refine sf (so h rfl rfl rfl Bf rfl (.s (.s (.s (.s (.s (.s (.s (.s (.s (.s (.s (.s (.s (.s (.s (.r .d)))))))))))))))) u0)<|?_
 rintro _ w h
 refine xe<|nx<|sq<|?_
 refine Uc (F:=[bl tb ([S.v,↑c.kind,↑c.cell,↑c.dC,↑c.new,c.ld.val,c.tr.val,↑c.r.err,↑c.r.found,.int .u64 (c.r.value:Int),↑c.r.key,↑c.r.count,↑c.r.ref,↑c.r.aE.root,↑c.r.aE.readOnly,.int .i64 ((k+1:Nat):Int),↑true]) 123]) [(true,[1,3,5,7,9,11,13,15,17,18,21,23]),(false,[24])] (by kernel_rfl) h (λw h=>(hC (h.at_ a0) hN)) λw h=>go h λw h=>?_
 refine tk (λW H=>gJ (cs:=[↑c.kind,↑c.cell,↑c.dC,↑c.new,c.ld.val,c.tr.val,↑c.r.err,↑c.r.found,.int .u64 (c.r.value:Int),↑c.r.key,↑c.r.count,↑c.r.ref,↑c.r.aE.root,↑c.r.aE.readOnly]) rfl (eP (H.b a0) 1 rfl) Row.h)<|go h λw h=>?_
 refine aD5 (Tf S hM _ u c _ h.to hs hu) λs1 uz2 c3 hq4 w h=>?_
 refine rn (rK results27)<|go h λw h=>?_
 refine⟨s1,uz2,c3,hq4,rfl,h.to⟩
theorem SH.to{S:dN}{n tb k:Nat}{u:Ct.I Ct.Result}(h:SH B w (eN S n tb u k::L)):∃c,SH B w (bl tb (oI S c k false) 123::nE S dW n u c::L):=by
 obtain⟨c,h⟩:=SH.ex (f:=λc:Cc=>Go.E.se [bl tb (oI S c k false) 123,nE S dW n u c]) h
 exact⟨c,SH.se h⟩
theorem SH.ti{S:dN}{n tb k:Nat}{u:Ct.I Ct.Result}{c:Cc}(h:SH B w (bl tb (oI S c k false) 123::nE S dW n u c::L)):SH B w (eN S n tb u k::L):=
 SH.dU (f:=λc:Cc=>Go.E.se [bl tb (oI S c k false) 123,nE S dW n u c]) c (SH.is (l:=[_,_]) h)
theorem BX(S:dN)(n tb k:Nat)(u:Ct.I Ct.Result)(h:SH B w (eN S n tb u k::L)):
  Calls prog 36 #[↑tb] w λe w'=>e=.returned ↑u.ended.isSome/\SH B w' (eN S n tb u k::L):=by
 obtain⟨c,h⟩:=SH.to h
 have hc:=uD (h.fr (.c r1 .n))
 refine(Aa S tb c k false h).mono ?_
 rintro e w' ⟨rfl,h⟩
 exact⟨by rw[hc.1],SH.ti h⟩
theorem Hh(S:dN)(n tb k:Nat)(u:Ct.I Ct.Result)(h:SH B w (eN S n tb u k::L)):
  Calls prog 52 #[↑tb] w λe w'=>e=.returned ↑(k:Int)/\SH B w' (eN S n tb u k::L):=by
 obtain⟨c,h⟩:=SH.to h
 refine(PN S tb c k false h).mono ?_
 rintro e w' ⟨rfl,h⟩
 exact⟨rfl,SH.ti h⟩
theorem Ew(S:dN)(n tb k:Nat)(u:Ct.I Ct.Result)(h:SH B w (eN S n tb u k::L)):
  Calls prog 35 #[↑tb] w λe w'=>e=.returned (.agg (Mf (u.ended.getD {})).toArray)/\SH B w' (eN S n tb u k::L):=by
 obtain⟨c,h⟩:=SH.to h
 have hc:=uD (h.fr (.c r1 .n))
 refine(KA S tb c k false h).mono ?_
 rintro e w' ⟨rfl,h⟩
 refine⟨?_,SH.ti h⟩
 cases he:u.ended with
 |none=>rw[hc.1,he];rfl
 |some r=>rw[hc.1,he,hc.2.2.2.2.2 r he];rfl
theorem GF{u:Ct.I Ct.Result}(h:u.ended.isSome=true):u.acc={}:=by cases u<;>first|rfl|cases h
theorem IK(S:dN)(n tb k:Nat)(u:Ct.I Ct.Result)(h:SH B w (eN S n tb u k::L)):
  Calls prog 54 #[↑tb] w λe w'=>e=.returned (.tuple #[.agg (Dh u.acc).toArray,.bool (!u.ended.isSome)])/\SH B w' (eN S n tb u k::L):=by
 obtain⟨c,h⟩:=SH.to h
 have hc:=uD (h.fr (.c r1 .n))
 refine(RT S tb c k false h).mono ?_
 rintro e w' ⟨rfl,h⟩
 refine⟨?_,SH.ti h⟩
 rw[hc.1,hc.2.1,hc.2.2.1,hc.2.2.2.1,hc.2.2.2.2.1]
 cases he:u.ended.isSome with
 |false=>rfl
 |true=>rw[GF he];rfl
theorem Om(S:dN)(hM:∀w,PK S.t S.x S.ab w)(n tb k:Nat)(u:Ct.I Ct.Result)(s:Ct.St)(h:SH B w (eN S (n+1) tb u k::S.a s::L))(hs:Ct.Rm 101 s)(hu:u.ended=none)(hk:k<=9000000000000000000):
  Calls prog 27 #[↑tb] w λe w'=>e=.returned (.tuple #[])/\SH B w' (eN S n tb (u.step s).2 (k+1)::S.a (u.step s).1::L):=by
 obtain⟨c,h⟩:=SH.to h
 have hc:=uD (h.fr (.c r1 .n))
 refine(RJ S hM n tb u c k s h hs hu (by rw[hc.1,hu];rfl) hk).mono ?_
 rintro e w' ⟨s',u',c',hq,rfl,h⟩
 rw[hq]
 exact⟨rfl,SH.ti h⟩
section
attribute [local semireducible] nE gP rD dH
variable{B w:World}{L:List As}
theorem SH.n0{S:dN}{m n tb k:Nat}{u:Ct.I Ct.Result}(hmn:m<=n)(h:SH B w (eN S n tb u k::L)):SH B w (eN S m tb u k::L):=by
 obtain⟨c,h⟩:=SH.to h
 have h:=(h.fr (.c r1 .n)).imp λO R=>yG hmn u c _ O R
 exact SH.ti (h.fr (.c r1 .n))
end
end Go.Q9
end
section
namespace Go.Q9
open Go.Proofs.Tryz
open Go.RowKit Go.E
attribute [local irreducible] gB wpS
variable{B w:World}{L:List As}{β:Type}
def Ak(ρ:β->Ct.Result)(M:β->As)(b:β)(c:Cc):As:=se [pu (c=EY (ρ b)),M b]
theorem kG{S:dN}{n:Nat}{ρ:β->Ct.Result}{M:β->As}(b:β)(h:SH B w (M b::L)):SH B w (nE S (Ak ρ M) n (.ret b) (EY (ρ b))::L):=SH.B0 (SH.is (l:=[_,_]) (SH.ip rfl h))
def fD(S:dN)(F:β->Cc->As)(n tb:Nat)(u:Ct.I β)(k:Nat):As:=ex λc:Cc=>se [bl tb (oI S c k false) 123,nE S F n u c]
theorem SH.Z6{S:dN}{F:β->Cc->As}{n tb k:Nat}{u:Ct.I β}(h:SH B w (fD S F n tb u k::L)):∃c,SH B w (bl tb (oI S c k false) 123::nE S F n u c::L):=by
 obtain⟨c,h⟩:=SH.ex (f:=λc:Cc=>Go.E.se [bl tb (oI S c k false) 123,nE S F n u c]) h
 exact⟨c,SH.se h⟩
theorem SH.X6{S:dN}{F:β->Cc->As}{n tb k:Nat}{u:Ct.I β}{c:Cc}(h:SH B w (bl tb (oI S c k false) 123::nE S F n u c::L)):SH B w (fD S F n tb u k::L):=
 SH.dU (f:=λc:Cc=>Go.E.se [bl tb (oI S c k false) 123,nE S F n u c]) c (SH.is (l:=[_,_]) h)
theorem vV{S:dN}{ρ:β->Ct.Result}{M:β->As}{n:Nat}{u:Ct.I β}{c:Cc}(h:SH B w (nE S (Ak ρ M) n u c::L)):(c.kind==0)=u.ended.isSome/\c.kind=u.acc.kind/\c.cell=u.acc.cell/\c.dC=u.acc.dC/\c.new=u.acc.new/\∀b,u.ended=some b->c.r=ρ b:=by
 cases u with
 |ret r=>
  have hc:c=EY (ρ r):=by
   cases n with
   |zero=>exact(SH.pu (SH.se h)).1
   |succ n=>exact(SH.pu (SH.se h)).1
  subst hc;exact⟨rfl,rfl,rfl,rfl,rfl,λr' e=>by injection e with e;rw[<- e];rfl⟩
 |load a k=>
  have hc:∃v,c=tR a v:=by
   cases n with
   |zero=>obtain⟨v,h⟩:=SH.ex h;exact⟨v,(SH.pu (SH.se h)).1⟩
   |succ n=>obtain⟨v,h⟩:=SH.ex h;exact⟨v,(SH.pu (SH.se h)).1⟩
  obtain⟨v,rfl⟩:=hc;exact⟨rfl,rfl,rfl,rfl,rfl,λr' e=>by cases e⟩
 |eA a o x k=>
  have hc:∃v,c=Fg a o x v:=by
   cases n with
   |zero=>obtain⟨v,h⟩:=SH.ex h;exact⟨v,(SH.pu (SH.se h)).1⟩
   |succ n=>obtain⟨v,h⟩:=SH.ex h;exact⟨v,(SH.pu (SH.se h)).1⟩
  obtain⟨v,rfl⟩:=hc;exact⟨rfl,rfl,rfl,rfl,rfl,λr' e=>by cases e⟩
 |alloc m i k=>cases n<;>exact((SH.pu h).1).elim
 |cell i k=>cases n<;>exact((SH.pu h).1).elim
 |gen k=>cases n<;>exact((SH.pu h).1).elim
 |node r k=>cases n<;>exact((SH.pu h).1).elim
def aAi:Ct.I β->Prop
 |.ret _=>True
 |.load _ _=>True
 |.eA _ _ _ _=>True
 |_=>False
theorem T6{S:dN}{F:β->Cc->As}{n:Nat}{u:Ct.I β}{c:Cc}(h:SH B w (nE S F n u c::L)):aAi u:=by
 cases u with
 |ret r=>trivial
 |load a k=>trivial
 |eA a o x k=>trivial
 |alloc m i k=>cases n<;>exact((SH.pu h).1).elim
 |cell i k=>cases n<;>exact((SH.pu h).1).elim
 |gen k=>cases n<;>exact((SH.pu h).1).elim
 |node r k=>cases n<;>exact((SH.pu h).1).elim
theorem ZS(S:dN)(F:β->Cc->As)(A:As)(n tb:Nat)(u t:Ct.I β)(c:Cc)(k:Nat)(s:Ct.St)(hF:∀(B w:World) (L:List As),SH B w (nE S F (n+1) u c::A::L)->Calls prog 60 #[S.v,.agg (zQ c).toArray] w λe w'=>CP S F n B t s L e w')(h:SH B w (bl tb (oI S c k false) 123::nE S F (n+1) u c::A::L))(hd:(c.kind==0)=false)(hk:k<=9000000000000000000):
  Calls prog 27 #[↑tb] w λe w'=>∃s' u' c',t.head s=(s',u')/\e=.returned (.tuple #[])/\SH B w' (bl tb (oI S c' (k+1) false) 123::nE S F n u' c'::S.a s'::L):=by
 refine Ea (args:=[_]) func27 rfl ntmps27 rfl ?_
 refine sq<|sq<|rg<|st (mv rfl)<|cl (ca eF rfl) ((Aa S tb c k false (h.fr (.c r0 .n))).mono ?_)
 rintro _ w ⟨rfl,h⟩
 refine⟨_,rfl,?_⟩
 refine st (mv rfl)<|gT rfl rfl hd<|st (mv rfl)<|gT rfl rfl hd<|st (nc rfl rfl)<|gT rfl rfl hd<|st (fa Bv rfl)<|gT rfl rfl hd<|st (ld xN rfl (h.c a0 rfl))<|st (pF rfl hd rfl)<|xe<|nx<|cF rfl<|sk<|nx<|sq<|rg<|st (mv rfl)<|st (nc rfl rfl)<|st (fa Bv rfl)<|sf (so h rfl rfl rfl AU rfl (.s (.s (.s (.s (.s (.s (.s (.s (.s (.s (.s (.s (.s (.s (.s (.s (.r .d))))))))))))))))) u0)<|?_
 rintro _ w h
 refine xe<|nx<|sq<|rg<|st (mv rfl)<|st (nc rfl rfl)<|st (fa Lt rfl)<|st (ld jE rfl (h.c a0 rfl))<|st (bw rfl rfl (gN (c:=((k+1:Nat):Int)) (by omega) (by omega) (by omega)))<|st (nc rfl rfl)<|st (fa Lt rfl)<|sf (so h rfl rfl rfl Bf rfl (.s (.s (.s (.s (.s (.s (.s (.s (.s (.s (.s (.s (.s (.s (.s (.r .d)))))))))))))))) u0)<|?_
 rintro _ w h
 refine xe<|nx<|sq<|Uc (F:=[bl tb ([S.v,↑c.kind,↑c.cell,↑c.dC,↑c.new,c.ld.val,c.tr.val,↑c.r.err,↑c.r.found,.int .u64 (c.r.value:Int),↑c.r.key,↑c.r.count,↑c.r.ref,↑c.r.aE.root,↑c.r.aE.readOnly,.int .i64 ((k+1:Nat):Int),↑true]) 123]) [(true,[1,3,5,7,9,11,13,15,17,18,21,23]),(false,[24])] (by kernel_rfl) h (λw h=>(hC (h.at_ a0) hN)) λw h=>VP<|tk (λW H=>mv rfl)<|tk (λW H=>mv rfl)<|tk (λW H=>nc rfl rfl)<|tk (λW H=>fa T7 rfl)<|tk (λW H=>ld qH rfl (H.c a0 rfl))<|tk (λW H=>mv rfl)<|tk (λW H=>nc rfl rfl)<|tk (λW H=>fa Xr rfl)<|tk (λW H=>gJ (cs:=[↑c.kind,↑c.cell,↑c.dC,↑c.new,c.ld.val,c.tr.val,↑c.r.err,↑c.r.found,.int .u64 (c.r.value:Int),↑c.r.key,↑c.r.count,↑c.r.ref,↑c.r.aE.root,↑c.r.aE.readOnly]) rfl (eP (H.b a0) 1 rfl) iO)<|cs (ca eF rfl) ((hF _ _ _ (h.fr (.c r1 (.c r1 .n)))).mono ?_)
 rintro _ w ⟨s1,uz2,c3,hq4,rfl,h⟩
 refine⟨_,rfl,(hC (h.at_ a2) hN),?_⟩
 refine tk (λW H=>nc rfl rfl)<|tk (λW H=>fa Xr rfl)<|Zp<|ff (so h rfl rfl rfl iR (eO _) (.s (.r (.r (.r (.r (.r (.r (.r (.r (.r (.r (.r (.r (.r (.r .d))))))))))))))) u2)<|?_
 rintro _ w h
 refine⟨trivial,?_⟩
 refine xz<|nx<|rg<|st (mv rfl)<|st (nc rfl rfl)<|st (fa Bv rfl)<|sf (so h rfl rfl rfl AU rfl (.s (.s (.s (.s (.s (.s (.s (.s (.s (.s (.s (.s (.s (.s (.s (.s (.r .d))))))))))))))))) u2)<|?_
 rintro _ w h
 refine xe<|?_
 refine rn (rK results27)<|⟨s1,uz2,c3,hq4,rfl,(h.fr (.c r2 (.c r0 (.c r0 .n))))⟩
theorem Vz(S:dN)(F:β->Cc->As)(n:Nat)(th:Fv)(k:Unit->Ct.I β)(s:Ct.St)(h:SH B w (gP S F n 60 qI k th::S.a s::L))(hs:Ct.Rm 60 s):
  Calls prog 28 #[S.v,th.val] w λe w'=>∃tb s' u,(k ()).head s=(s',u)/\e=.returned (.pointer (some ⟨tb,0,none⟩))/\SH B w' (fD S F n tb u 0::S.a s'::L):=by
 refine Ea (args:=[_,_]) func28 rfl ntmps28 rfl ?_
 refine sq<|rg<|st (sg rfl)<|xe<|nx<|sq<|rg<|st (mv rfl)<|st (bd [S.v,.int .i64 0,.int .i64 0,.int .i64 0,.int .i64 0,.nilFunc,.nilFunc,.int .i64 0,↑false,.int .u64 0,.string .empty,.int .i64 0,.int .i64 0,.int .i64 0,↑false,.int .i64 0,↑false] aAs rfl (by kernel_rfl))<|sf (bx h rfl rfl)<|?_
 rintro _ w ⟨b1,rfl,h⟩
 refine st (sg rfl)<|xe<|nx<|sq<|rg<|st (mv rfl)<|st (mv rfl)<|cl (ca eF rfl) ((Lz S F n th k s (h.fr (.c r1 (.c r1 .n))) hs).mono ?_)
 rintro _ w ⟨s2,uz3,c4,hq5,rfl,h⟩
 refine⟨_,rfl,?_⟩
 refine st (nc rfl rfl)<|st (fa Xr rfl)<|sf (so h rfl rfl rfl iR (eO _) (.s (.r (.r (.r (.r (.r (.r (.r (.r (.r (.r (.r (.r (.r (.r .d))))))))))))))) u2)<|?_
 rintro _ w h
 refine xe<|nx<|sq<|rg<|st (mv rfl)<|st (sg rfl)<|xe<|nx<|rt<|?_
 refine rr (jP results28 rfl)<|?_
 have h:=(h.fr (.c r2 (.c r0 (.c r0 .n))))
 exact⟨b1,s2,uz3,hq5,rfl,SH.X6 h⟩
theorem Y9{ρ:β->Ct.Result}{M:β->As}(S:dN)(n tb k:Nat)(u:Ct.I β)(h:SH B w (fD S (Ak ρ M) n tb u k::L)):
  Calls prog 36 #[↑tb] w λe w'=>e=.returned ↑u.ended.isSome/\SH B w' (fD S (Ak ρ M) n tb u k::L):=by
 obtain⟨c,h⟩:=SH.Z6 h
 have hc:=vV (h.fr (.c r1 .n))
 refine(Aa S tb c k false h).mono ?_
 rintro e w' ⟨rfl,h⟩
 exact⟨by rw[hc.1],SH.X6 h⟩
theorem BS{ρ:β->Ct.Result}{M:β->As}(S:dN)(n tb k:Nat)(b:β)(h:SH B w (fD S (Ak ρ M) n tb (.ret b) k::L)):
  Calls prog 35 #[↑tb] w λe w'=>e=.returned (.agg (Mf (ρ b)).toArray)/\SH B w' (fD S (Ak ρ M) n tb (.ret b) k::L):=by
 obtain⟨c,h⟩:=SH.Z6 h
 have hc:=vV (h.fr (.c r1 .n))
 refine(KA S tb c k false h).mono ?_
 rintro e w' ⟨rfl,h⟩
 refine⟨?_,SH.X6 h⟩
 rw[hc.1,hc.2.2.2.2.2 b rfl];rfl
theorem R6{u:Ct.I β}(h:u.ended.isSome=true):u.acc={}:=by cases u<;>first|rfl|cases h
theorem GM{ρ:β->Ct.Result}{M:β->As}(S:dN)(n tb k:Nat)(u:Ct.I β)(h:SH B w (fD S (Ak ρ M) n tb u k::L)):
  Calls prog 54 #[↑tb] w λe w'=>e=.returned (.tuple #[.agg (Dh u.acc).toArray,.bool (!u.ended.isSome)])/\SH B w' (fD S (Ak ρ M) n tb u k::L):=by
 obtain⟨c,h⟩:=SH.Z6 h
 have hc:=vV (h.fr (.c r1 .n))
 refine(RT S tb c k false h).mono ?_
 rintro e w' ⟨rfl,h⟩
 refine⟨?_,SH.X6 h⟩
 rw[hc.1,hc.2.1,hc.2.2.1,hc.2.2.2.1,hc.2.2.2.2.1]
 cases he:u.ended.isSome with
 |false=>rfl
 |true=>rw[R6 he];rfl
theorem TT{S:dN}{F:β->Cc->As}{n tb k:Nat}{u:Ct.I β}(h:SH B w (fD S F n tb u k::L)):aAi u:=by
 obtain⟨c,h⟩:=SH.Z6 h
 exact T6 (h.fr (.c r1 .n))
theorem aAl{S:dN}{F:β->Cc->As}{m n tb k:Nat}{u:Ct.I β}(hmn:m<=n)(h:SH B w (fD S F n tb u k::L)):SH B w (fD S F m tb u k::L):=by
 obtain⟨c,h⟩:=SH.Z6 h
 have h:=(h.fr (.c r1 .n)).imp λO R=>yG hmn u c _ O R
 exact SH.X6 (h.fr (.c r1 .n))
theorem aCv{ρ:β->Ct.Result}{M:β->As}{S:dN}{n tb k:Nat}{b:β}(h:SH B w (fD S (Ak ρ M) n tb (.ret b) k::L)):SH B w (M b::L):=by
 obtain⟨c,h⟩:=SH.Z6 h
 have h:=h.drop
 cases n with
 |zero=>exact(SH.pu (SH.se (l:=[pu (c=EY (ρ b)),M b]) h)).2
 |succ n=>exact(SH.pu (SH.se (l:=[pu (c=EY (ρ b)),M b]) h)).2
theorem GA{ρ:β->Ct.Result}{M:β->As}(S:dN)(n tb k:Nat)(b:β)(h:SH B w (fD S (Ak ρ M) n tb (.ret b) k::L)):
  Calls prog 35 #[↑tb] w λe w'=>e=.returned (.agg (Mf (ρ b)).toArray)/\SH B w' (M b::L):=
 (BS S n tb k b h).mono λe w' h=>⟨h.1,aCv h.2⟩
theorem XK{ρ:β→Ct.Result}{M:β→As}(S:dN)(A:As)(n tb k:Nat)(a v:Int)(f:Int→Ct.I β)(s s0:Ct.St)(hA:∀{B w:World} {L:List As},SH B w (A::L)→SH B w (S.a s0::L))(ha:Acs S "Load" [↑a] (.int .i64 v) A (S.a s))(h:SH B w (fD S (Ak ρ M) (n+1) tb (.load a f) k::A::L))(hs:Ct.Rm 100 s)(hs0:Ct.Rm 100 s0)(hk:k≤9000000000000000000):
  Calls prog 27 #[↑tb] w λe w'=>∃s' u',(f v).head s=(s',u')/\e=.returned (.tuple #[])/\SH B w' (fD S (Ak ρ M) n tb u' (k+1)::S.a s'::L):=by
 obtain⟨c,h⟩:=SH.Z6 h
 have hc:=vV (h.fr (.c r1 .n))
 refine(ZS S (Ak ρ M) A n tb (.load a f) (f v) c k s (λB w L h=>?_) h (by rw[hc.1];rfl) hk).mono ?_
 ·obtain⟨x,h⟩:=SH.ex h
  obtain⟨e,h2⟩:=SH.pu (SH.se h)
  subst e
  obtain⟨g,ff,fc,rfl⟩:=Ml ((hA (h2.fr (.c r1 .n))).fr (.c r1 .n)) hs0 0
  exact Hm S A a v (Ak ρ M) n g ff fc f s ha h2 hs
 ·rintro e w' ⟨s',u',c',hq,rfl,h⟩
  exact⟨s',u',hq,rfl,SH.X6 h⟩
theorem W5{ρ:β→Ct.Result}{M:β→As}(S:dN)(A:As)(n tb k:Nat)(a o x:Int)(v:Bool)(f:Bool→Ct.I β)(s s0:Ct.St)(hA:∀{B w:World} {L:List As},SH B w (A::L)→SH B w (S.a s0::L))(ha:Acs S "CAS" [↑a,↑o,↑x] (.bool v) A (S.a s))(h:SH B w (fD S (Ak ρ M) (n+1) tb (.eA a o x f) k::A::L))(hs:Ct.Rm 100 s)(hs0:Ct.Rm 100 s0)(hk:k≤9000000000000000000):
  Calls prog 27 #[↑tb] w λe w'=>∃s' u',(f v).head s=(s',u')/\e=.returned (.tuple #[])/\SH B w' (fD S (Ak ρ M) n tb u' (k+1)::S.a s'::L):=by
 obtain⟨c,h⟩:=SH.Z6 h
 have hc:=vV (h.fr (.c r1 .n))
 refine(ZS S (Ak ρ M) A n tb (.eA a o x f) (f v) c k s (λB w L h=>?_) h (by rw[hc.1];rfl) hk).mono ?_
 ·obtain⟨y,h⟩:=SH.ex h
  obtain⟨e,h2⟩:=SH.pu (SH.se h)
  subst e
  obtain⟨g,ff,fc,rfl⟩:=Ml ((hA (h2.fr (.c r1 .n))).fr (.c r1 .n)) hs0 false
  exact Jg S A a o x v (Ak ρ M) n g ff fc f s ha h2 hs
 ·rintro e w' ⟨s',u',c',hq,rfl,h⟩
  exact⟨s',u',hq,rfl,SH.X6 h⟩
end Go.Q9
end
section
namespace Go.Ct
variable{α β γ:Type}
theorem I.Cy:∀(t:I α) (f:α->I β) (s:St),(t.bind f).head s=((t.head s).2.bind f).head (t.head s).1
 |.ret a,f,s=>rfl
 |.load c k,f,s=>rfl
 |.eA c o n k,f,s=>rfl
 |.alloc n i k,f,s=>I.Cy (k (s.alloc n i).2) f (s.alloc n i).1
 |.cell i k,f,s=>I.Cy (k (s.aV i).2) f (s.aV i).1
 |.gen k,f,s=>I.Cy (k s.bS.2) f s.bS.1
 |.node r k,f,s=>I.Cy (k (s.node r)) f s
theorem CV{t u:I α}{f:α->I β}{s s':St}{R:St×I β}(hq:t.head s=(s',u))(h:(u.bind f).head s'=R):(t.bind f).head s=R:=by
 rw[I.Cy,hq];exact h
def RZ:Nat->I α->Prop
 |_,.ret _=>True
 |_,.load _ k=>∀v,RZ 20 (k v)
 |_,.eA _ _ _ k=>∀v,RZ 20 (k v)
 |j,.alloc n _ k=>1<=j/\(∀L,n.Fit L)/\∀v,RZ (j-1) (k v)
 |_,.cell _ _=>False
 |_,.gen _=>False
 |j,.node _ k=>∀n,RZ j (k n)
theorem RZ.mono:∀{t:I α} {i j:Nat},RZ i t->i<=j->RZ j t
 |.ret _,_,_,_,_=>trivial
 |.load _ _,_,_,h,_=>h
 |.eA _ _ _ _,_,_,h,_=>h
 |.alloc n i k,a,b,h,hab=>⟨lK h.1 hab,h.2.1,λv=>RZ.mono (h.2.2 v) (by omega)⟩
 |.node r k,_,_,h,hab=>λn=>RZ.mono (h n) hab
theorem RZ.head:∀{t:I α} {i j:Nat} {s:St},RZ i t->Rm (j+i) s->Rm j (t.head s).1/\∀i',RZ i' (t.head s).2
 |.ret _,i,j,s,_,hs=>⟨hs.less (by omega),λ_=>trivial⟩
 |.load _ _,i,j,s,h,hs=>⟨hs.less (by omega),λ_=>h⟩
 |.eA _ _ _ _,i,j,s,h,hs=>⟨hs.less (by omega),λ_=>h⟩
 |.alloc n x k,i,j,s,h,hs=>by
  obtain⟨i,rfl⟩:∃m,i=m+1:=⟨i-1,by have:=h.1;omega⟩
  exact RZ.head (t:=k (s.alloc n x).2) (i:=i) (j:=j) (h.2.2 _) (Rm.alloc (j:=j+i) hs (h.2.1 _) x)
 |.node r k,i,j,s,h,hs=>RZ.head (t:=k (s.node r)) (h _) hs
theorem RZ.bif{c:Bool}{a b:I α}{j:Nat}(ha:RZ j a)(hb:RZ j b):RZ j (bif c then a else b):=by cases c with|true=>exact ha|false=>exact hb
theorem LU{i m p:Int}{k:Int->I β}(hk:∀v,RZ 18 (k v)){j:Nat}:RZ j (Dq i m p k):=λb a v=>RZ.mono (hk _) (by omega)
theorem BW{prev i m:Int}{k:Int->I β}(hk:∀v,RZ 18 (k v)){c:Bool}{j:Nat}:RZ j (kY prev i m k c):=λp=>RZ.bif (RZ.mono (hk _) (by omega)) (LU hk)
theorem Zd{prev p:Int}{c:Bool}{k:Bool->I β}(hk:∀c j,RZ j (k c)){j:Nat}(hj:1<=j):RZ j (mK prev p c k):=
 RZ.bif (λv=>hk v 20) ⟨hj,λL=>bG L 7 0 p 0 0 (by decide),λf v=>hk v 20⟩
theorem V4{t:bC}{k:Int->I β}(hk:∀v,RZ 18 (k v)){j:Nat}:RZ j (Zi t k):=λv d=>by
 have hw:∀s j,RZ j (iD t v s k):=λs j d=>RZ.bif (λ_=>RZ.mono (hk _) (by omega)) (λ_=>RZ.mono (hk _) (by omega))
 exact RZ.bif (RZ.mono (hk _) (by omega)) λs=>RZ.bif (hw s _) λ_ s'=>hw s' _
theorem RV{t:bC}{i m:Int}{k:Int->I β}(hk:∀v,RZ 18 (k v)){j:Nat}:RZ j (qB t i m k):=λn p=>
 RZ.bif (RZ.mono (hk _) (by omega)) λb=>RZ.bif (LU hk) (RZ.bif (Zd (λc j=>BW hk) (by omega)) (V4 λv=>by
  show RZ 18 (I.node _ _)
  exact λa b=>Zd (λc j=>BW hk) (by omega)))
theorem Wc{t:bC}{i:Int}{k:Int->I β}(hk:∀v,RZ 18 (k v)){j:Nat}:RZ j (mM t i k):=λn m=>RV hk
end Go.Ct
namespace Go.Ct
variable{α β γ:Type}
def dJ(Q:Nat->α->Prop):Nat->I α->Prop
 |n,.ret b=>Q n b
 |0,.load _ _=>True
 |n+1,.load _ k=>∀v,dJ Q n (k v)
 |0,.eA _ _ _ _=>True
 |n+1,.eA _ _ _ k=>∀v,dJ Q n (k v)
 |n,.alloc _ _ k=>∀v,dJ Q n (k v)
 |n,.cell _ k=>∀v,dJ Q n (k v)
 |n,.gen k=>∀v,dJ Q n (k v)
 |n,.node _ k=>∀q:Node,q.Fit 100000000001->dJ Q n (k q)
theorem iN{Q:Nat->α->Prop}{n:Nat}{r:Int}{k:Node->I α}(h:∀q:Node,q.Fit 100000000001->dJ Q n (k q)):dJ Q n (.node r k):=by cases n<;>exact h
theorem Fu{Q:Nat->α->Prop}{n:Nat}{m:Node}{i:Int}{k:Int->I α}(h:∀v,dJ Q n (k v)):dJ Q n (.alloc m i k):=by cases n<;>exact h
theorem tL{Q:Nat->α->Prop}{n:Nat}{b:α}(h:Q n b):dJ Q n (.ret b):=by cases n<;>exact h
theorem nK{Q:Nat->α->Prop}{n:Nat}{c:Int}{k:Int->I α}(h:∀m,m<n->∀v,dJ Q m (k v)):dJ Q n (.load c k):=by
 cases n with
 |zero=>trivial
 |succ n=>exact h n (Nat.lt_succ_self n)
theorem pN{Q:Nat->α->Prop}{n:Nat}{c o x:Int}{k:Bool->I α}(h:∀m,m<n->∀v,dJ Q m (k v)):dJ Q n (.eA c o x k):=by
 cases n with
 |zero=>trivial
 |succ n=>exact h n (Nat.lt_succ_self n)
theorem nA{Q:Nat->α->Prop}{n:Nat}{c:Bool}{a b:I α}(ha:c=true->dJ Q n a)(hb:c=false->dJ Q n b):dJ Q n (bif c then a else b):=by cases c with|true=>exact ha rfl|false=>exact hb rfl
theorem dJ.less{Q:Nat->α->Prop}(hQ:∀m n b,m<=n->Q n b->Q m b):∀{t:I α} {m n:Nat},m<=n->dJ Q n t->dJ Q m t
 |.ret b,m,n,hm,h=>tL (hQ m n b hm (by cases n<;>exact h))
 |.load c k,m,n,hm,h=>nK λj hj v=>by
  obtain⟨n,rfl⟩:∃i,n=i+1:=⟨n-1,by omega⟩
  exact dJ.less hQ (by omega) (h v)
 |.eA c o x k,m,n,hm,h=>pN λj hj v=>by
  obtain⟨n,rfl⟩:∃i,n=i+1:=⟨n-1,by omega⟩
  exact dJ.less hQ (by omega) (h v)
 |.alloc x i k,m,n,hm,h=>Fu λv=>dJ.less hQ hm ((by cases n<;>exact h:∀v,dJ Q n (k v)) v)
 |.cell i k,m,n,hm,h=>by
  have h':∀v,dJ Q n (k v):=by cases n<;>exact h
  have h2:∀v,dJ Q m (k v):=λv=>dJ.less hQ hm (h' v)
  cases m<;>exact h2
 |.gen k,m,n,hm,h=>by
  have h':∀v,dJ Q n (k v):=by cases n<;>exact h
  have h2:∀v,dJ Q m (k v):=λv=>dJ.less hQ hm (h' v)
  cases m<;>exact h2
 |.node r k,m,n,hm,h=>iN λq hq=>dJ.less hQ hm ((by cases n<;>exact h:∀q:Node,q.Fit 100000000001->dJ Q n (k q)) q hq)
theorem vX{Q:Nat->α->Prop}:∀{t:I α} {i j n:Nat} {s:St},RZ i t->Rm (j+i) s->dJ Q n t->dJ Q n (t.head s).2
 |.ret _,i,j,n,s,_,_,h=>h
 |.load _ _,i,j,n,s,_,_,h=>h
 |.eA _ _ _ _,i,j,n,s,_,_,h=>h
 |.alloc x v k,i,j,n,s,hf,hs,h=>by
  obtain⟨i,rfl⟩:∃m,i=m+1:=⟨i-1,by have:=hf.1;omega⟩
  exact vX (t:=k (s.alloc x v).2) (i:=i) (j:=j) (hf.2.2 _) (Rm.alloc (j:=j+i) hs (hf.2.1 _) v) ((by cases n<;>exact h:∀v,dJ Q n (k v)) _)
 |.node r k,i,j,n,s,hf,hs,h=>vX (t:=k (s.node r)) (j:=j) (hf _) hs ((by cases n<;>exact h:∀q:Node,q.Fit 100000000001->dJ Q n (k q)) _ ((hs.node r).mono (by have:=hs.zP;unfold St.size at this;omega)))
theorem pL:∀(t:I α) (n:Nat),dJ (λ_ _=>True) n t
 |.ret b,n=>tL trivial
 |.load c k,n=>nK λm _ v=>pL (k v) m
 |.eA c o x k,n=>pN λm _ v=>pL (k v) m
 |.alloc x i k,n=>Fu λv=>pL (k v) n
 |.cell i k,n=>by
  have h2:∀v,dJ (λ_ _=>True) n (k v):=λv=>pL (k v) n
  cases n<;>exact h2
 |.gen k,n=>by
  have h2:∀v,dJ (λ_ _=>True) n (k v):=λv=>pL (k v) n
  cases n<;>exact h2
 |.node r k,n=>iN λq _=>pL (k q) n
theorem Xz{Q:Nat->β->Prop}{i m p:Int}{k:Int->I β}{n:Nat}(hk:∀m,m<n->∀v,dJ Q m (k v)):dJ Q n (Dq i m p k):=iN λb _=>iN λa _=>pN λj hj _=>hk j hj _
theorem Sy{Q:Nat->β->Prop}{prev i m:Int}{k:Int->I β}{n:Nat}{c:Bool}(hk:∀m,m<n->∀v,dJ Q m (k v)):dJ Q n (kY prev i m k c):=
 nK λj hj p=>nA (λ_=>hk j hj _) λ_=>Xz λj' h' v=>hk j' (by omega) v
theorem Pw{Q:Nat->β->Prop}{prev p:Int}{c:Bool}{k:Bool->I β}{n:Nat}(hk:∀m,m<n->∀v,dJ Q m (k v)):dJ Q n (mK prev p c k):=
 nA (λ_=>pN hk) λ_=>Fu λf=>pN hk
theorem DA{Q:Nat->β->Prop}{t:bC}{v s:Int}{k:Int->I β}{n:Nat}(hk:∀m,m<n->∀v,dJ Q m (k v)):dJ Q n (iD t v s k):=
 iN λd _=>nA (λ_=>pN λj hj _=>hk j hj _) λ_=>pN λj hj _=>hk j hj _
theorem SZ{Q:Nat->β->Prop}{t:bC}{k:Int->I β}{n:Nat}(hk:∀m,m<n->∀v,dJ Q m (k v)):dJ Q n (Zi t k):=
 nK λj hj v=>iN λd _=>nA (λ_=>hk j hj _) λ_=>nK λi hi s=>nA (λ_=>DA λi' h v=>hk i' (by omega) v) λ_=>pN λi1 h1 _=>nK λi2 h2 s'=>DA λi3 h3 v=>hk i3 (by omega) v
theorem HP{Q:Nat->β->Prop}{t:bC}{i m:Int}{k:Int->I β}{n:Nat}(hk:∀m,m<=n->∀v,dJ Q m (k v)):dJ Q n (qB t i m k):=
 iN λnd _=>nK λj hj p=>nA (λ_=>hk j (by omega) _) λ_=>iN λb _=>nA (λ_=>Xz λj' h' v=>hk j' (by omega) v) λ_=>
  nA (λ_=>Pw λj1 h1 c=>Sy λj2 h2 v=>hk j2 (by omega) v) λ_=>SZ λj1 h1 r=>iN λa _=>iN λb _=>Pw λj2 h2 c=>Sy λj3 h3 v=>hk j3 (by omega) v
theorem Yc{Q:Nat->β->Prop}{t:bC}{i:Int}{k:Int->I β}{n:Nat}(hk:∀m,m<n->∀v,dJ Q m (k v)):dJ Q n (mM t i k):=
 iN λnd _=>nK λj hj m=>HP λj' h' v=>hk j' (by omega) v
end Go.Ct
end
section
namespace Go.E
open Go.RowKit
theorem aCy{P:Program}{n:Nat}{K:iG}{e:Tm}{ops:Array Oper}{S:World->Prop}{ls:List (Oper×Bool)}{d:Option Tmp}{ty:TypeId}{ps:String}{af:Array Edge}{w:World}{x:Operand}{v:Fv}{az:Array Operand}{ats:Array TypeId}{vs:List Value}(hx:ev n e x=some v.val)(ha:pU n e az.toList=some vs)
  (k:jK P v vs w λy w'=>∃u,y=.returned u/\S w'/\XS P n ops S ls K (Tm.put e d u) w'):XS P n ops S ((⟨d,.call ⟨.value x,az,ats⟩,ty,ps,af,none⟩,false)::ls) K e w:=by
 obtain⟨f,ff,fc,rfl,en,hc⟩:=k
 exact cs (w4 en hx ha) hc
theorem Py{fn:Func}{p u:Tmp}{ty:TypeId}(h:fn.results=#[.tmp u,.cell p ty])(tmps:Array Value)(P:Program)(w:World):(results fn tmps).run P w=((asAddr (tmps.getD p undef)).run P w).andThen λa w₁=>((loadVar ty a).run P w₁).andThen λv w₂=>.ok (.tuple #[tmps.getD u undef,v]) w₂:=by
 simp only[results,h]
 simp[Sem.run_bind,Result.andThen]
theorem aAd{P:Program}{n:Nat}{e:Tm}{w:World}{fn:Func}{t s:Nat}{ty u:TypeId}{g:Nat}{cs:List Value}{v:Value}(hr:fn.results=#[.tmp s,.cell t ty])(hv:ev n e (.tmp s)=some v)(hp:ev n e (.tmp t)=some (.pointer (some ⟨g,0,none⟩)))(hg:w.heap[g]?=some (.cells cs.toArray u (0,0)))(hR:xA P ty=some cs.length):jT P fn n e w (.tuple #[v,.agg cs.toArray]):=λa ha=>by
 have h4:a.tmps.getD s undef=v:=ha.eval hv
 have h5:a.tmps.getD t undef=_:=ha.eval hp
 rw[Py hr,h4,h5]
 have h6:=SN (P:=P) hR hg
 simp[asAddr,Result.andThen,h6]
end Go.E
end
section
namespace Go.Q9
open Go.Proofs.Tryz
open Go.E
theorem U3:KY prog 132=some ([.nilIface,.int .i64 0,↑false],[(0,1),(1,1),(2,1)]):=by kernel_rfl
theorem KC:fo prog 132 1=some 1:=by kernel_rfl
theorem NR:fo prog 132 2=some 2:=by kernel_rfl
theorem WA:fo prog 75 1=some 1:=by kernel_rfl
theorem H':fo prog 75 2=some 2:=by kernel_rfl
theorem Z2:fo prog 75 3=some 3:=by kernel_rfl
theorem Vw:tA prog 130=true:=by kernel_rfl
theorem XF:tA prog 52=true:=by kernel_rfl
theorem TF:tA prog 92=true:=by kernel_rfl
theorem S6:prog.underlying 130=some (.pointer 132):=by kernel_rfl
end Go.Q9
end
