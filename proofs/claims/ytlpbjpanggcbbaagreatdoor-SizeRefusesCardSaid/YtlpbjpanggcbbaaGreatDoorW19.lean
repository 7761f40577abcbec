/- Parts of a proof: Pt, Gt, Wn, Cv, Azf, Rl. -/
import Derived.Test.YtlpbjpanggcbbaaGreatDoorW18
set_option linter.unusedVariables false
set_option linter.unusedSimpArgs false
set_option maxRecDepth 100000
set_option maxHeartbeats 4000000
section
namespace Go.Q9
open Go.Proofs.Tryz
open Go.RowKit Go.E
attribute [local irreducible] gB wpS Go.E.X XS C jU kP fin Y U F Ca jT bl rb aU bV ex ce pu sK gK bK zK gM fO dH gP nE rD
variable{B w:World}{L:List As}
theorem Aa(S:dN)(tb:Nat)(c:Cc)(k:Nat)(b:Bool)(h:SH B w (bl tb (oI S c k b) 97::L)):
  Calls prog 11 #[↑tb] w λe w'=>e=.returned (.bool (c.kind==0))/\SH B w' (bl tb (oI S c k b) 97::L):=by
 refine bZ func11 ntmps11 h λw h=>?_
 exact rz ⟨rfl,h⟩
theorem KA(S:dN)(tb:Nat)(c:Cc)(k:Nat)(b:Bool)(h:SH B w (bl tb (oI S c k b) 97::L)):
  Calls prog 13 #[↑tb] w λe w'=>e=.returned (.agg (Mf (if(c.kind==0)=true then c.r else{})).toArray)/\SH B w' (bl tb (oI S c k b) 97::L):=by
 refine bZ func13 ntmps13 h λw h=>?_
 refine jA h λb1 w h=>?_
 refine bA (Aa S _ c _ _ h.to) λw h=>?_
 refine qc h (λhd2 w h=>?_) λhd2 w h=>?_
 have hd3:((c.kind:Int)==0)=false:=(lC _).mp hd2
 have hg4:=mD hd3
 refine go h λw h=>?_
 refine rr (bP rfl rfl (h.b a1) Row.h) ?_
 refine⟨?_,h.to⟩
 rw[hd3];rfl
 have hd5:((c.kind:Int)==0)=true:=(Pe _).mp hd2
 have hg6:=eq_of_beq hd5
 refine go h λw h=>?_
 refine st (gJ (cs:=[↑c.r.err,↑c.r.found,.int .u64 (c.r.value:Int),↑c.r.key,↑c.r.count,↑c.r.ref,↑c.r.aE.root,↑c.r.aE.readOnly]) rfl (eP (h.b a0) 7 rfl) Row.h)<|go h λw h=>?_
 refine rr (bP rfl rfl (h.b a1) Row.h) ?_
 refine⟨?_,h.to⟩
 rw[hd5];rfl
theorem RT(S:dN)(tb:Nat)(c:Cc)(k:Nat)(b:Bool)(h:SH B w (bl tb (oI S c k b) 97::L)):
  Calls prog 72 #[↑tb] w λe w'=>e=.returned (.tuple #[.agg (Dh (if(c.kind==0)=true then{}else⟨c.kind,c.cell,c.dC,c.new⟩)).toArray,.bool (!(c.kind==0))])/\SH B w' (bl tb (oI S c k b) 97::L):=by
 refine bZ func72 ntmps72 h λw h=>?_
 refine jA h λb1 w h=>?_
 refine bA (Aa S _ c _ _ h.to) λw h=>?_
 refine qc h (λhd2 w h=>?_) λhd2 w h=>?_
 have hg3:=eq_of_beq hd2
 refine go h λw h=>?_
 refine rr (cL rfl rfl (h.b a1) Row.h rfl) ?_
 refine⟨?_,h.to⟩
 rw[hd2];rfl
 have hg4:=mD hd2
 refine go h λw h=>?_
 refine st (gJ (cs:=[↑c.kind,↑c.cell,↑c.dC,↑c.new]) rfl (eP (h.b a0) 1 rfl) Row.h)<|go h λw h=>?_
 refine rr (cL rfl rfl (h.b a1) Row.h rfl) ?_
 refine⟨?_,h.to⟩
 rw[hd2];rfl
theorem SH.to{S:dN}{n tb k:Nat}{u:Ct.I Ct.Result}(h:SH B w (eN S n tb u k::L)):∃c,SH B w (bl tb (oI S c k false) 97::nE S dW n u c::L):=by
 obtain⟨c,h⟩:=SH.ex (f:=λc:Cc=>Go.E.se [bl tb (oI S c k false) 97,nE S dW n u c]) h
 exact⟨c,SH.se h⟩
section
attribute [local semireducible] nE gP rD dH
end
end Go.Q9
end
section
namespace Go.Q9
open Go.Proofs.Tryz
open Go.RowKit Go.E
attribute [local irreducible] gB wpS
variable{B w:World}{L:List As}{β:Type}
def tM(ρ:β->Ct.Result)(M:β->As)(b:β)(c:Cc):As:=se [pu (c=EY (ρ b)),M b]
theorem kG{S:dN}{n:Nat}{ρ:β->Ct.Result}{M:β->As}(b:β)(h:SH B w (M b::L)):SH B w (nE S (tM ρ M) n (.ret b) (EY (ρ b))::L):=SH.B0 (SH.is (l:=[_,_]) (SH.ip rfl h))
def eQ(S:dN)(F:β->Cc->As)(n tb:Nat)(u:Ct.I β)(k:Nat):As:=ex λc:Cc=>se [bl tb (oI S c k false) 97,nE S F n u c]
theorem SH.PN{S:dN}{F:β->Cc->As}{n tb k:Nat}{u:Ct.I β}(h:SH B w (eQ S F n tb u k::L)):∃c,SH B w (bl tb (oI S c k false) 97::nE S F n u c::L):=by
 obtain⟨c,h⟩:=SH.ex (f:=λc:Cc=>Go.E.se [bl tb (oI S c k false) 97,nE S F n u c]) h
 exact⟨c,SH.se h⟩
theorem SH.PC{S:dN}{F:β->Cc->As}{n tb k:Nat}{u:Ct.I β}{c:Cc}(h:SH B w (bl tb (oI S c k false) 97::nE S F n u c::L)):SH B w (eQ S F n tb u k::L):=
 SH.dU (f:=λc:Cc=>Go.E.se [bl tb (oI S c k false) 97,nE S F n u c]) c (SH.is (l:=[_,_]) h)
theorem pX{S:dN}{ρ:β->Ct.Result}{M:β->As}{n:Nat}{u:Ct.I β}{c:Cc}(h:SH B w (nE S (tM ρ M) n u c::L)):(c.kind==0)=u.ended.isSome/\c.kind=u.acc.kind/\c.cell=u.acc.cell/\c.dC=u.acc.dC/\c.new=u.acc.new/\∀b,u.ended=some b->c.r=ρ b:=by
 cases u with
 |ret r=>
  have hc:c=EY (ρ r):=by
   cases n with
   |zero=>exact(SH.pu (SH.se h)).1
   |succ n=>exact(SH.pu (SH.se h)).1
  subst hc;exact⟨rfl,rfl,rfl,rfl,rfl,λr' e=>by injection e with e;rw[<- e];rfl⟩
 |load a k=>
  have hc:∃v,c=tR a v:=by
   cases n with
   |zero=>obtain⟨v,h⟩:=SH.ex h;exact⟨v,(SH.pu (SH.se h)).1⟩
   |succ n=>obtain⟨v,h⟩:=SH.ex h;exact⟨v,(SH.pu (SH.se h)).1⟩
  obtain⟨v,rfl⟩:=hc;exact⟨rfl,rfl,rfl,rfl,rfl,λr' e=>by cases e⟩
 |eA a o x k=>
  have hc:∃v,c=Fg a o x v:=by
   cases n with
   |zero=>obtain⟨v,h⟩:=SH.ex h;exact⟨v,(SH.pu (SH.se h)).1⟩
   |succ n=>obtain⟨v,h⟩:=SH.ex h;exact⟨v,(SH.pu (SH.se h)).1⟩
  obtain⟨v,rfl⟩:=hc;exact⟨rfl,rfl,rfl,rfl,rfl,λr' e=>by cases e⟩
 |alloc m i k=>cases n<;>exact((SH.pu h).1).elim
 |cell i k=>cases n<;>exact((SH.pu h).1).elim
 |gen k=>cases n<;>exact((SH.pu h).1).elim
 |node r k=>cases n<;>exact((SH.pu h).1).elim
def VR:Ct.I β->Prop
 |.ret _=>True
 |.load _ _=>True
 |.eA _ _ _ _=>True
 |_=>False
theorem OL{S:dN}{F:β->Cc->As}{n:Nat}{u:Ct.I β}{c:Cc}(h:SH B w (nE S F n u c::L)):VR u:=by
 cases u with
 |ret r=>trivial
 |load a k=>trivial
 |eA a o x k=>trivial
 |alloc m i k=>cases n<;>exact((SH.pu h).1).elim
 |cell i k=>cases n<;>exact((SH.pu h).1).elim
 |gen k=>cases n<;>exact((SH.pu h).1).elim
 |node r k=>cases n<;>exact((SH.pu h).1).elim
theorem BX(S:dN)(F:β->Cc->As)(A:As)(n tb:Nat)(u t:Ct.I β)(c:Cc)(k:Nat)(s:Ct.St)(hF:∀(B w:World) (L:List As),SH B w (nE S F (n+1) u c::A::L)->Calls prog 66 #[S.v,.agg (zQ c).toArray] w λe w'=>CP S F n B t s L e w')(h:SH B w (bl tb (oI S c k false) 97::nE S F (n+1) u c::A::L))(hd:(c.kind==0)=false)(hk:k<=9000000000000000000):
  Calls prog 40 #[↑tb] w λe w'=>∃s' u' c',t.head s=(s',u')/\e=.returned (.tuple #[])/\SH B w' (bl tb (oI S c' (k+1) false) 97::nE S F n u' c'::S.a s'::L):=by
 refine Ea (args:=[_]) func40 rfl ntmps40 rfl ?_
 refine sq<|sq<|rg<|st (mv rfl)<|cl (ca eF rfl) ((Aa S tb c k false (h.fr (.c r0 .n))).mono ?_)
 rintro _ w ⟨rfl,h⟩
 refine⟨_,rfl,?_⟩
 refine st (mv rfl)<|gT rfl rfl hd<|st (mv rfl)<|gT rfl rfl hd<|st (nc rfl rfl)<|gT rfl rfl hd<|st (fa Hh rfl)<|gT rfl rfl hd<|st (ld xN rfl (h.c a0 rfl))<|st (pF rfl hd rfl)<|xe<|nx<|cF rfl<|sk<|nx<|sq<|rg<|st (mv rfl)<|st (nc rfl rfl)<|st (fa Hh rfl)<|sf (so h rfl rfl rfl AU rfl (.s (.s (.s (.s (.s (.s (.s (.s (.s (.s (.s (.s (.s (.s (.s (.s (.r .d))))))))))))))))) u0)<|?_
 rintro _ w h
 refine xe<|nx<|sq<|rg<|st (mv rfl)<|st (nc rfl rfl)<|st (fa BC rfl)<|st (ld jE rfl (h.c a0 rfl))<|st (bw rfl rfl (gN (c:=((k+1:Nat):Int)) (by omega) (by omega) (by omega)))<|st (nc rfl rfl)<|st (fa BC rfl)<|sf (so h rfl rfl rfl Bf rfl (.s (.s (.s (.s (.s (.s (.s (.s (.s (.s (.s (.s (.s (.s (.s (.r .d)))))))))))))))) u0)<|?_
 rintro _ w h
 refine xe<|nx<|sq<|Uc (F:=[bl tb ([S.v,↑c.kind,↑c.cell,↑c.dC,↑c.new,c.ld.val,c.tr.val,↑c.r.err,↑c.r.found,.int .u64 (c.r.value:Int),↑c.r.key,↑c.r.count,↑c.r.ref,↑c.r.aE.root,↑c.r.aE.readOnly,.int .i64 ((k+1:Nat):Int),↑true]) 97]) [(true,[1,3,5,7,9,11,13,15,17,18,21,23]),(false,[24])] (by kernel_rfl) h (λw h=>(hC (h.at_ a0) hN)) λw h=>VP<|tk (λW H=>mv rfl)<|tk (λW H=>mv rfl)<|tk (λW H=>nc rfl rfl)<|tk (λW H=>fa RY rfl)<|tk (λW H=>ld oG rfl (H.c a0 rfl))<|tk (λW H=>mv rfl)<|tk (λW H=>nc rfl rfl)<|tk (λW H=>fa Py rfl)<|tk (λW H=>gJ (cs:=[↑c.kind,↑c.cell,↑c.dC,↑c.new,c.ld.val,c.tr.val,↑c.r.err,↑c.r.found,.int .u64 (c.r.value:Int),↑c.r.key,↑c.r.count,↑c.r.ref,↑c.r.aE.root,↑c.r.aE.readOnly]) rfl (eP (H.b a0) 1 rfl) fK)<|cs (ca eF rfl) ((hF _ _ _ (h.fr (.c r1 (.c r1 .n)))).mono ?_)
 rintro _ w ⟨s1,uz2,c3,hq4,rfl,h⟩
 refine⟨_,rfl,(hC (h.at_ a2) hN),?_⟩
 refine tk (λW H=>nc rfl rfl)<|tk (λW H=>fa Py rfl)<|Zp<|ff (so h rfl rfl rfl fZ (eO _) (.s (.r (.r (.r (.r (.r (.r (.r (.r (.r (.r (.r (.r (.r (.r .d))))))))))))))) u2)<|?_
 rintro _ w h
 refine⟨trivial,?_⟩
 refine xz<|nx<|rg<|st (mv rfl)<|st (nc rfl rfl)<|st (fa Hh rfl)<|sf (so h rfl rfl rfl AU rfl (.s (.s (.s (.s (.s (.s (.s (.s (.s (.s (.s (.s (.s (.s (.s (.s (.r .d))))))))))))))))) u2)<|?_
 rintro _ w h
 refine xe<|?_
 refine rn (rK results40)<|⟨s1,uz2,c3,hq4,rfl,(h.fr (.c r2 (.c r0 (.c r0 .n))))⟩
theorem Km(S:dN)(F:β->Cc->As)(n:Nat)(th:Fv)(k:Unit->Ct.I β)(s:Ct.St)(h:SH B w (gP S F n 60 qI k th::S.a s::L))(hs:Ct.Rm 60 s):
  Calls prog 35 #[S.v,th.val] w λe w'=>∃tb s' u,(k ()).head s=(s',u)/\e=.returned (.pointer (some ⟨tb,0,none⟩))/\SH B w' (eQ S F n tb u 0::S.a s'::L):=by
 refine Ea (args:=[_,_]) func35 rfl ntmps35 rfl ?_
 refine sq<|rg<|st (sg rfl)<|xe<|nx<|sq<|rg<|st (mv rfl)<|st (bd [S.v,.int .i64 0,.int .i64 0,.int .i64 0,.int .i64 0,.nilFunc,.nilFunc,.int .i64 0,↑false,.int .u64 0,.string .empty,.int .i64 0,.int .i64 0,.int .i64 0,↑false,.int .i64 0,↑false] i9 rfl (by kernel_rfl))<|sf (bx h rfl rfl)<|?_
 rintro _ w ⟨b1,rfl,h⟩
 refine st (sg rfl)<|xe<|nx<|sq<|rg<|st (mv rfl)<|st (mv rfl)<|cl (ca eF rfl) ((Lz S F n th k s (h.fr (.c r1 (.c r1 .n))) hs).mono ?_)
 rintro _ w ⟨s2,uz3,c4,hq5,rfl,h⟩
 refine⟨_,rfl,?_⟩
 refine st (nc rfl rfl)<|st (fa Py rfl)<|sf (so h rfl rfl rfl fZ (eO _) (.s (.r (.r (.r (.r (.r (.r (.r (.r (.r (.r (.r (.r (.r (.r .d))))))))))))))) u2)<|?_
 rintro _ w h
 refine xe<|nx<|sq<|rg<|st (mv rfl)<|st (sg rfl)<|xe<|nx<|rt<|?_
 refine rr (jP results35 rfl)<|?_
 have h:=(h.fr (.c r2 (.c r0 (.c r0 .n))))
 exact⟨b1,s2,uz3,hq5,rfl,SH.PC h⟩
theorem DO{ρ:β->Ct.Result}{M:β->As}(S:dN)(n tb k:Nat)(u:Ct.I β)(h:SH B w (eQ S (tM ρ M) n tb u k::L)):
  Calls prog 11 #[↑tb] w λe w'=>e=.returned ↑u.ended.isSome/\SH B w' (eQ S (tM ρ M) n tb u k::L):=by
 obtain⟨c,h⟩:=SH.PN h
 have hc:=pX (h.fr (.c r1 .n))
 refine(Aa S tb c k false h).mono ?_
 rintro e w' ⟨rfl,h⟩
 exact⟨by rw[hc.1],SH.PC h⟩
theorem Ew{ρ:β->Ct.Result}{M:β->As}(S:dN)(n tb k:Nat)(b:β)(h:SH B w (eQ S (tM ρ M) n tb (.ret b) k::L)):
  Calls prog 13 #[↑tb] w λe w'=>e=.returned (.agg (Mf (ρ b)).toArray)/\SH B w' (eQ S (tM ρ M) n tb (.ret b) k::L):=by
 obtain⟨c,h⟩:=SH.PN h
 have hc:=pX (h.fr (.c r1 .n))
 refine(KA S tb c k false h).mono ?_
 rintro e w' ⟨rfl,h⟩
 refine⟨?_,SH.PC h⟩
 rw[hc.1,hc.2.2.2.2.2 b rfl];rfl
theorem LO{u:Ct.I β}(h:u.ended.isSome=true):u.acc={}:=by cases u<;>first|rfl|cases h
theorem Nw{ρ:β->Ct.Result}{M:β->As}(S:dN)(n tb k:Nat)(u:Ct.I β)(h:SH B w (eQ S (tM ρ M) n tb u k::L)):
  Calls prog 72 #[↑tb] w λe w'=>e=.returned (.tuple #[.agg (Dh u.acc).toArray,.bool (!u.ended.isSome)])/\SH B w' (eQ S (tM ρ M) n tb u k::L):=by
 obtain⟨c,h⟩:=SH.PN h
 have hc:=pX (h.fr (.c r1 .n))
 refine(RT S tb c k false h).mono ?_
 rintro e w' ⟨rfl,h⟩
 refine⟨?_,SH.PC h⟩
 rw[hc.1,hc.2.1,hc.2.2.1,hc.2.2.2.1,hc.2.2.2.2.1]
 cases he:u.ended.isSome with
 |false=>rfl
 |true=>rw[LO he];rfl
theorem Yb{S:dN}{F:β->Cc->As}{n tb k:Nat}{u:Ct.I β}(h:SH B w (eQ S F n tb u k::L)):VR u:=by
 obtain⟨c,h⟩:=SH.PN h
 exact OL (h.fr (.c r1 .n))
theorem VM{S:dN}{F:β->Cc->As}{m n tb k:Nat}{u:Ct.I β}(hmn:m<=n)(h:SH B w (eQ S F n tb u k::L)):SH B w (eQ S F m tb u k::L):=by
 obtain⟨c,h⟩:=SH.PN h
 have h:=(h.fr (.c r1 .n)).imp λO R=>yG hmn u c _ O R
 exact SH.PC (h.fr (.c r1 .n))
theorem F9{ρ:β->Ct.Result}{M:β->As}{S:dN}{n tb k:Nat}{b:β}(h:SH B w (eQ S (tM ρ M) n tb (.ret b) k::L)):SH B w (M b::L):=by
 obtain⟨c,h⟩:=SH.PN h
 have h:=h.drop
 cases n with
 |zero=>exact(SH.pu (SH.se (l:=[pu (c=EY (ρ b)),M b]) h)).2
 |succ n=>exact(SH.pu (SH.se (l:=[pu (c=EY (ρ b)),M b]) h)).2
theorem Ln{ρ:β->Ct.Result}{M:β->As}(S:dN)(n tb k:Nat)(b:β)(h:SH B w (eQ S (tM ρ M) n tb (.ret b) k::L)):
  Calls prog 13 #[↑tb] w λe w'=>e=.returned (.agg (Mf (ρ b)).toArray)/\SH B w' (M b::L):=
 (Ew S n tb k b h).mono λe w' h=>⟨h.1,F9 h.2⟩
theorem CF{ρ:β→Ct.Result}{M:β→As}(S:dN)(A:As)(n tb k:Nat)(a v:Int)(f:Int→Ct.I β)(s s0:Ct.St)(hA:∀{B w:World} {L:List As},SH B w (A::L)→SH B w (S.a s0::L))(ha:ZS S "Load" [↑a] (.int .i64 v) A (S.a s))(h:SH B w (eQ S (tM ρ M) (n+1) tb (.load a f) k::A::L))(hs:Ct.Rm 100 s)(hs0:Ct.Rm 100 s0)(hk:k≤9000000000000000000):
  Calls prog 40 #[↑tb] w λe w'=>∃s' u',(f v).head s=(s',u')/\e=.returned (.tuple #[])/\SH B w' (eQ S (tM ρ M) n tb u' (k+1)::S.a s'::L):=by
 obtain⟨c,h⟩:=SH.PN h
 have hc:=pX (h.fr (.c r1 .n))
 refine(BX S (tM ρ M) A n tb (.load a f) (f v) c k s (λB w L h=>?_) h (by rw[hc.1];rfl) hk).mono ?_
 ·obtain⟨x,h⟩:=SH.ex h
  obtain⟨e,h2⟩:=SH.pu (SH.se h)
  subst e
  obtain⟨g,ff,fc,rfl⟩:=Tw ((hA (h2.fr (.c r1 .n))).fr (.c r1 .n)) hs0 0
  exact Ic S A a v (tM ρ M) n g ff fc f s ha h2 hs
 ·rintro e w' ⟨s',u',c',hq,rfl,h⟩
  exact⟨s',u',hq,rfl,SH.PC h⟩
theorem KG{ρ:β→Ct.Result}{M:β→As}(S:dN)(A:As)(n tb k:Nat)(a o x:Int)(v:Bool)(f:Bool→Ct.I β)(s s0:Ct.St)(hA:∀{B w:World} {L:List As},SH B w (A::L)→SH B w (S.a s0::L))(ha:ZS S "CAS" [↑a,↑o,↑x] (.bool v) A (S.a s))(h:SH B w (eQ S (tM ρ M) (n+1) tb (.eA a o x f) k::A::L))(hs:Ct.Rm 100 s)(hs0:Ct.Rm 100 s0)(hk:k≤9000000000000000000):
  Calls prog 40 #[↑tb] w λe w'=>∃s' u',(f v).head s=(s',u')/\e=.returned (.tuple #[])/\SH B w' (eQ S (tM ρ M) n tb u' (k+1)::S.a s'::L):=by
 obtain⟨c,h⟩:=SH.PN h
 have hc:=pX (h.fr (.c r1 .n))
 refine(BX S (tM ρ M) A n tb (.eA a o x f) (f v) c k s (λB w L h=>?_) h (by rw[hc.1];rfl) hk).mono ?_
 ·obtain⟨y,h⟩:=SH.ex h
  obtain⟨e,h2⟩:=SH.pu (SH.se h)
  subst e
  obtain⟨g,ff,fc,rfl⟩:=Tw ((hA (h2.fr (.c r1 .n))).fr (.c r1 .n)) hs0 false
  exact Lb S A a o x v (tM ρ M) n g ff fc f s ha h2 hs
 ·rintro e w' ⟨s',u',c',hq,rfl,h⟩
  exact⟨s',u',hq,rfl,SH.PC h⟩
end Go.Q9
end
section
namespace Go.Ct
variable{α β γ:Type}
theorem I.uT:∀(t:I α) (f:α->I β) (s:St),(t.bind f).head s=((t.head s).2.bind f).head (t.head s).1
 |.ret a,f,s=>rfl
 |.load c k,f,s=>rfl
 |.eA c o n k,f,s=>rfl
 |.alloc n i k,f,s=>I.uT (k (s.alloc n i).2) f (s.alloc n i).1
 |.cell i k,f,s=>I.uT (k (s.aV i).2) f (s.aV i).1
 |.gen k,f,s=>I.uT (k s.bS.2) f s.bS.1
 |.node r k,f,s=>I.uT (k (s.node r)) f s
theorem Lk{t u:I α}{f:α->I β}{s s':St}{R:St×I β}(hq:t.head s=(s',u))(h:(u.bind f).head s'=R):(t.bind f).head s=R:=by
 rw[I.uT,hq];exact h
def RZ:Nat->I α->Prop
 |_,.ret _=>True
 |_,.load _ k=>∀v,RZ 20 (k v)
 |_,.eA _ _ _ k=>∀v,RZ 20 (k v)
 |j,.alloc n _ k=>1<=j/\(∀L,n.Fit L)/\∀v,RZ (j-1) (k v)
 |_,.cell _ _=>False
 |_,.gen _=>False
 |j,.node _ k=>∀n,RZ j (k n)
theorem RZ.mono:∀{t:I α} {i j:Nat},RZ i t->i<=j->RZ j t
 |.ret _,_,_,_,_=>trivial
 |.load _ _,_,_,h,_=>h
 |.eA _ _ _ _,_,_,h,_=>h
 |.alloc n i k,a,b,h,hab=>⟨lK h.1 hab,h.2.1,λv=>RZ.mono (h.2.2 v) (by omega)⟩
 |.node r k,_,_,h,hab=>λn=>RZ.mono (h n) hab
theorem RZ.head:∀{t:I α} {i j:Nat} {s:St},RZ i t->Rm (j+i) s->Rm j (t.head s).1/\∀i',RZ i' (t.head s).2
 |.ret _,i,j,s,_,hs=>⟨hs.less (by omega),λ_=>trivial⟩
 |.load _ _,i,j,s,h,hs=>⟨hs.less (by omega),λ_=>h⟩
 |.eA _ _ _ _,i,j,s,h,hs=>⟨hs.less (by omega),λ_=>h⟩
 |.alloc n x k,i,j,s,h,hs=>by
  obtain⟨i,rfl⟩:∃m,i=m+1:=⟨i-1,by have:=h.1;omega⟩
  exact RZ.head (t:=k (s.alloc n x).2) (i:=i) (j:=j) (h.2.2 _) (Rm.alloc (j:=j+i) hs (h.2.1 _) x)
 |.node r k,i,j,s,h,hs=>RZ.head (t:=k (s.node r)) (h _) hs
theorem RZ.bif{c:Bool}{a b:I α}{j:Nat}(ha:RZ j a)(hb:RZ j b):RZ j (bif c then a else b):=by cases c with|true=>exact ha|false=>exact hb
theorem Vr{i m p:Int}{k:Int->I β}(hk:∀v,RZ 18 (k v)){j:Nat}:RZ j (Dq i m p k):=λb a v=>RZ.mono (hk _) (by omega)
theorem Lu{prev i m:Int}{k:Int->I β}(hk:∀v,RZ 18 (k v)){c:Bool}{j:Nat}:RZ j (kY prev i m k c):=λp=>RZ.bif (RZ.mono (hk _) (by omega)) (Vr hk)
theorem Ji{prev p:Int}{c:Bool}{k:Bool->I β}(hk:∀c j,RZ j (k c)){j:Nat}(hj:1<=j):RZ j (mK prev p c k):=
 RZ.bif (λv=>hk v 20) ⟨hj,λL=>bG L 7 0 p 0 0 (by decide),λf v=>hk v 20⟩
theorem NZ{t:bC}{k:Int->I β}(hk:∀v,RZ 18 (k v)){j:Nat}:RZ j (Zi t k):=λv d=>by
 have hw:∀s j,RZ j (iD t v s k):=λs j d=>RZ.bif (λ_=>RZ.mono (hk _) (by omega)) (λ_=>RZ.mono (hk _) (by omega))
 exact RZ.bif (RZ.mono (hk _) (by omega)) λs=>RZ.bif (hw s _) λ_ s'=>hw s' _
theorem Ym{t:bC}{i m:Int}{k:Int->I β}(hk:∀v,RZ 18 (k v)){j:Nat}:RZ j (qB t i m k):=λn p=>
 RZ.bif (RZ.mono (hk _) (by omega)) λb=>RZ.bif (Vr hk) (RZ.bif (Ji (λc j=>Lu hk) (by omega)) (NZ λv=>by
  show RZ 18 (I.node _ _)
  exact λa b=>Ji (λc j=>Lu hk) (by omega)))
theorem Ka{t:bC}{i:Int}{k:Int->I β}(hk:∀v,RZ 18 (k v)){j:Nat}:RZ j (mM t i k):=λn m=>Ym hk
end Go.Ct
namespace Go.Ct
variable{α β γ:Type}
def dJ(Q:Nat->α->Prop):Nat->I α->Prop
 |n,.ret b=>Q n b
 |0,.load _ _=>True
 |n+1,.load _ k=>∀v,dJ Q n (k v)
 |0,.eA _ _ _ _=>True
 |n+1,.eA _ _ _ k=>∀v,dJ Q n (k v)
 |n,.alloc _ _ k=>∀v,dJ Q n (k v)
 |n,.cell _ k=>∀v,dJ Q n (k v)
 |n,.gen k=>∀v,dJ Q n (k v)
 |n,.node _ k=>∀q:Node,q.Fit 100000000001->dJ Q n (k q)
theorem fD{Q:Nat->α->Prop}{n:Nat}{r:Int}{k:Node->I α}(h:∀q:Node,q.Fit 100000000001->dJ Q n (k q)):dJ Q n (.node r k):=by cases n<;>exact h
theorem xL{Q:Nat->α->Prop}{n:Nat}{m:Node}{i:Int}{k:Int->I α}(h:∀v,dJ Q n (k v)):dJ Q n (.alloc m i k):=by cases n<;>exact h
theorem oQ{Q:Nat->α->Prop}{n:Nat}{b:α}(h:Q n b):dJ Q n (.ret b):=by cases n<;>exact h
theorem kN{Q:Nat->α->Prop}{n:Nat}{c:Int}{k:Int->I α}(h:∀m,m<n->∀v,dJ Q m (k v)):dJ Q n (.load c k):=by
 cases n with
 |zero=>trivial
 |succ n=>exact h n (Nat.lt_succ_self n)
theorem nN{Q:Nat->α->Prop}{n:Nat}{c o x:Int}{k:Bool->I α}(h:∀m,m<n->∀v,dJ Q m (k v)):dJ Q n (.eA c o x k):=by
 cases n with
 |zero=>trivial
 |succ n=>exact h n (Nat.lt_succ_self n)
theorem kD{Q:Nat->α->Prop}{n:Nat}{c:Bool}{a b:I α}(ha:c=true->dJ Q n a)(hb:c=false->dJ Q n b):dJ Q n (bif c then a else b):=by cases c with|true=>exact ha rfl|false=>exact hb rfl
theorem dJ.less{Q:Nat->α->Prop}(hQ:∀m n b,m<=n->Q n b->Q m b):∀{t:I α} {m n:Nat},m<=n->dJ Q n t->dJ Q m t
 |.ret b,m,n,hm,h=>oQ (hQ m n b hm (by cases n<;>exact h))
 |.load c k,m,n,hm,h=>kN λj hj v=>by
  obtain⟨n,rfl⟩:∃i,n=i+1:=⟨n-1,by omega⟩
  exact dJ.less hQ (by omega) (h v)
 |.eA c o x k,m,n,hm,h=>nN λj hj v=>by
  obtain⟨n,rfl⟩:∃i,n=i+1:=⟨n-1,by omega⟩
  exact dJ.less hQ (by omega) (h v)
 |.alloc x i k,m,n,hm,h=>xL λv=>dJ.less hQ hm ((by cases n<;>exact h:∀v,dJ Q n (k v)) v)
 |.cell i k,m,n,hm,h=>by
  have h':∀v,dJ Q n (k v):=by cases n<;>exact h
  have h2:∀v,dJ Q m (k v):=λv=>dJ.less hQ hm (h' v)
  cases m<;>exact h2
 |.gen k,m,n,hm,h=>by
  have h':∀v,dJ Q n (k v):=by cases n<;>exact h
  have h2:∀v,dJ Q m (k v):=λv=>dJ.less hQ hm (h' v)
  cases m<;>exact h2
 |.node r k,m,n,hm,h=>fD λq hq=>dJ.less hQ hm ((by cases n<;>exact h:∀q:Node,q.Fit 100000000001->dJ Q n (k q)) q hq)
theorem qD{Q:Nat->α->Prop}:∀{t:I α} {i j n:Nat} {s:St},RZ i t->Rm (j+i) s->dJ Q n t->dJ Q n (t.head s).2
 |.ret _,i,j,n,s,_,_,h=>h
 |.load _ _,i,j,n,s,_,_,h=>h
 |.eA _ _ _ _,i,j,n,s,_,_,h=>h
 |.alloc x v k,i,j,n,s,hf,hs,h=>by
  obtain⟨i,rfl⟩:∃m,i=m+1:=⟨i-1,by have:=hf.1;omega⟩
  exact qD (t:=k (s.alloc x v).2) (i:=i) (j:=j) (hf.2.2 _) (Rm.alloc (j:=j+i) hs (hf.2.1 _) v) ((by cases n<;>exact h:∀v,dJ Q n (k v)) _)
 |.node r k,i,j,n,s,hf,hs,h=>qD (t:=k (s.node r)) (j:=j) (hf _) hs ((by cases n<;>exact h:∀q:Node,q.Fit 100000000001->dJ Q n (k q)) _ ((hs.node r).mono (by have:=hs.zP;unfold St.size at this;omega)))
theorem nK:∀(t:I α) (n:Nat),dJ (λ_ _=>True) n t
 |.ret b,n=>oQ trivial
 |.load c k,n=>kN λm _ v=>nK (k v) m
 |.eA c o x k,n=>nN λm _ v=>nK (k v) m
 |.alloc x i k,n=>xL λv=>nK (k v) n
 |.cell i k,n=>by
  have h2:∀v,dJ (λ_ _=>True) n (k v):=λv=>nK (k v) n
  cases n<;>exact h2
 |.gen k,n=>by
  have h2:∀v,dJ (λ_ _=>True) n (k v):=λv=>nK (k v) n
  cases n<;>exact h2
 |.node r k,n=>fD λq _=>nK (k q) n
theorem If{Q:Nat->β->Prop}{i m p:Int}{k:Int->I β}{n:Nat}(hk:∀m,m<n->∀v,dJ Q m (k v)):dJ Q n (Dq i m p k):=fD λb _=>fD λa _=>nN λj hj _=>hk j hj _
theorem Fu{Q:Nat->β->Prop}{prev i m:Int}{k:Int->I β}{n:Nat}{c:Bool}(hk:∀m,m<n->∀v,dJ Q m (k v)):dJ Q n (kY prev i m k c):=
 kN λj hj p=>kD (λ_=>hk j hj _) λ_=>If λj' h' v=>hk j' (by omega) v
theorem Du{Q:Nat->β->Prop}{prev p:Int}{c:Bool}{k:Bool->I β}{n:Nat}(hk:∀m,m<n->∀v,dJ Q m (k v)):dJ Q n (mK prev p c k):=
 kD (λ_=>nN hk) λ_=>xL λf=>nN hk
theorem Lt{Q:Nat->β->Prop}{t:bC}{v s:Int}{k:Int->I β}{n:Nat}(hk:∀m,m<n->∀v,dJ Q m (k v)):dJ Q n (iD t v s k):=
 fD λd _=>kD (λ_=>nN λj hj _=>hk j hj _) λ_=>nN λj hj _=>hk j hj _
theorem Zv{Q:Nat->β->Prop}{t:bC}{k:Int->I β}{n:Nat}(hk:∀m,m<n->∀v,dJ Q m (k v)):dJ Q n (Zi t k):=
 kN λj hj v=>fD λd _=>kD (λ_=>hk j hj _) λ_=>kN λi hi s=>kD (λ_=>Lt λi' h v=>hk i' (by omega) v) λ_=>nN λi1 h1 _=>kN λi2 h2 s'=>Lt λi3 h3 v=>hk i3 (by omega) v
theorem Om{Q:Nat->β->Prop}{t:bC}{i m:Int}{k:Int->I β}{n:Nat}(hk:∀m,m<=n->∀v,dJ Q m (k v)):dJ Q n (qB t i m k):=
 fD λnd _=>kN λj hj p=>kD (λ_=>hk j (by omega) _) λ_=>fD λb _=>kD (λ_=>If λj' h' v=>hk j' (by omega) v) λ_=>
  kD (λ_=>Du λj1 h1 c=>Fu λj2 h2 v=>hk j2 (by omega) v) λ_=>Zv λj1 h1 r=>fD λa _=>fD λb _=>Du λj2 h2 c=>Fu λj3 h3 v=>hk j3 (by omega) v
theorem Jq{Q:Nat->β->Prop}{t:bC}{i:Int}{k:Int->I β}{n:Nat}(hk:∀m,m<n->∀v,dJ Q m (k v)):dJ Q n (mM t i k):=
 fD λnd _=>kN λj hj m=>Om λj' h' v=>hk j' (by omega) v
end Go.Ct
end
section
namespace Go.E
open Go.RowKit
theorem A5{P:Program}{n:Nat}{K:iG}{e:Tm}{ops:Array Oper}{S:World->Prop}{ls:List (Oper×Bool)}{d:Option Tmp}{ty:TypeId}{ps:String}{af:Array Edge}{w:World}{x:Operand}{v:Fv}{az:Array Operand}{ats:Array TypeId}{vs:List Value}(hx:ev n e x=some v.val)(ha:pU n e az.toList=some vs)
  (k:jK P v vs w λy w'=>∃u,y=.returned u/\S w'/\XS P n ops S ls K (Tm.put e d u) w'):XS P n ops S ((⟨d,.call ⟨.value x,az,ats⟩,ty,ps,af,none⟩,false)::ls) K e w:=by
 obtain⟨f,ff,fc,rfl,en,hc⟩:=k
 exact cs (w4 en hx ha) hc
end Go.E
end
section
namespace Go.Q9
open Go.Proofs.Tryz
open Go.E
theorem KV:KY prog 134=some ([.nilIface,.int .i64 0,↑false],[(0,1),(1,1),(2,1)]):=by kernel_rfl
theorem Wa:fo prog 134 1=some 1:=by kernel_rfl
theorem Xp:fo prog 134 2=some 2:=by kernel_rfl
theorem BM:fo prog 88 1=some 1:=by kernel_rfl
theorem TY:fo prog 88 2=some 2:=by kernel_rfl
theorem SF:fo prog 88 3=some 3:=by kernel_rfl
theorem Gi:tA prog 132=true:=by kernel_rfl
theorem wU:tA prog 38=true:=by kernel_rfl
theorem Yi:tA prog 93=true:=by kernel_rfl
theorem KB:prog.underlying 132=some (.pointer 134):=by kernel_rfl
theorem Xz:zc prog 150=some [.string .empty,.int .u64 0]:=by kernel_rfl
end Go.Q9
end
section
namespace Go.Q9
open Go.Proofs.Tryz
open Go.RowKit Go.E
attribute [local irreducible] gB wpS
variable{B w:World}{L:List As}{β γ:Type}
abbrev Jp(S:dN)(pb:Nat)(v:Int)(b:Bool):As:=bl pb [S.v,↑v,↑b] 134
def Qo(S:dN)(pb:Nat):As:=ex λz:Int×Bool=>Jp S pb z.1 z.2
theorem Qf{P:Program}{T U F:TypeId}{pb:Nat}{t:TypeId}{x:Value}{w:World}{f:Nat}{n:String}{r:FuncId×Value}
  (hm:((P.info? T).bind λi=>(i.methods.find? (·.name==n)).map λm=>(m.path.toList,m.func))=some ([⟨U,0,true⟩],none))
  (hu:((P.underlying U).bind λd=>match d with|.struct fs=>(fs[0]?).map λf=>(f.type,f.offset)|_=>none)=some (F,0))
  (h1:tA P F=true) (hz:(P.info? F).map (·.size)=some 1) (hc:w.cell? ⟨pb,0,none⟩=some (.iface t x)) (h:(method f t x n).run P w=.ok r w):
  (method (f+1) T ↑pb n).run P w=.ok r w:=by
 obtain⟨i,hi,hm⟩:=Option.bind_eq_some_iff.1 hm
 obtain⟨m,hf,hm⟩:=Option.map_eq_some_iff.1 hm
 obtain⟨d,hd,hu⟩:=Option.bind_eq_some_iff.1 hu
 obtain⟨j,hj,hz⟩:=Option.map_eq_some_iff.1 hz
 injection hm with hp hq
 have h2:=(IG (w:=w) h1).1
 cases d with
 |struct fs=>
  obtain⟨g,hg,hu⟩:=Option.map_eq_some_iff.1 hu
  injection hu with ht ho
  have hl:(loadVar F ⟨pb,0,none⟩).run P w=.ok (.iface t x) w:=by simp[loadVar,h2,load,Sem.run,hc]
  simp[method,typeInfo,hi,hf,hp,follow,run_underlying hd,hg,Place.get,asAddr,fieldPlace,ht,ho,sizeOf,hj,hz,hq,hl,h,Addr.add]
 |_=>cases hu
theorem RR{pb:Nat}{t:TypeId}{x:Value}{w:World}{f:Nat}{r:FuncId×Value}(hc:w.cell? ⟨pb,0,none⟩=some (.iface t x))(h:(method f t x "Node").run prog w=.ok r w):(method (f+1) 132 (QQ pb) "Node").run prog w=.ok r w:=
 Qf (U:=134) (F:=85) (by kernel_rfl) (by kernel_rfl) (by kernel_rfl) (by kernel_rfl) hc h
theorem JP{pb:Nat}{t:TypeId}{x:Value}{w:World}{f:Nat}{r:FuncId×Value}(hc:w.cell? ⟨pb,0,none⟩=some (.iface t x))(h:(method f t x "Alloc").run prog w=.ok r w):(method (f+1) 132 (QQ pb) "Alloc").run prog w=.ok r w:=
 Qf (U:=134) (F:=85) (by kernel_rfl) (by kernel_rfl) (by kernel_rfl) (by kernel_rfl) hc h
theorem Zt{pb:Nat}{t:TypeId}{x:Value}{w:World}{f:Nat}{r:FuncId×Value}(hc:w.cell? ⟨pb,0,none⟩=some (.iface t x))(h:(method f t x "NewCell").run prog w=.ok r w):(method (f+1) 132 (QQ pb) "NewCell").run prog w=.ok r w:=
 Qf (U:=134) (F:=85) (by kernel_rfl) (by kernel_rfl) (by kernel_rfl) (by kernel_rfl) hc h
theorem FZ{pb:Nat}{t:TypeId}{x:Value}{w:World}{f:Nat}{r:FuncId×Value}(hc:w.cell? ⟨pb,0,none⟩=some (.iface t x))(h:(method f t x "NewGen").run prog w=.ok r w):(method (f+1) 132 (QQ pb) "NewGen").run prog w=.ok r w:=
 Qf (U:=134) (F:=85) (by kernel_rfl) (by kernel_rfl) (by kernel_rfl) (by kernel_rfl) hc h
theorem UR(a:Addr)(w:World):(method 349 132 (.pointer (some a)) "Load").run prog w=.ok (228,.pointer (some a)) w:=by kernel_rfl
theorem WU(a:Addr)(w:World):(method 349 132 (.pointer (some a)) "CAS").run prog w=.ok (227,.pointer (some a)) w:=by kernel_rfl
theorem RV(S:dN)(pb:Nat){w:World}{O R:Nat->Prop}(hp:(se [Qo S pb,se S.X]).p w O R):JO (S.d+1) 132 (QQ pb) S.ab w:=by
 obtain⟨Os,Rs,h1,_⟩:=hp
 obtain⟨z,hz⟩:=h1 0 _ rfl
 have hm:=S.A9 (h1 1 _ rfl)
 have hc:w.cell? ⟨pb,0,none⟩=some (.iface S.t S.x):=by
  have:=dK hz.1 0 (.iface S.t S.x) rfl
  simpa using this
 refine⟨λf hf=>?_,λf hf=>?_,λf hf=>?_,λf hf=>?_⟩<;>(obtain⟨f,rfl⟩:∃g,f=g+1:=⟨f-1,by omega⟩)
 ·exact RR hc (hm.node f (by omega))
 ·exact JP hc (hm.alloc f (by omega))
 ·exact Zt hc (hm.cell f (by omega))
 ·exact FZ hc (hm.gen f (by omega))
def nA(S:dN)(pb:Nat)(h:S.d+1<=349):dN:=⟨132,QQ pb,S.ab,[Qo S pb,se S.X],S.d+1,h,RV S pb⟩
def Yc(S:dN)(pb:Nat)(v:Int)(b:Bool)(s:Ct.St):As:=se [wW S.ab s,se [Jp S pb v b,se S.X]]
theorem Mz{S:dN}{pb:Nat}{v:Int}{b:Bool}{s:Ct.St}(h:SH B w (Jp S pb v b::S.a s::L)):SH B w (Yc S pb v b s::L):=by
 have h:=(SH.so (h.fr (.c r1 .n))).fr (.c r2 (.c r1 .n))
 have h:=SH.is (l:=[Jp S pb v b,se S.X]) (L:=wW S.ab s::L) h
 exact SH.is (l:=[_,_]) (h.fr (.c r1 (.c r0 .n)))
theorem AJ{S:dN}{pb:Nat}{v:Int}{b:Bool}{s:Ct.St}(h:SH B w (Yc S pb v b s::L)):SH B w (Jp S pb v b::S.a s::L):=by
 have h:=(SH.se (l:=[_,_]) h).fr (.c r1 .n)
 have h:=(SH.se (l:=[Jp S pb v b,se S.X]) h).fr (.c r2 (.c r1 .n))
 exact(SH.si h).fr (.c r1 .n)
theorem Mi{S:dN}{pb:Nat}{hd:S.d+1<=349}{v:Int}{b:Bool}{s:Ct.St}(h:SH B w (Yc S pb v b s::L)):SH B w ((nA S pb hd).a s::L):=by
 have h:=(SH.se (l:=[_,_]) h).fr (.c r1 .n)
 have h:=SH.se (l:=[Jp S pb v b,se S.X]) h
 have h:=SH.dU (f:=λz:Int×Bool=>Jp S pb z.1 z.2) (v,b) h
 have h:=SH.is (l:=[Qo S pb,se S.X]) (L:=wW S.ab s::L) h
 exact SH.is (l:=[_,_]) (h.fr (.c r1 (.c r0 .n)))
theorem Oq{S:dN}{pb:Nat}{hd:S.d+1<=349}{s:Ct.St}(h:SH B w ((nA S pb hd).a s::L)):∃v b,SH B w (Jp S pb v b::S.a s::L):=by
 have h:=(SH.se (l:=[_,_]) h).fr (.c r1 .n)
 have h:=SH.se (l:=[Qo S pb,se S.X]) h
 obtain⟨z,h⟩:=SH.ex (f:=λz:Int×Bool=>Jp S pb z.1 z.2) h
 exact⟨z.1,z.2,(SH.si (h.fr (.c r2 (.c r1 .n)))).fr (.c r1 .n)⟩
theorem Ur(S:dN)(pb:Nat)(v:Int)(b:Bool)(c:Int)(h:SH B w (bl pb ([S.v,↑v,↑b]) 134::L)):
  Calls prog 228 #[↑pb,↑c] w λe w'=>e=.returned ↑v/\SH B w' (bl pb ([S.v,↑v,↑b]) 134::L):=by
 refine Ea (args:=[_,_]) func228 rfl ntmps228 rfl ?_
 refine sq<|rg<|st (sg rfl)<|xe<|nx<|sq<|rg<|st (mv rfl)<|st (nc rfl rfl)<|st (fa Wa rfl)<|st (ld gI rfl (h.c a0 rfl))<|st (sg rfl)<|xe<|nx<|rt<|?_
 refine rr (jP results228 rfl)<|⟨rfl,h⟩
theorem Yw(S:dN)(pb:Nat)(v:Int)(b:Bool)(c o x:Int)(h:SH B w (bl pb ([S.v,↑v,↑b]) 134::L)):
  Calls prog 227 #[↑pb,↑c,↑o,↑x] w λe w'=>e=.returned ↑b/\SH B w' (bl pb ([S.v,↑v,↑b]) 134::L):=by
 refine Ea (args:=[_,_,_,_]) func227 rfl ntmps227 rfl ?_
 refine sq<|rg<|st (sg rfl)<|xe<|nx<|sq<|rg<|st (mv rfl)<|st (nc rfl rfl)<|st (fa Xp rfl)<|st (ld xN rfl (h.c a0 rfl))<|st (sg rfl)<|xe<|nx<|rt<|?_
 refine rr (jP results227 rfl)<|⟨rfl,h⟩
theorem JI(S:dN)(pb:Nat)(hd:S.d+1≤349)(v:Int)(b:Bool)(c:Int)(s:Ct.St):ZS (nA S pb hd) "Load" [↑c] (.int .i64 v) (Yc S pb v b s) ((nA S pb hd).a s):=
 ⟨_,QQ pb,λw=>UR _ w,eF,λB w L h=>(Ur S pb v b c (AJ h)).mono λe w' h=>⟨h.1,Mi (Mz h.2)⟩⟩
theorem RL(S:dN)(pb:Nat)(hd:S.d+1≤349)(v:Int)(b:Bool)(c o x:Int)(s:Ct.St):ZS (nA S pb hd) "CAS" [↑c,↑o,↑x] (.bool b) (Yc S pb v b s) ((nA S pb hd).a s):=
 ⟨_,QQ pb,λw=>WU _ w,eF,λB w L h=>(Yw S pb v b c o x (AJ h)).mono λe w' h=>⟨h.1,Mi (Mz h.2)⟩⟩
theorem DP{ρ:β->Ct.Result}{M:β->As}(S:dN)(pb:Nat)(hd:S.d+1<=349)(v:Int)(b:Bool)(n tb k:Nat)(a:Int)(f:Int->Ct.I β)(s:Ct.St)(h:SH B w (eQ (nA S pb hd) (tM ρ M) (n+1) tb (.load a f) k::Jp S pb v b::S.a s::L))(hs:Ct.Rm 100 s)(hk:k<=9000000000000000000):
  Calls prog 40 #[↑tb] w λe w'=>∃s' u' v' b',(f v).head s=(s',u')/\e=.returned (.tuple #[])/\SH B w' (eQ (nA S pb hd) (tM ρ M) n tb u' (k+1)::Jp S pb v' b'::S.a s'::L):=by
 refine(CF (nA S pb hd) (Yc S pb v b s) n tb k a v f s s (λh=>Mi h) (JI S pb hd v b a s) ((Mz (h.fr (.c r1 (.c r1 .n)))).fr (.c r1 .n)) hs hs hk).mono ?_
 rintro e w' ⟨s',u',hq,rfl,h⟩
 obtain⟨v',b',h⟩:=Oq (h.fr (.c r1 .n))
 exact⟨s',u',v',b',hq,rfl,h.fr (.c r2 .n)⟩
theorem LB{ρ:β->Ct.Result}{M:β->As}(S:dN)(pb:Nat)(hd:S.d+1<=349)(v:Int)(b:Bool)(n tb k:Nat)(a o x:Int)(f:Bool->Ct.I β)(s:Ct.St)(h:SH B w (eQ (nA S pb hd) (tM ρ M) (n+1) tb (.eA a o x f) k::Jp S pb v b::S.a s::L))(hs:Ct.Rm 100 s)(hk:k<=9000000000000000000):
  Calls prog 40 #[↑tb] w λe w'=>∃s' u' v' b',(f b).head s=(s',u')/\e=.returned (.tuple #[])/\SH B w' (eQ (nA S pb hd) (tM ρ M) n tb u' (k+1)::Jp S pb v' b'::S.a s'::L):=by
 refine(KG (nA S pb hd) (Yc S pb v b s) n tb k a o x b f s s (λh=>Mi h) (RL S pb hd v b a o x s) ((Mz (h.fr (.c r1 (.c r1 .n)))).fr (.c r1 .n)) hs hs hk).mono ?_
 rintro e w' ⟨s',u',hq,rfl,h⟩
 obtain⟨v',b',h⟩:=Oq (h.fr (.c r1 .n))
 exact⟨s',u',v',b',hq,rfl,h.fr (.c r2 .n)⟩
def Vz{α:Type}(S:dN)(F:γ->Cc->As)(n j:Nat)(args:α->List Value)(M:α->As)(Q:Nat->α->Prop)(k:α->Ct.I γ)(v:Fv):As:=
 gM λw O R=>∀m,m<n->∀(B:World) (L:List As) (s:Ct.St) (a:α),Q m a->SH B w (WM w O R::M a::S.a s::L)->Ct.Rm j s->jK prog v (args a) w (CP S F m B (k a) s L)
theorem ZG{α:Type}{S:dN}{F:γ->Cc->As}{n j m:Nat}{args:α->List Value}{M:α->As}{Q:Nat->α->Prop}{k:α->Ct.I γ}{v:Fv}{s:Ct.St}(a:α)(hm:m<n)(ha:Q m a)(h:SH B w (Vz S F n j args M Q k v::M a::S.a s::L))(hs:Ct.Rm j s):jK prog v (args a) w (CP S F m B (k a) s L):=by
 obtain⟨O,R,hq,h⟩:=h.ZQ
 exact hq m hm B L s a ha h hs
theorem d9{α:Type}{S:dN}{F:γ->Cc->As}{n j:Nat}{args:α->List Value}{M:α->As}{Q:Nat->α->Prop}{k:α->Ct.I γ}{v:Fv}(l:List As)(h:SH B w (l++L))
  (hc:∀m,m<n->∀(B w:World) (L:List As) (s:Ct.St) (a:α),Q m a->SH B w (l++M a::S.a s::L)->Ct.Rm j s->jK prog v (args a) w (CP S F m B (k a) s L)):SH B w (Vz S F n j args M Q k v::L):=
 (SH.is h).box λw' O R hA m hm B L s a ha h' hs=>hc m hm B w' L s a ha (SH.se (h'.l6 hA)) hs
theorem Pn{α:Type}{S:dN}{F:γ->Cc->As}{m n j:Nat}{args:α->List Value}{M:α->As}{Q:Nat->α->Prop}{k:α->Ct.I γ}{v:Fv}(hm:m<=n)(h:SH B w (Vz S F n j args M Q k v::L)):SH B w (Vz S F m j args M Q k v::L):=h.imp λO R hA=>
 ⟨hA.1,hA.2.1,λw' hs hk i hi=>hA.2.2 w' hs hk i (DM hi hm)⟩
theorem WJ{α:Type}{S:dN}{F:γ->Cc->As}{n j pb:Nat}{args:α->List Value}{M:α->As}{X:As}{Q:Nat->α->Prop}{k:α->Ct.I γ}{v:Fv}(h:SH B w (Vz S F n j args (λb=>se [M b,X]) Q k v::L)):SH B w (Vz S F n j args (λb=>se [M b,X,Qo S pb]) Q k v::L):=h.imp λO R hA=>
 ⟨hA.1,hA.2.1,λw' hs hk m hm B L s a ha h' hr=>hA.2.2 w' hs hk m hm B L s a ha (by
  have h2:=((SH.se (l:=[M a,X,Qo S pb]) (h'.fr (.c r1 .n))).fr (.c r2 .n)).drop
  exact(SH.is (l:=[M a,X]) h2).fr (.c r1 .n)) hr⟩
def Ek{β:Type}(ρ:β->Ct.Result)(b:β):List Value:=[.agg (Mf (ρ b)).toArray]
def Xs{β:Type}(_:β):As:=se []
end Go.Q9
end
