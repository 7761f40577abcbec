/- Parts of a proof: Ayg, Pt, Ayh, Cw, Lp. -/
import Derived.Test.YtlpbjpanggcbbaaGreatW29
set_option linter.unusedVariables false
set_option linter.unusedSimpArgs false
set_option maxRecDepth 100000
set_option maxHeartbeats 4000000
section
namespace Go.Q9
open Go.Proofs.Tryz
open Go.E
theorem z5:fo prog 145 1=some 1:=by kernel_rfl
theorem IU:fo prog 145 2=some 15:=by kernel_rfl
theorem KF:fo prog 145 3=some 16:=by kernel_rfl
end Go.Q9
end
section
namespace Go.Q9
open Go.Proofs.Tryz
open Go.RowKit Go.E
attribute [local irreducible] gB wpS Go.E.X XS C jU kP fin Y U F Ca jT bl rb aU bV ex ce pu sK gK bK zK gM fO dH gP nE rD
variable{B w:World}{L:List As}
theorem Aa(S:dN)(tb:Nat)(c:Cc)(k:Nat)(b:Bool)(h:SH B w (bl tb (oI S c k b) 145::L)):
  Calls prog 80 #[↑tb] w λe w'=>e=.returned (.bool (c.kind==0))/\SH B w' (bl tb (oI S c k b) 145::L):=by
 refine bZ func80 ntmps80 h λw h=>?_
 exact rz ⟨rfl,h⟩
theorem PN(S:dN)(tb:Nat)(c:Cc)(k:Nat)(b:Bool)(h:SH B w (bl tb (oI S c k b) 145::L)):
  Calls prog 82 #[↑tb] w λe w'=>e=.returned ↑(k:Int)/\SH B w' (bl tb (oI S c k b) 145::L):=by
 refine bZ func82 ntmps82 h λw h=>?_
 exact rz ⟨rfl,h⟩
theorem KA(S:dN)(tb:Nat)(c:Cc)(k:Nat)(b:Bool)(h:SH B w (bl tb (oI S c k b) 145::L)):
  Calls prog 34 #[↑tb] w λe w'=>e=.returned (.agg (Mf (if(c.kind==0)=true then c.r else{})).toArray)/\SH B w' (bl tb (oI S c k b) 145::L):=by
 refine bZ func34 ntmps34 h λw h=>?_
 refine jA h λb1 w h=>?_
 refine bA (Aa S _ c _ _ h.to) λw h=>?_
 refine qc h (λhd2 w h=>?_) λhd2 w h=>?_
 have hd3:((c.kind:Int)==0)=false:=(xE _).mp hd2
 have hg4:=eC hd3
 refine go h λw h=>?_
 refine rr (bP rfl rfl (h.b a1) Row.h) ?_
 refine⟨?_,h.to⟩
 rw[hd3];rfl
 have hd5:((c.kind:Int)==0)=true:=(cW _).mp hd2
 have hg6:=eq_of_beq hd5
 refine go h λw h=>?_
 refine st (gJ (cs:=[↑c.r.err,↑c.r.found,.int .u64 (c.r.value:Int),↑c.r.key,↑c.r.count,↑c.r.ref,↑c.r.aE.root,↑c.r.aE.readOnly]) rfl (eP (h.b a0) 7 rfl) Row.h)<|go h λw h=>?_
 refine rr (bP rfl rfl (h.b a1) Row.h) ?_
 refine⟨?_,h.to⟩
 rw[hd5];rfl
theorem RT(S:dN)(tb:Nat)(c:Cc)(k:Nat)(b:Bool)(h:SH B w (bl tb (oI S c k b) 145::L)):
  Calls prog 84 #[↑tb] w λe w'=>e=.returned (.tuple #[.agg (Dh (if(c.kind==0)=true then{}else⟨c.kind,c.cell,c.dC,c.new⟩)).toArray,.bool (!(c.kind==0))])/\SH B w' (bl tb (oI S c k b) 145::L):=by
 refine bZ func84 ntmps84 h λw h=>?_
 refine jA h λb1 w h=>?_
 refine bA (Aa S _ c _ _ h.to) λw h=>?_
 refine qc h (λhd2 w h=>?_) λhd2 w h=>?_
 have hg3:=eq_of_beq hd2
 refine go h λw h=>?_
 refine rr (cL rfl rfl (h.b a1) Row.h rfl) ?_
 refine⟨?_,h.to⟩
 rw[hd2];rfl
 have hg4:=eC hd2
 refine go h λw h=>?_
 refine st (gJ (cs:=[↑c.kind,↑c.cell,↑c.dC,↑c.new]) rfl (eP (h.b a0) 1 rfl) Row.h)<|go h λw h=>?_
 refine rr (cL rfl rfl (h.b a1) Row.h rfl) ?_
 refine⟨?_,h.to⟩
 rw[hd2];rfl
theorem RJ(S:dN)(hM:∀w,Rl S.t S.x S.ab w)(n tb:Nat)(u:Ct.I Ct.Result)(c:Cc)(k:Nat)(s:Ct.St)(h:SH B w (bl tb (oI S c k false) 145::nE S dW (n+1) u c::S.a s::L))(hs:Ct.Rm 101 s)(hu:u.ended=none)(hd:(c.kind==0)=false)(hk:k<=9000000000000000000):
  Calls prog 40 #[↑tb] w λe w'=>∃s' u' c',u.step s=(s',u')/\e=.returned (.tuple #[])/\SH B w' (bl tb (oI S c' (k+1) false) 145::nE S dW n u' c'::S.a s'::L):=by
 refine bZ func40 ntmps40 h λw h=>?_
 refine cl (ca eF rfl) ((Aa S tb c k false (h.fr (.c r0 .n))).mono ?_)
 rintro _ w ⟨rfl,h⟩
 refine⟨_,rfl,?_⟩
 refine st (mv rfl)<|gT rfl rfl hd<|st (mv rfl)<|gT rfl rfl hd<|st (nc rfl rfl)<|gT rfl rfl hd<|st (fa KF rfl)<|gT rfl rfl hd<|st (ld xN rfl (h.c a0 rfl))<|st (pF rfl hd rfl)<|xe<|nx<|cF rfl<|sk<|nx<|sq<|rg<|st (mv rfl)<|st (nc rfl rfl)<|st (fa KF rfl)<|?_
 refine sf (so h rfl rfl rfl AU rfl (.s (.s (.s (.s (.s (.s (.s (.s (.s (.s (.s (.s (.s (.s (.s (.s (.r .d))))))))))))))))) u0)<|?_
 rintro _ w h
 refine xe<|nx<|sq<|rg<|st (mv rfl)<|st (nc rfl rfl)<|st (fa IU rfl)<|st (ld jE rfl (h.c a0 rfl))<|st (bw rfl rfl (gN (c:=((k+1:Nat):Int)) (by omega) (by omega) (by omega)))<|st (nc rfl rfl)<|st (fa IU rfl)<|?_
 refine sf (so h rfl rfl rfl Bf rfl (.s (.s (.s (.s (.s (.s (.s (.s (.s (.s (.s (.s (.s (.s (.s (.r .d)))))))))))))))) u0)<|?_
 rintro _ w h
 refine xe<|nx<|sq<|?_
 refine Uc (F:=[bl tb ([S.v,↑c.kind,↑c.cell,↑c.dC,↑c.new,c.ld.val,c.tr.val,↑c.r.err,↑c.r.found,.int .u64 (c.r.value:Int),↑c.r.key,↑c.r.count,↑c.r.ref,↑c.r.aE.root,↑c.r.aE.readOnly,.int .i64 ((k+1:Nat):Int),↑true]) 145]) [(true,[1,3,5,7,9,11,13,15,17,18,21,23]),(false,[24])] (by kernel_rfl) h (λw h=>(hC (h.at_ a0) hN)) λw h=>go h λw h=>?_
 refine tk (λW H=>gJ (cs:=[↑c.kind,↑c.cell,↑c.dC,↑c.new,c.ld.val,c.tr.val,↑c.r.err,↑c.r.found,.int .u64 (c.r.value:Int),↑c.r.key,↑c.r.count,↑c.r.ref,↑c.r.aE.root,↑c.r.aE.readOnly]) rfl (eP (H.b a0) 1 rfl) Row.h)<|go h λw h=>?_
 refine Zs (Tf S hM _ u c _ h.to hs hu) λs1 uz2 c3 hq4 w h=>?_
 refine rn (rK results40)<|go h λw h=>?_
 refine⟨s1,uz2,c3,hq4,rfl,h.to⟩
theorem Ht(S:dN)(n:Nat)(th:Fv)(k:Unit->Ct.I Ct.Result)(s:Ct.St)(h:SH B w (gP S dW n 60 qI k th::S.a s::L))(hs:Ct.Rm 60 s):
  Calls prog 42 #[S.v,th.val] w λe w'=>∃tb s' u,(k ()).head s=(s',u)/\e=.returned (.pointer (some ⟨tb,0,none⟩))/\SH B w' (eN S n tb u 0::S.a s'::L):=by
 refine bZ func42 ntmps42 h λw h=>?_
 refine jX h λb1 w h=>?_
 refine cl (ca eF rfl) ((Lz S dW n th k s (h.fr (.c r1 (.c r1 .n))) hs).mono ?_)
 rintro _ w ⟨s2,uz3,c4,hq5,rfl,h⟩
 refine⟨_,rfl,?_⟩
 refine st (nc rfl rfl)<|st (fa z5 rfl)<|?_
 refine sf (so h rfl rfl rfl fD (eO _) (.s (.r (.r (.r (.r (.r (.r (.r (.r (.r (.r (.r (.r (.r (.r .d))))))))))))))) u2)<|?_
 rintro _ w h
 refine xe<|nx<|sq<|rg<|st (mv rfl)<|st (sg rfl)<|xe<|nx<|rt<|?_
 refine go h λw h=>?_
 refine rz ?_
 have h:=(h.fr (.c r2 (.c r0 (.c r0 .n))))
 exact⟨b1,s2,uz3,hq5,rfl,SH.dU c4 (SH.is (l:=[bl b1 (oI S c4 0 false) 145,nE S dW n uz3 c4]) h)⟩
theorem SH.to{S:dN}{n tb k:Nat}{u:Ct.I Ct.Result}(h:SH B w (eN S n tb u k::L)):∃c,SH B w (bl tb (oI S c k false) 145::nE S dW n u c::L):=by
 obtain⟨c,h⟩:=SH.ex (f:=λc:Cc=>Go.E.se [bl tb (oI S c k false) 145,nE S dW n u c]) h
 exact⟨c,SH.se h⟩
theorem SH.ti{S:dN}{n tb k:Nat}{u:Ct.I Ct.Result}{c:Cc}(h:SH B w (bl tb (oI S c k false) 145::nE S dW n u c::L)):SH B w (eN S n tb u k::L):=
 SH.dU (f:=λc:Cc=>Go.E.se [bl tb (oI S c k false) 145,nE S dW n u c]) c (SH.is (l:=[_,_]) h)
theorem BX(S:dN)(n tb k:Nat)(u:Ct.I Ct.Result)(h:SH B w (eN S n tb u k::L)):
  Calls prog 80 #[↑tb] w λe w'=>e=.returned ↑u.ended.isSome/\SH B w' (eN S n tb u k::L):=by
 obtain⟨c,h⟩:=SH.to h
 have hc:=uD (h.fr (.c r1 .n))
 refine(Aa S tb c k false h).mono ?_
 rintro e w' ⟨rfl,h⟩
 exact⟨by rw[hc.1],SH.ti h⟩
theorem Hh(S:dN)(n tb k:Nat)(u:Ct.I Ct.Result)(h:SH B w (eN S n tb u k::L)):
  Calls prog 82 #[↑tb] w λe w'=>e=.returned ↑(k:Int)/\SH B w' (eN S n tb u k::L):=by
 obtain⟨c,h⟩:=SH.to h
 refine(PN S tb c k false h).mono ?_
 rintro e w' ⟨rfl,h⟩
 exact⟨rfl,SH.ti h⟩
theorem Ew(S:dN)(n tb k:Nat)(u:Ct.I Ct.Result)(h:SH B w (eN S n tb u k::L)):
  Calls prog 34 #[↑tb] w λe w'=>e=.returned (.agg (Mf (u.ended.getD {})).toArray)/\SH B w' (eN S n tb u k::L):=by
 obtain⟨c,h⟩:=SH.to h
 have hc:=uD (h.fr (.c r1 .n))
 refine(KA S tb c k false h).mono ?_
 rintro e w' ⟨rfl,h⟩
 refine⟨?_,SH.ti h⟩
 cases he:u.ended with
 |none=>rw[hc.1,he];rfl
 |some r=>rw[hc.1,he,hc.2.2.2.2.2 r he];rfl
theorem GF{u:Ct.I Ct.Result}(h:u.ended.isSome=true):u.acc={}:=by cases u<;>first|rfl|cases h
theorem IK(S:dN)(n tb k:Nat)(u:Ct.I Ct.Result)(h:SH B w (eN S n tb u k::L)):
  Calls prog 84 #[↑tb] w λe w'=>e=.returned (.tuple #[.agg (Dh u.acc).toArray,.bool (!u.ended.isSome)])/\SH B w' (eN S n tb u k::L):=by
 obtain⟨c,h⟩:=SH.to h
 have hc:=uD (h.fr (.c r1 .n))
 refine(RT S tb c k false h).mono ?_
 rintro e w' ⟨rfl,h⟩
 refine⟨?_,SH.ti h⟩
 rw[hc.1,hc.2.1,hc.2.2.1,hc.2.2.2.1,hc.2.2.2.2.1]
 cases he:u.ended.isSome with
 |false=>rfl
 |true=>rw[GF he];rfl
theorem Om(S:dN)(hM:∀w,Rl S.t S.x S.ab w)(n tb k:Nat)(u:Ct.I Ct.Result)(s:Ct.St)(h:SH B w (eN S (n+1) tb u k::S.a s::L))(hs:Ct.Rm 101 s)(hu:u.ended=none)(hk:k<=9000000000000000000):
  Calls prog 40 #[↑tb] w λe w'=>e=.returned (.tuple #[])/\SH B w' (eN S n tb (u.step s).2 (k+1)::S.a (u.step s).1::L):=by
 obtain⟨c,h⟩:=SH.to h
 have hc:=uD (h.fr (.c r1 .n))
 refine(RJ S hM n tb u c k s h hs hu (by rw[hc.1,hu];rfl) hk).mono ?_
 rintro e w' ⟨s',u',c',hq,rfl,h⟩
 rw[hq]
 exact⟨rfl,SH.ti h⟩
section
attribute [local semireducible] nE gP rD dH
variable{B w:World}{L:List As}
theorem SH.n0{S:dN}{m n tb k:Nat}{u:Ct.I Ct.Result}(hmn:m<=n)(h:SH B w (eN S n tb u k::L)):SH B w (eN S m tb u k::L):=by
 obtain⟨c,h⟩:=SH.to h
 have h:=(h.fr (.c r1 .n)).imp λO R=>yG hmn u c _ O R
 exact SH.ti (h.fr (.c r1 .n))
end
end Go.Q9
end
section
namespace Go.Q9
open Go.Proofs.Tryz
open Go.E
end Go.Q9
end
section
namespace Go.Q9
open Go.Proofs.Tryz
open Go.RowKit Go.E
attribute [local irreducible] gB wpS Go.E.X XS C jU kP fin Y U F Ca jT bl rb aU bV ex ce pu sK gK bK zK gM fO dH gP nE rD
open Go.Ct (qN qA qC qG qT qF)
variable{B w:World}{L:List As}
theorem Dj(S:dN)(s:Ct.St)(m0:Int)(h:SH B w (S.a s::L))(hs:Ct.Rm 2 s):
  Calls prog 115 #[S.v,↑m0] w λe w'=>e=.returned (.int .i64 (s.bS.1.alloc {kind:=2,gen:=s.bS.2} m0).2)/\SH B w' (S.a (s.bS.1.alloc {kind:=2,gen:=s.bS.2} m0).1::L):=by
 refine bZ func115 ntmps115 h λw h=>?_
 refine cl (ci (S.sG h a0) rfl rfl) ((Um S s h.to hs).mono ?_)
 rintro _ w ⟨rfl,h⟩
 have hs:=hs.gen
 refine⟨_,rfl,?_⟩
 refine go h λw h=>?_
 refine dZ [1,3,7,9,11,13,4,14,16] (by kernel_rfl) h .n λw h=>go h λw h=>?_
 refine tk (λW H=>T8 rfl (S.na _))<|go h λw h=>?_
 refine gO (nA _ h.to) λw h=>?_
 refine cs (ci (S.sA h a0) rfl rfl) ((cQ S s.bS.1 ({kind:=2,gen:=s.bS.2}:Ct.Node) {} m0 (SH.eE ({kind:=2,gen:=s.bS.2}:Ct.Node) rfl rfl h.to) hs (Ct.bG _ 2 s.bS.2 0 0 0)).mono ?_)
 rintro _ w ⟨rfl,h⟩
 have hs:=hs.alloc (Ct.bG _ 2 s.bS.2 0 0 0) m0
 refine⟨_,rfl,h.hs .n,?_⟩
 refine go h λw h=>?_
 exact rz ⟨rfl,h⟩
theorem Gf(S:dN)(m0:Int)(n:Nat)(s:Ct.St)(h:SH B w (S.a s::L))(hs:Ct.Rm 30 s):
  Calls prog 71 #[S.v,↑m0] w λe w'=>CP S dW n B (Ct.Bt m0) s L e w':=by
 refine bZ func71 ntmps71 h λw h=>?_
 refine jA h λb1 w h=>?_
 refine cl (ca eF rfl) ((Dj S s m0 (h.fr (.c r1 .n)) (hs.less (by decide))).mono ?_)
 rintro _ w ⟨rfl,h⟩
 have hs:=hs.gen.alloc (Ct.bG _ 2 s.bS.2 0 0 0) m0
 refine⟨_,rfl,?_⟩
 refine st (sg rfl)<|xe<|nx<|sq<|rg<|st (mv rfl)<|st (mv rfl)<|?_
 refine cl (ci (S.sC h a0) rfl rfl) ((vI S (s.bS.1.alloc {kind:=2,gen:=s.bS.2} m0).1 (s.bS.1.alloc {kind:=2,gen:=s.bS.2} m0).2 h.to hs).mono ?_)
 rintro _ w ⟨rfl,h⟩
 have hs:=hs.cell (s.bS.1.alloc {kind:=2,gen:=s.bS.2} m0).2
 refine⟨_,rfl,?_⟩
 refine go h λw h=>?_
 refine cl (ca eF rfl) ((gV ({found:=true,aE:={root:=((s.bS.1.alloc {kind:=2,gen:=s.bS.2} m0).1.aV (s.bS.1.alloc {kind:=2,gen:=s.bS.2} m0).2).2}}:Ct.Result) (h.fr .n)).mono ?_)
 rintro _ w ⟨rfl,h⟩
 refine⟨_,rfl,?_⟩
 refine sf (so h rfl rfl rfl fD (eO _) (.r (.r (.r (.r (.r (.r (.r (.r (.r (.r (.r (.r (.r (.r .d)))))))))))))) u1)<|?_
 rintro _ w h
 refine xe<|nx<|rt<|?_
 refine rc h ?_
 have h:=kD (S:=S) (n:=n) (r:=({found:=true,aE:={root:=((s.bS.1.alloc {kind:=2,gen:=s.bS.2} m0).1.aV (s.bS.1.alloc {kind:=2,gen:=s.bS.2} m0).2).2}}:Ct.Result)) h
 exact fI (qG (qA (qC rfl))) h.to
theorem Gl(S:dN)(r:Int)(n:Nat)(s:Ct.St)(h:SH B w (S.a s::L))(hs:Ct.Rm 30 s):
  Calls prog 76 #[S.v,↑r] w λe w'=>CP S dW n B (Ct.Gd r) s L e w':=by
 refine bZ func76 ntmps76 h λw h=>?_
 refine jA h λb1 w h=>?_
 refine cl (ci (S.sC h a1) rfl rfl) ((vI S s r h.to hs).mono ?_)
 rintro _ w ⟨rfl,h⟩
 have hs:=hs.cell r
 refine⟨_,rfl,?_⟩
 refine go h λw h=>?_
 refine cl (ca eF rfl) ((gV ({found:=true,aE:={root:=(s.aV r).2,readOnly:=true}}:Ct.Result) (h.fr .n)).mono ?_)
 rintro _ w ⟨rfl,h⟩
 refine⟨_,rfl,?_⟩
 refine sf (so h rfl rfl rfl fD (eO _) (.r (.r (.r (.r (.r (.r (.r (.r (.r (.r (.r (.r (.r (.r .d)))))))))))))) u1)<|?_
 rintro _ w h
 refine xe<|nx<|rt<|?_
 refine go h λw h=>?_
 refine rr (bP rfl rfl (h.b a1) Row.h) ?_
 have h:=kD (S:=S) (n:=n) (r:=({found:=true,aE:={root:=(s.aV r).2,readOnly:=true}}:Ct.Result)) h
 exact fI (qC rfl) h.to
def rP(S:dN)(N n:Nat):Prop:=∀(t:Ct.bC) (th:Fv) (k:Int×Int->Ct.I Ct.Result) (B w:World) (L:List As) (s:Ct.St),SH B w (rD S dW n 60 Cz k th::S.a s::L)->Ct.Rm 30 s->
 Calls prog 72 #[.agg [S.v,↑t.root,↑t.readOnly].toArray,th.val] w λe w'=>CP S dW n B (Ct.Gb t (λa b=>k (a,b)) N) s L e w'
theorem LQ(S:dN)(N n:Nat)(hrec:∀j,j<=n->rP S N j)(cb0 cb1 cb2 cb3:Nat)(t:Ct.bC)(thk:Fv)(k:Int×Int->Ct.I Ct.Result)(r:Int)(m0:Int){m:Nat}(hm:m<=n)(ok:Bool)(s:Ct.St)(h:SH B w (rb cb0 ([S.v,↑t.root,↑t.readOnly]) 99::rb cb1 [thk.val] 143::rb cb2 ([↑r]) 39::rb cb3 ([↑m0]) 39::gP S dW n 60 Cz k thk::S.a s::L))(hs:Ct.Rm 60 s):
  Calls prog 119 #[↑ok,↑cb0,↑cb1,↑cb2,↑cb3] w λe w'=>CP S dW m B ((λok_b=>bif !ok_b then Ct.Gb t (λa b=>k (a,b)) N else k (r,m0)) ok) s L e w':=by
 have h:=eR hm (JV _) (h.fr (.c r4 .n))
 refine bZ func119 ntmps119 h λw h=>?_
 refine jA h λb1 w h=>?_
 refine qc h (λhd2 w h=>?_) λhd2 w h=>?_
 have h:=Rj (j:=60) (by decide) (h.fr (.c r1 .n))
 refine fQ (hrec m hm t thk k _ _ _ s h.to (hs.less (by decide))) λs4 t5 c6 hq7 w h=>?_
 refine rc h ?_
 exact fI (qT hd2 (hq7)) h.to
 refine Ma (mA (h.fr (.c r1 (.c r5 .n))) (hs.less (by decide)) (r,m0)) λs9 t10 c11 hq12 w h=>?_
 refine rc h ?_
 exact fI (qF hd2 (hq12)) h.to
theorem KU(S:dN)(N n:Nat)(hrec:∀j,j<=n->rP S N j)(cb0 cb1 cb2:Nat)(t:Ct.bC)(r:Int)(thk:Fv)(k:Int×Int->Ct.I Ct.Result){m:Nat}(hm:m<=n)(x:Int)(s:Ct.St)(h:SH B w (rb cb0 ([S.v,↑t.root,↑t.readOnly]) 99::rb cb1 ([↑r]) 39::rb cb2 [thk.val] 143::gP S dW n 60 Cz k thk::S.a s::L))(hs:Ct.Rm 60 s):
  Calls prog 117 #[↑x,↑cb0,↑cb1,↑cb2] w λe w'=>CP S dW m B ((λm0_b=>.gen λg_b=>.alloc {kind:=2,gen:=g_b} m0_b λi_b=>Ct.lD t r m0_b i_b λok_b=>bif !ok_b then Ct.Gb t (λa b=>k (a,b)) N else k (r,m0_b)) x) s L e w':=by
 have h:=eR hm (JV _) (h.fr (.c r3 .n))
 refine bZ func117 ntmps117 h λw h=>?_
 refine jX h λb1 w h=>?_
 refine jA h λb2 w h=>?_
 refine cl (ca eF rfl) ((Dj S s x (h.fr (.c r6 .n)) (hs.less (by decide))).mono ?_)
 rintro _ w ⟨rfl,h⟩
 have hs:=hs.gen.alloc (Ct.bG _ 2 s.bS.2 0 0 0) x
 refine⟨_,rfl,?_⟩
 refine st (sg rfl)<|xe<|nx<|sq<|?_
 have h:=SH.kX (h.fr (.c r2 .n))
 refine go h λw h=>?_
 have h:=h.eT a0
 have h:=h.eT a6
 have h:=h.eT a8
 have h:=h.eT a7
 have h:=h.fr (.c r0 (.c r0 (.c r0 (.c r0 (.c r3 .n)))))
 have h:=Me (j:=60) (S:=S) (F:=dW) (n:=m) (args:=dV) (k:=(λok_b=>bif !ok_b then Ct.Gb t (λa b=>k (a,b)) N else k (r,x))) (v:=(.fn 119 [] [↑cb0,↑cb2,↑cb1,↑b1])) [rb cb0 ([S.v,↑t.root,↑t.readOnly]) 99,rb cb2 [thk.val] 143,rb cb1 ([↑r]) 39,rb b1 ([↑x]) 39,gP S dW m 60 Cz k thk] h λm' hm' B' w' L' s' x' h' hs'=>pR eF (LQ S N m (λj hj=>hrec j (Fk hj hm)) cb0 cb2 cb1 b1 t thk k r x (bI hm') x' s' h' (hs'.less (by decide)))
 refine cl (ca eF rfl) ((Li S dW t r x (s.bS.1.alloc {kind:=2,gen:=s.bS.2} x).2 (.fn 119 [] [↑cb0,↑cb2,↑cb1,↑b1]) (λok_b=>bif !ok_b then Ct.Gb t (λa b=>k (a,b)) N else k (r,x)) m (s.bS.1.alloc {kind:=2,gen:=s.bS.2} x).1 (h.fr (.c r0 (.c r1 .n))) (hs.less (by decide))).mono ?_)
 rintro _ w ⟨s3,t4,c5,hq6,rfl,h⟩
 refine⟨_,rfl,?_⟩
 refine sf (so h rfl rfl rfl fD (eO _) (.r (.r (.r (.r (.r (.r (.r (.r (.r (.r (.r (.r (.r (.r .d)))))))))))))) u3)<|?_
 rintro _ w h
 refine xe<|nx<|rt<|?_
 refine rc h ?_
 exact fI (qG (qA (hq6))) h.to
theorem HZ(S:dN)(N n:Nat)(hrec:∀j,j<=n->rP S N j)(cb0 cb1:Nat)(t:Ct.bC)(thk:Fv)(k:Int×Int->Ct.I Ct.Result){m:Nat}(hm:m<=n)(x:Int)(s:Ct.St)(h:SH B w (rb cb0 ([S.v,↑t.root,↑t.readOnly]) 99::rb cb1 [thk.val] 143::gP S dW n 60 Cz k thk::S.a s::L))(hs:Ct.Rm 60 s):
  Calls prog 116 #[↑x,↑cb0,↑cb1] w λe w'=>CP S dW m B ((λr_b=>Ct.mM t r_b λm0_b=>.gen λg_b=>.alloc {kind:=2,gen:=g_b} m0_b λi_b=>Ct.lD t r_b m0_b i_b λok_b=>bif !ok_b then Ct.Gb t (λa b=>k (a,b)) N else k (r_b,m0_b)) x) s L e w':=by
 have h:=eR hm (JV _) (h.fr (.c r2 .n))
 refine bZ func116 ntmps116 h λw h=>?_
 refine jX h λb1 w h=>?_
 refine jA h λb2 w h=>?_
 have h:=SH.kX (h.fr (.c r1 .n))
 have h:=h.eT a4
 have h:=h.eT a1
 have h:=h.eT a5
 have h:=h.fr (.c r0 (.c r0 (.c r0 (.c r2 .n))))
 have h:=Me (j:=60) (S:=S) (F:=dW) (n:=m) (args:=dQ) (k:=(λm0_b=>.gen λg_b=>.alloc {kind:=2,gen:=g_b} m0_b λi_b=>Ct.lD t x m0_b i_b λok_b=>bif !ok_b then Ct.Gb t (λa b=>k (a,b)) N else k (x,m0_b))) (v:=(.fn 117 [] [↑cb0,↑b1,↑cb1])) [rb cb0 ([S.v,↑t.root,↑t.readOnly]) 99,rb b1 ([↑x]) 39,rb cb1 [thk.val] 143,gP S dW m 60 Cz k thk] h λm' hm' B' w' L' s' x' h' hs'=>pR eF (KU S N m (λj hj=>hrec j (Fk hj hm)) cb0 b1 cb1 t x thk k (bI hm') x' s' h' (hs'.less (by decide)))
 refine cl (ca eF rfl) ((jZ S dW t x (.fn 117 [] [↑cb0,↑b1,↑cb1]) (λm0_b=>.gen λg_b=>.alloc {kind:=2,gen:=g_b} m0_b λi_b=>Ct.lD t x m0_b i_b λok_b=>bif !ok_b then Ct.Gb t (λa b=>k (a,b)) N else k (x,m0_b)) m s (h.fr (.c r0 (.c r4 .n))) (hs.less (by decide))).mono ?_)
 rintro _ w ⟨s3,t4,c5,hq6,rfl,h⟩
 refine⟨_,rfl,?_⟩
 refine sf (so h rfl rfl rfl fD (eO _) (.r (.r (.r (.r (.r (.r (.r (.r (.r (.r (.r (.r (.r (.r .d)))))))))))))) u3)<|?_
 rintro _ w h
 refine xe<|nx<|rt<|?_
 refine rc h ?_
 exact fI (hq6) h.to
theorem Bi(S:dN)(N n:Nat)(hrec:∀j,j<n->rP S N j)(t:Ct.bC)(thk:Fv)(k:Int×Int->Ct.I Ct.Result)(s:Ct.St)(h:SH B w (rD S dW n 60 Cz k thk::S.a s::L))(hs:Ct.Rm 30 s):
  Calls prog 72 #[.agg [S.v,↑t.root,↑t.readOnly].toArray,thk.val] w λe w'=>CP S dW n B (Ct.Gb t (λa b=>k (a,b)) (N+1)) s L e w':=by
 refine bZ func72 ntmps72 h λw h=>?_
 refine jX h λb1 w h=>?_
 refine jX h (hc:=lE _) λb2 w h=>?_
 refine jA h λb3 w h=>?_
 have h:=SH.kX (h.fr (.c r2 .n))
 have h:=SH.kX (h.fr (.c r2 .n))
 have h:=h.eT a0
 have h:=h.eT a2
 have h:=h.fr (.c r0 (.c r0 (.c r3 .n)))
 have h:=Me (j:=60) (S:=S) (F:=dW) (n:=n) (args:=dQ) (k:=(λr_b=>Ct.mM t r_b λm0_b=>.gen λg_b=>.alloc {kind:=2,gen:=g_b} m0_b λi_b=>Ct.lD t r_b m0_b i_b λok_b=>bif !ok_b then Ct.Gb t (λa b=>k (a,b)) N else k (r_b,m0_b))) (v:=(.fn 116 [] [↑b1,↑b2])) [rb b1 ([S.v,↑t.root,↑t.readOnly]) 99,rb b2 [thk.val] 143,rD S dW n 60 Cz k thk] h λm' hm' B' w' L' s' x' h' hs'=>pR eF (HZ S N m' (λj hj=>hrec j (Ab hj hm')) b1 b2 t thk k (JV _) x' s' ((sB hm' (h'.fr (.c r2 .n))).fr (.c r1 (.c r1 (.c r0 .n)))) (hs'.less (by decide)))
 refine cl (ca eF rfl) ((zO S dW t (.fn 116 [] [↑b1,↑b2]) (λr_b=>Ct.mM t r_b λm0_b=>.gen λg_b=>.alloc {kind:=2,gen:=g_b} m0_b λi_b=>Ct.lD t r_b m0_b i_b λok_b=>bif !ok_b then Ct.Gb t (λa b=>k (a,b)) N else k (r_b,m0_b)) n s (h.fr (.c r0 (.c r3 .n))) (hs.less (by decide))).mono ?_)
 rintro _ w ⟨s4,t5,c6,hq7,rfl,h⟩
 refine⟨_,rfl,?_⟩
 refine sf (so h rfl rfl rfl fD (eO _) (.r (.r (.r (.r (.r (.r (.r (.r (.r (.r (.r (.r (.r (.r .d)))))))))))))) u4)<|?_
 rintro _ w h
 refine xe<|nx<|rt<|?_
 refine rc h ?_
 exact fI (hq7) h.to
theorem Di(S:dN):∀(N n:Nat),n<=N->rP S (N+1) n
 |0,n,hn=>λt th k B w L s h hs=>Bi S 0 n (λj hj=>by omega) t th k s h hs
 |N+1,n,hn=>λt th k B w L s h hs=>Bi S (N+1) n (λj hj=>Di S N j (by omega)) t th k s h hs
theorem NG(S:dN)(cb0:Nat){n m:Nat}(hm:m<=n)(x:Int)(s:Ct.St)(h:SH B w (rb cb0 [S.v] 96::S.a s::L))(hs:Ct.Rm 60 s):
  Calls prog 70 #[↑x,↑cb0] w λe w'=>CP S dW m B ((Ct.Bt) x) s L e w':=by
 refine bZ func70 ntmps70 h λw h=>?_
 refine jA h λb1 w h=>?_
 refine cl (ca eF rfl) ((Gf S x m s (h.fr (.c r2 .n)) (hs.less (by decide))).mono ?_)
 rintro _ w ⟨s2,t3,c4,hq5,rfl,h⟩
 refine⟨_,rfl,?_⟩
 refine sf (so h rfl rfl rfl fD (eO _) (.r (.r (.r (.r (.r (.r (.r (.r (.r (.r (.r (.r (.r (.r .d)))))))))))))) u2)<|?_
 rintro _ w h
 refine xe<|nx<|rt<|?_
 refine go h λw h=>?_
 refine rr (bP rfl rfl (h.b a2) Row.h) ?_
 exact fI (hq5) h.to
theorem PB(S:dN)(cb0 cb1:Nat)(t:Ct.bC){n m:Nat}(hm:m<=n)(x:Int)(s:Ct.St)(h:SH B w (rb cb0 ([S.v,↑t.root,↑t.readOnly]) 99::rb cb1 [S.v] 96::S.a s::L))(hs:Ct.Rm 60 s):
  Calls prog 68 #[↑x,↑cb0,↑cb1] w λe w'=>CP S dW m B ((λr_b=>Ct.mM t r_b Ct.Bt) x) s L e w':=by
 refine bZ func68 ntmps68 h λw h=>?_
 refine jA h λb1 w h=>?_
 have h:=h.eT a2
 have h:=h.fr (.c r0 .n)
 have h:=Me (j:=60) (S:=S) (F:=dW) (n:=m) (args:=dQ) (k:=Ct.Bt) (v:=(.fn 70 [] [↑cb1])) [rb cb1 [S.v] 96] h λm' hm' B' w' L' s' x' h' hs'=>pR eF (NG S cb1 (bI hm') x' s' h' (hs'.less (by decide)))
 refine cl (ca eF rfl) ((jZ S dW t x (.fn 70 [] [↑cb1]) Ct.Bt m s (h.fr (.c r0 (.c r3 .n))) (hs.less (by decide))).mono ?_)
 rintro _ w ⟨s2,t3,c4,hq5,rfl,h⟩
 refine⟨_,rfl,?_⟩
 refine sf (so h rfl rfl rfl fD (eO _) (.r (.r (.r (.r (.r (.r (.r (.r (.r (.r (.r (.r (.r (.r .d)))))))))))))) u2)<|?_
 rintro _ w h
 refine xe<|nx<|rt<|?_
 refine rc h ?_
 exact fI (hq5) h.to
theorem TF(S:dN)(cb0:Nat){n m:Nat}(hm:m<=n)(x1 x2:Int)(s:Ct.St)(h:SH B w (rb cb0 [S.v] 96::S.a s::L))(hs:Ct.Rm 60 s):
  Calls prog 73 #[↑x1,↑x2,↑cb0] w λe w'=>CP S dW m B ((λp_b=>Ct.Bt p_b.2) (x1,x2)) s L e w':=by
 refine bZ func73 ntmps73 h λw h=>?_
 refine jA h λb1 w h=>?_
 refine cl (ca eF rfl) ((Gf S x2 m s (h.fr (.c r2 .n)) (hs.less (by decide))).mono ?_)
 rintro _ w ⟨s2,t3,c4,hq5,rfl,h⟩
 refine⟨_,rfl,?_⟩
 refine sf (so h rfl rfl rfl fD (eO _) (.r (.r (.r (.r (.r (.r (.r (.r (.r (.r (.r (.r (.r (.r .d)))))))))))))) u2)<|?_
 rintro _ w h
 refine xe<|nx<|rt<|?_
 refine go h λw h=>?_
 refine rr (bP rfl rfl (h.b a2) Row.h) ?_
 exact fI (hq5) h.to
theorem XJ(S:dN)(N n:Nat)(hrec:∀j,j<=n->rP S N j)(cb0 cb1 cb2:Nat)(t:Ct.bC){m:Nat}(hm:m<=n)(s:Ct.St)(h:SH B w (rb cb0 ([↑t.root,↑t.readOnly]) 38::rb cb1 ([S.v,↑t.root,↑t.readOnly]) 99::rb cb2 [S.v] 96::S.a s::L))(hs:Ct.Rm 60 s):
  Calls prog 66 #[↑cb0,↑cb1,↑cb2] w λe w'=>CP S dW m B ((λ_=>Ct.Cg t N) ()) s L e w':=by
 refine bZ func66 ntmps66 h λw h=>?_
 refine jA h λb1 w h=>?_
 refine qc h (λhd2 w h=>?_) λhd2 w h=>?_
 refine bA (jH _ (.fn 68 [] [↑cb1,↑cb2]) h.to) λw h=>?_
 refine rc h ?_
 have h:=h.eT a3
 have h:=h.eT a3
 have h:=h.fr (.c r0 (.c r0 .n))
 have h:=Nt (S:=S) (F:=dW) (n:=m) (args:=dQ) (k:=(λr_b=>Ct.mM t r_b Ct.Bt)) (v:=(.fn 68 [] [↑cb1,↑cb2])) [rb cb1 ([S.v,↑t.root,↑t.readOnly]) 99,rb cb2 [S.v] 96] h λm' hm' B' w' L' s' x' h' hs'=>pR eF (PB S cb1 cb2 t (bI hm') x' s' h' (hs'.less (by decide)))
 have h:=kL (a:=t.root) h
 exact fI (qT hd2 rfl) h.to
 have h:=h.eT a3
 have h:=h.fr (.c r0 .n)
 have h:=Me (j:=60) (S:=S) (F:=dW) (n:=m) (args:=Cz) (k:=(λp_b=>Ct.Bt p_b.2)) (v:=(.fn 73 [] [↑cb2])) [rb cb2 [S.v] 96] h λm' hm' B' w' L' s' x' h' hs'=>pR eF (TF S cb2 (bI hm') x'.1 x'.2 s' h' (hs'.less (by decide)))
 refine fQ (hrec m hm t (.fn 73 [] [↑cb2]) (λp_b=>Ct.Bt p_b.2) _ _ _ s h.to (hs.less (by decide))) λs3 t4 c5 hq6 w h=>?_
 refine rc h ?_
 exact fI (qF hd2 (hq6)) h.to
theorem Vi(S:dN)(N:Nat)(t:Ct.bC)(s:Ct.St)(h:SH B w (S.a s::L))(hs:Ct.Rm 60 s):
  Calls prog 28 #[S.v,.agg [↑t.root,↑t.readOnly].toArray] w λe w'=>∃tb s' u,(Ct.Cg t (N+1)).head s=(s',u)/\e=.returned (.pointer (some ⟨tb,0,none⟩))/\SH B w' (eN S N tb u 0::S.a s'::L):=by
 refine bZ func28 ntmps28 h λw h=>?_
 refine jX h λb1 w h=>?_
 refine jX h λb2 w h=>?_
 refine jA h λb3 w h=>?_
 have h:=SH.kX (h.fr (.c r1 .n))
 have h:=SH.kX (h.fr (.c r1 .n))
 have h:=SH.kX (h.fr (.c r2 .n))
 have h:=h.eT a0
 have h:=h.eT a2
 have h:=h.eT a4
 have h:=h.fr (.c r0 (.c r0 (.c r0 .n)))
 have h:=YZ (S:=S) (F:=dW) (n:=N) (j:=60) (args:=qI) (k:=(λ_=>Ct.Cg t (N+1))) (v:=(.fn 66 [] [↑b2,↑b3,↑b1])) [rb b2 ([↑t.root,↑t.readOnly]) 38,rb b3 ([S.v,↑t.root,↑t.readOnly]) 99,rb b1 [S.v] 96] h λB' w' L' s' x' h' hs'=>pR eF (XJ S (N+1) N (Di S N) b2 b3 b1 t (JV _) s' h' hs')
 refine cl (ca eF rfl) ((Ht S N (.fn 66 [] [↑b2,↑b3,↑b1]) (λ_=>Ct.Cg t (N+1)) s (h.fr (.c r0 (.c r3 .n))) (hs.less (by decide))).mono ?_)
 rintro _ w ⟨tb4,s5,uz6,hq7,rfl,h⟩
 refine⟨_,rfl,?_⟩
 refine st (sg rfl)<|xe<|nx<|rt<|?_
 exact rz ⟨tb4,s5,uz6,hq7,rfl,h.to⟩
theorem NR(S:dN)(cb0:Nat){n m:Nat}(hm:m<=n)(x:Int)(s:Ct.St)(h:SH B w (rb cb0 [S.v] 96::S.a s::L))(hs:Ct.Rm 60 s):
  Calls prog 75 #[↑x,↑cb0] w λe w'=>CP S dW m B ((Ct.Gd) x) s L e w':=by
 refine bZ func75 ntmps75 h λw h=>?_
 refine jA h λb1 w h=>?_
 refine cl (ca eF rfl) ((Gl S x m s (h.fr (.c r2 .n)) (hs.less (by decide))).mono ?_)
 rintro _ w ⟨s2,t3,c4,hq5,rfl,h⟩
 refine⟨_,rfl,?_⟩
 refine sf (so h rfl rfl rfl fD (eO _) (.r (.r (.r (.r (.r (.r (.r (.r (.r (.r (.r (.r (.r (.r .d)))))))))))))) u2)<|?_
 rintro _ w h
 refine xe<|nx<|rt<|?_
 refine go h λw h=>?_
 refine rr (bP rfl rfl (h.b a2) Row.h) ?_
 exact fI (hq5) h.to
theorem TY(S:dN)(cb0:Nat){n m:Nat}(hm:m<=n)(x1 x2:Int)(s:Ct.St)(h:SH B w (rb cb0 [S.v] 96::S.a s::L))(hs:Ct.Rm 60 s):
  Calls prog 77 #[↑x1,↑x2,↑cb0] w λe w'=>CP S dW m B ((λp_b=>Ct.Gd p_b.1) (x1,x2)) s L e w':=by
 refine bZ func77 ntmps77 h λw h=>?_
 refine jA h λb1 w h=>?_
 refine cl (ca eF rfl) ((Gl S x1 m s (h.fr (.c r2 .n)) (hs.less (by decide))).mono ?_)
 rintro _ w ⟨s2,t3,c4,hq5,rfl,h⟩
 refine⟨_,rfl,?_⟩
 refine sf (so h rfl rfl rfl fD (eO _) (.r (.r (.r (.r (.r (.r (.r (.r (.r (.r (.r (.r (.r (.r .d)))))))))))))) u2)<|?_
 rintro _ w h
 refine xe<|nx<|rt<|?_
 refine go h λw h=>?_
 refine rr (bP rfl rfl (h.b a2) Row.h) ?_
 exact fI (hq5) h.to
theorem WQ(S:dN)(N n:Nat)(hrec:∀j,j<=n->rP S N j)(cb0 cb1 cb2:Nat)(t:Ct.bC){m:Nat}(hm:m<=n)(s:Ct.St)(h:SH B w (rb cb0 ([↑t.root,↑t.readOnly]) 38::rb cb1 [S.v] 96::rb cb2 ([S.v,↑t.root,↑t.readOnly]) 99::S.a s::L))(hs:Ct.Rm 60 s):
  Calls prog 74 #[↑cb0,↑cb1,↑cb2] w λe w'=>CP S dW m B ((λ_=>Ct.Qg t N) ()) s L e w':=by
 refine bZ func74 ntmps74 h λw h=>?_
 refine jA h λb1 w h=>?_
 refine qc h (λhd2 w h=>?_) λhd2 w h=>?_
 refine bA (jH _ (.fn 75 [] [↑cb1]) h.to) λw h=>?_
 refine rc h ?_
 have h:=h.eT a2
 have h:=h.fr (.c r0 .n)
 have h:=Nt (S:=S) (F:=dW) (n:=m) (args:=dQ) (k:=Ct.Gd) (v:=(.fn 75 [] [↑cb1])) [rb cb1 [S.v] 96] h λm' hm' B' w' L' s' x' h' hs'=>pR eF (NR S cb1 (bI hm') x' s' h' (hs'.less (by decide)))
 have h:=kL (a:=t.root) h
 exact fI (qT hd2 rfl) h.to
 have h:=h.eT a2
 have h:=h.fr (.c r0 .n)
 have h:=Me (j:=60) (S:=S) (F:=dW) (n:=m) (args:=Cz) (k:=(λp_b=>Ct.Gd p_b.1)) (v:=(.fn 77 [] [↑cb1])) [rb cb1 [S.v] 96] h λm' hm' B' w' L' s' x' h' hs'=>pR eF (TY S cb1 (bI hm') x'.1 x'.2 s' h' (hs'.less (by decide)))
 refine fQ (hrec m hm t (.fn 77 [] [↑cb1]) (λp_b=>Ct.Gd p_b.1) _ _ _ s h.to (hs.less (by decide))) λs3 t4 c5 hq6 w h=>?_
 refine rc h ?_
 exact fI (qF hd2 (hq6)) h.to
theorem Ep(S:dN)(N:Nat)(t:Ct.bC)(s:Ct.St)(h:SH B w (S.a s::L))(hs:Ct.Rm 60 s):
  Calls prog 29 #[S.v,.agg [↑t.root,↑t.readOnly].toArray] w λe w'=>∃tb s' u,(Ct.Qg t (N+1)).head s=(s',u)/\e=.returned (.pointer (some ⟨tb,0,none⟩))/\SH B w' (eN S N tb u 0::S.a s'::L):=by
 refine bZ func29 ntmps29 h λw h=>?_
 refine jX h λb1 w h=>?_
 refine jX h λb2 w h=>?_
 refine jA h λb3 w h=>?_
 have h:=SH.kX (h.fr (.c r1 .n))
 have h:=SH.kX (h.fr (.c r2 .n))
 have h:=SH.kX (h.fr (.c r2 .n))
 have h:=h.eT a0
 have h:=h.eT a2
 have h:=h.eT a4
 have h:=h.fr (.c r0 (.c r0 (.c r0 .n)))
 have h:=YZ (S:=S) (F:=dW) (n:=N) (j:=60) (args:=qI) (k:=(λ_=>Ct.Qg t (N+1))) (v:=(.fn 74 [] [↑b2,↑b1,↑b3])) [rb b2 ([↑t.root,↑t.readOnly]) 38,rb b1 [S.v] 96,rb b3 ([S.v,↑t.root,↑t.readOnly]) 99] h λB' w' L' s' x' h' hs'=>pR eF (WQ S (N+1) N (Di S N) b2 b1 b3 t (JV _) s' h' hs')
 refine cl (ca eF rfl) ((Ht S N (.fn 74 [] [↑b2,↑b1,↑b3]) (λ_=>Ct.Qg t (N+1)) s (h.fr (.c r0 (.c r3 .n))) (hs.less (by decide))).mono ?_)
 rintro _ w ⟨tb4,s5,uz6,hq7,rfl,h⟩
 refine⟨_,rfl,?_⟩
 refine st (sg rfl)<|xe<|nx<|rt<|?_
 exact rz ⟨tb4,s5,uz6,hq7,rfl,h.to⟩
end Go.Q9
end
section
namespace Go.Ct
variable{g:Ga}
structure Px where
 tb:Nat:=0
 xb:Nat:=0
 k:Nat:=0
 e:Ex:={}
 u:I Result:=.ret {}
structure Ub(i:Nat)(g:Ga)(s:St)(ys:List Px):Prop where
 gw:GW g
 PI:nZ g s
 fit:eK s
 ex:∀z∈ys,z.e.eG.length=z.k/\z.k<=i/\∃u',Er g z.e z.u u'
 size:s.size<=38000000000+200000*i
theorem Er.same{e:Ex}{u u':I Result}(h:Er g e u u'):e.done=u.ended.isSome/\(u.ended=none->e.next=u.acc)/\∀r,u.ended=some r->e.result=r:=by
 obtain⟨h1,h2⟩:=h.sh.acc
 exact⟨by rw[h.rest.done,<- h2],λq=>by rw[h.rest.next (by rw[<- h2];exact q),h1],λr q=>h.rest.A6 r (by rw[<- h2];exact q)⟩
theorem Ub.ready{i:Nat}{s:St}{ys:List Px}(h:Ub i g s ys)(hi:i<=1000){z:Px}(hz:z∈ys):Ok 60 (cD 1 ⟨z.e,s⟩)/\(cD 1 ⟨z.e,s⟩).left<FU/\z.e.call.aI<18446744073709551616/\z.e.call.key.size<=9223372036854775807/\7<=z.e.call.kind/\z.e.call.kind<=12:=by
 obtain⟨h1,h2,u',hE⟩:=h.ex z hz
 have hs:=h.size
 obtain⟨a,b⟩:=hE.ready h.PI h.fit (by unfold room;omega)
 exact⟨a,b,hE.aI,hE.key,hE.ok.lo,hE.ok.hi⟩
def Px.next(z:Px)(s:St):Px:={z with k:=z.k+1,e:=(bX (bY z.e.call FU) 1 ⟨z.e,s⟩).e,u:=(z.u.step s).2}
theorem Ub.step{i j:Nat}{s:St}{ys:List Px}(h:Ub i g s ys)(hi:i<=1000)(hj:j<ys.length)(hd:ys[j].e.done=false)(hok:Ok 50 (bX (bY ys[j].e.call FU) 1 ⟨ys[j].e,s⟩)):
  ((ys[j].u).step s).1=(bX (bY ys[j].e.call FU) 1 ⟨ys[j].e,s⟩).s/\∃g',Ub (i+1) g' (bX (bY ys[j].e.call FU) 1 ⟨ys[j].e,s⟩).s (ys.set j (ys[j].next s)):=by
 obtain⟨h1,h2,u',hE⟩:=h.ex _ (cE hj)
 obtain⟨g',v,v',e1,k2,w2,t2,f2,E2,l2,b2,b3⟩:=hE.step h.gw h.PI h.fit hd (by unfold Cx;omega) hok
 have hs:=h.size
 refine⟨by rw[e1],g',w2,t2,f2,?_,by omega⟩
 intro z m
 rcases List.mem_or_eq_of_mem_set m with m|rfl
 ·obtain⟨a,b,q,c⟩:=h.ex z m
  exact⟨a,by omega,q,c.ge h.gw k2⟩
 ·refine⟨by show (bX (bY ys[j].e.call FU) 1 ⟨ys[j].e,s⟩).e.eG.length=ys[j].k+1;rw[l2,h1],by show ys[j].k+1<=i+1;omega,v',?_⟩
  show Er g' _ ((ys[j].u).step s).2 v'
  rw[e1];exact E2
theorem Ub.add{i tb xb:Nat}{s:St}{ys:List Px}{c:Call}(h:Ub i g s ys)(hs:s.size+1000<=38000000000)(hc:kZ g c)(hm:c.aI<18446744073709551616)(hk:c.key.size<=9223372036854775807)(hok:Ok 50 (bX (bY c FU) 0 ⟨{call:=c},s⟩)):
  ∃g' u,(mS c FU).head s=((bX (bY c FU) 0 ⟨{call:=c},s⟩).s,u)/\Ge g g'/\(bX (bY c FU) 0 ⟨{call:=c},s⟩).s.size<=s.size+120/\Ub i g' (bX (bY c FU) 0 ⟨{call:=c},s⟩).s (ys++[{tb:=tb,xb:=xb,e:=(bX (bY c FU) 0 ⟨{call:=c},s⟩).e,u:=u}]):=by
 obtain⟨g',u,u',h1,h2,h3,h4,h5,h6,h7,h8,h9,h10⟩:=Er.start h.gw h.PI h.fit hc hm hk hok
 refine⟨g',u,h1,h2,h8,h3,h4,h5,?_,by omega⟩
 intro z m
 rcases List.mem_append.1 m with m|m
 ·obtain⟨a,b,q,c'⟩:=h.ex z m
  exact⟨a,b,q,c'.ge h.gw h2⟩
 ·rw[List.mem_singleton.1 m]
  exact⟨by show (bX (bY c FU) 0 ⟨{call:=c},s⟩).e.eG.length=0;rw[h7];rfl,dI _,u',h6⟩
theorem nZ.acc{s:St}(h:nZ g s)(a:Nat):nZ g {s with acc:=a}:=⟨h.nodes,h.gen,h.len,h.holds,h.dec⟩
theorem Lc.M7{s:St}{ts:List bC}{zs:List (Nat×Ex)}(h:Lc 36 g s ts zs):Ub 0 g {s with acc:=0} []/\({s with acc:=0}:St).size+500<=37100000000:=by
 have hs:=h.size
 have:({s with acc:=0}:St).size<=s.size:=by unfold St.size;dsimp only;omega
 exact⟨⟨h.gw,h.PI.acc 0,h.fit,(λz m=>by cases m),by omega⟩,by omega⟩
end Go.Ct
end
