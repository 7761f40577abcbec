/- Parts of a proof: Ayg, Pt, Ayh, Cw, Lp. -/
import Derived.Test.YtopelgiooccobaaGreatW12
import Derived.Test.YtopelgiooccobaaGreatW13
import Derived.Test.YtopelgiooccobaaGreatW15
import Derived.Test.YtopelgiooccobaaGreatW11
import Derived.Test.YtopelgiooccobaaGreatW29
import Derived.Test.YtopelgiooccobaaGreatW05
import Derived.Test.YtopelgiooccobaaGreatW08
import Derived.Test.YtopelgiooccobaaGreatW30
import Derived.Test.YtopelgiooccobaaGreatW26
set_option linter.unusedVariables false
set_option linter.unusedSimpArgs false
set_option maxRecDepth 100000
set_option maxHeartbeats 4000000
section
namespace Go.Proofs.YtopelgiooccobaaGreat
open Tryz
open Go.E
theorem MU:fo prog 138 1=some 1:=by kernel_rfl
theorem Vj:fo prog 138 2=some 15:=by kernel_rfl
theorem Ur:fo prog 138 3=some 16:=by kernel_rfl
end Go.Proofs.YtopelgiooccobaaGreat
end
section
namespace Go.Proofs.YtopelgiooccobaaGreat
open Tryz
attribute [local irreducible] Go.E.gB Go.E.wpS Go.E.X Go.E.XS Go.E.C Go.E.jU Go.E.kP Go.E.fin Go.E.Y Go.E.U Go.E.F Go.E.Ca Go.E.jT Go.E.bl Go.E.rb Go.E.aU Go.E.bV Go.E.ex Go.E.ce Go.E.pu Go.E.sK Go.E.gK Go.E.bK Go.E.zK Go.E.gM Go.E.fO Go.E.dH gP nE rD
open Go.RowKit Go.E
variable{B w:World}{L:List As}
theorem Aa(S:dN)(tb:Nat)(c:Cc)(k:Nat)(b:Bool)(h:SH B w (bl tb (oI S c k b) 138::L)):
  Calls prog 29 #[↑tb] w λe w'=>e=.returned (.bool (c.kind==0))/\SH B w' (bl tb (oI S c k b) 138::L):=by
 refine bZ func29 ntmps29 h λw h=>?_
 exact rz ⟨rfl,h⟩
theorem PN(S:dN)(tb:Nat)(c:Cc)(k:Nat)(b:Bool)(h:SH B w (bl tb (oI S c k b) 138::L)):
  Calls prog 105 #[↑tb] w λe w'=>e=.returned ↑(k:Int)/\SH B w' (bl tb (oI S c k b) 138::L):=by
 refine bZ func105 ntmps105 h λw h=>?_
 exact rz ⟨rfl,h⟩
theorem KA(S:dN)(tb:Nat)(c:Cc)(k:Nat)(b:Bool)(h:SH B w (bl tb (oI S c k b) 138::L)):
  Calls prog 53 #[↑tb] w λe w'=>e=.returned (.agg (Mf (if(c.kind==0)=true then c.r else{})).toArray)/\SH B w' (bl tb (oI S c k b) 138::L):=by
 refine bZ func53 ntmps53 h λw h=>?_
 refine jA h λb1 w h=>?_
 refine bA (Aa S _ c _ _ h.to) λw h=>?_
 refine qc h (λhd2 w h=>?_) λhd2 w h=>?_
 have hd3:((c.kind:Int)==0)=false:=(lC _).mp hd2
 have hg4:=bI hd3
 refine go h λw h=>?_
 refine rr (bP rfl rfl (h.b a1) Row.h) ?_
 refine⟨?_,h.to⟩
 rw[hd3];rfl
 have hd5:((c.kind:Int)==0)=true:=(mD _).mp hd2
 have hg6:=eq_of_beq hd5
 refine go h λw h=>?_
 refine st (gJ (cs:=[↑c.r.err,↑c.r.found,.int .u64 (c.r.value:Int),↑c.r.key,↑c.r.count,↑c.r.ref,↑c.r.aE.root,↑c.r.aE.readOnly]) rfl (eP (h.b a0) 7 rfl) Row.h)<|go h λw h=>?_
 refine rr (bP rfl rfl (h.b a1) Row.h) ?_
 refine⟨?_,h.to⟩
 rw[hd5];rfl
theorem RT(S:dN)(tb:Nat)(c:Cc)(k:Nat)(b:Bool)(h:SH B w (bl tb (oI S c k b) 138::L)):
  Calls prog 107 #[↑tb] w λe w'=>e=.returned (.tuple #[.agg (Dh (if(c.kind==0)=true then{}else⟨c.kind,c.cell,c.dC,c.new⟩)).toArray,.bool (!(c.kind==0))])/\SH B w' (bl tb (oI S c k b) 138::L):=by
 refine bZ func107 ntmps107 h λw h=>?_
 refine jA h λb1 w h=>?_
 refine bA (Aa S _ c _ _ h.to) λw h=>?_
 refine qc h (λhd2 w h=>?_) λhd2 w h=>?_
 have hg3:=eq_of_beq hd2
 refine go h λw h=>?_
 refine rr (cL rfl rfl (h.b a1) Row.h rfl) ?_
 refine⟨?_,h.to⟩
 rw[hd2];rfl
 have hg4:=bI hd2
 refine go h λw h=>?_
 refine st (gJ (cs:=[↑c.kind,↑c.cell,↑c.dC,↑c.new]) rfl (eP (h.b a0) 1 rfl) Row.h)<|go h λw h=>?_
 refine rr (cL rfl rfl (h.b a1) Row.h rfl) ?_
 refine⟨?_,h.to⟩
 rw[hd2];rfl
theorem RJ(S:dN)(hM:∀w,Rl S.t S.x S.ab w)(n tb:Nat)(u:Ct.I Ct.Result)(c:Cc)(k:Nat)(s:Ct.St)(h:SH B w (bl tb (oI S c k false) 138::nE S dW (n+1) u c::S.a s::L))(hs:Ct.Rm 101 s)(hu:u.ended=none)(hd:(c.kind==0)=false)(hk:k<=9000000000000000000):
  Calls prog 59 #[↑tb] w λe w'=>∃s' u' c',u.step s=(s',u')/\e=.returned (.tuple #[])/\SH B w' (bl tb (oI S c' (k+1) false) 138::nE S dW n u' c'::S.a s'::L):=by
 refine bZ func59 ntmps59 h λw h=>?_
 refine cl (ca eF rfl) ((Aa S tb c k false (h.fr (.c r0 .n))).mono ?_)
 rintro _ w ⟨rfl,h⟩
 refine⟨_,rfl,?_⟩
 refine st (mv rfl)<|gT rfl rfl hd<|st (mv rfl)<|gT rfl rfl hd<|st (nc rfl rfl)<|gT rfl rfl hd<|st (fa Ur rfl)<|gT rfl rfl hd<|st (ld xN rfl (h.c a0 rfl))<|st (pF rfl hd rfl)<|xe<|nx<|cF rfl<|sk<|nx<|sq<|rg<|st (mv rfl)<|st (nc rfl rfl)<|st (fa Ur rfl)<|?_
 refine sf (so h rfl rfl rfl AU rfl (.s (.s (.s (.s (.s (.s (.s (.s (.s (.s (.s (.s (.s (.s (.s (.s (.r .d))))))))))))))))) u0)<|?_
 rintro _ w h
 refine xe<|nx<|sq<|rg<|st (mv rfl)<|st (nc rfl rfl)<|st (fa Vj rfl)<|st (ld jE rfl (h.c a0 rfl))<|st (bw rfl rfl (gN (c:=((k+1:Nat):Int)) (by omega) (by omega) (by omega)))<|st (nc rfl rfl)<|st (fa Vj rfl)<|?_
 refine sf (so h rfl rfl rfl Bf rfl (.s (.s (.s (.s (.s (.s (.s (.s (.s (.s (.s (.s (.s (.s (.s (.r .d)))))))))))))))) u0)<|?_
 rintro _ w h
 refine xe<|nx<|sq<|?_
 refine Uc (F:=[bl tb ([S.v,↑c.kind,↑c.cell,↑c.dC,↑c.new,c.ld.val,c.tr.val,↑c.r.err,↑c.r.found,.int .u64 (c.r.value:Int),↑c.r.key,↑c.r.count,↑c.r.ref,↑c.r.aE.root,↑c.r.aE.readOnly,.int .i64 ((k+1:Nat):Int),↑true]) 138]) [(true,[1,3,5,7,9,11,13,15,17,18,21,23]),(false,[24])] (by kernel_rfl) h (λw h=>(hC (h.at_ a0) hN)) λw h=>go h λw h=>?_
 refine tk (λW H=>gJ (cs:=[↑c.kind,↑c.cell,↑c.dC,↑c.new,c.ld.val,c.tr.val,↑c.r.err,↑c.r.found,.int .u64 (c.r.value:Int),↑c.r.key,↑c.r.count,↑c.r.ref,↑c.r.aE.root,↑c.r.aE.readOnly]) rfl (eP (H.b a0) 1 rfl) Row.h)<|go h λw h=>?_
 refine Zs (Tf S hM _ u c _ h.to hs hu) λs1 uz2 c3 hq4 w h=>?_
 refine rn (rK results59)<|go h λw h=>?_
 refine⟨s1,uz2,c3,hq4,rfl,h.to⟩
theorem Ht(S:dN)(n:Nat)(th:Fv)(k:Unit->Ct.I Ct.Result)(s:Ct.St)(h:SH B w (gP S dW n 60 qI k th::S.a s::L))(hs:Ct.Rm 60 s):
  Calls prog 39 #[S.v,th.val] w λe w'=>∃tb s' u,(k ()).head s=(s',u)/\e=.returned (.pointer (some ⟨tb,0,none⟩))/\SH B w' (eN S n tb u 0::S.a s'::L):=by
 refine bZ func39 ntmps39 h λw h=>?_
 refine jX h λb1 w h=>?_
 refine cl (ca eF rfl) ((Lz S dW n th k s (h.fr (.c r1 (.c r1 .n))) hs).mono ?_)
 rintro _ w ⟨s2,uz3,c4,hq5,rfl,h⟩
 refine⟨_,rfl,?_⟩
 refine st (nc rfl rfl)<|st (fa MU rfl)<|?_
 refine sf (so h rfl rfl rfl kN (eO _) (.s (.r (.r (.r (.r (.r (.r (.r (.r (.r (.r (.r (.r (.r (.r .d))))))))))))))) u2)<|?_
 rintro _ w h
 refine xe<|nx<|sq<|rg<|st (mv rfl)<|st (sg rfl)<|xe<|nx<|rt<|?_
 refine go h λw h=>?_
 refine rz ?_
 have h:=(h.fr (.c r2 (.c r0 (.c r0 .n))))
 exact⟨b1,s2,uz3,hq5,rfl,SH.dU c4 (SH.is (l:=[bl b1 (oI S c4 0 false) 138,nE S dW n uz3 c4]) h)⟩
theorem SH.to{S:dN}{n tb k:Nat}{u:Ct.I Ct.Result}(h:SH B w (eN S n tb u k::L)):∃c,SH B w (bl tb (oI S c k false) 138::nE S dW n u c::L):=by
 obtain⟨c,h⟩:=SH.ex (f:=λc:Cc=>Go.E.se [bl tb (oI S c k false) 138,nE S dW n u c]) h
 exact⟨c,SH.se h⟩
theorem SH.ti{S:dN}{n tb k:Nat}{u:Ct.I Ct.Result}{c:Cc}(h:SH B w (bl tb (oI S c k false) 138::nE S dW n u c::L)):SH B w (eN S n tb u k::L):=
 SH.dU (f:=λc:Cc=>Go.E.se [bl tb (oI S c k false) 138,nE S dW n u c]) c (SH.is (l:=[_,_]) h)
theorem BX(S:dN)(n tb k:Nat)(u:Ct.I Ct.Result)(h:SH B w (eN S n tb u k::L)):
  Calls prog 29 #[↑tb] w λe w'=>e=.returned ↑u.ended.isSome/\SH B w' (eN S n tb u k::L):=by
 obtain⟨c,h⟩:=SH.to h
 have hc:=uD (h.fr (.c r1 .n))
 refine(Aa S tb c k false h).mono ?_
 rintro e w' ⟨rfl,h⟩
 exact⟨by rw[hc.1],SH.ti h⟩
theorem Hh(S:dN)(n tb k:Nat)(u:Ct.I Ct.Result)(h:SH B w (eN S n tb u k::L)):
  Calls prog 105 #[↑tb] w λe w'=>e=.returned ↑(k:Int)/\SH B w' (eN S n tb u k::L):=by
 obtain⟨c,h⟩:=SH.to h
 refine(PN S tb c k false h).mono ?_
 rintro e w' ⟨rfl,h⟩
 exact⟨rfl,SH.ti h⟩
theorem Ew(S:dN)(n tb k:Nat)(u:Ct.I Ct.Result)(h:SH B w (eN S n tb u k::L)):
  Calls prog 53 #[↑tb] w λe w'=>e=.returned (.agg (Mf (u.ended.getD {})).toArray)/\SH B w' (eN S n tb u k::L):=by
 obtain⟨c,h⟩:=SH.to h
 have hc:=uD (h.fr (.c r1 .n))
 refine(KA S tb c k false h).mono ?_
 rintro e w' ⟨rfl,h⟩
 refine⟨?_,SH.ti h⟩
 cases he:u.ended with
 |none=>rw[hc.1,he];rfl
 |some r=>rw[hc.1,he,hc.2.2.2.2.2 r he];rfl
theorem GF{u:Ct.I Ct.Result}(h:u.ended.isSome=true):u.acc={}:=by cases u<;>first|rfl|cases h
theorem IK(S:dN)(n tb k:Nat)(u:Ct.I Ct.Result)(h:SH B w (eN S n tb u k::L)):
  Calls prog 107 #[↑tb] w λe w'=>e=.returned (.tuple #[.agg (Dh u.acc).toArray,.bool (!u.ended.isSome)])/\SH B w' (eN S n tb u k::L):=by
 obtain⟨c,h⟩:=SH.to h
 have hc:=uD (h.fr (.c r1 .n))
 refine(RT S tb c k false h).mono ?_
 rintro e w' ⟨rfl,h⟩
 refine⟨?_,SH.ti h⟩
 rw[hc.1,hc.2.1,hc.2.2.1,hc.2.2.2.1,hc.2.2.2.2.1]
 cases he:u.ended.isSome with
 |false=>rfl
 |true=>rw[GF he];rfl
theorem Om(S:dN)(hM:∀w,Rl S.t S.x S.ab w)(n tb k:Nat)(u:Ct.I Ct.Result)(s:Ct.St)(h:SH B w (eN S (n+1) tb u k::S.a s::L))(hs:Ct.Rm 101 s)(hu:u.ended=none)(hk:k<=9000000000000000000):
  Calls prog 59 #[↑tb] w λe w'=>e=.returned (.tuple #[])/\SH B w' (eN S n tb (u.step s).2 (k+1)::S.a (u.step s).1::L):=by
 obtain⟨c,h⟩:=SH.to h
 have hc:=uD (h.fr (.c r1 .n))
 refine(RJ S hM n tb u c k s h hs hu (by rw[hc.1,hu];rfl) hk).mono ?_
 rintro e w' ⟨s',u',c',hq,rfl,h⟩
 rw[hq]
 exact⟨rfl,SH.ti h⟩
section
attribute [local semireducible] nE gP rD Go.E.dH
variable{B w:World}{L:List As}
theorem SH.n0{S:dN}{m n tb k:Nat}{u:Ct.I Ct.Result}(hmn:m<=n)(h:SH B w (eN S n tb u k::L)):SH B w (eN S m tb u k::L):=by
 obtain⟨c,h⟩:=SH.to h
 have h:=(h.fr (.c r1 .n)).imp λO R=>yG hmn u c _ O R
 exact SH.ti (h.fr (.c r1 .n))
end
end Go.Proofs.YtopelgiooccobaaGreat
end
section
namespace Go.Proofs.YtopelgiooccobaaGreat
open Tryz
open Go.E
end Go.Proofs.YtopelgiooccobaaGreat
end
section
namespace Go.Proofs.YtopelgiooccobaaGreat
open Tryz
attribute [local irreducible] Go.E.gB Go.E.wpS Go.E.X Go.E.XS Go.E.C Go.E.jU Go.E.kP Go.E.fin Go.E.Y Go.E.U Go.E.F Go.E.Ca Go.E.jT Go.E.bl Go.E.rb Go.E.aU Go.E.bV Go.E.ex Go.E.ce Go.E.pu Go.E.sK Go.E.gK Go.E.bK Go.E.zK Go.E.gM Go.E.fO Go.E.dH gP nE rD
open Go.RowKit Go.E
open Go.Ct (qN qA qC qG qT qF)
def oS(S:dN)(N n:Nat):Prop:=∀(t:Ct.bC) (B w:World) (L:List As) (s:Ct.St),SH B w (S.a s::L)->Ct.Rm 30 s->
 Calls prog 41 #[.agg [S.v,↑t.root,↑t.readOnly].toArray] w λe w'=>CP S dW n B (Ct.iT t N) s L e w'
variable{B w:World}{L:List As}
theorem DP(S:dN)(N n:Nat)(hrec:∀j,j<=n->oS S N j)(cb0:Nat)(t:Ct.bC){m:Nat}(hm:m<=n)(ok:Bool)(s:Ct.St)(h:SH B w (rb cb0 ([S.v,↑t.root,↑t.readOnly]) 87::S.a s::L))(hs:Ct.Rm 60 s):
  Calls prog 88 #[↑ok,↑cb0] w λe w'=>CP S dW m B ((λok_b=>bif !ok_b then Ct.iT t N else .ret {found:=true}) ok) s L e w':=by
 refine bZ func88 ntmps88 h λw h=>?_
 refine jA h λb1 w h=>?_
 refine qc h (λhd2 w h=>?_) λhd2 w h=>?_
 have hd3:ok=false:=(lC _).mp hd2
 refine go h λw h=>?_
 refine fQ (hrec m hm t _ _ _ s h.to (hs.less (by decide))) λs4 t5 c6 hq7 w h=>?_
 refine rr (bP rfl rfl (h.b a2) Row.h) ?_
 exact fI (qT hd2 (hq7)) h.to
 have hd8:ok=true:=(mD _).mp hd2
 refine go h λw h=>?_
 refine bA (gV ({found:=true}:Ct.Result) h.to) λw h=>?_
 refine rr (bP rfl rfl (h.b a0) Row.h) ?_
 have h:=kD (S:=S) (n:=m) (r:=({found:=true}:Ct.Result)) h
 exact fI (qF hd2 rfl) h.to
theorem AT(S:dN)(N n:Nat)(hrec:∀j,j<=n->oS S N j)(cb0 cb1:Nat)(t:Ct.bC)(r:Int){m:Nat}(hm:m<=n)(x:Int)(s:Ct.St)(h:SH B w (rb cb0 ([S.v,↑t.root,↑t.readOnly]) 87::rb cb1 ([↑r]) 39::S.a s::L))(hs:Ct.Rm 60 s):
  Calls prog 84 #[↑x,↑cb0,↑cb1] w λe w'=>CP S dW m B ((λm0_b=>.alloc {kind:=3} 0 λc_b=>.gen λg_b=>.alloc {kind:=2,gen:=g_b} c_b λi_b=>Ct.lD t r m0_b i_b λok_b=>bif !ok_b then Ct.iT t N else .ret {found:=true}) x) s L e w':=by
 refine bZ func84 ntmps84 h λw h=>?_
 refine jA h λb1 w h=>?_
 refine dZ [1,3,7,9,4,10,12] (by kernel_rfl) h (.c r1 .n) λw h=>go h λw h=>?_
 refine gO (Jg h.to) λw h=>?_
 refine cs (ci (S.sA h a3) rfl rfl) ((cQ S s ({kind:=3}:Ct.Node) {} 0 (SH.eE ({kind:=3}:Ct.Node) rfl rfl h.to) hs (Ct.fY _)).mono ?_)
 rintro _ w ⟨rfl,h⟩
 have hs:=hs.alloc (Ct.fY _) 0
 refine⟨_,rfl,h.hs (.c r2 .n),?_⟩
 refine go h λw h=>?_
 refine cl (ci (S.sG h a0) rfl rfl) ((Um S (s.alloc ({kind:=3}:Ct.Node) 0).1 h.to hs).mono ?_)
 rintro _ w ⟨rfl,h⟩
 have hs:=hs.gen
 refine⟨_,rfl,?_⟩
 refine go h λw h=>?_
 refine dZ [1,3,5,9,11,13,6,14,16] (by kernel_rfl) h (.c r2 .n) λw h=>go h λw h=>?_
 refine gO (nA _ h.to) λw h=>?_
 refine cs (ci (S.sA h a0) rfl rfl) ((cQ S (s.alloc ({kind:=3}:Ct.Node) 0).1.bS.1 ({kind:=2,gen:=(s.alloc ({kind:=3}:Ct.Node) 0).1.bS.2}:Ct.Node) {} (s.alloc ({kind:=3}:Ct.Node) 0).2 (SH.eE ({kind:=2,gen:=(s.alloc ({kind:=3}:Ct.Node) 0).1.bS.2}:Ct.Node) rfl rfl h.to) hs (Ct.bG _ 2 (s.alloc ({kind:=3}:Ct.Node) 0).1.bS.2 0 0 0)).mono ?_)
 rintro _ w ⟨rfl,h⟩
 have hs:=hs.alloc (Ct.bG _ 2 (s.alloc ({kind:=3}:Ct.Node) 0).1.bS.2 0 0 0) (s.alloc ({kind:=3}:Ct.Node) 0).2
 refine⟨_,rfl,h.hs (.c r2 .n),?_⟩
 refine go h λw h=>?_
 have h:=h.eT a2
 have h:=h.fr (.c r0 .n)
 have h:=Me (j:=60) (S:=S) (F:=dW) (n:=m) (args:=dV) (k:=(λok_b=>bif !ok_b then Ct.iT t N else .ret {found:=true})) (v:=(.fn 88 [] [↑cb0])) [rb cb0 ([S.v,↑t.root,↑t.readOnly]) 87] h λm' hm' B' w' L' s' x' h' hs'=>pR eF (DP S N m (λj hj=>hrec j (lK hj hm)) cb0 t (oD hm') x' s' h' (hs'.less (by decide)))
 refine cl (ca eF rfl) ((Li S dW t r x ((s.alloc ({kind:=3}:Ct.Node) 0).1.bS.1.alloc ({kind:=2,gen:=(s.alloc ({kind:=3}:Ct.Node) 0).1.bS.2}:Ct.Node) (s.alloc ({kind:=3}:Ct.Node) 0).2).2 (.fn 88 [] [↑cb0]) (λok_b=>bif !ok_b then Ct.iT t N else .ret {found:=true}) m ((s.alloc ({kind:=3}:Ct.Node) 0).1.bS.1.alloc ({kind:=2,gen:=(s.alloc ({kind:=3}:Ct.Node) 0).1.bS.2}:Ct.Node) (s.alloc ({kind:=3}:Ct.Node) 0).2).1 (h.fr (.c r0 (.c r0 .n))) (hs.less (by decide))).mono ?_)
 rintro _ w ⟨s2,t3,c4,hq5,rfl,h⟩
 refine⟨_,rfl,?_⟩
 refine sf (so h rfl rfl rfl kN (eO _) (.r (.r (.r (.r (.r (.r (.r (.r (.r (.r (.r (.r (.r (.r .d)))))))))))))) u2)<|?_
 rintro _ w h
 refine xe<|nx<|rt<|?_
 refine rc h ?_
 exact fI (qA (qG (qA (hq5)))) h.to
theorem Zv(S:dN)(N n:Nat)(hrec:∀j,j<=n->oS S N j)(cb0:Nat)(t:Ct.bC){m:Nat}(hm:m<=n)(x:Int)(s:Ct.St)(h:SH B w (rb cb0 ([S.v,↑t.root,↑t.readOnly]) 87::S.a s::L))(hs:Ct.Rm 60 s):
  Calls prog 82 #[↑x,↑cb0] w λe w'=>CP S dW m B ((λr_b=>Ct.mM t r_b λm0_b=>.alloc {kind:=3} 0 λc_b=>.gen λg_b=>.alloc {kind:=2,gen:=g_b} c_b λi_b=>Ct.lD t r_b m0_b i_b λok_b=>bif !ok_b then Ct.iT t N else .ret {found:=true}) x) s L e w':=by
 refine bZ func82 ntmps82 h λw h=>?_
 refine jX h λb1 w h=>?_
 refine jA h λb2 w h=>?_
 have h:=SH.kX (h.fr (.c r1 .n))
 refine go h λw h=>?_
 have h:=h.eT a0
 have h:=h.eT a3
 have h:=h.fr (.c r0 (.c r0 .n))
 have h:=Me (j:=60) (S:=S) (F:=dW) (n:=m) (args:=dQ) (k:=(λm0_b=>.alloc {kind:=3} 0 λc_b=>.gen λg_b=>.alloc {kind:=2,gen:=g_b} c_b λi_b=>Ct.lD t x m0_b i_b λok_b=>bif !ok_b then Ct.iT t N else .ret {found:=true})) (v:=(.fn 84 [] [↑cb0,↑b1])) [rb cb0 ([S.v,↑t.root,↑t.readOnly]) 87,rb b1 ([↑x]) 39] h λm' hm' B' w' L' s' x' h' hs'=>pR eF (AT S N m (λj hj=>hrec j (lK hj hm)) cb0 b1 t x (oD hm') x' s' h' (hs'.less (by decide)))
 refine cl (ca eF rfl) ((jZ S dW t x (.fn 84 [] [↑cb0,↑b1]) (λm0_b=>.alloc {kind:=3} 0 λc_b=>.gen λg_b=>.alloc {kind:=2,gen:=g_b} c_b λi_b=>Ct.lD t x m0_b i_b λok_b=>bif !ok_b then Ct.iT t N else .ret {found:=true}) m s (h.fr (.c r0 (.c r3 .n))) (hs.less (by decide))).mono ?_)
 rintro _ w ⟨s3,t4,c5,hq6,rfl,h⟩
 refine⟨_,rfl,?_⟩
 refine sf (so h rfl rfl rfl kN (eO _) (.r (.r (.r (.r (.r (.r (.r (.r (.r (.r (.r (.r (.r (.r .d)))))))))))))) u3)<|?_
 rintro _ w h
 refine xe<|nx<|rt<|?_
 refine go h λw h=>?_
 refine rr (bP rfl rfl (h.b a3) Row.h) ?_
 exact fI (hq6) h.to
theorem vA(S:dN)(N n:Nat)(hrec:∀j,j<n->oS S N j)(t:Ct.bC)(s:Ct.St)(h:SH B w (S.a s::L))(hs:Ct.Rm 30 s):
  Calls prog 41 #[.agg [S.v,↑t.root,↑t.readOnly].toArray] w λe w'=>CP S dW n B (Ct.iT t (N+1)) s L e w':=by
 refine bZ func41 ntmps41 h λw h=>?_
 refine jX h λb1 w h=>?_
 refine jA h λb2 w h=>?_
 have h:=SH.kX (h.fr (.c r1 .n))
 refine go h λw h=>?_
 have h:=h.eT a0
 have h:=h.fr (.c r0 .n)
 have h:=Me (j:=60) (S:=S) (F:=dW) (n:=n) (args:=dQ) (k:=(λr_b=>Ct.mM t r_b λm0_b=>.alloc {kind:=3} 0 λc_b=>.gen λg_b=>.alloc {kind:=2,gen:=g_b} c_b λi_b=>Ct.lD t r_b m0_b i_b λok_b=>bif !ok_b then Ct.iT t N else .ret {found:=true})) (v:=(.fn 82 [] [↑b1])) [rb b1 ([S.v,↑t.root,↑t.readOnly]) 87] h λm' hm' B' w' L' s' x' h' hs'=>pR eF (Zv S N m' (λj hj=>hrec j (Ft hj hm')) b1 t (bD _) x' s' h' (hs'.less (by decide)))
 refine cl (ca eF rfl) ((zO S dW t (.fn 82 [] [↑b1]) (λr_b=>Ct.mM t r_b λm0_b=>.alloc {kind:=3} 0 λc_b=>.gen λg_b=>.alloc {kind:=2,gen:=g_b} c_b λi_b=>Ct.lD t r_b m0_b i_b λok_b=>bif !ok_b then Ct.iT t N else .ret {found:=true}) n s (h.fr (.c r0 (.c r2 .n))) (hs.less (by decide))).mono ?_)
 rintro _ w ⟨s3,t4,c5,hq6,rfl,h⟩
 refine⟨_,rfl,?_⟩
 refine sf (so h rfl rfl rfl kN (eO _) (.r (.r (.r (.r (.r (.r (.r (.r (.r (.r (.r (.r (.r (.r .d)))))))))))))) u3)<|?_
 rintro _ w h
 refine xe<|nx<|rt<|?_
 refine go h λw h=>?_
 refine rr (bP rfl rfl (h.b a3) Row.h) ?_
 exact fI (hq6) h.to
theorem Eo(S:dN):∀(N n:Nat),n<=N->oS S (N+1) n
 |0,n,hn=>λt B w L s h hs=>vA S 0 n (λj hj=>by omega) t s h hs
 |N+1,n,hn=>λt B w L s h hs=>vA S (N+1) n (λj hj=>Eo S N j (by omega)) t s h hs
theorem AG(S:dN)(N n:Nat)(hrec:∀j,j<=n->oS S N j)(cb0:Nat)(t:Ct.bC){m:Nat}(hm:m<=n)(s:Ct.St)(h:SH B w (rb cb0 ([S.v,↑t.root,↑t.readOnly]) 87::S.a s::L))(hs:Ct.Rm 60 s):
  Calls prog 40 #[↑cb0] w λe w'=>CP S dW m B ((λ_=>Ct.iT t N) ()) s L e w':=by
 refine bZ func40 ntmps40 h λw h=>?_
 refine jA h λb1 w h=>?_
 refine cl (ca eF rfl) ((hrec m hm t _ _ _ s (h.fr (.c r2 .n)) (hs.less (by decide))).mono ?_)
 rintro _ w ⟨s2,t3,c4,hq5,rfl,h⟩
 refine⟨_,rfl,?_⟩
 refine sf (so h rfl rfl rfl kN (eO _) (.r (.r (.r (.r (.r (.r (.r (.r (.r (.r (.r (.r (.r (.r .d)))))))))))))) u2)<|?_
 rintro _ w h
 refine xe<|nx<|rt<|?_
 refine go h λw h=>?_
 refine rr (bP rfl rfl (h.b a2) Row.h) ?_
 exact fI (hq5) h.to
theorem Ep(S:dN)(N:Nat)(t:Ct.bC)(s:Ct.St)(h:SH B w (S.a s::L))(hs:Ct.Rm 60 s):
  Calls prog 14 #[S.v,.agg [↑t.root,↑t.readOnly].toArray] w λe w'=>∃tb s' u,(Ct.iT t (N+1)).head s=(s',u)/\e=.returned (.pointer (some ⟨tb,0,none⟩))/\SH B w' (eN S N tb u 0::S.a s'::L):=by
 refine bZ func14 ntmps14 h λw h=>?_
 refine jX h λb1 w h=>?_
 refine jA h λb2 w h=>?_
 have h:=SH.kX (h.fr (.c r0 .n))
 refine go h λw h=>?_
 have h:=h.eT a0
 have h:=h.fr (.c r0 .n)
 have h:=YZ (S:=S) (F:=dW) (n:=N) (j:=60) (args:=qI) (k:=(λ_=>Ct.iT t (N+1))) (v:=(.fn 40 [] [↑b2])) [rb b2 ([S.v,↑t.root,↑t.readOnly]) 87] h λB' w' L' s' x' h' hs'=>pR eF (AG S (N+1) N (Eo S N) b2 t (bD _) s' h' hs')
 refine cl (ca eF rfl) ((Ht S N (.fn 40 [] [↑b2]) (λ_=>Ct.iT t (N+1)) s (h.fr (.c r0 (.c r2 .n))) (hs.less (by decide))).mono ?_)
 rintro _ w ⟨tb3,s4,uz5,hq6,rfl,h⟩
 refine⟨_,rfl,?_⟩
 refine st (sg rfl)<|xe<|nx<|rt<|?_
 refine go h λw h=>?_
 exact rz ⟨tb3,s4,uz5,hq6,rfl,h.to⟩
end Go.Proofs.YtopelgiooccobaaGreat
end
section
namespace Go.Ct
variable{g:Ga}
structure Px where
 tb:Nat:=0
 xb:Nat:=0
 k:Nat:=0
 e:Ex:={}
 u:I Result:=.ret {}
structure Ub(i:Nat)(g:Ga)(s:St)(ys:List Px):Prop where
 gw:GW g
 PI:nZ g s
 fit:eK s
 ex:∀z∈ys,z.e.eG.length=z.k/\z.k<=i/\∃u',Er g z.e z.u u'
 size:s.size<=38000000000+200000*i
theorem Er.same{e:Ex}{u u':I Result}(h:Er g e u u'):e.done=u.ended.isSome/\(u.ended=none->e.next=u.acc)/\∀r,u.ended=some r->e.result=r:=by
 obtain⟨h1,h2⟩:=h.sh.acc
 exact⟨by rw[h.rest.done,<- h2],λq=>by rw[h.rest.next (by rw[<- h2];exact q),h1],λr q=>h.rest.A6 r (by rw[<- h2];exact q)⟩
theorem Ub.ready{i:Nat}{s:St}{ys:List Px}(h:Ub i g s ys)(hi:i<=1000){z:Px}(hz:z∈ys):Ok 60 (cD 1 ⟨z.e,s⟩)/\(cD 1 ⟨z.e,s⟩).left<FU/\z.e.call.aI<18446744073709551616/\z.e.call.key.size<=9223372036854775807/\7<=z.e.call.kind/\z.e.call.kind<=12:=by
 obtain⟨h1,h2,u',hE⟩:=h.ex z hz
 have hs:=h.size
 obtain⟨a,b⟩:=hE.ready h.PI h.fit (by unfold room;omega)
 exact⟨a,b,hE.aI,hE.key,hE.ok.lo,hE.ok.hi⟩
def Px.next(z:Px)(s:St):Px:={z with k:=z.k+1,e:=(bX (bY z.e.call FU) 1 ⟨z.e,s⟩).e,u:=(z.u.step s).2}
theorem Ub.step{i j:Nat}{s:St}{ys:List Px}(h:Ub i g s ys)(hi:i<=1000)(hj:j<ys.length)(hd:ys[j].e.done=false)(hok:Ok 50 (bX (bY ys[j].e.call FU) 1 ⟨ys[j].e,s⟩)):
  ((ys[j].u).step s).1=(bX (bY ys[j].e.call FU) 1 ⟨ys[j].e,s⟩).s/\∃g',Ub (i+1) g' (bX (bY ys[j].e.call FU) 1 ⟨ys[j].e,s⟩).s (ys.set j (ys[j].next s)):=by
 obtain⟨h1,h2,u',hE⟩:=h.ex _ (qR hj)
 obtain⟨g',v,v',e1,k2,w2,t2,f2,E2,l2,b2,b3⟩:=hE.step h.gw h.PI h.fit hd (by unfold Cx;omega) hok
 have hs:=h.size
 refine⟨by rw[e1],g',w2,t2,f2,?_,by omega⟩
 intro z m
 rcases List.mem_or_eq_of_mem_set m with m|rfl
 ·obtain⟨a,b,q,c⟩:=h.ex z m
  exact⟨a,by omega,q,c.ge h.gw k2⟩
 ·refine⟨by show (bX (bY ys[j].e.call FU) 1 ⟨ys[j].e,s⟩).e.eG.length=ys[j].k+1;rw[l2,h1],by show ys[j].k+1<=i+1;omega,v',?_⟩
  show Er g' _ ((ys[j].u).step s).2 v'
  rw[e1];exact E2
theorem Ub.add{i tb xb:Nat}{s:St}{ys:List Px}{c:Call}(h:Ub i g s ys)(hs:s.size+1000<=38000000000)(hc:kZ g c)(hm:c.aI<18446744073709551616)(hk:c.key.size<=9223372036854775807)(hok:Ok 50 (bX (bY c FU) 0 ⟨{call:=c},s⟩)):
  ∃g' u,(mS c FU).head s=((bX (bY c FU) 0 ⟨{call:=c},s⟩).s,u)/\Ge g g'/\(bX (bY c FU) 0 ⟨{call:=c},s⟩).s.size<=s.size+120/\Ub i g' (bX (bY c FU) 0 ⟨{call:=c},s⟩).s (ys++[{tb:=tb,xb:=xb,e:=(bX (bY c FU) 0 ⟨{call:=c},s⟩).e,u:=u}]):=by
 obtain⟨g',u,u',h1,h2,h3,h4,h5,h6,h7,h8,h9,h10⟩:=Er.start h.gw h.PI h.fit hc hm hk hok
 refine⟨g',u,h1,h2,h8,h3,h4,h5,?_,by omega⟩
 intro z m
 rcases List.mem_append.1 m with m|m
 ·obtain⟨a,b,q,c'⟩:=h.ex z m
  exact⟨a,b,q,c'.ge h.gw h2⟩
 ·rw[List.mem_singleton.1 m]
  exact⟨by show (bX (bY c FU) 0 ⟨{call:=c},s⟩).e.eG.length=0;rw[h7];rfl,dF _,u',h6⟩
theorem nZ.acc{s:St}(h:nZ g s)(a:Nat):nZ g {s with acc:=a}:=⟨h.nodes,h.gen,h.len,h.holds,h.dec⟩
theorem Lc.M7{s:St}{ts:List bC}{zs:List (Nat×Ex)}(h:Lc 36 g s ts zs):Ub 0 g {s with acc:=0} []/\({s with acc:=0}:St).size+500<=37100000000:=by
 have hs:=h.size
 have:({s with acc:=0}:St).size<=s.size:=by unfold St.size;dsimp only;omega
 exact⟨⟨h.gw,h.PI.acc 0,h.fit,(λz m=>by cases m),by omega⟩,by omega⟩
end Go.Ct
end
