/- Parts of a proof: Ayg, Pt, Ayh, Cw, Lp. -/
import Derived.Test.YtnhdmcipglnkfaaGreatW34
set_option linter.unusedVariables false
set_option linter.unusedSimpArgs false
set_option maxRecDepth 100000
set_option maxHeartbeats 4000000
section
namespace Go.Q9
open Go.Proofs.Tryz
open Go.E
theorem k6:fo prog 102 1=some 1:=by kernel_rfl
theorem KV:fo prog 102 2=some 15:=by kernel_rfl
theorem LB:fo prog 102 3=some 16:=by kernel_rfl
end Go.Q9
end
section
namespace Go.Q9
open Go.Proofs.Tryz
open Go.RowKit Go.E
attribute [local irreducible] gB wpS Go.E.X XS C jU kP fin Y U F Ca jT bl rb aU bV ex ce pu sK gK bK zK gM fO dH gP nE rD
variable{B w:World}{L:List As}
theorem Aa(S:dN)(tb:Nat)(c:Cc)(k:Nat)(b:Bool)(h:SH B w (bl tb (oI S c k b) 102::L)):
  Calls prog 18 #[↑tb] w λe w'=>e=.returned (.bool (c.kind==0))/\SH B w' (bl tb (oI S c k b) 102::L):=by
 refine bZ func18 ntmps18 h λw h=>?_
 exact rz ⟨rfl,h⟩
theorem KA(S:dN)(tb:Nat)(c:Cc)(k:Nat)(b:Bool)(h:SH B w (bl tb (oI S c k b) 102::L)):
  Calls prog 13 #[↑tb] w λe w'=>e=.returned (.agg (Mf (if(c.kind==0)=true then c.r else{})).toArray)/\SH B w' (bl tb (oI S c k b) 102::L):=by
 refine bZ func13 ntmps13 h λw h=>?_
 refine jA h λb1 w h=>?_
 refine bA (Aa S _ c _ _ h.to) λw h=>?_
 refine qc h (λhd2 w h=>?_) λhd2 w h=>?_
 ·have hd3:((c.kind:Int)==0)=false:=(lC _).mp hd2
  have hg4:=dP hd3
  refine go h λw h=>?_
  refine rr (bP rfl rfl (h.b a1) Row.h) ?_
  refine⟨?_,h.to⟩
  rw[hd3];rfl
 ·have hd5:((c.kind:Int)==0)=true:=(bI _).mp hd2
  have hg6:=eq_of_beq hd5
  refine go h λw h=>?_
  refine st (gJ (cs:=[↑c.r.err,↑c.r.found,.int .u64 (c.r.value:Int),↑c.r.key,↑c.r.count,↑c.r.ref,↑c.r.aE.root,↑c.r.aE.readOnly]) rfl (Ek (h.b a0) 7 rfl) Row.h)<|go h λw h=>?_
  refine rr (bP rfl rfl (h.b a1) Row.h) ?_
  refine⟨?_,h.to⟩
  rw[hd5];rfl
theorem RJ(S:dN)(hM:∀w,Rl S.t S.x S.ab w)(n tb:Nat)(u:Ct.I Ct.Result)(c:Cc)(k:Nat)(s:Ct.St)(h:SH B w (bl tb (oI S c k false) 102::nE S dW (n+1) u c::S.a s::L))(hs:Ct.Rm 101 s)(hu:u.ended=none)(hd:(c.kind==0)=false)(hk:k<=9000000000000000000):
  Calls prog 45 #[↑tb] w λe w'=>∃s' u' c',u.step s=(s',u')/\e=.returned (.tuple #[])/\SH B w' (bl tb (oI S c' (k+1) false) 102::nE S dW n u' c'::S.a s'::L):=by
 refine bZ func45 ntmps45 h λw h=>?_
 refine cl (ca eF rfl) ((Aa S tb c k false (h.fr (.c r0 .n))).mono ?_)
 rintro _ w ⟨rfl,h⟩
 refine⟨_,rfl,?_⟩
 refine st (mv rfl)<|gT rfl rfl hd<|st (mv rfl)<|gT rfl rfl hd<|st (nc rfl rfl)<|gT rfl rfl hd<|st (fa LB rfl)<|gT rfl rfl hd<|st (ld xN rfl (h.c a0 rfl))<|st (pF rfl hd rfl)<|xe<|nx<|cF rfl<|sk<|nx<|sq<|rg<|st (mv rfl)<|st (nc rfl rfl)<|st (fa LB rfl)<|?_
 refine sf (so h rfl rfl rfl AU rfl (.s (.s (.s (.s (.s (.s (.s (.s (.s (.s (.s (.s (.s (.s (.s (.s (.r .d))))))))))))))))) u0)<|?_
 rintro _ w h
 refine xe<|nx<|sq<|rg<|st (mv rfl)<|st (nc rfl rfl)<|st (fa KV rfl)<|st (ld jE rfl (h.c a0 rfl))<|st (bw rfl rfl (gN (c:=((k+1:Nat):Int)) (by omega) (by omega) (by omega)))<|st (nc rfl rfl)<|st (fa KV rfl)<|?_
 refine sf (so h rfl rfl rfl Bf rfl (.s (.s (.s (.s (.s (.s (.s (.s (.s (.s (.s (.s (.s (.s (.s (.r .d)))))))))))))))) u0)<|?_
 rintro _ w h
 refine xe<|nx<|sq<|?_
 refine Uc (F:=[bl tb ([S.v,↑c.kind,↑c.cell,↑c.dC,↑c.new,c.ld.val,c.tr.val,↑c.r.err,↑c.r.found,.int .u64 (c.r.value:Int),↑c.r.key,↑c.r.count,↑c.r.ref,↑c.r.aE.root,↑c.r.aE.readOnly,.int .i64 ((k+1:Nat):Int),↑true]) 102]) [(true,[1,3,5,7,9,11,13,15,17,18,21,23]),(false,[24])] (by kernel_rfl) h (λw h=>(hC (h.at_ a0) hN)) λw h=>go h λw h=>?_
 refine tk (λW H=>gJ (cs:=[↑c.kind,↑c.cell,↑c.dC,↑c.new,c.ld.val,c.tr.val,↑c.r.err,↑c.r.found,.int .u64 (c.r.value:Int),↑c.r.key,↑c.r.count,↑c.r.ref,↑c.r.aE.root,↑c.r.aE.readOnly]) rfl (Ek (H.b a0) 1 rfl) Row.h)<|go h λw h=>?_
 refine Zs (Tf S hM _ u c _ h.to hs hu) λs1 uz2 c3 hq4 w h=>?_
 refine rn (rK results45)<|go h λw h=>?_
 refine⟨s1,uz2,c3,hq4,rfl,h.to⟩
theorem Ht(S:dN)(n:Nat)(th:Fv)(k:Unit->Ct.I Ct.Result)(s:Ct.St)(h:SH B w (gP S dW n 60 qI k th::S.a s::L))(hs:Ct.Rm 60 s):
  Calls prog 36 #[S.v,th.val] w λe w'=>∃tb s' u,(k ()).head s=(s',u)/\e=.returned (.pointer (some ⟨tb,0,none⟩))/\SH B w' (oQ S n tb u 0::S.a s'::L):=by
 refine bZ func36 ntmps36 h λw h=>?_
 refine jX h λb1 w h=>?_
 refine cl (ca eF rfl) ((Lz S dW n th k s (h.fr (.c r1 (.c r1 .n))) hs).mono ?_)
 rintro _ w ⟨s2,uz3,c4,hq5,rfl,h⟩
 refine⟨_,rfl,?_⟩
 refine st (nc rfl rfl)<|st (fa k6 rfl)<|?_
 refine sf (so h rfl rfl rfl kN (eO _) (.s (.r (.r (.r (.r (.r (.r (.r (.r (.r (.r (.r (.r (.r (.r .d))))))))))))))) u2)<|?_
 rintro _ w h
 refine xe<|nx<|sq<|rg<|st (mv rfl)<|st (sg rfl)<|xe<|nx<|rt<|?_
 refine go h λw h=>?_
 refine rz ?_
 have h:=(h.fr (.c r2 (.c r0 (.c r0 .n))))
 exact⟨b1,s2,uz3,hq5,rfl,SH.dU c4 (SH.is (l:=[bl b1 (oI S c4 0 false) 102,nE S dW n uz3 c4]) h)⟩
theorem SH.to{S:dN}{n tb k:Nat}{u:Ct.I Ct.Result}(h:SH B w (oQ S n tb u k::L)):∃c,SH B w (bl tb (oI S c k false) 102::nE S dW n u c::L):=by
 obtain⟨c,h⟩:=SH.ex (f:=λc:Cc=>Go.E.se [bl tb (oI S c k false) 102,nE S dW n u c]) h
 exact⟨c,SH.se h⟩
theorem SH.ti{S:dN}{n tb k:Nat}{u:Ct.I Ct.Result}{c:Cc}(h:SH B w (bl tb (oI S c k false) 102::nE S dW n u c::L)):SH B w (oQ S n tb u k::L):=
 SH.dU (f:=λc:Cc=>Go.E.se [bl tb (oI S c k false) 102,nE S dW n u c]) c (SH.is (l:=[_,_]) h)
theorem Ew(S:dN)(n tb k:Nat)(u:Ct.I Ct.Result)(h:SH B w (oQ S n tb u k::L)):
  Calls prog 13 #[↑tb] w λe w'=>e=.returned (.agg (Mf (u.ended.getD {})).toArray)/\SH B w' (oQ S n tb u k::L):=by
 obtain⟨c,h⟩:=SH.to h
 have hc:=uD (h.fr (.c r1 .n))
 refine(KA S tb c k false h).mono ?_
 rintro e w' ⟨rfl,h⟩
 refine⟨?_,SH.ti h⟩
 cases he:u.ended with
 |none=>rw[hc.1,he];rfl
 |some r=>rw[hc.1,he,hc.2.2.2.2.2 r he];rfl
theorem Om(S:dN)(hM:∀w,Rl S.t S.x S.ab w)(n tb k:Nat)(u:Ct.I Ct.Result)(s:Ct.St)(h:SH B w (oQ S (n+1) tb u k::S.a s::L))(hs:Ct.Rm 101 s)(hu:u.ended=none)(hk:k<=9000000000000000000):
  Calls prog 45 #[↑tb] w λe w'=>e=.returned (.tuple #[])/\SH B w' (oQ S n tb (u.step s).2 (k+1)::S.a (u.step s).1::L):=by
 obtain⟨c,h⟩:=SH.to h
 have hc:=uD (h.fr (.c r1 .n))
 refine(RJ S hM n tb u c k s h hs hu (by rw[hc.1,hu];rfl) hk).mono ?_
 rintro e w' ⟨s',u',c',hq,rfl,h⟩
 rw[hq]
 exact⟨rfl,SH.ti h⟩
section
attribute [local semireducible] nE gP rD dH
end
end Go.Q9
end
section
namespace Go.Q9
open Go.Proofs.Tryz
open Go.E
end Go.Q9
end
section
namespace Go.Q9
open Go.Proofs.Tryz
open Go.RowKit Go.E
attribute [local irreducible] gB wpS Go.E.X XS C jU kP fin Y U F Ca jT bl rb aU bV ex ce pu sK gK bK zK gM fO dH gP nE rD
open Go.Ct (qN qA qC qG qT qF)
variable{B w:World}{L:List As}
theorem Gy(S:dN)[Full S](s:Ct.St)(m0:Int)(h:SH B w (S.a s::L))(hs:Ct.Rm 2 s):
  Calls prog 76 #[S.v,↑m0] w λe w'=>e=.returned (.int .i64 (s.bS.1.alloc {kind:=2,gen:=s.bS.2} m0).2)/\SH B w' (S.a (s.bS.1.alloc {kind:=2,gen:=s.bS.2} m0).1::L):=by
 refine bZ func76 ntmps76 h λw h=>?_
 refine cl (ci (S.sG h a0) rfl rfl) ((Um S s h.to hs).mono ?_)
 rintro _ w ⟨rfl,h⟩
 have hs:=hs.gen
 refine⟨_,rfl,?_⟩
 refine go h λw h=>?_
 refine dZ [1,3,7,9,11,13,4,14,16] (by kernel_rfl) h .n λw h=>go h λw h=>?_
 refine tk (λW H=>ncM rfl (naF S _))<|go h λw h=>?_
 refine gO (nA _ h.to) λw h=>?_
 refine cs (ci (S.sA h a0) rfl rfl) ((cQ S s.bS.1 ({kind:=2,gen:=s.bS.2}:Ct.Node) {} m0 (SH.eE ({kind:=2,gen:=s.bS.2}:Ct.Node) rfl rfl h.to) hs (Ct.bG _ 2 s.bS.2 0 0 0)).mono ?_)
 rintro _ w ⟨rfl,h⟩
 have hs:=hs.alloc (Ct.bG _ 2 s.bS.2 0 0 0) m0
 refine⟨_,rfl,h.hs .n,?_⟩
 refine go h λw h=>?_
 exact rz ⟨rfl,h⟩
theorem Ji(S:dN)[Full S](m0:Int)(n:Nat)(s:Ct.St)(h:SH B w (S.a s::L))(hs:Ct.Rm 30 s):
  Calls prog 42 #[S.v,↑m0] w λe w'=>CP S dW n B (Ct.Bt m0) s L e w':=by
 refine bZ func42 ntmps42 h λw h=>?_
 refine jA h λb1 w h=>?_
 refine cl (ca eF rfl) ((Gy S s m0 (h.fr (.c r1 .n)) (hs.less (by decide))).mono ?_)
 rintro _ w ⟨rfl,h⟩
 have hs:=hs.gen.alloc (Ct.bG _ 2 s.bS.2 0 0 0) m0
 refine⟨_,rfl,?_⟩
 refine st (sg rfl)<|xe<|nx<|sq<|rg<|st (mv rfl)<|st (mv rfl)<|?_
 refine go h λw h=>?_
 refine cl (ci (S.sC h a0) rfl rfl) ((zU S (s.bS.1.alloc {kind:=2,gen:=s.bS.2} m0).1 (s.bS.1.alloc {kind:=2,gen:=s.bS.2} m0).2 h.to hs).mono ?_)
 rintro _ w ⟨rfl,h⟩
 have hs:=hs.cell (s.bS.1.alloc {kind:=2,gen:=s.bS.2} m0).2
 refine⟨_,rfl,?_⟩
 refine go h λw h=>?_
 refine cl (ca eF rfl) ((gV ({found:=true,aE:={root:=((s.bS.1.alloc {kind:=2,gen:=s.bS.2} m0).1.aV (s.bS.1.alloc {kind:=2,gen:=s.bS.2} m0).2).2}}:Ct.Result) (h.fr .n)).mono ?_)
 rintro _ w ⟨rfl,h⟩
 refine⟨_,rfl,?_⟩
 refine sf (so h rfl rfl rfl kN (eO _) (.r (.r (.r (.r (.r (.r (.r (.r (.r (.r (.r (.r (.r (.r .d)))))))))))))) u1)<|?_
 rintro _ w h
 refine xe<|nx<|rt<|?_
 refine go h λw h=>?_
 refine rr (bP rfl rfl (h.b a1) Row.h) ?_
 have h:=kD (S:=S) (n:=n) (r:=({found:=true,aE:={root:=((s.bS.1.alloc {kind:=2,gen:=s.bS.2} m0).1.aV (s.bS.1.alloc {kind:=2,gen:=s.bS.2} m0).2).2}}:Ct.Result)) h
 exact fI (qG (qA (qC rfl))) h.to
theorem Jh(S:dN)[Full S](r:Int)(n:Nat)(s:Ct.St)(h:SH B w (S.a s::L))(hs:Ct.Rm 30 s):
  Calls prog 91 #[S.v,↑r] w λe w'=>CP S dW n B (Ct.Gd r) s L e w':=by
 refine bZ func91 ntmps91 h λw h=>?_
 refine jA h λb1 w h=>?_
 refine cl (ci (S.sC h a1) rfl rfl) ((zU S s r h.to hs).mono ?_)
 rintro _ w ⟨rfl,h⟩
 have hs:=hs.cell r
 refine⟨_,rfl,?_⟩
 refine go h λw h=>?_
 refine cl (ca eF rfl) ((gV ({found:=true,aE:={root:=(s.aV r).2,readOnly:=true}}:Ct.Result) (h.fr .n)).mono ?_)
 rintro _ w ⟨rfl,h⟩
 refine⟨_,rfl,?_⟩
 refine sf (so h rfl rfl rfl kN (eO _) (.r (.r (.r (.r (.r (.r (.r (.r (.r (.r (.r (.r (.r (.r .d)))))))))))))) u1)<|?_
 rintro _ w h
 refine xe<|nx<|rt<|?_
 refine go h λw h=>?_
 refine rr (bP rfl rfl (h.b a1) Row.h) ?_
 have h:=kD (S:=S) (n:=n) (r:=({found:=true,aE:={root:=(s.aV r).2,readOnly:=true}}:Ct.Result)) h
 exact fI (qC rfl) h.to
def vX(S:dN)[Full S](N n:Nat):Prop:=∀(t:Ct.bC) (th:Fv) (k:Int×Int->Ct.I Ct.Result) (B w:World) (L:List As) (s:Ct.St),SH B w (rD S dW n 60 Fu k th::S.a s::L)->Ct.Rm 30 s->
 Calls prog 43 #[.agg [S.v,↑t.root,↑t.readOnly].toArray,th.val] w λe w'=>CP S dW n B (Ct.Gb t (λa b=>k (a,b)) N) s L e w'
theorem HX(S:dN)[Full S](N n:Nat)(hrec:∀j,j<=n->vX S N j)(cb0 cb1 cb2 cb3:Nat)(t:Ct.bC)(thk:Fv)(k:Int×Int->Ct.I Ct.Result)(r:Int)(m0:Int){m:Nat}(hm:m<=n)(ok:Bool)(s:Ct.St)(h:SH B w (rb cb0 ([S.v,↑t.root,↑t.readOnly]) 87::rb cb1 [thk.val] 99::rb cb2 ([↑r]) 44::rb cb3 ([↑m0]) 44::gP S dW n 60 Fu k thk::S.a s::L))(hs:Ct.Rm 60 s):
  Calls prog 82 #[↑ok,↑cb0,↑cb1,↑cb2,↑cb3] w λe w'=>CP S dW m B ((λok_b=>bif !ok_b then Ct.Gb t (λa b=>k (a,b)) N else k (r,m0)) ok) s L e w':=by
 have h:=eR hm (JV _) (h.fr (.c r4 .n))
 refine bZ func82 ntmps82 h λw h=>?_
 refine jA h λb1 w h=>?_
 refine qc h (λhd2 w h=>?_) λhd2 w h=>?_
 have hd3:ok=false:=(lC _).mp hd2
 refine go h λw h=>?_
 have h:=Rj (j:=60) (by decide) (h.fr (.c r1 .n))
 refine fQ (hrec m hm t thk k _ _ _ s h.to (hs.less (by decide))) λs4 t5 c6 hq7 w h=>?_
 refine rr (bP rfl rfl (h.b a2) Row.h) ?_
 exact fI (qT hd2 (hq7)) h.to
 have hd8:ok=true:=(bI _).mp hd2
 refine go h λw h=>?_
 refine PM rfl rfl ((mA (h.fr (.c r1 (.c r5 .n))) (hs.less (by decide)) (r,m0)).mono ?_)
 rintro _ w ⟨s9,t10,c11,hq12,rfl,h⟩
 refine⟨_,rfl,?_⟩
 refine go h λw h=>?_
 refine rr (bP rfl rfl (h.b a2) Row.h) ?_
 exact fI (qF hd2 (hq12)) h.to
theorem KC(S:dN)[Full S](N n:Nat)(hrec:∀j,j<=n->vX S N j)(cb0 cb1 cb2:Nat)(t:Ct.bC)(r:Int)(thk:Fv)(k:Int×Int->Ct.I Ct.Result){m:Nat}(hm:m<=n)(x:Int)(s:Ct.St)(h:SH B w (rb cb0 ([S.v,↑t.root,↑t.readOnly]) 87::rb cb1 ([↑r]) 44::rb cb2 [thk.val] 99::gP S dW n 60 Fu k thk::S.a s::L))(hs:Ct.Rm 60 s):
  Calls prog 80 #[↑x,↑cb0,↑cb1,↑cb2] w λe w'=>CP S dW m B ((λm0_b=>.gen λg_b=>.alloc {kind:=2,gen:=g_b} m0_b λi_b=>Ct.lD t r m0_b i_b λok_b=>bif !ok_b then Ct.Gb t (λa b=>k (a,b)) N else k (r,m0_b)) x) s L e w':=by
 have h:=eR hm (JV _) (h.fr (.c r3 .n))
 refine bZ func80 ntmps80 h λw h=>?_
 refine jX h λb1 w h=>?_
 refine jA h λb2 w h=>?_
 refine cl (ca eF rfl) ((Gy S s x (h.fr (.c r6 .n)) (hs.less (by decide))).mono ?_)
 rintro _ w ⟨rfl,h⟩
 have hs:=hs.gen.alloc (Ct.bG _ 2 s.bS.2 0 0 0) x
 refine⟨_,rfl,?_⟩
 refine st (sg rfl)<|xe<|nx<|sq<|?_
 refine go h λw h=>?_
 have h:=SH.kX (h.fr (.c r2 .n))
 refine go h λw h=>?_
 have h:=h.eT a0
 have h:=h.eT a6
 have h:=h.eT a8
 have h:=h.eT a7
 have h:=h.fr (.c r0 (.c r0 (.c r0 (.c r0 (.c r3 .n)))))
 have h:=Me (j:=60) (S:=S) (F:=dW) (n:=m) (args:=dV) (k:=(λok_b=>bif !ok_b then Ct.Gb t (λa b=>k (a,b)) N else k (r,x))) (v:=(.fn 82 [] [↑cb0,↑cb2,↑cb1,↑b1])) [rb cb0 ([S.v,↑t.root,↑t.readOnly]) 87,rb cb2 [thk.val] 99,rb cb1 ([↑r]) 44,rb b1 ([↑x]) 44,gP S dW m 60 Fu k thk] h λm' hm' B' w' L' s' x' h' hs'=>pR eF (HX S N m (λj hj=>hrec j (lK hj hm)) cb0 cb2 cb1 b1 t thk k r x (Dj hm') x' s' h' (hs'.less (by decide)))
 refine cl (ca eF rfl) ((Li S dW t r x (s.bS.1.alloc {kind:=2,gen:=s.bS.2} x).2 (.fn 82 [] [↑cb0,↑cb2,↑cb1,↑b1]) (λok_b=>bif !ok_b then Ct.Gb t (λa b=>k (a,b)) N else k (r,x)) m (s.bS.1.alloc {kind:=2,gen:=s.bS.2} x).1 (h.fr (.c r0 (.c r1 .n))) (hs.less (by decide))).mono ?_)
 rintro _ w ⟨s3,t4,c5,hq6,rfl,h⟩
 refine⟨_,rfl,?_⟩
 refine sf (so h rfl rfl rfl kN (eO _) (.r (.r (.r (.r (.r (.r (.r (.r (.r (.r (.r (.r (.r (.r .d)))))))))))))) u3)<|?_
 rintro _ w h
 refine xe<|nx<|rt<|?_
 refine go h λw h=>?_
 refine rr (bP rfl rfl (h.b a3) Row.h) ?_
 exact fI (qG (qA (hq6))) h.to
theorem GM(S:dN)[Full S](N n:Nat)(hrec:∀j,j<=n->vX S N j)(cb0 cb1:Nat)(t:Ct.bC)(thk:Fv)(k:Int×Int->Ct.I Ct.Result){m:Nat}(hm:m<=n)(x:Int)(s:Ct.St)(h:SH B w (rb cb0 ([S.v,↑t.root,↑t.readOnly]) 87::rb cb1 [thk.val] 99::gP S dW n 60 Fu k thk::S.a s::L))(hs:Ct.Rm 60 s):
  Calls prog 79 #[↑x,↑cb0,↑cb1] w λe w'=>CP S dW m B ((λr_b=>Ct.mM t r_b λm0_b=>.gen λg_b=>.alloc {kind:=2,gen:=g_b} m0_b λi_b=>Ct.lD t r_b m0_b i_b λok_b=>bif !ok_b then Ct.Gb t (λa b=>k (a,b)) N else k (r_b,m0_b)) x) s L e w':=by
 have h:=eR hm (JV _) (h.fr (.c r2 .n))
 refine bZ func79 ntmps79 h λw h=>?_
 refine jX h λb1 w h=>?_
 refine jA h λb2 w h=>?_
 have h:=SH.kX (h.fr (.c r1 .n))
 refine go h λw h=>?_
 have h:=h.eT a4
 have h:=h.eT a1
 have h:=h.eT a5
 have h:=h.fr (.c r0 (.c r0 (.c r0 (.c r2 .n))))
 have h:=Me (j:=60) (S:=S) (F:=dW) (n:=m) (args:=dQ) (k:=(λm0_b=>.gen λg_b=>.alloc {kind:=2,gen:=g_b} m0_b λi_b=>Ct.lD t x m0_b i_b λok_b=>bif !ok_b then Ct.Gb t (λa b=>k (a,b)) N else k (x,m0_b))) (v:=(.fn 80 [] [↑cb0,↑b1,↑cb1])) [rb cb0 ([S.v,↑t.root,↑t.readOnly]) 87,rb b1 ([↑x]) 44,rb cb1 [thk.val] 99,gP S dW m 60 Fu k thk] h λm' hm' B' w' L' s' x' h' hs'=>pR eF (KC S N m (λj hj=>hrec j (lK hj hm)) cb0 b1 cb1 t x thk k (Dj hm') x' s' h' (hs'.less (by decide)))
 refine cl (ca eF rfl) ((jZ S dW t x (.fn 80 [] [↑cb0,↑b1,↑cb1]) (λm0_b=>.gen λg_b=>.alloc {kind:=2,gen:=g_b} m0_b λi_b=>Ct.lD t x m0_b i_b λok_b=>bif !ok_b then Ct.Gb t (λa b=>k (a,b)) N else k (x,m0_b)) m s (h.fr (.c r0 (.c r4 .n))) (hs.less (by decide))).mono ?_)
 rintro _ w ⟨s3,t4,c5,hq6,rfl,h⟩
 refine⟨_,rfl,?_⟩
 refine sf (so h rfl rfl rfl kN (eO _) (.r (.r (.r (.r (.r (.r (.r (.r (.r (.r (.r (.r (.r (.r .d)))))))))))))) u3)<|?_
 rintro _ w h
 refine xe<|nx<|rt<|?_
 refine go h λw h=>?_
 refine rr (bP rfl rfl (h.b a3) Row.h) ?_
 exact fI (hq6) h.to
theorem Gi(S:dN)[Full S](N n:Nat)(hrec:∀j,j<n->vX S N j)(t:Ct.bC)(thk:Fv)(k:Int×Int->Ct.I Ct.Result)(s:Ct.St)(h:SH B w (rD S dW n 60 Fu k thk::S.a s::L))(hs:Ct.Rm 30 s):
  Calls prog 43 #[.agg [S.v,↑t.root,↑t.readOnly].toArray,thk.val] w λe w'=>CP S dW n B (Ct.Gb t (λa b=>k (a,b)) (N+1)) s L e w':=by
 refine bZ func43 ntmps43 h λw h=>?_
 refine jX h λb1 w h=>?_
 refine sf (bx h rfl (lE _)) ?_
 rintro _ w ⟨b2,rfl,h⟩
 refine go h λw h=>?_
 refine jA h λb3 w h=>?_
 have h:=SH.kX (h.fr (.c r2 .n))
 have h:=SH.kX (h.fr (.c r2 .n))
 refine go h λw h=>?_
 have h:=h.eT a0
 have h:=h.eT a2
 have h:=h.fr (.c r0 (.c r0 (.c r3 .n)))
 have h:=Me (j:=60) (S:=S) (F:=dW) (n:=n) (args:=dQ) (k:=(λr_b=>Ct.mM t r_b λm0_b=>.gen λg_b=>.alloc {kind:=2,gen:=g_b} m0_b λi_b=>Ct.lD t r_b m0_b i_b λok_b=>bif !ok_b then Ct.Gb t (λa b=>k (a,b)) N else k (r_b,m0_b))) (v:=(.fn 79 [] [↑b1,↑b2])) [rb b1 ([S.v,↑t.root,↑t.readOnly]) 87,rb b2 [thk.val] 99,rD S dW n 60 Fu k thk] h λm' hm' B' w' L' s' x' h' hs'=>pR eF (GM S N m' (λj hj=>hrec j (fU hj hm')) b1 b2 t thk k (JV _) x' s' ((sB hm' (h'.fr (.c r2 .n))).fr (.c r1 (.c r1 (.c r0 .n)))) (hs'.less (by decide)))
 refine cl (ca eF rfl) ((zO S dW t (.fn 79 [] [↑b1,↑b2]) (λr_b=>Ct.mM t r_b λm0_b=>.gen λg_b=>.alloc {kind:=2,gen:=g_b} m0_b λi_b=>Ct.lD t r_b m0_b i_b λok_b=>bif !ok_b then Ct.Gb t (λa b=>k (a,b)) N else k (r_b,m0_b)) n s (h.fr (.c r0 (.c r3 .n))) (hs.less (by decide))).mono ?_)
 rintro _ w ⟨s4,t5,c6,hq7,rfl,h⟩
 refine⟨_,rfl,?_⟩
 refine sf (so h rfl rfl rfl kN (eO _) (.r (.r (.r (.r (.r (.r (.r (.r (.r (.r (.r (.r (.r (.r .d)))))))))))))) u4)<|?_
 rintro _ w h
 refine xe<|nx<|rt<|?_
 refine go h λw h=>?_
 refine rr (bP rfl rfl (h.b a4) Row.h) ?_
 exact fI (hq7) h.to
theorem Hc(S:dN)[Full S]:∀(N n:Nat),n<=N->vX S (N+1) n -- 43
 |0,n,hn=>λt th k B w L s h hs=>Gi S 0 n (λj hj=>by omega) t th k s h hs
 |N+1,n,hn=>λt th k B w L s h hs=>Gi S (N+1) n (λj hj=>Hc S N j (by omega)) t th k s h hs
theorem NG(S:dN)[Full S](cb0:Nat){n m:Nat}(hm:m<=n)(x:Int)(s:Ct.St)(h:SH B w (rb cb0 [S.v] 85::S.a s::L))(hs:Ct.Rm 60 s):
  Calls prog 41 #[↑x,↑cb0] w λe w'=>CP S dW m B ((Ct.Bt) x) s L e w':=by
 refine bZ func41 ntmps41 h λw h=>?_
 refine jA h λb1 w h=>?_
 refine cl (ca eF rfl) ((Ji S x m s (h.fr (.c r2 .n)) (hs.less (by decide))).mono ?_)
 rintro _ w ⟨s2,t3,c4,hq5,rfl,h⟩
 refine⟨_,rfl,?_⟩
 refine sf (so h rfl rfl rfl kN (eO _) (.r (.r (.r (.r (.r (.r (.r (.r (.r (.r (.r (.r (.r (.r .d)))))))))))))) u2)<|?_
 rintro _ w h
 refine xe<|nx<|rt<|?_
 refine go h λw h=>?_
 refine rr (bP rfl rfl (h.b a2) Row.h) ?_
 exact fI (hq5) h.to
theorem LO(S:dN)[Full S](cb0 cb1:Nat)(t:Ct.bC){n m:Nat}(hm:m<=n)(x:Int)(s:Ct.St)(h:SH B w (rb cb0 ([S.v,↑t.root,↑t.readOnly]) 87::rb cb1 [S.v] 85::S.a s::L))(hs:Ct.Rm 60 s):
  Calls prog 39 #[↑x,↑cb0,↑cb1] w λe w'=>CP S dW m B ((λr_b=>Ct.mM t r_b Ct.Bt) x) s L e w':=by
 refine bZ func39 ntmps39 h λw h=>?_
 refine jA h λb1 w h=>?_
 have h:=h.eT a2
 have h:=h.fr (.c r0 .n)
 have h:=Me (j:=60) (S:=S) (F:=dW) (n:=m) (args:=dQ) (k:=Ct.Bt) (v:=(.fn 41 [] [↑cb1])) [rb cb1 [S.v] 85] h λm' hm' B' w' L' s' x' h' hs'=>pR eF (NG S cb1 (Dj hm') x' s' h' (hs'.less (by decide)))
 refine cl (ca eF rfl) ((jZ S dW t x (.fn 41 [] [↑cb1]) Ct.Bt m s (h.fr (.c r0 (.c r3 .n))) (hs.less (by decide))).mono ?_)
 rintro _ w ⟨s2,t3,c4,hq5,rfl,h⟩
 refine⟨_,rfl,?_⟩
 refine sf (so h rfl rfl rfl kN (eO _) (.r (.r (.r (.r (.r (.r (.r (.r (.r (.r (.r (.r (.r (.r .d)))))))))))))) u2)<|?_
 rintro _ w h
 refine xe<|nx<|rt<|?_
 refine go h λw h=>?_
 refine rr (bP rfl rfl (h.b a2) Row.h) ?_
 exact fI (hq5) h.to
theorem XR(S:dN)[Full S](cb0:Nat){n m:Nat}(hm:m<=n)(x1 x2:Int)(s:Ct.St)(h:SH B w (rb cb0 [S.v] 85::S.a s::L))(hs:Ct.Rm 60 s):
  Calls prog 44 #[↑x1,↑x2,↑cb0] w λe w'=>CP S dW m B ((λp_b=>Ct.Bt p_b.2) (x1,x2)) s L e w':=by
 refine bZ func44 ntmps44 h λw h=>?_
 refine jA h λb1 w h=>?_
 refine cl (ca eF rfl) ((Ji S x2 m s (h.fr (.c r2 .n)) (hs.less (by decide))).mono ?_)
 rintro _ w ⟨s2,t3,c4,hq5,rfl,h⟩
 refine⟨_,rfl,?_⟩
 refine sf (so h rfl rfl rfl kN (eO _) (.r (.r (.r (.r (.r (.r (.r (.r (.r (.r (.r (.r (.r (.r .d)))))))))))))) u2)<|?_
 rintro _ w h
 refine xe<|nx<|rt<|?_
 refine go h λw h=>?_
 refine rr (bP rfl rfl (h.b a2) Row.h) ?_
 exact fI (hq5) h.to
theorem WA(S:dN)[Full S](N n:Nat)(hrec:∀j,j<=n->vX S N j)(cb0 cb1 cb2:Nat)(t:Ct.bC){m:Nat}(hm:m<=n)(s:Ct.St)(h:SH B w (rb cb0 ([↑t.root,↑t.readOnly]) 35::rb cb1 ([S.v,↑t.root,↑t.readOnly]) 87::rb cb2 [S.v] 85::S.a s::L))(hs:Ct.Rm 60 s):
  Calls prog 37 #[↑cb0,↑cb1,↑cb2] w λe w'=>CP S dW m B ((λ_=>Ct.Cg t N) ()) s L e w':=by
 refine bZ func37 ntmps37 h λw h=>?_
 refine jA h λb1 w h=>?_
 refine qc h (λhd2 w h=>?_) λhd2 w h=>?_
 refine bA (jH _ (.fn 39 [] [↑cb1,↑cb2]) h.to) λw h=>?_
 refine rr (bP rfl rfl (h.b a0) Row.h) ?_
 have h:=h.eT a3
 have h:=h.eT a3
 have h:=h.fr (.c r0 (.c r0 .n))
 have h:=Nt (S:=S) (F:=dW) (n:=m) (args:=dQ) (k:=(λr_b=>Ct.mM t r_b Ct.Bt)) (v:=(.fn 39 [] [↑cb1,↑cb2])) [rb cb1 ([S.v,↑t.root,↑t.readOnly]) 87,rb cb2 [S.v] 85] h λm' hm' B' w' L' s' x' h' hs'=>pR eF (LO S cb1 cb2 t (Dj hm') x' s' h' (hs'.less (by decide)))
 have h:=kL (a:=t.root) h
 exact fI (qT hd2 rfl) h.to
 have h:=h.eT a3
 have h:=h.fr (.c r0 .n)
 have h:=Me (j:=60) (S:=S) (F:=dW) (n:=m) (args:=Fu) (k:=(λp_b=>Ct.Bt p_b.2)) (v:=(.fn 44 [] [↑cb2])) [rb cb2 [S.v] 85] h λm' hm' B' w' L' s' x' h' hs'=>pR eF (XR S cb2 (Dj hm') x'.1 x'.2 s' h' (hs'.less (by decide)))
 refine fQ (hrec m hm t (.fn 44 [] [↑cb2]) (λp_b=>Ct.Bt p_b.2) _ _ _ s h.to (hs.less (by decide))) λs3 t4 c5 hq6 w h=>?_
 refine rr (bP rfl rfl (h.b a2) Row.h) ?_
 exact fI (qF hd2 (hq6)) h.to
theorem Vr(S:dN)[Full S](N:Nat)(t:Ct.bC)(s:Ct.St)(h:SH B w (S.a s::L))(hs:Ct.Rm 60 s):
  Calls prog 9 #[S.v,.agg [↑t.root,↑t.readOnly].toArray] w λe w'=>∃tb s' u,(Ct.Cg t (N+1)).head s=(s',u)/\e=.returned (.pointer (some ⟨tb,0,none⟩))/\SH B w' (oQ S N tb u 0::S.a s'::L):=by
 refine bZ func9 ntmps9 h λw h=>?_
 refine jX h λb1 w h=>?_
 refine jX h λb2 w h=>?_
 refine jA h λb3 w h=>?_
 have h:=SH.kX (h.fr (.c r1 .n))
 have h:=SH.kX (h.fr (.c r1 .n))
 have h:=SH.kX (h.fr (.c r2 .n))
 refine go h λw h=>?_
 have h:=h.eT a0
 have h:=h.eT a2
 have h:=h.eT a4
 have h:=h.fr (.c r0 (.c r0 (.c r0 .n)))
 have h:=YZ (S:=S) (F:=dW) (n:=N) (j:=60) (args:=qI) (k:=(λ_=>Ct.Cg t (N+1))) (v:=(.fn 37 [] [↑b2,↑b3,↑b1])) [rb b2 ([↑t.root,↑t.readOnly]) 35,rb b3 ([S.v,↑t.root,↑t.readOnly]) 87,rb b1 [S.v] 85] h λB' w' L' s' x' h' hs'=>pR eF (WA S (N+1) N (Hc S N) b2 b3 b1 t (JV _) s' h' hs')
 refine cl (ca eF rfl) ((Ht S N (.fn 37 [] [↑b2,↑b3,↑b1]) (λ_=>Ct.Cg t (N+1)) s (h.fr (.c r0 (.c r3 .n))) (hs.less (by decide))).mono ?_)
 rintro _ w ⟨tb4,s5,uz6,hq7,rfl,h⟩
 refine⟨_,rfl,?_⟩
 refine st (sg rfl)<|xe<|nx<|rt<|?_
 refine go h λw h=>?_
 exact rz ⟨tb4,s5,uz6,hq7,rfl,h.to⟩
theorem RC(S:dN)[Full S](cb0:Nat){n m:Nat}(hm:m<=n)(x:Int)(s:Ct.St)(h:SH B w (rb cb0 [S.v] 85::S.a s::L))(hs:Ct.Rm 60 s):
  Calls prog 90 #[↑x,↑cb0] w λe w'=>CP S dW m B ((Ct.Gd) x) s L e w':=by
 refine bZ func90 ntmps90 h λw h=>?_
 refine jA h λb1 w h=>?_
 refine cl (ca eF rfl) ((Jh S x m s (h.fr (.c r2 .n)) (hs.less (by decide))).mono ?_)
 rintro _ w ⟨s2,t3,c4,hq5,rfl,h⟩
 refine⟨_,rfl,?_⟩
 refine sf (so h rfl rfl rfl kN (eO _) (.r (.r (.r (.r (.r (.r (.r (.r (.r (.r (.r (.r (.r (.r .d)))))))))))))) u2)<|?_
 rintro _ w h
 refine xe<|nx<|rt<|?_
 refine go h λw h=>?_
 refine rr (bP rfl rfl (h.b a2) Row.h) ?_
 exact fI (hq5) h.to
theorem WU(S:dN)[Full S](cb0:Nat){n m:Nat}(hm:m<=n)(x1 x2:Int)(s:Ct.St)(h:SH B w (rb cb0 [S.v] 85::S.a s::L))(hs:Ct.Rm 60 s):
  Calls prog 92 #[↑x1,↑x2,↑cb0] w λe w'=>CP S dW m B ((λp_b=>Ct.Gd p_b.1) (x1,x2)) s L e w':=by
 refine bZ func92 ntmps92 h λw h=>?_
 refine jA h λb1 w h=>?_
 refine cl (ca eF rfl) ((Jh S x1 m s (h.fr (.c r2 .n)) (hs.less (by decide))).mono ?_)
 rintro _ w ⟨s2,t3,c4,hq5,rfl,h⟩
 refine⟨_,rfl,?_⟩
 refine sf (so h rfl rfl rfl kN (eO _) (.r (.r (.r (.r (.r (.r (.r (.r (.r (.r (.r (.r (.r (.r .d)))))))))))))) u2)<|?_
 rintro _ w h
 refine xe<|nx<|rt<|?_
 refine go h λw h=>?_
 refine rr (bP rfl rfl (h.b a2) Row.h) ?_
 exact fI (hq5) h.to
theorem XZ(S:dN)[Full S](N n:Nat)(hrec:∀j,j<=n->vX S N j)(cb0 cb1 cb2:Nat)(t:Ct.bC){m:Nat}(hm:m<=n)(s:Ct.St)(h:SH B w (rb cb0 ([↑t.root,↑t.readOnly]) 35::rb cb1 [S.v] 85::rb cb2 ([S.v,↑t.root,↑t.readOnly]) 87::S.a s::L))(hs:Ct.Rm 60 s):
  Calls prog 89 #[↑cb0,↑cb1,↑cb2] w λe w'=>CP S dW m B ((λ_=>Ct.Qg t N) ()) s L e w':=by
 refine bZ func89 ntmps89 h λw h=>?_
 refine jA h λb1 w h=>?_
 refine qc h (λhd2 w h=>?_) λhd2 w h=>?_
 refine bA (jH _ (.fn 90 [] [↑cb1]) h.to) λw h=>?_
 refine rr (bP rfl rfl (h.b a0) Row.h) ?_
 have h:=h.eT a2
 have h:=h.fr (.c r0 .n)
 have h:=Nt (S:=S) (F:=dW) (n:=m) (args:=dQ) (k:=Ct.Gd) (v:=(.fn 90 [] [↑cb1])) [rb cb1 [S.v] 85] h λm' hm' B' w' L' s' x' h' hs'=>pR eF (RC S cb1 (Dj hm') x' s' h' (hs'.less (by decide)))
 have h:=kL (a:=t.root) h
 exact fI (qT hd2 rfl) h.to
 have h:=h.eT a2
 have h:=h.fr (.c r0 .n)
 have h:=Me (j:=60) (S:=S) (F:=dW) (n:=m) (args:=Fu) (k:=(λp_b=>Ct.Gd p_b.1)) (v:=(.fn 92 [] [↑cb1])) [rb cb1 [S.v] 85] h λm' hm' B' w' L' s' x' h' hs'=>pR eF (WU S cb1 (Dj hm') x'.1 x'.2 s' h' (hs'.less (by decide)))
 refine fQ (hrec m hm t (.fn 92 [] [↑cb1]) (λp_b=>Ct.Gd p_b.1) _ _ _ s h.to (hs.less (by decide))) λs3 t4 c5 hq6 w h=>?_
 refine rr (bP rfl rfl (h.b a2) Row.h) ?_
 exact fI (qF hd2 (hq6)) h.to
theorem BX(S:dN)[Full S](N:Nat)(t:Ct.bC)(s:Ct.St)(h:SH B w (S.a s::L))(hs:Ct.Rm 60 s):
  Calls prog 53 #[S.v,.agg [↑t.root,↑t.readOnly].toArray] w λe w'=>∃tb s' u,(Ct.Qg t (N+1)).head s=(s',u)/\e=.returned (.pointer (some ⟨tb,0,none⟩))/\SH B w' (oQ S N tb u 0::S.a s'::L):=by
 refine bZ func53 ntmps53 h λw h=>?_
 refine jX h λb1 w h=>?_
 refine jX h λb2 w h=>?_
 refine jA h λb3 w h=>?_
 have h:=SH.kX (h.fr (.c r1 .n))
 have h:=SH.kX (h.fr (.c r2 .n))
 have h:=SH.kX (h.fr (.c r2 .n))
 refine go h λw h=>?_
 have h:=h.eT a0
 have h:=h.eT a2
 have h:=h.eT a4
 have h:=h.fr (.c r0 (.c r0 (.c r0 .n)))
 have h:=YZ (S:=S) (F:=dW) (n:=N) (j:=60) (args:=qI) (k:=(λ_=>Ct.Qg t (N+1))) (v:=(.fn 89 [] [↑b2,↑b1,↑b3])) [rb b2 ([↑t.root,↑t.readOnly]) 35,rb b1 [S.v] 85,rb b3 ([S.v,↑t.root,↑t.readOnly]) 87] h λB' w' L' s' x' h' hs'=>pR eF (XZ S (N+1) N (Hc S N) b2 b1 b3 t (JV _) s' h' hs')
 refine cl (ca eF rfl) ((Ht S N (.fn 89 [] [↑b2,↑b1,↑b3]) (λ_=>Ct.Qg t (N+1)) s (h.fr (.c r0 (.c r3 .n))) (hs.less (by decide))).mono ?_)
 rintro _ w ⟨tb4,s5,uz6,hq7,rfl,h⟩
 refine⟨_,rfl,?_⟩
 refine st (sg rfl)<|xe<|nx<|rt<|?_
 refine go h λw h=>?_
 exact rz ⟨tb4,s5,uz6,hq7,rfl,h.to⟩
end Go.Q9
end
section
namespace Go.Ct
variable{g:Ga}
structure Px where
 tb:Nat:=0
 xb:Nat:=0
 k:Nat:=0
 e:Ex:={}
 u:I Result:=.ret {}
structure Ub(i:Nat)(g:Ga)(s:St)(ys:List Px):Prop where
 gw:GW g
 PI:nZ g s
 fit:eK s
 ex:∀z∈ys,z.e.eG.length=z.k/\z.k<=i/\∃u',Er g z.e z.u u'
 size:s.size<=38000000000+200000*i
theorem Er.same{e:Ex}{u u':I Result}(h:Er g e u u'):e.done=u.ended.isSome/\(u.ended=none->e.next=u.acc)/\∀r,u.ended=some r->e.result=r:=by
 obtain⟨h1,h2⟩:=h.sh.acc
 exact⟨by rw[h.rest.done,<- h2],λq=>by rw[h.rest.next (by rw[<- h2];exact q),h1],λr q=>h.rest.A6 r (by rw[<- h2];exact q)⟩
theorem Ub.ready{i:Nat}{s:St}{ys:List Px}(h:Ub i g s ys)(hi:i<=1000){z:Px}(hz:z∈ys):Ok 60 (cD 1 ⟨z.e,s⟩)/\(cD 1 ⟨z.e,s⟩).left<FU/\z.e.call.aI<18446744073709551616/\z.e.call.key.size<=9223372036854775807/\7<=z.e.call.kind/\(z.e.call.kind<=12\/z.e.call.kind=14):=by
 obtain⟨h1,h2,u',hE⟩:=h.ex z hz
 have hs:=h.size
 obtain⟨a,b⟩:=hE.ready h.PI h.fit (by unfold room;omega)
 exact⟨a,b,hE.aI,hE.key,hE.ok.lo,hE.ok.hi⟩
def Px.next(z:Px)(s:St):Px:={z with k:=z.k+1,e:=(bX (bY z.e.call FU) 1 ⟨z.e,s⟩).e,u:=(z.u.step s).2}
theorem Ub.step{i j:Nat}{s:St}{ys:List Px}(h:Ub i g s ys)(hi:i<=1000)(hj:j<ys.length)(hd:ys[j].e.done=false)(hok:Ok 50 (bX (bY ys[j].e.call FU) 1 ⟨ys[j].e,s⟩)):
  ((ys[j].u).step s).1=(bX (bY ys[j].e.call FU) 1 ⟨ys[j].e,s⟩).s/\∃g',Ub (i+1) g' (bX (bY ys[j].e.call FU) 1 ⟨ys[j].e,s⟩).s (ys.set j (ys[j].next s)):=by
 obtain⟨h1,h2,u',hE⟩:=h.ex _ (wU hj)
 obtain⟨g',v,v',e1,k2,w2,t2,f2,E2,l2,b2,b3,hP⟩:=hE.step h.gw h.PI h.fit hd (by unfold Cx;omega) hok
 have hs:=h.size
 refine⟨by rw[e1],g',w2,t2,f2,?_,by omega⟩
 intro z m
 rcases List.mem_or_eq_of_mem_set m with m|rfl
 ·obtain⟨a,b,q,c⟩:=h.ex z m
  exact⟨a,by omega,q,c.ge h.gw k2⟩
 ·refine⟨by show (bX (bY ys[j].e.call FU) 1 ⟨ys[j].e,s⟩).e.eG.length=ys[j].k+1;rw[l2,h1],by show ys[j].k+1<=i+1;omega,v',?_⟩
  show Er g' _ ((ys[j].u).step s).2 v'
  rw[e1];exact E2
theorem Ub.add{i tb xb:Nat}{s:St}{ys:List Px}{c:Call}(h:Ub i g s ys)(hs:s.size+1000<=38000000000)(hc:kZ g c)(hm:c.aI<18446744073709551616)(hk:c.key.size<=9223372036854775807)(hok:Ok 50 (bX (bY c FU) 0 ⟨{call:=c},s⟩)):
  ∃g' u,(mS c FU).head s=((bX (bY c FU) 0 ⟨{call:=c},s⟩).s,u)/\Ge g g'/\(bX (bY c FU) 0 ⟨{call:=c},s⟩).s.size<=s.size+120/\Ub i g' (bX (bY c FU) 0 ⟨{call:=c},s⟩).s (ys++[{tb:=tb,xb:=xb,e:=(bX (bY c FU) 0 ⟨{call:=c},s⟩).e,u:=u}]):=by
 obtain⟨g',u,u',h1,h2,h3,h4,h5,h6,h7,h8,h9,h10,_⟩:=Er.start h.gw h.PI h.fit hc hm hk hok
 refine⟨g',u,h1,h2,h8,h3,h4,h5,?_,by omega⟩
 intro z m
 rcases List.mem_append.1 m with m|m
 ·obtain⟨a,b,q,c'⟩:=h.ex z m
  exact⟨a,b,q,c'.ge h.gw h2⟩
 ·rw[List.mem_singleton.1 m]
  exact⟨by show (bX (bY c FU) 0 ⟨{call:=c},s⟩).e.eG.length=0;rw[h7];rfl,dF _,u',h6⟩
theorem nZ.acc{s:St}(h:nZ g s)(a:Nat):nZ g {s with acc:=a}:=⟨h.nodes,h.gen,h.len,h.holds,h.dec,h.LJ⟩
end Go.Ct
end
