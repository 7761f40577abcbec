/- Parts of a proof: Fp. -/
import Derived.Test.YtnhdmcipglnkfaaGreatW46
set_option linter.unusedVariables false
set_option linter.unusedSimpArgs false
set_option maxRecDepth 100000
set_option maxHeartbeats 4000000
section
namespace Go.Q9
open Go.Proofs.Tryz
open Go.RowKit Go.E
attribute [local irreducible] gA wpS Go.E.X XS C kV lL fin Y U F Ca kU bl rb aV bS ex ce pu sK gK bK zK gG fE cZ gY mA rQ
open Go.Ct (qN qA qC qG qT qF)
def rnV(S:fX)(t:Ct.aX)(i m0 ix:Int)(thk:Fv):List Value:=[S.v,↑t.root,↑t.readOnly,↑i,↑m0,↑ix,thk.val]
theorem dC(s:Ct.St)(n:Ct.Node)(i:Int):(s.alloc n i).1.aG.length=s.aG.length+1:=by simp only[Ct.St.alloc];split<;>simp[Ct.St.aT]
theorem lC{j:Nat}{s:Ct.St}(hs:Ct.Rm j s):s.aG.length<=100000000000:=by have:=hs.Cn;unfold Ct.St.size at this;omega
variable{B w:World}{L:List As}
theorem DO{β:Type}(S:fX)(F:β->Cc->As)(gX fM:Nat)(thk:Fv)(k:Bool->Ct.I β)(x0:Int){n m:Nat}(hm:m<=n)(x:Int)(s:Ct.St)(h:SH B w (rb gX [thk.val] 92::rb fM ([↑x0]) 44::gY S F n 60 iC k thk::S.a s::L))(hs:Ct.Rm 60 s):
  Calls prog 264 #[↑x,↑gX,↑fM] w λe w'=>CP S F m B ((λm0_b=>k (m0_b==x0)) x) s L e w':=by
 have h:=gL hm (aW _) (h.fr (.c r2 .n))
 refine cN func264 ntmps264 h λw h=>?_
 refine jA h λb1 w h=>?_
 refine O6 rfl rfl ((pR (h.fr (.c r1 (.c r3 .n))) (hs.less (by decide)) ((x:Int)==x0)).mono ?_)
 rintro _ w ⟨s2,t3,c4,Vo,rfl,h⟩
 refine⟨_,rfl,?_⟩
 refine go h λw h=>?_
 refine rr (cD rfl rfl (h.b a2) Row.h) ?_
 exact jW (Vo) h.to
theorem FP{β:Type}(S:fX)(F:β->Cc->As)(gX fM jD lR:Nat)(thk:Fv)(k:Bool->Ct.I β)(t:Ct.aX)(i:Int)(x0:Int){n m:Nat}(hm:m<=n)(ok:Bool)(s:Ct.St)(h:SH B w (rb gX [thk.val] 92::rb fM ([S.v,↑t.root,↑t.readOnly]) 87::rb jD ([↑i]) 44::rb lR ([↑x0]) 44::gY S F n 60 iC k thk::S.a s::L))(hs:Ct.Rm 60 s):
  Calls prog 263 #[↑ok,↑gX,↑fM,↑jD,↑lR] w λe w'=>CP S F m B ((λok_b=>bif !ok_b then k false else Ct.nZ t i x0 λm0_b=>k (m0_b==x0)) ok) s L e w':=by
 have h:=gL hm (aW _) (h.fr (.c r4 .n))
 refine cN func263 ntmps263 h λw h=>?_
 refine jA h λb1 w h=>?_
 refine qc h (λcO w h=>?_) λcO w h=>?_
 have cJ:ok=false:=(gZ _).mp cO
 refine go h λw h=>?_
 refine O6 rfl rfl ((pR (h.fr (.c r1 (.c r5 .n))) (hs.less (by decide)) false).mono ?_)
 rintro _ w ⟨s4,t5,c6,PZ,rfl,h⟩
 refine⟨_,rfl,?_⟩
 refine go h λw h=>?_
 refine rr (cD rfl rfl (h.b a2) Row.h) ?_
 exact jW (qT cO (PZ)) h.to
 have fG:ok=true:=(hU _).mp cO
 refine go h λw h=>?_
 have h:=h.jF a5
 have h:=h.jF a3
 have h:=h.fr (.c r0 (.c r0 (.c r1 .n)))
 have h:=SA (j:=60) (S:=S) (F:=F) (n:=m) (args:=eM) (k:=(λm0_b=>k (m0_b==x0))) (v:=(.fn 264 [] [↑gX,↑lR])) [rb gX [thk.val] 92,rb lR ([↑x0]) 44,gY S F m 60 iC k thk] h λm' nN B' w' L' s' x' h' mD=>Bt eF (DO S F gX lR thk k x0 (wO nN) x' s' h' (mD.less (by decide)))
 refine lA (Gk S F _ _ _ (.fn 264 [] [↑gX,↑lR]) (λm0_b=>k (m0_b==x0)) _ _ h.to (hs.less (by decide))) λs9 t10 c11 Ty w h=>?_
 refine rr (cD rfl rfl (h.b a2) Row.h) ?_
 exact jW (qF cO (Ty)) h.to
theorem Ee{β:Type}(S:fX)(F:β->Cc->As)(t:Ct.aX)(i:Int)(o:Int)(x0:Int)(thk:Fv)(k:Bool->Ct.I β)(n:Nat)(s:Ct.St)(h:SH B w (rQ S F n 60 iC k thk::S.a s::L))(hs:Ct.Rm 30 s):
  Calls prog 233 #[.agg [S.v,↑t.root,↑t.readOnly].toArray,↑i,↑o,↑x0,thk.val] w λe w'=>CP S F n B (Ct.swapT t i o x0 k) s L e w':=by
 refine cN func233 ntmps233 h λw h=>?_
 refine jX h λb1 w h=>?_
 refine jX h λb2 w h=>?_
 refine jX h λb3 w h=>?_
 refine sf (bx h rfl (oY _)) ?_
 rintro _ w ⟨b4,rfl,h⟩
 refine go h λw h=>?_
 refine jA h λb5 w h=>?_
 have h:=SH.tH (h.fr (.c r1 .n))
 have h:=SH.tH (h.fr (.c r4 .n))
 have h:=SH.tH (h.fr (.c r4 .n))
 have h:=SH.tH (h.fr (.c r4 .n))
 refine fD [1,3,5,11,13,15,6,9,16,18] (by kernel_rfl) h (.c r2 (.c r1 (.c r0 .n))) λw h=>go h λw h=>?_
 refine cs (ci (S.sN h a6) rfl rfl) ((dK S s i h.to hs).mono ?_)
 rintro _ w ⟨q6,rfl,h⟩
 refine⟨_,rfl,h.hs (.c r4 (.c r3 (.c r2 .n))),?_⟩
 refine go h λw h=>?_
 refine qB (pG _ _ _ (.fn 263 [] [↑b4,↑b1,↑b2,↑b3]) h.to) λw h=>?_
 refine rr (cD rfl rfl (h.b a6) Row.h) ?_
 have h:=h.jF a2
 have h:=h.jF a4
 have h:=h.jF a6
 have h:=h.jF a8
 have h:=h.fr (.c r0 (.c r0 (.c r0 (.c r0 (.c r7 .n)))))
 have h:=KN (S:=S) (F:=F) (n:=n) (args:=iC) (k:=(λok_b=>bif !ok_b then k false else Ct.nZ t i x0 λm0_b=>k (m0_b==x0))) (v:=(.fn 263 [] [↑b4,↑b1,↑b2,↑b3])) [rb b4 [thk.val] 92,rb b1 ([S.v,↑t.root,↑t.readOnly]) 87,rb b2 ([↑i]) 44,rb b3 ([↑x0]) 44,rQ S F n 60 iC k thk] h λm' nN B' w' L' s' x' h' mD=>Bt eF (FP S F b4 b1 b2 b3 thk k t i x0 (aW _) x' s' ((Cu nN (h'.fr (.c r4 .n))).fr (.c r1 (.c r1 (.c r1 (.c r1 (.c r0 .n)))))) (mD.less (by decide)))
 have h:=kC (a:=(s.node i).main) (o:=o) (x:=x0) h
 exact jW (qN rfl) h.to
theorem DY{β:Type}(S:fX)(F:β->Cc->As)(gX fM:Nat)(j0:Int)(wb:Nat)(t:Ct.aX)(i m0 ix:Int)(thk:Fv)(k:Int->Ct.I β){n m:Nat}(hm:m<=n)(ok:Bool)(s:Ct.St)(h:SH B w (rb gX ([↑wb]) 246::rb fM ([↑j0]) 44::rb wb (rnV S t i m0 ix thk) 248::gY S F n 50 eM k thk::S.a s::L))(hs:Ct.Rm 60 s):
  Calls prog 290 #[↑ok,↑gX,↑fM] w λe w'=>CP S F m B ((λok_b=>bif !ok_b then k 0 else k j0) ok) s L e w':=by
 have h:=gL hm (aW _) (h.fr (.c r3 .n))
 refine cN func290 ntmps290 h λw h=>?_
 refine jA h λb1 w h=>?_
 refine qc h (λcO w h=>?_) λcO w h=>?_
 have cJ:ok=false:=(gZ _).mp cO
 refine go h λw h=>?_
 refine O6 rfl rfl ((pR (h.fr (.c r1 (.c r4 .n))) (hs.less (by decide)) 0).mono ?_)
 rintro _ w ⟨s4,t5,c6,PZ,rfl,h⟩
 refine⟨_,rfl,?_⟩
 refine go h λw h=>?_
 refine rr (cD rfl rfl (h.b a2) Row.h) ?_
 exact jW (qT cO (PZ)) h.to
 have fG:ok=true:=(hU _).mp cO
 refine go h λw h=>?_
 refine fD [1,3,5,7,9,10,12] (by kernel_rfl) h (.c r2 (.c r3 (.c r2 .n))) λw h=>go h λw h=>?_
 refine aNh rfl rfl ((pR (h.fr (.c r1 (.c r4 .n))) (hs.less (by decide)) j0).mono ?_)
 rintro _ w ⟨s9,t10,c11,Ty,rfl,h⟩
 refine⟨_,rfl,h.hs (.c r3 (.c r4 (.c r3 .n))),?_⟩
 refine go h λw h=>?_
 refine rr (cD rfl rfl (h.b a2) Row.h) ?_
 exact jW (qF cO (Ty)) h.to
theorem PC{β:Type}(S:fX)(F:β->Cc->As)(wb:Nat)(t:Ct.aX)(i m0 ix:Int)(thk:Fv)(k:Int->Ct.I β){n m:Nat}(hm:m<=n)(m1:Int)(s:Ct.St)(h:SH B w (rb wb (rnV S t i m0 ix thk) 248::gY S F n 50 eM k thk::S.a s::L))(hs:Ct.Rm 60 s):
  Calls prog 272 #[↑wb,↑m1] w λe w'=>CP S F m B ((λm_b=>.node i λa_b=>.alloc {kind:=2,gen:=a_b.gen} m_b λj_b=>.node m0 λn_b=>bif !(Ct.aM n_b ix j_b).2 then k 0 else .alloc (Ct.aM n_b ix j_b).1 m0 λr_b=>Ct.swapT t i m0 r_b λok_b=>bif !ok_b then k 0 else k j_b) m1) s L e w':=by
 have h:=gL hm (aW _) (h.fr (.c r1 .n))
 refine cN func272 ntmps272 h λw h=>?_
 refine jX h λb1 w h=>?_
 refine sf (al h GV)<|?_
 rintro _ w ⟨b2,rfl,h⟩
 refine xe<|nx<|?_
 refine sm (λe w=>∃b4:Nat,Sub 86 e (.c 2 ↑b1 (.c 4 ↑b2 (.c 5 ↑b4 .n)))/\SH B w (bl b4 ([.int .i64 (s.alloc ({kind:=2,gen:=(s.node i).gen}:Ct.Node) m1).2]) 44::S.a (s.alloc ({kind:=2,gen:=(s.node i).gen}:Ct.Node) m1).1::bl b2 ([.int .i64 0,.int .i64 0,.int .i64 0,.int .i64 0,.nilFunc,.nilFunc,.int .i64 0,↑false,.int .u64 0,.string .empty,.int .i64 0,.int .i64 0,.int .i64 0,↑false]) 94::bl b1 ([↑wb]) 246::gY S F m 50 eM k thk::rb wb (rnV S t i m0 ix thk) 248::L)) ?_ ?_
 refine drT (F:=[bl b1 ([↑wb]) 246,rb wb (rnV S t i m0 ix thk) 248]) (.op 0 true (.op 1 true (.op 2 true (.op 3 true (.op 4 true (.op 5 true (.op 6 true (.op 7 true (.op 8 true (.op 9 true (.op 10 true (.op 11 true (.op 12 true (.op 13 true (.op 14 true (.op 15 true (.op 19 true (.op 20 true (.op 21 true (.fork 16 23 (.op 17 true (.fork 18 23 (.fork 22 23 (.op 23 false (.op 24 false .stop)) (.op 22 false (.op 24 false .stop))) (.op 18 false (.op 22 false (.op 24 false .stop))))) (.op 16 false (.op 17 true (.op 18 false (.op 22 false (.op 24 false .stop))))))))))))))))))))))))) (by kernel_rfl) h (λw h=>(hC (h.at_ a1) (hC (h.at_ a3) hN))) λw h=>go h λw h=>?_
 refine Zb ?_ ?_
 refine cs (ci (S.sN h a4) rfl rfl) ((dK S s i h.to hs).mono ?_)
 rintro _ w ⟨q3,rfl,h⟩
 have ft_q3:=hs.node i
 have sz_q3:=lC hs
 have nf_q3:=ft_q3.nf (by omega)
 refine⟨_,rfl,(hC (h.at_ a3) (hC (h.at_ a5) hN)),?_⟩
 refine go h λw h=>?_
 refine Zb ?_ ?_
 refine qB (tJ _ h.to) λw h=>?_
 refine Zb ?_ ?_
 refine cs (ci (S.sA h a1) rfl rfl) ((dY S s ({kind:=2,gen:=(s.node i).gen}:Ct.Node) {} m1 (SH.fI ({kind:=2,gen:=(s.node i).gen}:Ct.Node) rfl rfl h.to) hs (Ct.bP _ 2 (s.node i).gen 0 0 0)).mono ?_)
 rintro _ w ⟨rfl,h⟩
 have hs:=hs.alloc (Ct.bP _ 2 (s.node i).gen 0 0 0) m1
 refine⟨_,rfl,(hC (h.at_ a3) (hC (h.at_ a5) hN)),?_⟩
 refine jB h λb4 w h=>?_
 exact⟨b4,⟨rfl,rfl,rfl,trivial⟩,h.to⟩
 refine jB h λb5 w h=>?_
 refine cs (ci (S.sA h a2) rfl rfl) ((dY S s ({kind:=2,gen:=(s.node i).gen}:Ct.Node) {} m1 (SH.fI ({kind:=2,gen:=(s.node i).gen}:Ct.Node) rfl rfl h.to) hs (Ct.bP _ 2 (s.node i).gen 0 0 0)).mono ?_)
 rintro _ w ⟨rfl,h⟩
 have hs:=hs.alloc (Ct.bP _ 2 (s.node i).gen 0 0 0) m1
 refine⟨_,rfl,(hC (h.at_ a4) (hC (h.at_ a6) hN)),?_⟩
 refine go h λw h=>?_
 exact⟨b5,⟨rfl,rfl,rfl,trivial⟩,(h.to.fr (.c r1 (.c r0 (.c r0 (.c r0 (.c r0 (.c r0 .n)))))))⟩
 refine jB h λb6 w h=>?_
 refine qB (tJ _ h.to) λw h=>?_
 refine cs (ci (S.sA h a2) rfl rfl) ((dY S s ({kind:=2,gen:=(s.node i).gen}:Ct.Node) {} m1 (SH.fI ({kind:=2,gen:=(s.node i).gen}:Ct.Node) rfl rfl h.to) hs (Ct.bP _ 2 (s.node i).gen 0 0 0)).mono ?_)
 rintro _ w ⟨rfl,h⟩
 have hs:=hs.alloc (Ct.bP _ 2 (s.node i).gen 0 0 0) m1
 refine⟨_,rfl,(hC (h.at_ a4) (hC (h.at_ a6) hN)),?_⟩
 refine go h λw h=>?_
 exact⟨b6,⟨rfl,rfl,rfl,trivial⟩,(h.to.fr (.c r1 (.c r0 (.c r0 (.c r0 (.c r0 (.c r0 .n)))))))⟩
 refine jB h λb7 w h=>?_
 refine cs (ci (S.sN h a5) rfl rfl) ((dK S s i h.to hs).mono ?_)
 rintro _ w ⟨q8,rfl,h⟩
 have ft_q8:=hs.node i
 have sz_q8:=lC hs
 have nf_q8:=ft_q8.nf (by omega)
 refine⟨_,rfl,(hC (h.at_ a4) (hC (h.at_ a6) hN)),?_⟩
 refine go h λw h=>?_
 refine qB (tJ _ h.to) λw h=>?_
 refine cs (ci (S.sA h a1) rfl rfl) ((dY S s ({kind:=2,gen:=(s.node i).gen}:Ct.Node) {} m1 (SH.fI ({kind:=2,gen:=(s.node i).gen}:Ct.Node) rfl rfl h.to) hs (Ct.bP _ 2 (s.node i).gen 0 0 0)).mono ?_)
 rintro _ w ⟨rfl,h⟩
 have hs:=hs.alloc (Ct.bP _ 2 (s.node i).gen 0 0 0) m1
 refine⟨_,rfl,(hC (h.at_ a4) (hC (h.at_ a6) hN)),?_⟩
 refine go h λw h=>?_
 exact⟨b7,⟨rfl,rfl,rfl,trivial⟩,(h.to.fr (.c r1 (.c r0 (.c r0 (.c r0 (.c r0 (.c r0 .n)))))))⟩
 rintro e w ⟨b4,hE,h⟩
 refine C.sub hE ?_
 clear hE e
 have ft_q3:=hs.node i
 have sz_q3:=lC hs
 have nf_q3:=ft_q3.nf (by omega)
 have hs:=hs.alloc (Ct.bP _ 2 (s.node i).gen 0 0 0) m1
 refine sm (λe w=>∃Uf:Nat,∃wI:Lq,Sub 86 e (.c 2 ↑b1 (.c 4 ↑b2 (.c 5 ↑b4 (.c 6 ↑Uf (.c 7 (.bool (Ct.aM ((s.alloc ({kind:=2,gen:=(s.node i).gen}:Ct.Node) m1).1.node m0) ix (s.alloc ({kind:=2,gen:=(s.node i).gen}:Ct.Node) m1).2).2) .n)))))/\SH B w (bl Uf (aK (Ct.aM ((s.alloc ({kind:=2,gen:=(s.node i).gen}:Ct.Node) m1).1.node m0) ix (s.alloc ({kind:=2,gen:=(s.node i).gen}:Ct.Node) m1).2).1 wI) 53::aL (Ct.aM ((s.alloc ({kind:=2,gen:=(s.node i).gen}:Ct.Node) m1).1.node m0) ix (s.alloc ({kind:=2,gen:=(s.node i).gen}:Ct.Node) m1).2).1 wI::S.a (s.alloc ({kind:=2,gen:=(s.node i).gen}:Ct.Node) m1).1::bl b4 ([.int .i64 (s.alloc ({kind:=2,gen:=(s.node i).gen}:Ct.Node) m1).2]) 44::bl b2 ([.int .i64 0,.int .i64 0,.int .i64 0,.int .i64 0,.nilFunc,.nilFunc,.int .i64 0,↑false,.int .u64 0,.string .empty,.int .i64 0,.int .i64 0,.int .i64 0,↑false]) 94::bl b1 ([↑wb]) 246::gY S F m 50 eM k thk::rb wb (rnV S t i m0 ix thk) 248::L)) ?_ ?_
 refine drT (F:=[bl b1 ([↑wb]) 246,rb wb (rnV S t i m0 ix thk) 248,bl b4 ([.int .i64 (s.alloc ({kind:=2,gen:=(s.node i).gen}:Ct.Node) m1).2]) 44]) (.op 0 true (.op 1 true (.op 2 true (.op 3 true (.op 4 true (.op 5 true (.op 6 true (.op 7 true (.op 8 true (.op 9 true (.op 10 true (.op 12 true (.op 13 true (.op 14 true (.op 15 true (.op 16 true (.fork 11 21 (.fork 17 21 (.op 18 true (.op 19 true (.op 20 true (.op 21 false (.op 22 false (.op 23 false .stop)))))) (.op 17 false (.op 18 true (.op 19 true (.op 20 true (.op 22 false (.op 23 false .stop))))))) (.op 11 false (.op 17 false (.op 18 true (.op 19 true (.op 20 true (.op 22 false (.op 23 false .stop)))))))))))))))))))))))) (by kernel_rfl) h (λw h=>(hC (h.at_ a3) (hC (h.at_ a5) (hC (h.at_ a0) hN)))) λw h=>go h λw h=>?_
 refine Zb ?_ ?_
 refine cs (ci (S.sN h a1) rfl rfl) ((dK S (s.alloc ({kind:=2,gen:=(s.node i).gen}:Ct.Node) m1).1 m0 h.to hs).mono ?_)
 rintro _ w ⟨q9,rfl,h⟩
 have ft_q9:=hs.node m0
 have sz_q9:=lC hs
 have nf_q9:=ft_q9.nf (by omega)
 refine⟨_,rfl,(hC (h.at_ a4) (hC (h.at_ a6) (hC (h.at_ a2) hN))),?_⟩
 refine Zb ?_ ?_
 refine nP (iL _ _ _ _ h.to nf_q9) λwI w h=>?_
 refine jB h λUf w h=>?_
 exact⟨Uf,wI,⟨rfl,rfl,rfl,rfl,rfl,trivial⟩,h.to⟩
 refine jB h λZM w h=>?_
 refine nP (iL _ _ _ _ h.to nf_q9) λBj w h=>?_
 exact⟨ZM,Bj,⟨rfl,rfl,rfl,rfl,rfl,trivial⟩,(h.to.fr (.c r1 (.c r0 (.c r0 (.c r0 (.c r0 (.c r0 (.c r0 (.c r0 .n)))))))))⟩
 refine jB h λb14 w h=>?_
 refine cs (ci (S.sN h a2) rfl rfl) ((dK S (s.alloc ({kind:=2,gen:=(s.node i).gen}:Ct.Node) m1).1 m0 h.to hs).mono ?_)
 rintro _ w ⟨q15,rfl,h⟩
 have ft_q15:=hs.node m0
 have sz_q15:=lC hs
 have nf_q15:=ft_q15.nf (by omega)
 refine⟨_,rfl,(hC (h.at_ a5) (hC (h.at_ a7) (hC (h.at_ a3) hN))),?_⟩
 refine nP (iL _ _ _ _ h.to nf_q15) λUi w h=>?_
 exact⟨b14,Ui,⟨rfl,rfl,rfl,rfl,rfl,trivial⟩,(h.to.fr (.c r2 (.c r0 (.c r0 (.c r0 (.c r0 (.c r0 (.c r0 (.c r0 .n)))))))))⟩
 rintro e w ⟨Uf,wI,hE,h⟩
 refine C.sub hE ?_
 clear hE e
 have ft_q9:=hs.node m0
 have sz_q9:=lC hs
 have nf_q9:=ft_q9.nf (by omega)
 refine go h λw h=>?_
 refine qc h (λoR w h=>?_) λoR w h=>?_
 have jJ:=(gZ _).mp oR
 refine go h λw h=>?_
 refine AT (pR (h.fr (.c r6 (.c r2 .n))) (hs.less (by decide)) 0) λs19 t20 c21 aGb w h=>?_
 refine rc h ?_
 exact jW (qN (qA (qN (qT oR (aGb))))) h.to
 have fP:=(hU _).mp oR
 refine go h λw h=>?_
 have h:=SH.tH (h.fr (.c r5 .n))
 have h:=SH.tH (h.fr (.c r4 .n))
 refine fD [1,3,5,7,9,11,13,15,17,19,21,23,25,27,29,31,33,35,37,39,41,43,45,47,51,48,52,54] (by kernel_rfl) h (.c r1 (.c r6 (.c r1 .n))) λw h=>go h λw h=>?_
 refine tk (λW H=>kB (cs:=[S.v,↑t.root,↑t.readOnly]) rfl (hX (H.rb a1) 0 rfl) Row.h)<|go h λw h=>?_
 refine cs (ci (S.sA h a4) rfl rfl) ((dY S (s.alloc ({kind:=2,gen:=(s.node i).gen}:Ct.Node) m1).1 (Ct.aM ((s.alloc ({kind:=2,gen:=(s.node i).gen}:Ct.Node) m1).1.node m0) ix (s.alloc ({kind:=2,gen:=(s.node i).gen}:Ct.Node) m1).2).1 wI m0 h.to hs (Ct.fY (ft_q9.mono (by first|omega|(simp only[dC];omega))) ix (s.alloc ({kind:=2,gen:=(s.node i).gen}:Ct.Node) m1).2)).mono ?_)
 rintro _ w ⟨rfl,h⟩
 have hs:=hs.alloc (Ct.fY (ft_q9.mono (by first|omega|(simp only[dC];omega))) ix (s.alloc ({kind:=2,gen:=(s.node i).gen}:Ct.Node) m1).2) m0
 refine⟨_,rfl,h.hs (.c r2 (.c r5 (.c r2 .n))),?_⟩
 have h:=h.jF a6
 have h:=h.jF a2
 have h:=h.jF a4
 have h:=h.fr (.c r0 (.c r0 (.c r0 (.c r5 .n))))
 have h:=SA (j:=60) (S:=S) (F:=F) (n:=m) (args:=iC) (k:=(λok_b=>bif !ok_b then k 0 else k (s.alloc ({kind:=2,gen:=(s.node i).gen}:Ct.Node) m1).2)) (v:=(.fn 290 [] [↑b1,↑b4])) [rb b1 ([↑wb]) 246,rb b4 ([.int .i64 (s.alloc ({kind:=2,gen:=(s.node i).gen}:Ct.Node) m1).2]) 44,rb wb (rnV S t i m0 ix thk) 248,gY S F m 50 eM k thk] h λm' nN B' w' L' s' x' h' mD=>Bt eF (DY S F b1 b4 (s.alloc ({kind:=2,gen:=(s.node i).gen}:Ct.Node) m1).2 wb t i m0 ix thk k (wO nN) x' s' h' (mD.less (by decide)))
 refine OI (Ee S F _ _ _ _ (.fn 290 [] [↑b1,↑b4]) (λok_b=>bif !ok_b then k 0 else k (s.alloc ({kind:=2,gen:=(s.node i).gen}:Ct.Node) m1).2) _ _ h.to (hs.less (by decide))) λs24 t25 c26 M9 w h=>?_
 refine rc h ?_
 exact jW (qN (qA (qN (qF oR (qA (M9)))))) h.to
theorem DW{β:Type}(S:fX)(F:β->Cc->As)(t:Ct.aX)(i:Int)(m0:Int)(ix:Int)(thk:Fv)(k:Int->Ct.I β)(n:Nat)(s:Ct.St)(h:SH B w (gY S F n 40 eM k thk::S.a s::L))(hs:Ct.Rm 45 s):
  Calls prog 241 #[.agg [S.v,↑t.root,↑t.readOnly].toArray,↑i,↑m0,↑ix,thk.val] w λe w'=>CP S F n B (Ct.oE t i m0 ix k) s L e w':=by
 refine cN func241 ntmps241 h λw h=>?_
 refine jX h λb1 w h=>?_
 refine jA h λb2 w h=>?_
 refine st (bd [S.v,↑t.root,↑t.readOnly,↑i,↑m0,↑ix,thk.val] Qg.h rfl (by cases thk<;>kernel_rfl))<|go h λw h=>?_
 refine jX h λb3 w h=>?_
 refine cl (ci (S.sN h a4) rfl rfl) ((dK S s m0 h.to hs).mono ?_)
 rintro _ w ⟨q4,rfl,h⟩
 have ft_q4:=hs.node m0
 have sz_q4:=lC hs
 have nf_q4:=ft_q4.nf (by omega)
 refine⟨_,rfl,?_⟩
 refine go h λw h=>?_
 refine bQ (zQ _ _ _ _ _ _ h.to nf_q4) λw h=>?_
 refine qc h (λdM w h=>?_) λdM w h=>?_
 have dJ:=(gZ _).mp dM
 refine go h λw h=>?_
 refine AT (pR (h.fr (.c r5 (.c r1 .n))) (hs.less (by decide)) 0) λs7 t8 c9 Ju w h=>?_
 refine rc h ?_
 exact jW (qN (qT dM (Ju))) h.to
 have iT:=(hU _).mp dM
 refine go h λw h=>?_
 have h:SH B w (rb b3 (rnV S t i m0 ix thk) 248::aL (s.node m0) q4::S.a s::bl b2 ([.int .i64 0,.int .i64 0,.int .i64 0,.int .i64 0,.nilFunc,.nilFunc,.int .i64 0,↑false,.int .u64 0,.string .empty,.int .i64 0,.int .i64 0,.int .i64 0,↑false]) 94::bl b1 ([S.v,↑t.root,↑t.readOnly]) 87::gY S F n 40 eM k thk::L):=SH.tH (h.fr (.c r2 .n))
 have h:=gL (j:=50) (aW _) (by decide) (h.fr (.c r5 .n))
 have h:=h.jF a1
 have h:=h.fr (.c r0 (.c r0 .n))
 have h:=SA (j:=60) (S:=S) (F:=F) (n:=n) (args:=eM) (k:=(λm_b=>.node i λa_b=>.alloc {kind:=2,gen:=a_b.gen} m_b λj_b=>.node m0 λn_b=>bif !(Ct.aM n_b ix j_b).2 then k 0 else .alloc (Ct.aM n_b ix j_b).1 m0 λr_b=>Ct.swapT t i m0 r_b λok_b=>bif !ok_b then k 0 else k j_b)) (v:=(.fn 272 [↑b3] [])) [rb b3 (rnV S t i m0 ix thk) 248,gY S F n 50 eM k thk] h λm' nN B' w' L' s' x' h' mD=>Bt eF (PC S F b3 t i m0 ix thk k (wO nN) x' s' h' (mD.less (by decide)))
 refine lA (pY S F _ _ (.fn 272 [↑b3] []) (λm_b=>.node i λa_b=>.alloc {kind:=2,gen:=a_b.gen} m_b λj_b=>.node m0 λn_b=>bif !(Ct.aM n_b ix j_b).2 then k 0 else .alloc (Ct.aM n_b ix j_b).1 m0 λr_b=>Ct.swapT t i m0 r_b λok_b=>bif !ok_b then k 0 else k j_b) _ _ h.to (hs.less (by decide))) λs12 t13 c14 aFh w h=>?_
 refine rc h ?_
 exact jW (qN (qF dM (aFh))) h.to
theorem NA{β:Type}(S:fX)(F:β->Cc->As)(gX fM jD lR vF QJ:Nat)(t:Ct.aX)(thk:Fv)(k:Bool->Ct.I β)(m0:Int)(ix:Int)(lv:Int)(pa:Int){n m:Nat}(hm:m<=n)(m1:Int)(s:Ct.St)(h:SH B w (rb gX ([S.v,↑t.root,↑t.readOnly]) 87::rb fM [thk.val] 92::rb jD ([↑m0]) 44::rb lR ([↑ix]) 3::rb vF ([↑lv]) 3::rb QJ ([↑pa]) 44::gY S F n 50 iC k thk::S.a s::L))(hs:Ct.Rm 60 s):
  Calls prog 229 #[↑m1,↑gX,↑fM,↑jD,↑lR,↑vF,↑QJ] w λe w'=>CP S F m B ((λq_b=>.node q_b λb_b=>bif !(Ct.aP b_b).2 then k false else .node m0 λn_b=>.alloc (Ct.aP b_b).1 0 λs_b=>bif !(Ct.aM n_b ix s_b).2 then k false else .alloc (Ct.bI (Ct.aM n_b ix s_b).1 lv (Ct.aP b_b).1) m0 λr_b=>Ct.swapT t pa m0 r_b k) m1) s L e w':=by
 have h:=gL hm (aW _) (h.fr (.c r6 .n))
 refine cN func229 ntmps229 h λw h=>?_
 refine sf (al h GV)<|?_
 rintro _ w ⟨b1,rfl,h⟩
 refine xe<|nx<|?_
 refine sm (λe w=>∃b4:Nat,∃q3:Lq,Sub 55 e (.c 1 ↑gX (.c 2 ↑fM (.c 3 ↑jD (.c 4 ↑lR (.c 5 ↑vF (.c 6 ↑QJ (.c 8 ↑b1 (.c 9 ↑b4 (.c 10 (.bool (Ct.aP (s.node m1)).2) .n)))))))))/\SH B w (bl b4 (aK (Ct.aP (s.node m1)).1 q3) 53::aL (Ct.aP (s.node m1)).1 q3::S.a s::bl b1 ([.int .i64 0,.int .i64 0,.int .i64 0,.int .i64 0,.nilFunc,.nilFunc,.int .i64 0,↑false,.int .u64 0,.string .empty,.int .i64 0,.int .i64 0,.int .i64 0,↑false]) 94::gY S F m 50 iC k thk::rb gX ([S.v,↑t.root,↑t.readOnly]) 87::rb fM [thk.val] 92::rb jD ([↑m0]) 44::rb lR ([↑ix]) 3::rb vF ([↑lv]) 3::rb QJ ([↑pa]) 44::L)) ?_ ?_
 refine go h λw h=>?_
 refine cl (ci (S.sN h a8) rfl rfl) ((dK S s m1 h.to hs).mono ?_)
 rintro _ w ⟨q2,rfl,h⟩
 have ft_q2:=hs.node m1
 have sz_q2:=lC hs
 have nf_q2:=ft_q2.nf (by omega)
 refine⟨_,rfl,?_⟩
 refine cS (Vj _ _ h.to) λq3 w h=>?_
 refine jA h λb4 w h=>?_
 exact⟨b4,q3,⟨rfl,rfl,rfl,rfl,rfl,rfl,rfl,rfl,rfl,trivial⟩,h.to⟩
 rintro e w ⟨b4,q3,hE,h⟩
 refine C.sub hE ?_
 have ft_q2:=hs.node m1
 have sz_q2:=lC hs
 have nf_q2:=ft_q2.nf (by omega)
 refine go h λw h=>?_
 rcases dQ (!(Ct.aP (s.node m1)).2)with dM|dM
 have dJ:=(gZ _).mp dM
 refine go h λw h=>?_
 refine AT (pR (h.fr (.c r4 (.c r2 .n))) (hs.less (by decide)) false) λs7 t8 c9 Ju w h=>?_
 refine rc h ?_
 exact jW (qN (qT dM (Ju))) h.to
 have iT:=(hU _).mp dM
 refine cf rfl dM<|sk<|nx<|?_
 refine sm (λe w=>∃b14:Nat,∃Bj:Lq,Sub 55 e (.c 1 ↑gX (.c 2 ↑fM (.c 3 ↑jD (.c 5 ↑vF (.c 6 ↑QJ (.c 8 ↑b1 (.c 9 ↑b4 (.c 10 (.bool (Ct.aM (s.node m0) ix (s.alloc (Ct.aP (s.node m1)).1 0).2).2) (.c 11 ↑b14 .n)))))))))/\SH B w (bl b14 (aK (Ct.aM (s.node m0) ix (s.alloc (Ct.aP (s.node m1)).1 0).2).1 Bj) 53::aL (Ct.aM (s.node m0) ix (s.alloc (Ct.aP (s.node m1)).1 0).2).1 Bj::S.a (s.alloc (Ct.aP (s.node m1)).1 0).1::aL (Ct.aP (s.node m1)).1 q3::bl b4 (aK (Ct.aP (s.node m1)).1 q3) 53::bl b1 ([.int .i64 0,.int .i64 0,.int .i64 0,.int .i64 0,.nilFunc,.nilFunc,.int .i64 0,↑false,.int .u64 0,.string .empty,.int .i64 0,.int .i64 0,.int .i64 0,↑false]) 94::gY S F m 50 iC k thk::rb gX ([S.v,↑t.root,↑t.readOnly]) 87::rb fM [thk.val] 92::rb jD ([↑m0]) 44::rb lR ([↑ix]) 3::rb vF ([↑lv]) 3::rb QJ ([↑pa]) 44::L)) ?_ ?_
 refine drT (F:=[rb gX ([S.v,↑t.root,↑t.readOnly]) 87,rb jD ([↑m0]) 44,rb lR ([↑ix]) 3,bl b4 (aK (Ct.aP (s.node m1)).1 q3) 53]) (.op 0 true (.op 1 true (.op 2 true (.op 4 true (.op 5 true (.op 6 true (.op 7 true (.fork 3 13 (.fork 8 13 (.fork 9 13 (.op 10 true (.op 11 true (.op 12 true (.op 13 false (.op 14 false (.op 15 false .stop)))))) (.op 9 false (.op 10 true (.op 11 true (.op 12 true (.op 14 false (.op 15 false .stop))))))) (.op 8 false (.op 9 false (.op 10 true (.op 11 true (.op 12 true (.op 14 false (.op 15 false .stop)))))))) (.op 3 false (.op 8 false (.op 9 false (.op 10 true (.op 11 true (.op 12 true (.op 14 false (.op 15 false .stop)))))))))))))))) (by kernel_rfl) h (λw h=>(hC (h.at_ a5) (hC (h.at_ a7) (hC (h.at_ a8) (hC (h.at_ a0) hN))))) λw h=>go h λw h=>?_
 refine Zb ?_ ?_
 refine cs (ci (S.sN h a2) rfl rfl) ((dK S s m0 h.to hs).mono ?_)
 rintro _ w ⟨q12,rfl,h⟩
 have ft_q12:=hs.node m0
 have sz_q12:=lC hs
 have nf_q12:=ft_q12.nf (by omega)
 refine⟨_,rfl,(hC (h.at_ a6) (hC (h.at_ a8) (hC (h.at_ a9) (hC (h.at_ a2) hN)))),?_⟩
 refine Zb ?_ ?_
 refine cs (ci (S.sA h a1) rfl rfl) ((dY S s (Ct.aP (s.node m1)).1 q3 0 ((SH.Wr h.to a0).fr (.c r0 (.c r1 .n))) hs (Ct.eQ (ft_q2.mono (by first|omega|(simp only[dC];omega))))).mono ?_)
 rintro _ w ⟨rfl,h⟩
 have hs:=hs.alloc (Ct.eQ (ft_q2.mono (by first|omega|(simp only[dC];omega)))) 0
 refine⟨_,rfl,(hC (h.at_ a6) (hC (h.at_ a8) (hC (h.at_ a9) (hC (h.at_ a3) hN)))),?_⟩
 refine Zb ?_ ?_
 refine nP (iL _ _ _ _ h.to nf_q12) λBj w h=>?_
 refine jB h λb14 w h=>?_
 exact⟨b14,Bj,⟨rfl,rfl,rfl,rfl,rfl,rfl,rfl,rfl,rfl,trivial⟩,h.to⟩
 refine jB h λb15 w h=>?_
 refine nP (iL _ _ _ _ h.to nf_q12) λUi w h=>?_
 exact⟨b15,Ui,⟨rfl,rfl,rfl,rfl,rfl,rfl,rfl,rfl,rfl,trivial⟩,(h.to.fr (.c r1 (.c r0 (.c r0 (.c r0 (.c r0 (.c r0 (.c r0 (.c r0 (.c r0 (.c r0 (.c r0 (.c r0 (.c r0 .n))))))))))))))⟩
 refine jB h λb17 w h=>?_
 refine cs (ci (S.sA h a2) rfl rfl) ((dY S s (Ct.aP (s.node m1)).1 q3 0 ((SH.Wr h.to a0).fr (.c r0 (.c r1 .n))) hs (Ct.eQ (ft_q2.mono (by first|omega|(simp only[dC];omega))))).mono ?_)
 rintro _ w ⟨rfl,h⟩
 have hs:=hs.alloc (Ct.eQ (ft_q2.mono (by first|omega|(simp only[dC];omega)))) 0
 refine⟨_,rfl,(hC (h.at_ a7) (hC (h.at_ a9) (hC (h.at_ a10) (hC (h.at_ a4) hN)))),?_⟩
 refine nP (iL _ _ _ _ h.to nf_q12) λPY w h=>?_
 exact⟨b17,PY,⟨rfl,rfl,rfl,rfl,rfl,rfl,rfl,rfl,rfl,trivial⟩,(h.to.fr (.c r3 (.c r0 (.c r0 (.c r0 (.c r0 (.c r0 (.c r0 (.c r0 (.c r0 (.c r0 (.c r0 (.c r0 (.c r0 .n))))))))))))))⟩
 refine jB h λb19 w h=>?_
 refine cs (ci (S.sN h a3) rfl rfl) ((dK S s m0 h.to hs).mono ?_)
 rintro _ w ⟨q20,rfl,h⟩
 have ft_q20:=hs.node m0
 have nf_q20:=ft_q20.nf (by omega)
 refine⟨_,rfl,(hC (h.at_ a7) (hC (h.at_ a9) (hC (h.at_ a10) (hC (h.at_ a3) hN)))),?_⟩
 refine cs (ci (S.sA h a1) rfl rfl) ((dY S s (Ct.aP (s.node m1)).1 q3 0 ((SH.Wr h.to a0).fr (.c r0 (.c r1 .n))) hs (Ct.eQ (ft_q2.mono (by first|omega|(simp only[dC];omega))))).mono ?_)
 rintro _ w ⟨rfl,h⟩
 have hs:=hs.alloc (Ct.eQ (ft_q2.mono (by first|omega|(simp only[dC];omega)))) 0
 refine⟨_,rfl,(hC (h.at_ a7) (hC (h.at_ a9) (hC (h.at_ a10) (hC (h.at_ a4) hN)))),?_⟩
 refine nP (iL _ _ _ _ h.to nf_q20) λZF w h=>?_
 exact⟨b19,ZF,⟨rfl,rfl,rfl,rfl,rfl,rfl,rfl,rfl,rfl,trivial⟩,(h.to.fr (.c r3 (.c r0 (.c r0 (.c r0 (.c r0 (.c r0 (.c r0 (.c r0 (.c r0 (.c r0 (.c r0 (.c r0 (.c r0 .n))))))))))))))⟩
 rintro e w ⟨b14,Bj,hE,h⟩
 refine C.sub hE ?_
 have ft_q12:=hs.node m0
 have sz_q12:=lC hs
 have nf_q12:=ft_q12.nf (by omega)
 have hs:=hs.alloc (Ct.eQ (ft_q2.mono (by first|omega|(simp only[dC];omega)))) 0
 refine go h λw h=>?_
 refine qc h (λmW w h=>?_) λmW w h=>?_
 refine AT (pR (h.fr (.c r6 (.c r2 .n))) (hs.less (by decide)) false) λs24 t25 c26 M9 w h=>?_
 refine rc h ?_
 exact jW (qN (qF dM (qN (qA (qT mW (M9)))))) h.to
 refine cS (Me _ _ _ _ _ h.to (Ct.Node.Fit.nf (L:=800000000000) (Ct.fY (ft_q12.mono (by omega)) ix (s.alloc (Ct.aP (s.node m1)).1 0).2) (by omega)) (by have:=((Ct.fY (ft_q12.mono (by omega)) ix (s.alloc (Ct.aP (s.node m1)).1 0).2):Ct.Node.Fit 100000000001 _);exact kR this.1.2.1 (by omega))) λq29 w h=>?_
 refine fD [1,3,5,7,9,11,13,17,14,18,20] (by kernel_rfl) h (.c r8 (.c r12 (.c r9 (.c r3 (.c r7 .n))))) λw h=>go h λw h=>?_
 refine cs (ci (S.sA h a4) rfl rfl) ((dY S (s.alloc (Ct.aP (s.node m1)).1 0).1 (Ct.bI (Ct.aM (s.node m0) ix (s.alloc (Ct.aP (s.node m1)).1 0).2).1 lv (Ct.aP (s.node m1)).1) q29 m0 h.to hs (Ct.iU (Ct.fY (ft_q12.mono (by first|omega|(simp only[dC];omega))) ix (s.alloc (Ct.aP (s.node m1)).1 0).2) (Ct.eQ (ft_q2.mono (by first|omega|(simp only[dC];omega)))) lv)).mono ?_)
 rintro _ w ⟨rfl,h⟩
 have hs:=hs.alloc (Ct.iU (Ct.fY (ft_q12.mono (by first|omega|(simp only[dC];omega))) ix (s.alloc (Ct.aP (s.node m1)).1 0).2) (Ct.eQ (ft_q2.mono (by first|omega|(simp only[dC];omega)))) lv) m0
 refine⟨_,rfl,h.hs (.c r7 (.c r11 (.c r8 (.c r3 (.c r6 .n))))),?_⟩
 have h:=AO (j:=60) (by decide) (h.fr (.c r6 .n))
 refine OI (Ee S F _ _ _ _ thk k _ _ h.to (hs.less (by decide))) λs30 t31 c32 aRk w h=>?_
 refine rc h ?_
 exact jW (qN (qF dM (qN (qA (qF mW (qA (aRk))))))) h.to
theorem VQ{β:Type}(S:fX)(F:β->Cc->As)(gX fM jD lR vF QJ:Nat)(hh:Nat)(lv:Int)(t:Ct.aX)(ch:Int)(thk:Fv)(k:Bool->Ct.I β)(pa:Int){n m:Nat}(hm:m<=n)(m1:Int)(s:Ct.St)(h:SH B w (rb gX ([.int .u64 (hh:Int)]) 28::rb fM ([↑lv]) 3::rb jD ([S.v,↑t.root,↑t.readOnly]) 87::rb lR ([↑ch]) 44::rb vF [thk.val] 92::rb QJ ([↑pa]) 44::gY S F n 50 iC k thk::S.a s::L))(hs:Ct.Rm 60 s)(yA:hh<18446744073709551616):
  Calls prog 226 #[↑m1,↑gX,↑fM,↑jD,↑lR,↑vF,↑QJ] w λe w'=>CP S F m B ((λm_b=>.node m_b λn_b=>bif !(Ct.aB n_b (Ct.slice hh lv)).2 then k false else bif (Ct.aB n_b (Ct.slice hh lv)).1 != ch then k false else Ct.kT t ch (λq_b=>.node q_b λb_b=>bif !(Ct.aP b_b).2 then k false else .node m_b λn_b=>.alloc (Ct.aP b_b).1 0 λs_b=>bif !(Ct.aM n_b (Ct.slice hh lv) s_b).2 then k false else .alloc (Ct.bI (Ct.aM n_b (Ct.slice hh lv) s_b).1 lv (Ct.aP b_b).1) m_b λr_b=>Ct.swapT t pa m_b r_b k)) m1) s L e w':=by
 have h:=gL hm (aW _) (h.fr (.c r6 .n))
 refine cN func226 ntmps226 h λw h=>?_
 refine jX h λb1 w h=>?_
 refine jA h λb2 w h=>?_
 refine cl (ca eF rfl) ((sU hh lv _ (by omega)).mono ?_)
 rintro _ _ ⟨rfl,rfl⟩
 refine⟨_,rfl,?_⟩
 refine sf (al h aNp)<|?_
 rintro _ w ⟨b3,rfl,h⟩
 refine sf (so h rfl rfl rfl Gu rfl (.r .d) u0)<|?_
 rintro _ w h
 refine xe<|nx<|?_
 refine sm (λe w=>Sub 37 e (.c 2 ↑fM (.c 3 ↑jD (.c 4 ↑lR (.c 5 ↑vF (.c 6 ↑QJ (.c 7 ↑b1 (.c 8 ↑b2 (.c 9 ↑b3 (.c 10 (.int .i64 (Ct.aB (s.node m1) (Ct.slice hh lv)).1) (.c 11 (.bool (Ct.aB (s.node m1) (Ct.slice hh lv)).2) .n))))))))))/\SH B w (S.a s::bl b3 ([.int .i64 (Ct.slice hh lv)]) 3::bl b2 ([.int .i64 0,.int .i64 0,.int .i64 0,.int .i64 0,.nilFunc,.nilFunc,.int .i64 0,↑false,.int .u64 0,.string .empty,.int .i64 0,.int .i64 0,.int .i64 0,↑false]) 94::bl b1 ([↑m1]) 44::gY S F m 50 iC k thk::rb gX ([.int .u64 (hh:Int)]) 28::rb fM ([↑lv]) 3::rb jD ([S.v,↑t.root,↑t.readOnly]) 87::rb lR ([↑ch]) 44::rb vF [thk.val] 92::rb QJ ([↑pa]) 44::L)) ?_ ?_
 refine fD [1,3,5,9,6,10,13,15,17,18,20] (by kernel_rfl) h (.c r6 (.c r2 (.c r0 .n))) λw h=>go h λw h=>?_
 refine cs (ci (S.sN h a10) rfl rfl) ((dK S s m1 h.to hs).mono ?_)
 rintro _ w ⟨q4,rfl,h⟩
 have ft_q4:=hs.node m1
 have sz_q4:=lC hs
 have nf_q4:=ft_q4.nf (by omega)
 refine⟨_,rfl,h.hs (.c r8 (.c r4 (.c r2 .n))),?_⟩
 refine qB (zQ _ _ _ _ _ _ h.to nf_q4) λw h=>?_
 exact⟨⟨rfl,rfl,rfl,rfl,rfl,rfl,rfl,rfl,rfl,rfl,trivial⟩,h.drop⟩
 rintro e w ⟨hE,h⟩
 refine C.sub hE ?_
 have ft_q4:=hs.node m1
 have sz_q4:=lC hs
 have nf_q4:=ft_q4.nf (by omega)
 refine go h λw h=>?_
 refine qg h (λdM w h=>?_) λdM w h=>?_
 refine AT (pR (h.fr (.c r4 (.c r0 .n))) (hs.less (by decide)) false) λs7 t8 c9 Ju w h=>?_
 refine rc h ?_
 exact jW (qN (qT dM (Ju))) h.to
 refine qc h (λfO w h=>?_) λfO w h=>?_
 refine AT (pR (h.fr (.c r4 (.c r0 .n))) (hs.less (by decide)) false) λs14 t15 c16 QE w h=>?_
 refine rc h ?_
 exact jW (qN (qF dM (qT fO (QE)))) h.to
 have h:=SH.tH (h.fr (.c r3 .n))
 have h:=SH.tH (h.fr (.c r2 .n))
 have h:=h.jF a10
 have h:=h.jF a7
 have h:=h.jF a2
 have h:=h.jF a4
 have h:=h.jF a13
 have h:=h.jF a12
 have h:=h.fr (.c r0 (.c r0 (.c r0 (.c r0 (.c r0 (.c r0 (.c r4 .n)))))))
 have h:=SA (j:=60) (S:=S) (F:=F) (n:=m) (args:=eM) (k:=(λq_b=>.node q_b λb_b=>bif !(Ct.aP b_b).2 then k false else .node m1 λn_b=>.alloc (Ct.aP b_b).1 0 λs_b=>bif !(Ct.aM n_b (Ct.slice hh lv) s_b).2 then k false else .alloc (Ct.bI (Ct.aM n_b (Ct.slice hh lv) s_b).1 lv (Ct.aP b_b).1) m1 λr_b=>Ct.swapT t pa m1 r_b k)) (v:=(.fn 229 [] [↑jD,↑vF,↑b1,↑b3,↑fM,↑QJ])) [rb jD ([S.v,↑t.root,↑t.readOnly]) 87,rb vF [thk.val] 92,rb b1 ([↑m1]) 44,rb b3 ([.int .i64 (Ct.slice hh lv)]) 3,rb fM ([↑lv]) 3,rb QJ ([↑pa]) 44,gY S F m 50 iC k thk] h λm' nN B' w' L' s' x' h' mD=>Bt eF (NA S F jD vF b1 b3 fM QJ t thk k m1 (Ct.slice hh lv) lv pa (wO nN) x' s' h' (mD.less (by decide)))
 refine lA (pY S F _ _ (.fn 229 [] [↑jD,↑vF,↑b1,↑b3,↑fM,↑QJ]) (λq_b=>.node q_b λb_b=>bif !(Ct.aP b_b).2 then k false else .node m1 λn_b=>.alloc (Ct.aP b_b).1 0 λs_b=>bif !(Ct.aM n_b (Ct.slice hh lv) s_b).2 then k false else .alloc (Ct.bI (Ct.aM n_b (Ct.slice hh lv) s_b).1 lv (Ct.aP b_b).1) m1 λr_b=>Ct.swapT t pa m1 r_b k) _ _ h.to (hs.less (by decide))) λs19 t20 c21 aGb w h=>?_
 refine rc h ?_
 exact jW (qN (qF dM (qF fO (aGb)))) h.to
theorem EN{β:Type}(S:fX)(F:β->Cc->As)(t:Ct.aX)(pa:Int)(ch:Int)(hh:Nat)(lv:Int)(thk:Fv)(k:Bool->Ct.I β)(n:Nat)(s:Ct.St)(h:SH B w (rQ S F n 50 iC k thk::S.a s::L))(hs:Ct.Rm 30 s)(yA:hh<18446744073709551616):
  Calls prog 204 #[.agg [S.v,↑t.root,↑t.readOnly].toArray,↑pa,↑ch,.int .u64 (hh:Int),↑lv,thk.val] w λe w'=>CP S F n B (Ct.mP t pa ch hh lv k) s L e w':=by
 refine cN func204 ntmps204 h λw h=>?_
 refine jX h λb1 w h=>?_
 refine jX h λb2 w h=>?_
 refine jX h λb3 w h=>?_
 refine jX h λb4 w h=>?_
 refine jX h λb5 w h=>?_
 refine jX h (hc:=oY _) λb6 w h=>?_
 refine jA h λb7 w h=>?_
 have h:=SH.tH (h.fr (.c r3 .n))
 have h:=SH.tH (h.fr (.c r3 .n))
 have h:=SH.tH (h.fr (.c r6 .n))
 have h:=SH.tH (h.fr (.c r5 .n))
 have h:=SH.tH (h.fr (.c r5 .n))
 have h:=SH.tH (h.fr (.c r6 .n))
 have h:=h.jF a0
 have h:=h.jF a2
 have h:=h.jF a4
 have h:=h.jF a6
 have h:=h.jF a8
 have h:=h.jF a10
 have h:=h.fr (.c r0 (.c r0 (.c r0 (.c r0 (.c r0 (.c r0 (.c r7 .n)))))))
 have h:=SA (j:=60) (S:=S) (F:=F) (n:=n) (args:=eM) (k:=(λm_b=>.node m_b λn_b=>bif !(Ct.aB n_b (Ct.slice hh lv)).2 then k false else bif (Ct.aB n_b (Ct.slice hh lv)).1 != ch then k false else Ct.kT t ch (λq_b=>.node q_b λb_b=>bif !(Ct.aP b_b).2 then k false else .node m_b λn_b=>.alloc (Ct.aP b_b).1 0 λs_b=>bif !(Ct.aM n_b (Ct.slice hh lv) s_b).2 then k false else .alloc (Ct.bI (Ct.aM n_b (Ct.slice hh lv) s_b).1 lv (Ct.aP b_b).1) m_b λr_b=>Ct.swapT t pa m_b r_b k))) (v:=(.fn 226 [] [↑b4,↑b5,↑b1,↑b3,↑b6,↑b2])) [rb b4 ([.int .u64 (hh:Int)]) 28,rb b5 ([↑lv]) 3,rb b1 ([S.v,↑t.root,↑t.readOnly]) 87,rb b3 ([↑ch]) 44,rb b6 [thk.val] 92,rb b2 ([↑pa]) 44,rQ S F n 50 iC k thk] h λm' nN B' w' L' s' x' h' mD=>Bt eF (VQ S F b4 b5 b1 b3 b6 b2 hh lv t ch thk k pa (aW _) x' s' ((Cu nN (h'.fr (.c r6 .n))).fr (.c r1 (.c r1 (.c r1 (.c r1 (.c r1 (.c r1 (.c r0 .n)))))))) (mD.less (by decide)) yA)
 refine lA (pY S F _ _ (.fn 226 [] [↑b4,↑b5,↑b1,↑b3,↑b6,↑b2]) (λm_b=>.node m_b λn_b=>bif !(Ct.aB n_b (Ct.slice hh lv)).2 then k false else bif (Ct.aB n_b (Ct.slice hh lv)).1 != ch then k false else Ct.kT t ch (λq_b=>.node q_b λb_b=>bif !(Ct.aP b_b).2 then k false else .node m_b λn_b=>.alloc (Ct.aP b_b).1 0 λs_b=>bif !(Ct.aM n_b (Ct.slice hh lv) s_b).2 then k false else .alloc (Ct.bI (Ct.aM n_b (Ct.slice hh lv) s_b).1 lv (Ct.aP b_b).1) m_b λr_b=>Ct.swapT t pa m_b r_b k)) _ _ h.to (hs.less (by decide))) λs8 t9 c10 aQ8 w h=>?_
 refine rc h ?_
 exact jW (aQ8) h.to
end Go.Q9
end
