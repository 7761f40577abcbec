/- Parts of a proof: Fp. -/
import Derived.Test.YtlpbjpanggcbbaaGreatW44
set_option linter.unusedVariables false
set_option linter.unusedSimpArgs false
set_option maxRecDepth 100000
set_option maxHeartbeats 4000000
section
namespace Go.E
theorem C6{P:Program}{n:Nat}{K:iG}{e:Tm}{ops:Array Oper}{S:World->Prop}{ls:List (Oper×Bool)}{d:Option Tmp}{ty:TypeId}{ps:String}{af:Array Edge}{w:World}{x:Operand}{v:Fv}{az:Array Operand}{ats:Array TypeId}{vs:List Value}(hx:ev n e x=some v.val)(ha:pU n e az.toList=some vs)
  (k:jK P v vs w λy w'=>∃u,y=.returned u/\S w'/\XS P n ops S ls K (Tm.put e d u) w'):XS P n ops S ((⟨d,.call ⟨.value x,az,ats⟩,ty,ps,af,none⟩,false)::ls) K e w:=by
 obtain⟨f,ff,fc,rfl,en,hc⟩:=k
 exact cs (T4 en hx ha) hc
end Go.E
namespace Go.Q9
open Go.Proofs.Tryz
open Go.RowKit Go.E
attribute [local irreducible] gB wpS Go.E.X XS C jU kP fin Y U F Ca jT bl rb aU bV ex ce pu sK gK bK zK gM fO dH gP nE rD
open Go.Ct (qN qA qC qG qT qF)
def LA(S:dN)(t:Ct.bC)(key:ByteArray)(hh:Nat):List Value:=[S.v,↑t.root,↑t.readOnly,↑key,.int .u64 (hh:Int)]
def RY(S:dN)(t:Ct.bC)(i m0 ix:Int)(thk:Fv):List Value:=[S.v,↑t.root,↑t.readOnly,↑i,↑m0,↑ix,thk.val]
theorem cY(s:Ct.St)(n:Ct.Node)(i:Int):(s.alloc n i).1.aG.length=s.aG.length+1:=by simp only[Ct.St.alloc];split<;>simp[Ct.St.aV]
theorem iO{j:Nat}{s:Ct.St}(hs:Ct.Rm j s):s.aG.length<=100000000000:=by have:=hs.zP;unfold Ct.St.size at this;omega
variable{B w:World}{L:List As}
theorem Wh{β:Type}(S:dN)(F:β->Cc->As)(cb0 cb1:Nat)(thk:Fv)(k:Bool->Ct.I β)(x0:Int){n m:Nat}(hm:m<=n)(x:Int)(s:Ct.St)(h:SH B w (rb cb0 [thk.val] 105::rb cb1 ([↑x0]) 39::gP S F n 60 dV k thk::S.a s::L))(hs:Ct.Rm 60 s):
  Calls prog 274 #[↑x,↑cb0,↑cb1] w λe w'=>CP S F m B ((λm0_b=>k (m0_b==x0)) x) s L e w':=by
 have h:=eR hm (JV _) (h.fr (.c r2 .n))
 refine bZ func274 ntmps274 h λw h=>?_
 refine jA h λb1 w h=>?_
 refine PM rfl rfl ((mA (h.fr (.c r1 (.c r3 .n))) (hs.less (by decide)) ((x:Int)==x0)).mono ?_)
 rintro _ w ⟨s2,t3,c4,hq5,rfl,h⟩
 refine⟨_,rfl,?_⟩
 refine go h λw h=>?_
 refine rr (bP rfl rfl (h.b a2) Row.h) ?_
 exact fI (hq5) h.to
theorem Xs{β:Type}(S:dN)(F:β->Cc->As)(cb0 cb1 cb2 cb3:Nat)(thk:Fv)(k:Bool->Ct.I β)(t:Ct.bC)(i:Int)(x0:Int){n m:Nat}(hm:m<=n)(ok:Bool)(s:Ct.St)(h:SH B w (rb cb0 [thk.val] 105::rb cb1 ([S.v,↑t.root,↑t.readOnly]) 99::rb cb2 ([↑i]) 39::rb cb3 ([↑x0]) 39::gP S F n 60 dV k thk::S.a s::L))(hs:Ct.Rm 60 s):
  Calls prog 273 #[↑ok,↑cb0,↑cb1,↑cb2,↑cb3] w λe w'=>CP S F m B ((λok_b=>bif !ok_b then k false else Ct.qB t i x0 λm0_b=>k (m0_b==x0)) ok) s L e w':=by
 have h:=eR hm (JV _) (h.fr (.c r4 .n))
 refine bZ func273 ntmps273 h λw h=>?_
 refine jA h λb1 w h=>?_
 refine qc h (λhd2 w h=>?_) λhd2 w h=>?_
 have hd3:ok=false:=(xE _).mp hd2
 refine go h λw h=>?_
 refine PM rfl rfl ((mA (h.fr (.c r1 (.c r5 .n))) (hs.less (by decide)) false).mono ?_)
 rintro _ w ⟨s4,t5,c6,hq7,rfl,h⟩
 refine⟨_,rfl,?_⟩
 refine go h λw h=>?_
 refine rr (bP rfl rfl (h.b a2) Row.h) ?_
 exact fI (qT hd2 (hq7)) h.to
 have hd8:ok=true:=(cW _).mp hd2
 refine go h λw h=>?_
 have h:=h.eT a5
 have h:=h.eT a3
 have h:=h.fr (.c r0 (.c r0 (.c r1 .n)))
 have h:=Me (j:=60) (S:=S) (F:=F) (n:=m) (args:=dQ) (k:=(λm0_b=>k (m0_b==x0))) (v:=(.fn 274 [] [↑cb0,↑cb3])) [rb cb0 [thk.val] 105,rb cb3 ([↑x0]) 39,gP S F m 60 dV k thk] h λm' hm' B' w' L' s' x' h' hs'=>pR eF (Wh S F cb0 cb3 thk k x0 (bI hm') x' s' h' (hs'.less (by decide)))
 refine fQ (Ay S F _ _ _ (.fn 274 [] [↑cb0,↑cb3]) (λm0_b=>k (m0_b==x0)) _ _ h.to (hs.less (by decide))) λs9 t10 c11 hq12 w h=>?_
 refine rr (bP rfl rfl (h.b a2) Row.h) ?_
 exact fI (qF hd2 (hq12)) h.to
theorem xY{β:Type}(S:dN)(F:β->Cc->As)(t:Ct.bC)(i:Int)(o:Int)(x0:Int)(thk:Fv)(k:Bool->Ct.I β)(n:Nat)(s:Ct.St)(h:SH B w (rD S F n 60 dV k thk::S.a s::L))(hs:Ct.Rm 30 s):
  Calls prog 243 #[.agg [S.v,↑t.root,↑t.readOnly].toArray,↑i,↑o,↑x0,thk.val] w λe w'=>CP S F n B (Ct.swapT t i o x0 k) s L e w':=by
 refine bZ func243 ntmps243 h λw h=>?_
 refine jX h λb1 w h=>?_
 refine jX h λb2 w h=>?_
 refine jX h λb3 w h=>?_
 refine sf (bx h rfl (lE _)) ?_
 rintro _ w ⟨b4,rfl,h⟩
 refine go h λw h=>?_
 refine jA h λb5 w h=>?_
 have h:=SH.kX (h.fr (.c r1 .n))
 have h:=SH.kX (h.fr (.c r4 .n))
 have h:=SH.kX (h.fr (.c r4 .n))
 have h:=SH.kX (h.fr (.c r4 .n))
 refine dZ [1,3,5,11,13,15,6,9,16,18] (by kernel_rfl) h (.c r2 (.c r1 (.c r0 .n))) λw h=>go h λw h=>?_
 refine cs (ci (S.sN h a6) rfl rfl) ((cK S s i h.to hs).mono ?_)
 rintro _ w ⟨q6,rfl,h⟩
 refine⟨_,rfl,h.hs (.c r4 (.c r3 (.c r2 .n))),?_⟩
 refine go h λw h=>?_
 refine gO (iW _ _ _ (.fn 273 [] [↑b4,↑b1,↑b2,↑b3]) h.to) λw h=>?_
 refine rr (bP rfl rfl (h.b a6) Row.h) ?_
 have h:=h.eT a2
 have h:=h.eT a4
 have h:=h.eT a6
 have h:=h.eT a8
 have h:=h.fr (.c r0 (.c r0 (.c r0 (.c r0 (.c r7 .n)))))
 have h:=Nt (S:=S) (F:=F) (n:=n) (args:=dV) (k:=(λok_b=>bif !ok_b then k false else Ct.qB t i x0 λm0_b=>k (m0_b==x0))) (v:=(.fn 273 [] [↑b4,↑b1,↑b2,↑b3])) [rb b4 [thk.val] 105,rb b1 ([S.v,↑t.root,↑t.readOnly]) 99,rb b2 ([↑i]) 39,rb b3 ([↑x0]) 39,rD S F n 60 dV k thk] h λm' hm' B' w' L' s' x' h' hs'=>pR eF (Xs S F b4 b1 b2 b3 thk k t i x0 (JV _) x' s' ((sB hm' (h'.fr (.c r4 .n))).fr (.c r1 (.c r1 (.c r1 (.c r1 (.c r0 .n)))))) (hs'.less (by decide)))
 have h:=kC (a:=(s.node i).main) (o:=o) (x:=x0) h
 exact fI (qN rfl) h.to
theorem Vn{β:Type}(S:dN)(F:β->Cc->As)(cb0 cb1:Nat)(j0:Int)(wb:Nat)(t:Ct.bC)(i m0 ix:Int)(thk:Fv)(k:Int->Ct.I β){n m:Nat}(hm:m<=n)(ok:Bool)(s:Ct.St)(h:SH B w (rb cb0 ([↑wb]) 259::rb cb1 ([↑j0]) 39::rb wb (RY S t i m0 ix thk) 261::gP S F n 50 dQ k thk::S.a s::L))(hs:Ct.Rm 60 s):
  Calls prog 301 #[↑ok,↑cb0,↑cb1] w λe w'=>CP S F m B ((λok_b=>bif !ok_b then k 0 else k j0) ok) s L e w':=by
 have h:=eR hm (JV _) (h.fr (.c r3 .n))
 refine bZ func301 ntmps301 h λw h=>?_
 refine jA h λb1 w h=>?_
 refine qc h (λhd2 w h=>?_) λhd2 w h=>?_
 have hd3:ok=false:=(xE _).mp hd2
 refine go h λw h=>?_
 refine PM rfl rfl ((mA (h.fr (.c r1 (.c r4 .n))) (hs.less (by decide)) 0).mono ?_)
 rintro _ w ⟨s4,t5,c6,hq7,rfl,h⟩
 refine⟨_,rfl,?_⟩
 refine go h λw h=>?_
 refine rr (bP rfl rfl (h.b a2) Row.h) ?_
 exact fI (qT hd2 (hq7)) h.to
 have hd8:ok=true:=(cW _).mp hd2
 refine go h λw h=>?_
 refine dZ [1,3,5,7,9,10,12] (by kernel_rfl) h (.c r2 (.c r3 (.c r2 .n))) λw h=>go h λw h=>?_
 refine C6 rfl rfl ((mA (h.fr (.c r1 (.c r4 .n))) (hs.less (by decide)) j0).mono ?_)
 rintro _ w ⟨s9,t10,c11,hq12,rfl,h⟩
 refine⟨_,rfl,h.hs (.c r3 (.c r4 (.c r3 .n))),?_⟩
 refine go h λw h=>?_
 refine rr (bP rfl rfl (h.b a2) Row.h) ?_
 exact fI (qF hd2 (hq12)) h.to
theorem AJ{β:Type}(S:dN)(F:β->Cc->As)(wb:Nat)(t:Ct.bC)(i m0 ix:Int)(thk:Fv)(k:Int->Ct.I β){n m:Nat}(hm:m<=n)(m1:Int)(s:Ct.St)(h:SH B w (rb wb (RY S t i m0 ix thk) 261::gP S F n 50 dQ k thk::S.a s::L))(hs:Ct.Rm 60 s):
  Calls prog 281 #[↑wb,↑m1] w λe w'=>CP S F m B ((λm_b=>.node i λa_b=>.alloc {kind:=2,gen:=a_b.gen} m_b λj_b=>.node m0 λn_b=>bif !(Ct.aP n_b ix j_b).2 then k 0 else .alloc (Ct.aP n_b ix j_b).1 m0 λr_b=>Ct.swapT t i m0 r_b λok_b=>bif !ok_b then k 0 else k j_b) m1) s L e w':=by
 have h:=eR hm (JV _) (h.fr (.c r1 .n))
 refine bZ func281 ntmps281 h λw h=>?_
 refine jX h λb1 w h=>?_
 refine sf (al h Hd)<|?_
 rintro _ w ⟨b2,rfl,h⟩
 refine xe<|nx<|?_
 refine sm (λe w=>∃b4:Nat,Sub 86 e (.c 2 ↑b1 (.c 4 ↑b2 (.c 5 ↑b4 .n)))/\SH B w (bl b4 ([.int .i64 (s.alloc ({kind:=2,gen:=(s.node i).gen}:Ct.Node) m1).2]) 39::S.a (s.alloc ({kind:=2,gen:=(s.node i).gen}:Ct.Node) m1).1::bl b2 ([.int .i64 0,.int .i64 0,.int .i64 0,.int .i64 0,.nilFunc,.nilFunc,.int .i64 0,↑false,.int .u64 0,.string .empty,.int .i64 0,.int .i64 0,.int .i64 0,↑false]) 107::bl b1 ([↑wb]) 259::gP S F m 50 dQ k thk::rb wb (RY S t i m0 ix thk) 261::L)) ?_ ?_
 refine VS (F:=[bl b1 ([↑wb]) 259,rb wb (RY S t i m0 ix thk) 261]) (.op 0 true (.op 1 true (.op 2 true (.op 3 true (.op 4 true (.op 5 true (.op 6 true (.op 7 true (.op 8 true (.op 9 true (.op 10 true (.op 11 true (.op 12 true (.op 13 true (.op 14 true (.op 15 true (.op 19 true (.op 20 true (.op 21 true (.fork 16 23 (.op 17 true (.fork 18 23 (.fork 22 23 (.op 23 false (.op 24 false .stop)) (.op 22 false (.op 24 false .stop))) (.op 18 false (.op 22 false (.op 24 false .stop))))) (.op 16 false (.op 17 true (.op 18 false (.op 22 false (.op 24 false .stop))))))))))))))))))))))))) (by kernel_rfl) h (λw h=>(hC (h.at_ a1) (hC (h.at_ a3) hN))) λw h=>go h λw h=>?_
 refine Mg ?_ ?_
 refine cs (ci (S.sN h a4) rfl rfl) ((cK S s i h.to hs).mono ?_)
 rintro _ w ⟨q3,rfl,h⟩
 have ft_q3:=hs.node i
 have sz_q3:=iO hs
 have nf_q3:=ft_q3.nf (by omega)
 refine⟨_,rfl,(hC (h.at_ a3) (hC (h.at_ a5) hN)),?_⟩
 refine go h λw h=>?_
 refine Mg ?_ ?_
 refine gO (nA _ h.to) λw h=>?_
 refine Mg ?_ ?_
 refine cs (ci (S.sA h a1) rfl rfl) ((cQ S s ({kind:=2,gen:=(s.node i).gen}:Ct.Node) {} m1 (SH.eE ({kind:=2,gen:=(s.node i).gen}:Ct.Node) rfl rfl h.to) hs (Ct.bG _ 2 (s.node i).gen 0 0 0)).mono ?_)
 rintro _ w ⟨rfl,h⟩
 have hs:=hs.alloc (Ct.bG _ 2 (s.node i).gen 0 0 0) m1
 refine⟨_,rfl,(hC (h.at_ a3) (hC (h.at_ a5) hN)),?_⟩
 refine jB h λb4 w h=>?_
 exact⟨b4,⟨rfl,rfl,rfl,trivial⟩,h.to⟩
 refine jB h λb5 w h=>?_
 refine cs (ci (S.sA h a2) rfl rfl) ((cQ S s ({kind:=2,gen:=(s.node i).gen}:Ct.Node) {} m1 (SH.eE ({kind:=2,gen:=(s.node i).gen}:Ct.Node) rfl rfl h.to) hs (Ct.bG _ 2 (s.node i).gen 0 0 0)).mono ?_)
 rintro _ w ⟨rfl,h⟩
 have hs:=hs.alloc (Ct.bG _ 2 (s.node i).gen 0 0 0) m1
 refine⟨_,rfl,(hC (h.at_ a4) (hC (h.at_ a6) hN)),?_⟩
 refine go h λw h=>?_
 exact⟨b5,⟨rfl,rfl,rfl,trivial⟩,(h.to.fr (.c r1 (.c r0 (.c r0 (.c r0 (.c r0 (.c r0 .n)))))))⟩
 refine jB h λb6 w h=>?_
 refine gO (nA _ h.to) λw h=>?_
 refine cs (ci (S.sA h a2) rfl rfl) ((cQ S s ({kind:=2,gen:=(s.node i).gen}:Ct.Node) {} m1 (SH.eE ({kind:=2,gen:=(s.node i).gen}:Ct.Node) rfl rfl h.to) hs (Ct.bG _ 2 (s.node i).gen 0 0 0)).mono ?_)
 rintro _ w ⟨rfl,h⟩
 have hs:=hs.alloc (Ct.bG _ 2 (s.node i).gen 0 0 0) m1
 refine⟨_,rfl,(hC (h.at_ a4) (hC (h.at_ a6) hN)),?_⟩
 refine go h λw h=>?_
 exact⟨b6,⟨rfl,rfl,rfl,trivial⟩,(h.to.fr (.c r1 (.c r0 (.c r0 (.c r0 (.c r0 (.c r0 .n)))))))⟩
 refine jB h λb7 w h=>?_
 refine cs (ci (S.sN h a5) rfl rfl) ((cK S s i h.to hs).mono ?_)
 rintro _ w ⟨q8,rfl,h⟩
 have ft_q8:=hs.node i
 have sz_q8:=iO hs
 have nf_q8:=ft_q8.nf (by omega)
 refine⟨_,rfl,(hC (h.at_ a4) (hC (h.at_ a6) hN)),?_⟩
 refine go h λw h=>?_
 refine gO (nA _ h.to) λw h=>?_
 refine cs (ci (S.sA h a1) rfl rfl) ((cQ S s ({kind:=2,gen:=(s.node i).gen}:Ct.Node) {} m1 (SH.eE ({kind:=2,gen:=(s.node i).gen}:Ct.Node) rfl rfl h.to) hs (Ct.bG _ 2 (s.node i).gen 0 0 0)).mono ?_)
 rintro _ w ⟨rfl,h⟩
 have hs:=hs.alloc (Ct.bG _ 2 (s.node i).gen 0 0 0) m1
 refine⟨_,rfl,(hC (h.at_ a4) (hC (h.at_ a6) hN)),?_⟩
 refine go h λw h=>?_
 exact⟨b7,⟨rfl,rfl,rfl,trivial⟩,(h.to.fr (.c r1 (.c r0 (.c r0 (.c r0 (.c r0 (.c r0 .n)))))))⟩
 rintro e w ⟨b4,hE,h⟩
 refine C.sub hE ?_
 clear hE e
 have ft_q3:=hs.node i
 have sz_q3:=iO hs
 have nf_q3:=ft_q3.nf (by omega)
 have hs:=hs.alloc (Ct.bG _ 2 (s.node i).gen 0 0 0) m1
 refine sm (λe w=>∃b11:Nat,∃q10:Lq,Sub 86 e (.c 2 ↑b1 (.c 4 ↑b2 (.c 5 ↑b4 (.c 6 ↑b11 (.c 7 (.bool (Ct.aP ((s.alloc ({kind:=2,gen:=(s.node i).gen}:Ct.Node) m1).1.node m0) ix (s.alloc ({kind:=2,gen:=(s.node i).gen}:Ct.Node) m1).2).2) .n)))))/\SH B w (bl b11 (aL (Ct.aP ((s.alloc ({kind:=2,gen:=(s.node i).gen}:Ct.Node) m1).1.node m0) ix (s.alloc ({kind:=2,gen:=(s.node i).gen}:Ct.Node) m1).2).1 q10) 90::aM (Ct.aP ((s.alloc ({kind:=2,gen:=(s.node i).gen}:Ct.Node) m1).1.node m0) ix (s.alloc ({kind:=2,gen:=(s.node i).gen}:Ct.Node) m1).2).1 q10::S.a (s.alloc ({kind:=2,gen:=(s.node i).gen}:Ct.Node) m1).1::bl b4 ([.int .i64 (s.alloc ({kind:=2,gen:=(s.node i).gen}:Ct.Node) m1).2]) 39::bl b2 ([.int .i64 0,.int .i64 0,.int .i64 0,.int .i64 0,.nilFunc,.nilFunc,.int .i64 0,↑false,.int .u64 0,.string .empty,.int .i64 0,.int .i64 0,.int .i64 0,↑false]) 107::bl b1 ([↑wb]) 259::gP S F m 50 dQ k thk::rb wb (RY S t i m0 ix thk) 261::L)) ?_ ?_
 refine VS (F:=[bl b1 ([↑wb]) 259,rb wb (RY S t i m0 ix thk) 261,bl b4 ([.int .i64 (s.alloc ({kind:=2,gen:=(s.node i).gen}:Ct.Node) m1).2]) 39]) (.op 0 true (.op 1 true (.op 2 true (.op 3 true (.op 4 true (.op 5 true (.op 6 true (.op 7 true (.op 8 true (.op 9 true (.op 10 true (.op 12 true (.op 13 true (.op 14 true (.op 15 true (.op 16 true (.fork 11 21 (.fork 17 21 (.op 18 true (.op 19 true (.op 20 true (.op 21 false (.op 22 false (.op 23 false .stop)))))) (.op 17 false (.op 18 true (.op 19 true (.op 20 true (.op 22 false (.op 23 false .stop))))))) (.op 11 false (.op 17 false (.op 18 true (.op 19 true (.op 20 true (.op 22 false (.op 23 false .stop)))))))))))))))))))))))) (by kernel_rfl) h (λw h=>(hC (h.at_ a3) (hC (h.at_ a5) (hC (h.at_ a0) hN)))) λw h=>go h λw h=>?_
 refine Mg ?_ ?_
 refine cs (ci (S.sN h a1) rfl rfl) ((cK S (s.alloc ({kind:=2,gen:=(s.node i).gen}:Ct.Node) m1).1 m0 h.to hs).mono ?_)
 rintro _ w ⟨q9,rfl,h⟩
 have ft_q9:=hs.node m0
 have sz_q9:=iO hs
 have nf_q9:=ft_q9.nf (by omega)
 refine⟨_,rfl,(hC (h.at_ a4) (hC (h.at_ a6) (hC (h.at_ a2) hN))),?_⟩
 refine Mg ?_ ?_
 refine lH (gI _ _ _ _ h.to nf_q9) λq10 w h=>?_
 refine jB h λb11 w h=>?_
 exact⟨b11,q10,⟨rfl,rfl,rfl,rfl,rfl,trivial⟩,h.to⟩
 refine jB h λb12 w h=>?_
 refine lH (gI _ _ _ _ h.to nf_q9) λq13 w h=>?_
 exact⟨b12,q13,⟨rfl,rfl,rfl,rfl,rfl,trivial⟩,(h.to.fr (.c r1 (.c r0 (.c r0 (.c r0 (.c r0 (.c r0 (.c r0 (.c r0 .n)))))))))⟩
 refine jB h λb14 w h=>?_
 refine cs (ci (S.sN h a2) rfl rfl) ((cK S (s.alloc ({kind:=2,gen:=(s.node i).gen}:Ct.Node) m1).1 m0 h.to hs).mono ?_)
 rintro _ w ⟨q15,rfl,h⟩
 have ft_q15:=hs.node m0
 have sz_q15:=iO hs
 have nf_q15:=ft_q15.nf (by omega)
 refine⟨_,rfl,(hC (h.at_ a5) (hC (h.at_ a7) (hC (h.at_ a3) hN))),?_⟩
 refine lH (gI _ _ _ _ h.to nf_q15) λq16 w h=>?_
 exact⟨b14,q16,⟨rfl,rfl,rfl,rfl,rfl,trivial⟩,(h.to.fr (.c r2 (.c r0 (.c r0 (.c r0 (.c r0 (.c r0 (.c r0 (.c r0 .n)))))))))⟩
 rintro e w ⟨b11,q10,hE,h⟩
 refine C.sub hE ?_
 clear hE e
 have ft_q9:=hs.node m0
 have sz_q9:=iO hs
 have nf_q9:=ft_q9.nf (by omega)
 refine go h λw h=>?_
 refine qc h (λhd17 w h=>?_) λhd17 w h=>?_
 have hd18:=(xE _).mp hd17
 refine go h λw h=>?_
 refine Ma (mA (h.fr (.c r6 (.c r2 .n))) (hs.less (by decide)) 0) λs19 t20 c21 hq22 w h=>?_
 refine rc h ?_
 exact fI (qN (qA (qN (qT hd17 (hq22))))) h.to
 have hd23:=(cW _).mp hd17
 refine go h λw h=>?_
 have h:=SH.kX (h.fr (.c r5 .n))
 have h:=SH.kX (h.fr (.c r4 .n))
 refine dZ [1,3,5,7,9,11,13,15,17,19,21,23,25,27,29,31,33,35,37,39,41,43,45,47,51,48,52,54] (by kernel_rfl) h (.c r1 (.c r6 (.c r1 .n))) λw h=>go h λw h=>?_
 refine tk (λW H=>gJ (cs:=[S.v,↑t.root,↑t.readOnly]) rfl (eP (H.rb a1) 0 rfl) Row.h)<|go h λw h=>?_
 refine cs (ci (S.sA h a4) rfl rfl) ((cQ S (s.alloc ({kind:=2,gen:=(s.node i).gen}:Ct.Node) m1).1 (Ct.aP ((s.alloc ({kind:=2,gen:=(s.node i).gen}:Ct.Node) m1).1.node m0) ix (s.alloc ({kind:=2,gen:=(s.node i).gen}:Ct.Node) m1).2).1 q10 m0 h.to hs (Ct.fH (ft_q9.mono (by first|omega|(simp only[cY];omega))) ix (s.alloc ({kind:=2,gen:=(s.node i).gen}:Ct.Node) m1).2)).mono ?_)
 rintro _ w ⟨rfl,h⟩
 have hs:=hs.alloc (Ct.fH (ft_q9.mono (by first|omega|(simp only[cY];omega))) ix (s.alloc ({kind:=2,gen:=(s.node i).gen}:Ct.Node) m1).2) m0
 refine⟨_,rfl,h.hs (.c r2 (.c r5 (.c r2 .n))),?_⟩
 have h:=h.eT a6
 have h:=h.eT a2
 have h:=h.eT a4
 have h:=h.fr (.c r0 (.c r0 (.c r0 (.c r5 .n))))
 have h:=Me (j:=60) (S:=S) (F:=F) (n:=m) (args:=dV) (k:=(λok_b=>bif !ok_b then k 0 else k (s.alloc ({kind:=2,gen:=(s.node i).gen}:Ct.Node) m1).2)) (v:=(.fn 301 [] [↑b1,↑b4])) [rb b1 ([↑wb]) 259,rb b4 ([.int .i64 (s.alloc ({kind:=2,gen:=(s.node i).gen}:Ct.Node) m1).2]) 39,rb wb (RY S t i m0 ix thk) 261,gP S F m 50 dQ k thk] h λm' hm' B' w' L' s' x' h' hs'=>pR eF (Vn S F b1 b4 (s.alloc ({kind:=2,gen:=(s.node i).gen}:Ct.Node) m1).2 wb t i m0 ix thk k (bI hm') x' s' h' (hs'.less (by decide)))
 refine Zs (xY S F _ _ _ _ (.fn 301 [] [↑b1,↑b4]) (λok_b=>bif !ok_b then k 0 else k (s.alloc ({kind:=2,gen:=(s.node i).gen}:Ct.Node) m1).2) _ _ h.to (hs.less (by decide))) λs24 t25 c26 hq27 w h=>?_
 refine rc h ?_
 exact fI (qN (qA (qN (qF hd17 (qA (hq27)))))) h.to
theorem Wr{β:Type}(S:dN)(F:β->Cc->As)(t:Ct.bC)(i:Int)(m0:Int)(ix:Int)(thk:Fv)(k:Int->Ct.I β)(n:Nat)(s:Ct.St)(h:SH B w (gP S F n 40 dQ k thk::S.a s::L))(hs:Ct.Rm 45 s):
  Calls prog 250 #[.agg [S.v,↑t.root,↑t.readOnly].toArray,↑i,↑m0,↑ix,thk.val] w λe w'=>CP S F n B (Ct.pD t i m0 ix k) s L e w':=by
 refine bZ func250 ntmps250 h λw h=>?_
 refine jX h λb1 w h=>?_
 refine jA h λb2 w h=>?_
 refine st (bd [S.v,↑t.root,↑t.readOnly,↑i,↑m0,↑ix,thk.val] Jn.h rfl (by cases thk<;>kernel_rfl))<|go h λw h=>?_
 refine jX h λb3 w h=>?_
 refine cl (ci (S.sN h a4) rfl rfl) ((cK S s m0 h.to hs).mono ?_)
 rintro _ w ⟨q4,rfl,h⟩
 have ft_q4:=hs.node m0
 have sz_q4:=iO hs
 have nf_q4:=ft_q4.nf (by omega)
 refine⟨_,rfl,?_⟩
 refine go h λw h=>?_
 refine bA (pX _ _ _ _ _ _ h.to nf_q4) λw h=>?_
 refine qc h (λhd5 w h=>?_) λhd5 w h=>?_
 have hd6:=(xE _).mp hd5
 refine go h λw h=>?_
 refine Ma (mA (h.fr (.c r5 (.c r1 .n))) (hs.less (by decide)) 0) λs7 t8 c9 hq10 w h=>?_
 refine rc h ?_
 exact fI (qN (qT hd5 (hq10))) h.to
 have hd11:=(cW _).mp hd5
 refine go h λw h=>?_
 have h:SH B w (rb b3 (RY S t i m0 ix thk) 261::aM (s.node m0) q4::S.a s::bl b2 ([.int .i64 0,.int .i64 0,.int .i64 0,.int .i64 0,.nilFunc,.nilFunc,.int .i64 0,↑false,.int .u64 0,.string .empty,.int .i64 0,.int .i64 0,.int .i64 0,↑false]) 107::bl b1 ([S.v,↑t.root,↑t.readOnly]) 99::gP S F n 40 dQ k thk::L):=SH.kX (h.fr (.c r2 .n))
 have h:=eR (j:=50) (JV _) (by decide) (h.fr (.c r5 .n))
 have h:=h.eT a1
 have h:=h.fr (.c r0 (.c r0 .n))
 have h:=Me (j:=60) (S:=S) (F:=F) (n:=n) (args:=dQ) (k:=(λm_b=>.node i λa_b=>.alloc {kind:=2,gen:=a_b.gen} m_b λj_b=>.node m0 λn_b=>bif !(Ct.aP n_b ix j_b).2 then k 0 else .alloc (Ct.aP n_b ix j_b).1 m0 λr_b=>Ct.swapT t i m0 r_b λok_b=>bif !ok_b then k 0 else k j_b)) (v:=(.fn 281 [↑b3] [])) [rb b3 (RY S t i m0 ix thk) 261,gP S F n 50 dQ k thk] h λm' hm' B' w' L' s' x' h' hs'=>pR eF (AJ S F b3 t i m0 ix thk k (bI hm') x' s' h' (hs'.less (by decide)))
 refine fQ (jZ S F _ _ (.fn 281 [↑b3] []) (λm_b=>.node i λa_b=>.alloc {kind:=2,gen:=a_b.gen} m_b λj_b=>.node m0 λn_b=>bif !(Ct.aP n_b ix j_b).2 then k 0 else .alloc (Ct.aP n_b ix j_b).1 m0 λr_b=>Ct.swapT t i m0 r_b λok_b=>bif !ok_b then k 0 else k j_b) _ _ h.to (hs.less (by decide))) λs12 t13 c14 hq15 w h=>?_
 refine rc h ?_
 exact fI (qN (qF hd5 (hq15))) h.to
theorem BJ{β:Type}(S:dN)(F:β->Cc->As)(cb0 cb1 cb2 cb3 cb4 cb5:Nat)(t:Ct.bC)(thk:Fv)(k:Bool->Ct.I β)(m0:Int)(ix:Int)(lv:Int)(pa:Int){n m:Nat}(hm:m<=n)(m1:Int)(s:Ct.St)(h:SH B w (rb cb0 ([S.v,↑t.root,↑t.readOnly]) 99::rb cb1 [thk.val] 105::rb cb2 ([↑m0]) 39::rb cb3 ([↑ix]) 3::rb cb4 ([↑lv]) 3::rb cb5 ([↑pa]) 39::gP S F n 50 dV k thk::S.a s::L))(hs:Ct.Rm 60 s):
  Calls prog 239 #[↑m1,↑cb0,↑cb1,↑cb2,↑cb3,↑cb4,↑cb5] w λe w'=>CP S F m B ((λq_b=>.node q_b λb_b=>bif !(Ct.aT b_b).2 then k false else .node m0 λn_b=>.alloc (Ct.aT b_b).1 0 λs_b=>bif !(Ct.aP n_b ix s_b).2 then k false else .alloc (Ct.bQ (Ct.aP n_b ix s_b).1 lv (Ct.aT b_b).1) m0 λr_b=>Ct.swapT t pa m0 r_b k) m1) s L e w':=by
 have h:=eR hm (JV _) (h.fr (.c r6 .n))
 refine bZ func239 ntmps239 h λw h=>?_
 refine sf (al h Hd)<|?_
 rintro _ w ⟨b1,rfl,h⟩
 refine xe<|nx<|?_
 refine sm (λe w=>∃b4:Nat,∃q3:Lq,Sub 55 e (.c 1 ↑cb0 (.c 2 ↑cb1 (.c 3 ↑cb2 (.c 4 ↑cb3 (.c 5 ↑cb4 (.c 6 ↑cb5 (.c 8 ↑b1 (.c 9 ↑b4 (.c 10 (.bool (Ct.aT (s.node m1)).2) .n)))))))))/\SH B w (bl b4 (aL (Ct.aT (s.node m1)).1 q3) 90::aM (Ct.aT (s.node m1)).1 q3::S.a s::bl b1 ([.int .i64 0,.int .i64 0,.int .i64 0,.int .i64 0,.nilFunc,.nilFunc,.int .i64 0,↑false,.int .u64 0,.string .empty,.int .i64 0,.int .i64 0,.int .i64 0,↑false]) 107::gP S F m 50 dV k thk::rb cb0 ([S.v,↑t.root,↑t.readOnly]) 99::rb cb1 [thk.val] 105::rb cb2 ([↑m0]) 39::rb cb3 ([↑ix]) 3::rb cb4 ([↑lv]) 3::rb cb5 ([↑pa]) 39::L)) ?_ ?_
 refine go h λw h=>?_
 refine cl (ci (S.sN h a8) rfl rfl) ((cK S s m1 h.to hs).mono ?_)
 rintro _ w ⟨q2,rfl,h⟩
 have ft_q2:=hs.node m1
 have sz_q2:=iO hs
 have nf_q2:=ft_q2.nf (by omega)
 refine⟨_,rfl,?_⟩
 refine cG (Lk _ _ h.to) λq3 w h=>?_
 refine jA h λb4 w h=>?_
 exact⟨b4,q3,⟨rfl,rfl,rfl,rfl,rfl,rfl,rfl,rfl,rfl,trivial⟩,h.to⟩
 rintro e w ⟨b4,q3,hE,h⟩
 refine C.sub hE ?_
 have ft_q2:=hs.node m1
 have sz_q2:=iO hs
 have nf_q2:=ft_q2.nf (by omega)
 refine go h λw h=>?_
 rcases CG (!(Ct.aT (s.node m1)).2)with hd5|hd5
 have hd6:=(xE _).mp hd5
 refine go h λw h=>?_
 refine Ma (mA (h.fr (.c r4 (.c r2 .n))) (hs.less (by decide)) false) λs7 t8 c9 hq10 w h=>?_
 refine rc h ?_
 exact fI (qN (qT hd5 (hq10))) h.to
 have hd11:=(cW _).mp hd5
 refine cf rfl hd5<|sk<|nx<|?_
 refine sm (λe w=>∃b14:Nat,∃q13:Lq,Sub 55 e (.c 1 ↑cb0 (.c 2 ↑cb1 (.c 3 ↑cb2 (.c 5 ↑cb4 (.c 6 ↑cb5 (.c 8 ↑b1 (.c 9 ↑b4 (.c 10 (.bool (Ct.aP (s.node m0) ix (s.alloc (Ct.aT (s.node m1)).1 0).2).2) (.c 11 ↑b14 .n)))))))))/\SH B w (bl b14 (aL (Ct.aP (s.node m0) ix (s.alloc (Ct.aT (s.node m1)).1 0).2).1 q13) 90::aM (Ct.aP (s.node m0) ix (s.alloc (Ct.aT (s.node m1)).1 0).2).1 q13::S.a (s.alloc (Ct.aT (s.node m1)).1 0).1::aM (Ct.aT (s.node m1)).1 q3::bl b4 (aL (Ct.aT (s.node m1)).1 q3) 90::bl b1 ([.int .i64 0,.int .i64 0,.int .i64 0,.int .i64 0,.nilFunc,.nilFunc,.int .i64 0,↑false,.int .u64 0,.string .empty,.int .i64 0,.int .i64 0,.int .i64 0,↑false]) 107::gP S F m 50 dV k thk::rb cb0 ([S.v,↑t.root,↑t.readOnly]) 99::rb cb1 [thk.val] 105::rb cb2 ([↑m0]) 39::rb cb3 ([↑ix]) 3::rb cb4 ([↑lv]) 3::rb cb5 ([↑pa]) 39::L)) ?_ ?_
 refine VS (F:=[rb cb0 ([S.v,↑t.root,↑t.readOnly]) 99,rb cb2 ([↑m0]) 39,rb cb3 ([↑ix]) 3,bl b4 (aL (Ct.aT (s.node m1)).1 q3) 90]) (.op 0 true (.op 1 true (.op 2 true (.op 4 true (.op 5 true (.op 6 true (.op 7 true (.fork 3 13 (.fork 8 13 (.fork 9 13 (.op 10 true (.op 11 true (.op 12 true (.op 13 false (.op 14 false (.op 15 false .stop)))))) (.op 9 false (.op 10 true (.op 11 true (.op 12 true (.op 14 false (.op 15 false .stop))))))) (.op 8 false (.op 9 false (.op 10 true (.op 11 true (.op 12 true (.op 14 false (.op 15 false .stop)))))))) (.op 3 false (.op 8 false (.op 9 false (.op 10 true (.op 11 true (.op 12 true (.op 14 false (.op 15 false .stop)))))))))))))))) (by kernel_rfl) h (λw h=>(hC (h.at_ a5) (hC (h.at_ a7) (hC (h.at_ a8) (hC (h.at_ a0) hN))))) λw h=>go h λw h=>?_
 refine Mg ?_ ?_
 refine cs (ci (S.sN h a2) rfl rfl) ((cK S s m0 h.to hs).mono ?_)
 rintro _ w ⟨q12,rfl,h⟩
 have ft_q12:=hs.node m0
 have sz_q12:=iO hs
 have nf_q12:=ft_q12.nf (by omega)
 refine⟨_,rfl,(hC (h.at_ a6) (hC (h.at_ a8) (hC (h.at_ a9) (hC (h.at_ a2) hN)))),?_⟩
 refine Mg ?_ ?_
 refine cs (ci (S.sA h a1) rfl rfl) ((cQ S s (Ct.aT (s.node m1)).1 q3 0 ((SH.Gs h.to a0).fr (.c r0 (.c r1 .n))) hs (Ct.eD (ft_q2.mono (by first|omega|(simp only[cY];omega))))).mono ?_)
 rintro _ w ⟨rfl,h⟩
 have hs:=hs.alloc (Ct.eD (ft_q2.mono (by first|omega|(simp only[cY];omega)))) 0
 refine⟨_,rfl,(hC (h.at_ a6) (hC (h.at_ a8) (hC (h.at_ a9) (hC (h.at_ a3) hN)))),?_⟩
 refine Mg ?_ ?_
 refine lH (gI _ _ _ _ h.to nf_q12) λq13 w h=>?_
 refine jB h λb14 w h=>?_
 exact⟨b14,q13,⟨rfl,rfl,rfl,rfl,rfl,rfl,rfl,rfl,rfl,trivial⟩,h.to⟩
 refine jB h λb15 w h=>?_
 refine lH (gI _ _ _ _ h.to nf_q12) λq16 w h=>?_
 exact⟨b15,q16,⟨rfl,rfl,rfl,rfl,rfl,rfl,rfl,rfl,rfl,trivial⟩,(h.to.fr (.c r1 (.c r0 (.c r0 (.c r0 (.c r0 (.c r0 (.c r0 (.c r0 (.c r0 (.c r0 (.c r0 (.c r0 (.c r0 .n))))))))))))))⟩
 refine jB h λb17 w h=>?_
 refine cs (ci (S.sA h a2) rfl rfl) ((cQ S s (Ct.aT (s.node m1)).1 q3 0 ((SH.Gs h.to a0).fr (.c r0 (.c r1 .n))) hs (Ct.eD (ft_q2.mono (by first|omega|(simp only[cY];omega))))).mono ?_)
 rintro _ w ⟨rfl,h⟩
 have hs:=hs.alloc (Ct.eD (ft_q2.mono (by first|omega|(simp only[cY];omega)))) 0
 refine⟨_,rfl,(hC (h.at_ a7) (hC (h.at_ a9) (hC (h.at_ ZA) (hC (h.at_ a4) hN)))),?_⟩
 refine lH (gI _ _ _ _ h.to nf_q12) λq18 w h=>?_
 exact⟨b17,q18,⟨rfl,rfl,rfl,rfl,rfl,rfl,rfl,rfl,rfl,trivial⟩,(h.to.fr (.c r3 (.c r0 (.c r0 (.c r0 (.c r0 (.c r0 (.c r0 (.c r0 (.c r0 (.c r0 (.c r0 (.c r0 (.c r0 .n))))))))))))))⟩
 refine jB h λb19 w h=>?_
 refine cs (ci (S.sN h a3) rfl rfl) ((cK S s m0 h.to hs).mono ?_)
 rintro _ w ⟨q20,rfl,h⟩
 have ft_q20:=hs.node m0
 have nf_q20:=ft_q20.nf (by omega)
 refine⟨_,rfl,(hC (h.at_ a7) (hC (h.at_ a9) (hC (h.at_ ZA) (hC (h.at_ a3) hN)))),?_⟩
 refine cs (ci (S.sA h a1) rfl rfl) ((cQ S s (Ct.aT (s.node m1)).1 q3 0 ((SH.Gs h.to a0).fr (.c r0 (.c r1 .n))) hs (Ct.eD (ft_q2.mono (by first|omega|(simp only[cY];omega))))).mono ?_)
 rintro _ w ⟨rfl,h⟩
 have hs:=hs.alloc (Ct.eD (ft_q2.mono (by first|omega|(simp only[cY];omega)))) 0
 refine⟨_,rfl,(hC (h.at_ a7) (hC (h.at_ a9) (hC (h.at_ ZA) (hC (h.at_ a4) hN)))),?_⟩
 refine lH (gI _ _ _ _ h.to nf_q20) λq21 w h=>?_
 exact⟨b19,q21,⟨rfl,rfl,rfl,rfl,rfl,rfl,rfl,rfl,rfl,trivial⟩,(h.to.fr (.c r3 (.c r0 (.c r0 (.c r0 (.c r0 (.c r0 (.c r0 (.c r0 (.c r0 (.c r0 (.c r0 (.c r0 (.c r0 .n))))))))))))))⟩
 rintro e w ⟨b14,q13,hE,h⟩
 refine C.sub hE ?_
 have ft_q12:=hs.node m0
 have sz_q12:=iO hs
 have nf_q12:=ft_q12.nf (by omega)
 have hs:=hs.alloc (Ct.eD (ft_q2.mono (by first|omega|(simp only[cY];omega)))) 0
 refine go h λw h=>?_
 refine qc h (λhd22 w h=>?_) λhd22 w h=>?_
 refine Ma (mA (h.fr (.c r6 (.c r2 .n))) (hs.less (by decide)) false) λs24 t25 c26 hq27 w h=>?_
 refine rc h ?_
 exact fI (qN (qF hd5 (qN (qA (qT hd22 (hq27)))))) h.to
 refine cG (Fq _ _ _ _ _ h.to (Ct.Node.Fit.nf (L:=800000000000) (Ct.fH (ft_q12.mono (by omega)) ix (s.alloc (Ct.aT (s.node m1)).1 0).2) (by omega)) (by have:=((Ct.fH (ft_q12.mono (by omega)) ix (s.alloc (Ct.aT (s.node m1)).1 0).2):Ct.Node.Fit 100000000001 _);exact Fk this.1.2.1 (by omega))) λq29 w h=>?_
 refine dZ [1,3,5,7,9,11,13,17,14,18,20] (by kernel_rfl) h (.c r8 (.c L5 (.c r9 (.c r3 (.c r7 .n))))) λw h=>go h λw h=>?_
 refine cs (ci (S.sA h a4) rfl rfl) ((cQ S (s.alloc (Ct.aT (s.node m1)).1 0).1 (Ct.bQ (Ct.aP (s.node m0) ix (s.alloc (Ct.aT (s.node m1)).1 0).2).1 lv (Ct.aT (s.node m1)).1) q29 m0 h.to hs (Ct.fA (Ct.fH (ft_q12.mono (by first|omega|(simp only[cY];omega))) ix (s.alloc (Ct.aT (s.node m1)).1 0).2) (Ct.eD (ft_q2.mono (by first|omega|(simp only[cY];omega)))) lv)).mono ?_)
 rintro _ w ⟨rfl,h⟩
 have hs:=hs.alloc (Ct.fA (Ct.fH (ft_q12.mono (by first|omega|(simp only[cY];omega))) ix (s.alloc (Ct.aT (s.node m1)).1 0).2) (Ct.eD (ft_q2.mono (by first|omega|(simp only[cY];omega)))) lv) m0
 refine⟨_,rfl,h.hs (.c r7 (.c J7 (.c r8 (.c r3 (.c r6 .n))))),?_⟩
 have h:=Rj (j:=60) (by decide) (h.fr (.c r6 .n))
 refine Zs (xY S F _ _ _ _ thk k _ _ h.to (hs.less (by decide))) λs30 t31 c32 hq33 w h=>?_
 refine rc h ?_
 exact fI (qN (qF hd5 (qN (qA (qF hd22 (qA (hq33))))))) h.to
theorem HX{β:Type}(S:dN)(F:β->Cc->As)(cb0 cb1 cb2 cb3 cb4 cb5:Nat)(hh:Nat)(lv:Int)(t:Ct.bC)(ch:Int)(thk:Fv)(k:Bool->Ct.I β)(pa:Int){n m:Nat}(hm:m<=n)(m1:Int)(s:Ct.St)(h:SH B w (rb cb0 ([.int .u64 (hh:Int)]) 30::rb cb1 ([↑lv]) 3::rb cb2 ([S.v,↑t.root,↑t.readOnly]) 99::rb cb3 ([↑ch]) 39::rb cb4 [thk.val] 105::rb cb5 ([↑pa]) 39::gP S F n 50 dV k thk::S.a s::L))(hs:Ct.Rm 60 s)(hh64:hh<18446744073709551616):
  Calls prog 238 #[↑m1,↑cb0,↑cb1,↑cb2,↑cb3,↑cb4,↑cb5] w λe w'=>CP S F m B ((λm_b=>.node m_b λn_b=>bif !(Ct.aB n_b (Ct.slice hh lv)).2 then k false else bif (Ct.aB n_b (Ct.slice hh lv)).1 != ch then k false else Ct.mM t ch (λq_b=>.node q_b λb_b=>bif !(Ct.aT b_b).2 then k false else .node m_b λn_b=>.alloc (Ct.aT b_b).1 0 λs_b=>bif !(Ct.aP n_b (Ct.slice hh lv) s_b).2 then k false else .alloc (Ct.bQ (Ct.aP n_b (Ct.slice hh lv) s_b).1 lv (Ct.aT b_b).1) m_b λr_b=>Ct.swapT t pa m_b r_b k)) m1) s L e w':=by
 have h:=eR hm (JV _) (h.fr (.c r6 .n))
 refine bZ func238 ntmps238 h λw h=>?_
 refine jX h λb1 w h=>?_
 refine jA h λb2 w h=>?_
 refine cl (ca eF rfl) ((nB hh lv _ (by omega)).mono ?_)
 rintro _ _ ⟨rfl,rfl⟩
 refine⟨_,rfl,?_⟩
 refine sf (al h z6)<|?_
 rintro _ w ⟨b3,rfl,h⟩
 refine sf (so h rfl rfl rfl Bf rfl (.r .d) u0)<|?_
 rintro _ w h
 refine xe<|nx<|?_
 refine sm (λe w=>Sub 37 e (.c 2 ↑cb1 (.c 3 ↑cb2 (.c 4 ↑cb3 (.c 5 ↑cb4 (.c 6 ↑cb5 (.c 7 ↑b1 (.c 8 ↑b2 (.c 9 ↑b3 (.c 10 (.int .i64 (Ct.aB (s.node m1) (Ct.slice hh lv)).1) (.c 11 (.bool (Ct.aB (s.node m1) (Ct.slice hh lv)).2) .n))))))))))/\SH B w (S.a s::bl b3 ([.int .i64 (Ct.slice hh lv)]) 3::bl b2 ([.int .i64 0,.int .i64 0,.int .i64 0,.int .i64 0,.nilFunc,.nilFunc,.int .i64 0,↑false,.int .u64 0,.string .empty,.int .i64 0,.int .i64 0,.int .i64 0,↑false]) 107::bl b1 ([↑m1]) 39::gP S F m 50 dV k thk::rb cb0 ([.int .u64 (hh:Int)]) 30::rb cb1 ([↑lv]) 3::rb cb2 ([S.v,↑t.root,↑t.readOnly]) 99::rb cb3 ([↑ch]) 39::rb cb4 [thk.val] 105::rb cb5 ([↑pa]) 39::L)) ?_ ?_
 refine dZ [1,3,5,9,6,10,13,15,17,18,20] (by kernel_rfl) h (.c r6 (.c r2 (.c r0 .n))) λw h=>go h λw h=>?_
 refine cs (ci (S.sN h ZA) rfl rfl) ((cK S s m1 h.to hs).mono ?_)
 rintro _ w ⟨q4,rfl,h⟩
 have ft_q4:=hs.node m1
 have sz_q4:=iO hs
 have nf_q4:=ft_q4.nf (by omega)
 refine⟨_,rfl,h.hs (.c r8 (.c r4 (.c r2 .n))),?_⟩
 refine gO (pX _ _ _ _ _ _ h.to nf_q4) λw h=>?_
 exact⟨⟨rfl,rfl,rfl,rfl,rfl,rfl,rfl,rfl,rfl,rfl,trivial⟩,h.drop⟩
 rintro e w ⟨hE,h⟩
 refine C.sub hE ?_
 have ft_q4:=hs.node m1
 have sz_q4:=iO hs
 have nf_q4:=ft_q4.nf (by omega)
 refine go h λw h=>?_
 refine qg h (λhd5 w h=>?_) λhd5 w h=>?_
 refine Ma (mA (h.fr (.c r4 (.c r0 .n))) (hs.less (by decide)) false) λs7 t8 c9 hq10 w h=>?_
 refine rc h ?_
 exact fI (qN (qT hd5 (hq10))) h.to
 refine qc h (λhd12 w h=>?_) λhd12 w h=>?_
 refine Ma (mA (h.fr (.c r4 (.c r0 .n))) (hs.less (by decide)) false) λs14 t15 c16 hq17 w h=>?_
 refine rc h ?_
 exact fI (qN (qF hd5 (qT hd12 (hq17)))) h.to
 have h:=SH.kX (h.fr (.c r3 .n))
 have h:=SH.kX (h.fr (.c r2 .n))
 have h:=h.eT ZA
 have h:=h.eT a7
 have h:=h.eT a2
 have h:=h.eT a4
 have h:=h.eT N7
 have h:=h.eT T3
 have h:=h.fr (.c r0 (.c r0 (.c r0 (.c r0 (.c r0 (.c r0 (.c r4 .n)))))))
 have h:=Me (j:=60) (S:=S) (F:=F) (n:=m) (args:=dQ) (k:=(λq_b=>.node q_b λb_b=>bif !(Ct.aT b_b).2 then k false else .node m1 λn_b=>.alloc (Ct.aT b_b).1 0 λs_b=>bif !(Ct.aP n_b (Ct.slice hh lv) s_b).2 then k false else .alloc (Ct.bQ (Ct.aP n_b (Ct.slice hh lv) s_b).1 lv (Ct.aT b_b).1) m1 λr_b=>Ct.swapT t pa m1 r_b k)) (v:=(.fn 239 [] [↑cb2,↑cb4,↑b1,↑b3,↑cb1,↑cb5])) [rb cb2 ([S.v,↑t.root,↑t.readOnly]) 99,rb cb4 [thk.val] 105,rb b1 ([↑m1]) 39,rb b3 ([.int .i64 (Ct.slice hh lv)]) 3,rb cb1 ([↑lv]) 3,rb cb5 ([↑pa]) 39,gP S F m 50 dV k thk] h λm' hm' B' w' L' s' x' h' hs'=>pR eF (BJ S F cb2 cb4 b1 b3 cb1 cb5 t thk k m1 (Ct.slice hh lv) lv pa (bI hm') x' s' h' (hs'.less (by decide)))
 refine fQ (jZ S F _ _ (.fn 239 [] [↑cb2,↑cb4,↑b1,↑b3,↑cb1,↑cb5]) (λq_b=>.node q_b λb_b=>bif !(Ct.aT b_b).2 then k false else .node m1 λn_b=>.alloc (Ct.aT b_b).1 0 λs_b=>bif !(Ct.aP n_b (Ct.slice hh lv) s_b).2 then k false else .alloc (Ct.bQ (Ct.aP n_b (Ct.slice hh lv) s_b).1 lv (Ct.aT b_b).1) m1 λr_b=>Ct.swapT t pa m1 r_b k) _ _ h.to (hs.less (by decide))) λs19 t20 c21 hq22 w h=>?_
 refine rc h ?_
 exact fI (qN (qF hd5 (qF hd12 (hq22)))) h.to
theorem Yd{β:Type}(S:dN)(F:β->Cc->As)(t:Ct.bC)(pa:Int)(ch:Int)(hh:Nat)(lv:Int)(thk:Fv)(k:Bool->Ct.I β)(n:Nat)(s:Ct.St)(h:SH B w (rD S F n 50 dV k thk::S.a s::L))(hs:Ct.Rm 30 s)(hh64:hh<18446744073709551616):
  Calls prog 197 #[.agg [S.v,↑t.root,↑t.readOnly].toArray,↑pa,↑ch,.int .u64 (hh:Int),↑lv,thk.val] w λe w'=>CP S F n B (Ct.qW t pa ch hh lv k) s L e w':=by
 refine bZ func197 ntmps197 h λw h=>?_
 refine jX h λb1 w h=>?_
 refine jX h λb2 w h=>?_
 refine jX h λb3 w h=>?_
 refine jX h λb4 w h=>?_
 refine jX h λb5 w h=>?_
 refine jX h (hc:=lE _) λb6 w h=>?_
 refine jA h λb7 w h=>?_
 have h:=SH.kX (h.fr (.c r3 .n))
 have h:=SH.kX (h.fr (.c r3 .n))
 have h:=SH.kX (h.fr (.c r6 .n))
 have h:=SH.kX (h.fr (.c r5 .n))
 have h:=SH.kX (h.fr (.c r5 .n))
 have h:=SH.kX (h.fr (.c r6 .n))
 have h:=h.eT a0
 have h:=h.eT a2
 have h:=h.eT a4
 have h:=h.eT a6
 have h:=h.eT a8
 have h:=h.eT ZA
 have h:=h.fr (.c r0 (.c r0 (.c r0 (.c r0 (.c r0 (.c r0 (.c r7 .n)))))))
 have h:=Me (j:=60) (S:=S) (F:=F) (n:=n) (args:=dQ) (k:=(λm_b=>.node m_b λn_b=>bif !(Ct.aB n_b (Ct.slice hh lv)).2 then k false else bif (Ct.aB n_b (Ct.slice hh lv)).1 != ch then k false else Ct.mM t ch (λq_b=>.node q_b λb_b=>bif !(Ct.aT b_b).2 then k false else .node m_b λn_b=>.alloc (Ct.aT b_b).1 0 λs_b=>bif !(Ct.aP n_b (Ct.slice hh lv) s_b).2 then k false else .alloc (Ct.bQ (Ct.aP n_b (Ct.slice hh lv) s_b).1 lv (Ct.aT b_b).1) m_b λr_b=>Ct.swapT t pa m_b r_b k))) (v:=(.fn 238 [] [↑b4,↑b5,↑b1,↑b3,↑b6,↑b2])) [rb b4 ([.int .u64 (hh:Int)]) 30,rb b5 ([↑lv]) 3,rb b1 ([S.v,↑t.root,↑t.readOnly]) 99,rb b3 ([↑ch]) 39,rb b6 [thk.val] 105,rb b2 ([↑pa]) 39,rD S F n 50 dV k thk] h λm' hm' B' w' L' s' x' h' hs'=>pR eF (HX S F b4 b5 b1 b3 b6 b2 hh lv t ch thk k pa (JV _) x' s' ((sB hm' (h'.fr (.c r6 .n))).fr (.c r1 (.c r1 (.c r1 (.c r1 (.c r1 (.c r1 (.c r0 .n)))))))) (hs'.less (by decide)) hh64)
 refine fQ (jZ S F _ _ (.fn 238 [] [↑b4,↑b5,↑b1,↑b3,↑b6,↑b2]) (λm_b=>.node m_b λn_b=>bif !(Ct.aB n_b (Ct.slice hh lv)).2 then k false else bif (Ct.aB n_b (Ct.slice hh lv)).1 != ch then k false else Ct.mM t ch (λq_b=>.node q_b λb_b=>bif !(Ct.aT b_b).2 then k false else .node m_b λn_b=>.alloc (Ct.aT b_b).1 0 λs_b=>bif !(Ct.aP n_b (Ct.slice hh lv) s_b).2 then k false else .alloc (Ct.bQ (Ct.aP n_b (Ct.slice hh lv) s_b).1 lv (Ct.aT b_b).1) m_b λr_b=>Ct.swapT t pa m_b r_b k)) _ _ h.to (hs.less (by decide))) λs8 t9 c10 hq11 w h=>?_
 refine rc h ?_
 exact fI (hq11) h.to
def Hw(S:dN)(N n:Nat):Prop:=∀(wb:Nat) (t:Ct.bC) (key:ByteArray) (hh:Nat) (i lv:Int) (B w:World) (L:List As) (s:Ct.St),SH B w (rb wb (LA S t key hh) 113::S.a s::L)->Ct.Rm 30 s->hh<18446744073709551616->0<=lv/\lv+N<=4000000000000000000->
 Calls prog 50 #[↑wb,↑i,↑lv] w λe w'=>CP S dW n B (Ct.pG t key hh N i lv) s L e w'
theorem oQ(S:dN)(n:Nat)(s:Ct.St)(h:SH B w (S.a s::L))(_hs:Ct.Rm 30 s):
  Calls prog 101 #[] w λe w'=>CP S dW n B ((.ret {}:Ct.I Ct.Result)) s L e w':=by
 refine bZ func101 ntmps101 h λw h=>?_
 refine jA h λb1 w h=>?_
 refine bA (gV ({}:Ct.Result) h.to) λw h=>?_
 refine rr (bP rfl rfl (h.b a0) Row.h) ?_
 have h:=kD (S:=S) (n:=n) (r:=({}:Ct.Result)) h
 exact fI (rfl) h.to
theorem xO(S:dN)(v:Nat)(n:Nat)(s:Ct.St)(h:SH B w (S.a s::L))(_hs:Ct.Rm 30 s):
  Calls prog 104 #[.int .u64 (v:Int)] w λe w'=>CP S dW n B ((.ret (Ct.cC true v):Ct.I Ct.Result)) s L e w':=by
 refine bZ func104 ntmps104 h λw h=>?_
 refine jA h λb1 w h=>?_
 refine bA (gV ({found:=true,value:=v}:Ct.Result) h.to) λw h=>?_
 refine rr (bP rfl rfl (h.b a0) Row.h) ?_
 have h:=kD (S:=S) (n:=n) (r:=({found:=true,value:=v}:Ct.Result)) h
 exact fI (rfl) h.to
theorem Ek(S:dN)(wb:Nat)(t:Ct.bC)(key:ByteArray)(hh:Nat)(x:Ct.Node)(qx:Lq)(n:Nat)(s:Ct.St)(h:SH B w (rb wb (LA S t key hh) 113::aM x qx::S.a s::L))(hs:Ct.Rm 30 s):
  Calls prog 102 #[↑wb,.agg (aL x qx).toArray] w λe w'=>CP S dW n B (Ct.vO key x) s L e w':=by
 refine bZ func102 ntmps102 h λw h=>?_
 refine jX h λb1 w h=>?_
 refine jA h λb2 w h=>?_
 refine dZ [1,3,5,7,9,11,13] (by kernel_rfl) h (.c r1 (.c r1 .n)) λw h=>go h λw h=>?_
 refine qc h (λhd3 w h=>?_) λhd3 w h=>?_
 refine fQ (xO S x.value n s h.to (hs.less (by decide))) λs4 t5 c6 hq7 w h=>?_
 refine rr (bP rfl rfl (h.b a2) Row.h) ?_
 exact fI (qT hd3 (hq7)) h.to
 refine fQ (oQ S n s h.to (hs.less (by decide))) λs8 t9 c10 hq11 w h=>?_
 refine rr (bP rfl rfl (h.b a2) Row.h) ?_
 exact fI (qF hd3 (hq11)) h.to
theorem KG(S:dN)(N n:Nat)(hrec:∀j,j<=n->Hw S N j)(cb0 cb1:Nat)(lv:Int)(wb:Nat)(t:Ct.bC)(key:ByteArray)(hh:Nat){m:Nat}(hm:m<=n)(m1:Int)(s:Ct.St)(h:SH B w (rb cb0 ([↑wb]) 111::rb cb1 ([↑lv]) 3::rb wb (LA S t key hh) 113::S.a s::L))(hs:Ct.Rm 60 s)(hh64:hh<18446744073709551616)(hl:0<=lv/\lv+1+N<=4000000000000000000):
  Calls prog 98 #[↑m1,↑cb0,↑cb1] w λe w'=>CP S dW m B ((λr_b=>.node r_b λm_b=>bif m_b.kind==3 then(bif !(Ct.aB m_b (Ct.slice hh lv)).2 then .ret {}else .node (Ct.aB m_b (Ct.slice hh lv)).1 λx_b=>bif x_b.kind==4 then Ct.vO key x_b else Ct.pG t key hh N (Ct.aB m_b (Ct.slice hh lv)).1 (lv+1))else bif m_b.kind==5 then Ct.vO key m_b else bif m_b.kind==6 then(bif (Ct.bB m_b.aF key).2 then .ret (Ct.cC true (Ct.bB m_b.aF key).1)else .ret {})else .ret {}) m1) s L e w':=by
 refine bZ func98 ntmps98 h λw h=>?_
 refine jA h λb1 w h=>?_
 refine cl (ci (S.sN h a4) rfl rfl) ((cK S s m1 h.to hs).mono ?_)
 rintro _ w ⟨q2,rfl,h⟩
 have ft_q2:=hs.node m1
 have sz_q2:=iO hs
 have nf_q2:=ft_q2.nf (by omega)
 refine⟨_,rfl,?_⟩
 refine jA h λb3 w h=>?_
 rcases CG (((s.node m1).kind:Int)==3)with hd4|hd4
 refine ct rfl hd4<|?_
 refine sm (λe w=>Sub 75 e (.c 1 ↑cb0 (.c 2 ↑cb1 (.c 4 ↑b1 (.c 6 (.int .i64 (Ct.aB (s.node m1) (Ct.slice hh lv)).1) (.c 7 (.bool (Ct.aB (s.node m1) (Ct.slice hh lv)).2) .n)))))/\SH B w (aM (s.node m1) q2::bl b3 (aL (s.node m1) q2) 90::S.a s::bl b1 ([.int .i64 0,.int .i64 0,.int .i64 0,.int .i64 0,.nilFunc,.nilFunc,.int .i64 0,↑false,.int .u64 0,.string .empty,.int .i64 0,.int .i64 0,.int .i64 0,↑false]) 107::rb cb0 ([↑wb]) 111::rb cb1 ([↑lv]) 3::rb wb (LA S t key hh) 113::L)) ?_ ?_
 refine dZ [1,3,5,7,9,11,12,14,17,19,21,22,24] (by kernel_rfl) h (.c r0 (.c r3 (.c r4 (.c r3 .n)))) λw h=>go h λw h=>?_
 refine cs (ca eF rfl) ((nB hh lv _ (by omega)).mono ?_)
 rintro _ _ ⟨rfl,rfl⟩
 refine⟨_,rfl,h.hs (.c r0 (.c r3 (.c r4 (.c r3 .n)))),?_⟩
 refine gO (pX _ _ _ _ _ _ h.to nf_q2) λw h=>?_
 exact⟨⟨rfl,rfl,rfl,rfl,rfl,trivial⟩,h⟩
 rintro e w ⟨hE,h⟩
 refine C.sub hE ?_
 refine go h λw h=>?_
 refine qc h (λhd6 w h=>?_) λhd6 w h=>?_
 refine fQ (oQ S m s h.to (hs.less (by decide))) λs8 t9 c10 hq11 w h=>?_
 refine rc h ?_
 exact fI (qN (qT hd4 (qT hd6 (hq11)))) h.to
 refine cl (ci (S.sN h a2) rfl rfl) ((cK S s (Ct.aB (s.node m1) (Ct.slice hh lv)).1 h.to hs).mono ?_)
 rintro _ w ⟨q13,rfl,h⟩
 have ft_q13:=hs.node (Ct.aB (s.node m1) (Ct.slice hh lv)).1
 refine⟨_,rfl,?_⟩
 refine jA h λb14 w h=>?_
 refine qc h (λhd15 w h=>?_) λhd15 w h=>?_
 refine go h λw h=>?_
 refine fQ (Ek S wb t key hh (s.node (Ct.aB (s.node m1) (Ct.slice hh lv)).1) q13 m s h.to (hs.less (by decide))) λs17 t18 c19 hq20 w h=>?_
 refine rc h ?_
 exact fI (qN (qT hd4 (qF hd6 (qN (qT hd15 (hq20)))))) h.to
 have hg21:=eC hd15
 refine go h λw h=>?_
 refine st (ba (lv+1))<|go h λw h=>?_
 refine fQ (hrec m hm wb t key hh (Ct.aB (s.node m1) (Ct.slice hh lv)).1 (lv+1) _ _ _ s h.to (hs.less (by decide)) (by omega) (by omega)) λs22 t23 c24 hq25 w h=>?_
 refine rc h ?_
 exact fI (qN (qT hd4 (qF hd6 (qN (qF hd15 (hq25)))))) h.to
 have hg26:=eC hd4
 refine go h λw h=>?_
 refine qc h (λhd27 w h=>?_) λhd27 w h=>?_
 have hg28:=eq_of_beq hd27
 refine go h λw h=>?_
 refine fQ (Ek S wb t key hh (s.node m1) q2 m s h.to (hs.less (by decide))) λs29 t30 c31 hq32 w h=>?_
 refine rc h ?_
 exact fI (qN (qF hd4 (qT hd27 (hq32)))) h.to
 have hg33:=eC hd27
 refine go h λw h=>?_
 rcases CG (((s.node m1).kind:Int)==6)with hd34|hd34
 have hg35:=eq_of_beq hd34
 refine ct rfl hd34<|?_
 refine sm (λe w=>Sub 75 e (.c 4 ↑b1 (.c 9 (.int .u64 (((Ct.bB (s.node m1).aF key).1:Nat):Int)) (.c 10 (.bool (Ct.bB (s.node m1).aF key).2) .n)))/\SH B w (bl b3 (aL (s.node m1) q2) 90::S.a s::bl b1 ([.int .i64 0,.int .i64 0,.int .i64 0,.int .i64 0,.nilFunc,.nilFunc,.int .i64 0,↑false,.int .u64 0,.string .empty,.int .i64 0,.int .i64 0,.int .i64 0,↑false]) 107::rb cb0 ([↑wb]) 111::rb cb1 ([↑lv]) 3::rb wb (LA S t key hh) 113::L)) ?_ ?_
 have h:=h.fr (.c r1 .n)
 have h:=SH.se (l:=[aY (s.node m1) q2,cH (s.node m1) q2]) h
 have hpv:=(Ct.fJ (nf_q2.v6 (by have:=eq_of_beq hd34;omega))).kG (by have:=eq_of_beq hd34;omega)
 have hpn:=ft_q2.1.2.1
 refine dZ [1,3,5,7,9,11,12,15,17,19,20,22] (by kernel_rfl) h (.c r2 (.c r4 (.c r5 .n))) λw h=>go h λw h=>?_
 refine gO (Hp _ _ _ _ h.to hpv (by omega)) λw h=>?_
 exact⟨⟨rfl,rfl,rfl,trivial⟩,h.drop.drop⟩
 rintro e w ⟨hE,h⟩
 refine C.sub hE ?_
 clear hE e
 refine go h λw h=>?_
 refine qc h (λhd36 w h=>?_) λhd36 w h=>?_
 refine fQ (xO S (Ct.bB (s.node m1).aF key).1 m s h.to (hs.less (by decide))) λs37 t38 c39 hq40 w h=>?_
 refine rc h ?_
 exact fI (qN (qF hd4 (qF hd27 (qT hd34 (qT hd36 (hq40)))))) h.to
 refine fQ (oQ S m s h.to (hs.less (by decide))) λs41 t42 c43 hq44 w h=>?_
 refine rc h ?_
 exact fI (qN (qF hd4 (qF hd27 (qT hd34 (qF hd36 (hq44)))))) h.to
 have hg45:=eC hd34
 refine go h λw h=>?_
 refine fQ (oQ S m s h.to (hs.less (by decide))) λs46 t47 c48 hq49 w h=>?_
 refine rc h ?_
 exact fI (qN (qF hd4 (qF hd27 (qF hd34 (hq49))))) h.to
theorem vP(S:dN)(N n:Nat)(hrec:∀j,j<n->Hw S N j)(wb:Nat)(t:Ct.bC)(key:ByteArray)(hh:Nat)(i:Int)(lv:Int)(s:Ct.St)(h:SH B w (rb wb (LA S t key hh) 113::S.a s::L))(hs:Ct.Rm 30 s)(hh64:hh<18446744073709551616)(hl:0<=lv/\lv+((N+1:Nat):Int)<=4000000000000000000):
  Calls prog 50 #[↑wb,↑i,↑lv] w λe w'=>CP S dW n B (Ct.pG t key hh (N+1) i lv) s L e w':=by
 refine bZ func50 ntmps50 h λw h=>?_
 refine jX h λb1 w h=>?_
 refine jX h λb2 w h=>?_
 refine jA h λb3 w h=>?_
 have h:=SH.kX (h.fr (.c r2 .n))
 have h:=SH.kX (h.fr (.c r2 .n))
 refine st (gJ (cs:=[S.v,↑t.root,↑t.readOnly]) rfl (eP (h.rb a3) 0 rfl) Row.h)<|go h λw h=>?_
 have h:=h.eT a3
 have h:=h.eT a1
 have h:=h.eT a3
 have h:=h.fr (.c r0 (.c r0 (.c r0 .n)))
 have h:=Me (j:=60) (S:=S) (F:=dW) (n:=n) (args:=dQ) (k:=(λr_b=>.node r_b λm_b=>bif m_b.kind==3 then(bif !(Ct.aB m_b (Ct.slice hh lv)).2 then .ret {}else .node (Ct.aB m_b (Ct.slice hh lv)).1 λx_b=>bif x_b.kind==4 then Ct.vO key x_b else Ct.pG t key hh N (Ct.aB m_b (Ct.slice hh lv)).1 (lv+1))else bif m_b.kind==5 then Ct.vO key m_b else bif m_b.kind==6 then(bif (Ct.bB m_b.aF key).2 then .ret (Ct.cC true (Ct.bB m_b.aF key).1)else .ret {})else .ret {})) (v:=(.fn 98 [] [↑b1,↑b2])) [rb b1 ([↑wb]) 111,rb b2 ([↑lv]) 3,rb wb (LA S t key hh) 113] h λm' hm' B' w' L' s' x' h' hs'=>pR eF (KG S N m' (λj hj=>hrec j (Ab hj hm')) b1 b2 lv wb t key hh (JV _) x' s' h' (hs'.less (by decide)) (by omega) (by omega))
 refine fQ (jZ S dW _ _ (.fn 98 [] [↑b1,↑b2]) (λr_b=>.node r_b λm_b=>bif m_b.kind==3 then(bif !(Ct.aB m_b (Ct.slice hh lv)).2 then .ret {}else .node (Ct.aB m_b (Ct.slice hh lv)).1 λx_b=>bif x_b.kind==4 then Ct.vO key x_b else Ct.pG t key hh N (Ct.aB m_b (Ct.slice hh lv)).1 (lv+1))else bif m_b.kind==5 then Ct.vO key m_b else bif m_b.kind==6 then(bif (Ct.bB m_b.aF key).2 then .ret (Ct.cC true (Ct.bB m_b.aF key).1)else .ret {})else .ret {}) _ _ h.to (hs.less (by decide))) λs4 t5 c6 hq7 w h=>?_
 refine rc h ?_
 exact fI (hq7) h.to
theorem Gu(S:dN):∀(N n:Nat),n<=N->Hw S (N+1) n
 |0,n,hn=>λwb t key hh i lv B w L s h hs h1 h2=>vP S 0 n (λj hj=>by omega) wb t key hh i lv s h hs h1 h2
 |N+1,n,hn=>λwb t key hh i lv B w L s h hs h1 h2=>vP S (N+1) n (λj hj=>Gu S N j (by omega)) wb t key hh i lv s h hs h1 h2
theorem BD(S:dN)(N n:Nat)(hrec:∀j,j<=n->Hw S N j)(cb0:Nat)(wb:Nat)(t:Ct.bC)(key:ByteArray)(hh:Nat){m:Nat}(hm:m<=n)(m1:Int)(s:Ct.St)(h:SH B w (rb cb0 ([↑wb]) 111::rb wb (LA S t key hh) 113::S.a s::L))(hs:Ct.Rm 60 s)(hh64:hh<18446744073709551616)(hl:(N:Int)<=4000000000000000000):
  Calls prog 49 #[↑m1,↑cb0] w λe w'=>CP S dW m B ((λr_b=>Ct.pG t key hh N r_b 0) m1) s L e w':=by
 refine bZ func49 ntmps49 h λw h=>?_
 refine jA h λb1 w h=>?_
 refine fQ (hrec m hm wb t key hh m1 0 _ _ _ s h.to (hs.less (by decide)) (by omega) (by omega)) λs2 t3 c4 hq5 w h=>?_
 refine rr (bP rfl rfl (h.b a2) Row.h) ?_
 exact fI (hq5) h.to
theorem JW(S:dN)(N n:Nat)(hrec:∀j,j<=n->Hw S N j)(cb0 cb1:Nat)(ky:ByteArray)(wb:Nat)(t:Ct.bC)(key:ByteArray)(hh:Nat){m:Nat}(hm:m<=n)(s:Ct.St)(h:SH B w (rb cb0 ([↑ky]) 9::rb cb1 ([↑wb]) 111::rb wb (LA S t key hh) 113::S.a s::L))(hs:Ct.Rm 60 s)(hh64:hh<18446744073709551616)(hl:(N:Int)<=4000000000000000000)(hky:ky.size<=9223372036854775807):
  Calls prog 47 #[↑cb0,↑cb1] w λe w'=>CP S dW m B ((λ_=>bif !Ct.bU ky then .ret {err:=1}else Ct.uO t λr_b=>Ct.pG t key hh N r_b 0) ()) s L e w':=by
 refine bZ func47 ntmps47 h λw h=>?_
 refine jA h λb1 w h=>?_
 refine cl (ca eF rfl) ((Ak ky _ (by omega)).mono ?_)
 rintro _ _ ⟨rfl,rfl⟩
 refine⟨_,rfl,?_⟩
 refine st (nt rfl)<|xe<|nx<|?_
 refine qc h (λhd2 w h=>?_) λhd2 w h=>?_
 refine bA (gV ({err:=1}:Ct.Result) h.to) λw h=>?_
 refine rc h ?_
 have h:=kD (S:=S) (n:=m) (r:=({err:=1}:Ct.Result)) h
 exact fI (qT hd2 rfl) h.to
 refine st (gJ (cs:=[S.v,↑t.root,↑t.readOnly]) rfl (eP (h.rb a3) 0 rfl) Row.h)<|go h λw h=>?_
 have h:=h.eT a3
 have h:=h.eT a3
 have h:=h.fr (.c r0 (.c r0 .n))
 have h:=Me (j:=60) (S:=S) (F:=dW) (n:=m) (args:=dQ) (k:=(λr_b=>Ct.pG t key hh N r_b 0)) (v:=(.fn 49 [] [↑cb1])) [rb cb1 ([↑wb]) 111,rb wb (LA S t key hh) 113] h λm' hm' B' w' L' s' x' h' hs'=>pR eF (BD S N m (λj hj=>hrec j (Fk hj hm)) cb1 wb t key hh (bI hm') x' s' h' (hs'.less (by decide)) (by omega) (by omega))
 refine fQ (zO S dW _ (.fn 49 [] [↑cb1]) (λr_b=>Ct.pG t key hh N r_b 0) _ _ h.to (hs.less (by decide))) λs5 t6 c7 hq8 w h=>?_
 refine rc h ?_
 exact fI (qF hd2 (hq8)) h.to
theorem Sy(S:dN)(N:Nat)(c:Ct.Call)(s:Ct.St)(h:SH B w (S.a s::L))(hs:Ct.Rm 60 s)(hky:c.key.size<=9223372036854775807)(hmk:c.aI<18446744073709551616)(hNN:N<=3000000000000000000):
  Calls prog 16 #[S.v,.agg [↑c.aE.root,↑c.aE.readOnly].toArray,.int .u64 (c.aI:Int),↑c.key] w λe w'=>∃tb s' u,(Ct.FN c (N+1)).head s=(s',u)/\e=.returned (.pointer (some ⟨tb,0,none⟩))/\SH B w' (eN S N tb u 0::S.a s'::L):=by
 refine bZ func16 ntmps16 h λw h=>?_
 refine jX h λb1 w h=>?_
 refine sf (bx h rfl rfl)<|?_
 rintro _ w ⟨b2,rfl,h⟩
 refine st (sg rfl)<|xe<|nx<|?_
 refine sm (λe w=>∃b4:Nat,∃b3:Nat,Sub 22 e (.c 0 (S.v) (.c 7 ↑b2 (.c 9 ↑b4 .n)))/\SH B w (bl b4 ([↑b3]) 111::bl b3 ([S.v,↑c.aE.root,↑c.aE.readOnly,↑c.key,.int .u64 ((Ct.aH c.key c.aI:Nat):Int)]) 113::bl b2 ([↑c.key]) 9::bl b1 ([↑c.aE.root,↑c.aE.readOnly]) 38::S.a s::L)) ?_ ?_
 refine VS (F:=[bl b1 ([↑c.aE.root,↑c.aE.readOnly]) 38,bl b2 ([↑c.key]) 9]) (.op 0 true (.op 1 true (.op 2 true (.op 3 true (.op 4 true (.op 5 true (.fork 6 9 (.op 7 true (.fork 8 9 (.op 9 false (.op 10 false .stop)) (.op 8 false (.op 10 false .stop)))) (.op 6 false (.op 7 true (.op 8 false (.op 10 false .stop))))))))))) (by kernel_rfl) h (λw h=>(hC (h.at_ a1) (hC (h.at_ a0) hN))) λw h=>go h λw h=>?_
 refine Mg ?_ ?_
 refine cs (ca eF rfl) ((Ba c.key c.aI _ (by omega) (by omega)).mono ?_)
 rintro _ _ ⟨rfl,rfl⟩
 refine⟨_,rfl,(hC (h.at_ a1) (hC (h.at_ a0) hN)),?_⟩
 refine tk (λW H=>bd [S.v,↑c.aE.root,↑c.aE.readOnly,↑c.key,.int .u64 ((Ct.aH c.key c.aI:Nat):Int)] XR rfl (by kernel_rfl))<|?_
 refine Mg ?_ ?_
 refine jY h λb3 w h=>?_
 refine jB h λb4 w h=>?_
 exact⟨b4,b3,⟨rfl,rfl,rfl,trivial⟩,h⟩
 refine jB h λb5 w h=>?_
 refine jY h λb6 w h=>?_
 exact⟨b5,b6,⟨rfl,rfl,rfl,trivial⟩,h.to⟩
 refine jB h λb7 w h=>?_
 refine cs (ca eF rfl) ((Ba c.key c.aI _ (by omega) (by omega)).mono ?_)
 rintro _ _ ⟨rfl,rfl⟩
 refine⟨_,rfl,(hC (h.at_ a2) (hC (h.at_ a1) hN)),?_⟩
 refine tk (λW H=>bd [S.v,↑c.aE.root,↑c.aE.readOnly,↑c.key,.int .u64 ((Ct.aH c.key c.aI:Nat):Int)] XR rfl (by kernel_rfl))<|?_
 refine jY h λb8 w h=>?_
 exact⟨b7,b8,⟨rfl,rfl,rfl,trivial⟩,h.to⟩
 rintro e w ⟨b4,b3,hE,h⟩
 refine C.sub hE ?_
 refine go h λw h=>?_
 have hh64:=Ct.eI c.key c.aI
 have h:=SH.kX (h.fr (.c r2 .n))
 have h:=SH.kX (h.fr (.c r1 .n))
 refine go h λw h=>?_
 have h:SH B w (rb b3 (LA S c.aE c.key (Ct.aH c.key c.aI)) 113::rb b4 ([↑b3]) 111::rb b2 ([↑c.key]) 9::bl b1 ([↑c.aE.root,↑c.aE.readOnly]) 38::S.a s::L):=SH.kX (h.fr (.c r2 .n))
 have h:=h.eT a0
 have h:=h.eT a2
 have h:=h.eT a4
 have h:=h.fr (.c r0 (.c r0 (.c r0 .n)))
 have h:=YZ (S:=S) (F:=dW) (n:=N) (j:=60) (args:=qI) (k:=(λ_=>bif !Ct.bU c.key then .ret {err:=1}else Ct.uO c.aE λr_b=>Ct.pG c.aE c.key (Ct.aH c.key c.aI) (N+1) r_b 0)) (v:=(.fn 47 [] [↑b2,↑b4])) [rb b2 ([↑c.key]) 9,rb b4 ([↑b3]) 111,rb b3 (LA S c.aE c.key (Ct.aH c.key c.aI)) 113] h λB' w' L' s' x' h' hs'=>pR eF (JW S (N+1) N (Gu S N) b2 b4 c.key b3 c.aE c.key (Ct.aH c.key c.aI) (JV _) s' h' (hs'.less (by decide)) (by omega) (by omega) (by omega))
 refine fQ (Ht S _ (.fn 47 [] [↑b2,↑b4]) (λ_=>bif !Ct.bU c.key then .ret {err:=1}else Ct.uO c.aE λr_b=>Ct.pG c.aE c.key (Ct.aH c.key c.aI) (N+1) r_b 0) _ h.to (hs.less (by decide))) λtb9 s10 uz11 hq12 w h=>?_
 exact rz ⟨tb9,s10,uz11,hq12,rfl,h.to⟩
end Go.Q9
end
