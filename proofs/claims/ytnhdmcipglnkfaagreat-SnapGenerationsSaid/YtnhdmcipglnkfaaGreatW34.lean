/- Parts of a proof: Ca. -/
import Derived.Test.YtnhdmcipglnkfaaGreatW33
set_option linter.unusedVariables false
set_option linter.unusedSimpArgs false
set_option maxRecDepth 100000
set_option maxHeartbeats 4000000
section
namespace Go.Q9
open Go.Proofs.Tryz
open Go.RowKit Go.E
attribute [local irreducible] gB wpS Go.E.X XS C jU kP fin Y U F Ca jT bl rb aU bV ex ce pu sK gK bK zK gM fO dH gP nE rD
open Go.Ct (qN qA qC qG qT qF)
variable{B w:World}{L:List As}
theorem ON(a:Int)(f:FuncId)(ff fc:List Value)(h:SH B w (L)):
  Calls prog 38 #[↑a,.func (.func f) ff.toArray fc.toArray] w λe w'=>e=.returned (.agg (zQ (tR a (.fn f ff fc))).toArray)/\SH B w' L:=by
 refine bZ func38 ntmps38 h λw h=>?_
 refine jA h λb1 w h=>?_
 exact rr (bP rfl rfl (h.b a0) Row.h)<|⟨rfl,h.drop⟩
theorem IN(a:Int)(h:SH B w (L)):
  Calls prog 38 #[↑a,.nilFunc] w λe w'=>e=.returned (.agg (zQ (tR a .nil)).toArray)/\SH B w' L:=by
 refine bZ func38 ntmps38 h λw h=>?_
 refine jA h λb1 w h=>?_
 exact rr (bP rfl rfl (h.b a0) Row.h)<|⟨rfl,h.drop⟩
theorem jH(a:Int)(v:Fv)(h:SH B w L):
  Calls prog 38 #[↑a,v.val] w λe w'=>e=.returned (.agg (zQ (tR a v)).toArray)/\SH B w' L:=by
 cases v with
 |nil=>exact IN a h
 |fn f ff fc=>exact ON a f ff fc h
theorem QV(a o x:Int)(f:FuncId)(ff fc:List Value)(h:SH B w (L)):
  Calls prog 126 #[↑a,↑o,↑x,.func (.func f) ff.toArray fc.toArray] w λe w'=>e=.returned (.agg (zQ (Fp a o x (.fn f ff fc))).toArray)/\SH B w' L:=by
 refine bZ func126 ntmps126 h λw h=>?_
 refine jA h λb1 w h=>?_
 exact rr (bP rfl rfl (h.b a0) Row.h)<|⟨rfl,h.drop⟩
theorem LZ(a o x:Int)(h:SH B w (L)):
  Calls prog 126 #[↑a,↑o,↑x,.nilFunc] w λe w'=>e=.returned (.agg (zQ (Fp a o x .nil)).toArray)/\SH B w' L:=by
 refine bZ func126 ntmps126 h λw h=>?_
 refine jA h λb1 w h=>?_
 exact rr (bP rfl rfl (h.b a0) Row.h)<|⟨rfl,h.drop⟩
theorem iW(a o x:Int)(v:Fv)(h:SH B w L):
  Calls prog 126 #[↑a,↑o,↑x,v.val] w λe w'=>e=.returned (.agg (zQ (Fp a o x v)).toArray)/\SH B w' L:=by
 cases v with
 |nil=>exact LZ a o x h
 |fn f ff fc=>exact QV a o x f ff fc h
theorem gV(r:Ct.Result)(h:SH B w (L)):
  Calls prog 77 #[.agg (Mf r).toArray] w λe w'=>e=.returned (.agg (zQ (EY r)).toArray)/\SH B w' L:=by
 refine bZ func77 ntmps77 h λw h=>?_
 refine jX h λb1 w h=>?_
 refine jA h λb2 w h=>?_
 exact rr (bP rfl rfl (h.b a0) Row.h)<|⟨rfl,h.drop.drop⟩
theorem Ya(o:Int)(h:SH B w (L)):
  Calls prog 165 #[↑o] w λe w'=>e=.returned (.agg (aL {kind:=7,dC:=o} {}).toArray)/\SH B w' L:=by
 refine bZ func165 ntmps165 h λw h=>?_
 refine jA h λb1 w h=>?_
 exact rr (bP rfl rfl (h.b a0) Row.h)<|⟨rfl,h.drop⟩
theorem Nj(o ex nw:Int)(h:SH B w (L)):
  Calls prog 125 #[↑o,↑ex,↑nw] w λe w'=>e=.returned (.agg (aL {kind:=8,dC:=o,aK:=ex,new:=nw} {}).toArray)/\SH B w' L:=by
 refine bZ func125 ntmps125 h λw h=>?_
 refine jA h λb1 w h=>?_
 exact rr (bP rfl rfl (h.b a0) Row.h)<|⟨rfl,h.drop⟩
theorem Jg(h:SH B w (L)):
  Calls prog 138 #[] w λe w'=>e=.returned (.agg (aL {kind:=3} {}).toArray)/\SH B w' L:=by
 refine bZ func138 ntmps138 h λw h=>?_
 refine jA h λb1 w h=>?_
 exact rr (bP rfl rfl (h.b a0) Row.h)<|⟨rfl,h.drop⟩
theorem nA(x:Int)(h:SH B w (L)):
  Calls prog 118 #[↑x] w λe w'=>e=.returned (.agg (aL {kind:=2,gen:=x} {}).toArray)/\SH B w' L:=by
 refine bZ func118 ntmps118 h λw h=>?_
 refine jA h λb1 w h=>?_
 exact rr (bP rfl rfl (h.b a0) Row.h)<|⟨rfl,h.drop⟩
theorem tQ{β:Type}(S:dN)(F:β->Cc->As)(cb0 cb1:Nat)(thk:Fv)(k:Int->Ct.I β)(v:Int){n m:Nat}(hm:m<=n)(x:Bool)(s:Ct.St)(h:SH B w (rb cb0 [thk.val] 91::rb cb1 ([↑v]) 44::gP S F n 60 dQ k thk::S.a s::L))(hs:Ct.Rm 60 s):
  Calls prog 170 #[↑x,↑cb0,↑cb1] w λe w'=>CP S F m B ((λ_=>k v) x) s L e w':=by
 have h:=eR hm (JV _) (h.fr (.c r2 .n))
 refine bZ func170 ntmps170 h λw h=>?_
 refine jA h λb1 w h=>?_
 refine PM rfl rfl ((mA (h.fr (.c r1 (.c r3 .n))) (hs.less (by decide)) v).mono ?_)
 rintro _ w ⟨s2,t3,c4,hq5,rfl,h⟩
 refine⟨_,rfl,?_⟩
 refine go h λw h=>?_
 refine rr (bP rfl rfl (h.b a2) Row.h) ?_
 exact fI (hq5) h.to
theorem kK{β:Type}(S:dN)(F:β->Cc->As)(t:Ct.bC)(v:Int)(x:Int)(thk:Fv)(k:Int->Ct.I β)(n:Nat)(s:Ct.St)(h:SH B w (rD S F n 60 dQ k thk::S.a s::L))(hs:Ct.Rm 30 s):
  Calls prog 121 #[.agg [S.v,↑t.root,↑t.readOnly].toArray,↑v,↑x,thk.val] w λe w'=>CP S F n B (Ct.iD t v x k) s L e w':=by
 refine bZ func121 ntmps121 h λw h=>?_
 refine jX h λb1 w h=>?_
 refine jX h (hc:=lE _) λb2 w h=>?_
 refine jA h λb3 w h=>?_
 refine Vs S h (cK S s v h.to hs) λq4 w h=>?_
 refine jA h λb5 w h=>?_
 refine jA h λb6 w h=>?_
 refine qc h (λhd7 w h=>?_) λhd7 w h=>?_
 have h:=SH.kX (h.fr (.c r5 .n))
 have h:=SH.kX (h.fr (.c r1 .n))
 refine bA (iW _ _ _ (.fn 170 [] [↑b2,↑b6]) h.to) λw h=>?_
 refine rc h ?_
 have h:=h.eT a0
 have h:=h.eT a2
 have h:=h.fr (.c r0 (.c r0 (.c r7 .n)))
 have h:=Nt (S:=S) (F:=F) (n:=n) (args:=dV) (k:=(λ_=>k (s.node v).new)) (v:=(.fn 170 [] [↑b2,↑b6])) [rb b2 [thk.val] 91,rb b6 ([.int .i64 (s.node v).new]) 44,rD S F n 60 dQ k thk] h λm' hm' B' w' L' s' x' h' hs'=>pR eF (tQ S F b2 b6 thk k (s.node v).new (JV _) x' s' ((sB hm' (h'.fr (.c r2 .n))).fr (.c r1 (.c r1 (.c r0 .n)))) (hs'.less (by decide)))
 have h:=kC (a:=t.root) (o:=v) (x:=(s.node v).new) h
 exact fI (qN (qT hd7 rfl)) h.to
 have h:=SH.kX (h.fr (.c r5 .n))
 have h:=SH.kX (h.fr (.c r1 .n))
 refine bA (iW _ _ _ (.fn 170 [] [↑b2,↑b6]) h.to) λw h=>?_
 refine rc h ?_
 have h:=h.eT a0
 have h:=h.eT a2
 have h:=h.fr (.c r0 (.c r0 (.c r7 .n)))
 have h:=Nt (S:=S) (F:=F) (n:=n) (args:=dV) (k:=(λ_=>k (s.node v).dC)) (v:=(.fn 170 [] [↑b2,↑b6])) [rb b2 [thk.val] 91,rb b6 ([.int .i64 (s.node v).dC]) 44,rD S F n 60 dQ k thk] h λm' hm' B' w' L' s' x' h' hs'=>pR eF (tQ S F b2 b6 thk k (s.node v).dC (JV _) x' s' ((sB hm' (h'.fr (.c r2 .n))).fr (.c r1 (.c r1 (.c r0 .n)))) (hs'.less (by decide)))
 have h:=kC (a:=t.root) (o:=v) (x:=(s.node v).dC) h
 exact fI (qN (qF hd7 rfl)) h.to
theorem Yk{β:Type}(S:dN)(F:β->Cc->As)(cb0 cb1:Nat)(thk:Fv)(k:Int->Ct.I β)(v:Int){n m:Nat}(hm:m<=n)(x:Bool)(s:Ct.St)(h:SH B w (rb cb0 [thk.val] 91::rb cb1 ([↑v]) 44::gP S F n 60 dQ k thk::S.a s::L))(hs:Ct.Rm 60 s):
  Calls prog 164 #[↑x,↑cb0,↑cb1] w λe w'=>CP S F m B ((λ_=>k v) x) s L e w':=by
 have h:=eR hm (JV _) (h.fr (.c r2 .n))
 refine bZ func164 ntmps164 h λw h=>?_
 refine jA h λb1 w h=>?_
 refine PM rfl rfl ((mA (h.fr (.c r1 (.c r3 .n))) (hs.less (by decide)) v).mono ?_)
 rintro _ w ⟨s2,t3,c4,hq5,rfl,h⟩
 refine⟨_,rfl,?_⟩
 refine go h λw h=>?_
 refine rr (bP rfl rfl (h.b a2) Row.h) ?_
 exact fI (hq5) h.to
theorem Jy{β:Type}(S:dN)(F:β->Cc->As)(t:Ct.bC)(i:Int)(m:Int)(p:Int)(thk:Fv)(k:Int->Ct.I β)(n:Nat)(s:Ct.St)(h:SH B w (rD S F n 60 dQ k thk::S.a s::L))(hs:Ct.Rm 30 s):
  Calls prog 112 #[.agg [S.v,↑t.root,↑t.readOnly].toArray,↑i,↑m,↑p,thk.val] w λe w'=>CP S F n B (Ct.Dq i m p k) s L e w':=by
 refine bZ func112 ntmps112 h λw h=>?_
 refine jX h λb1 w h=>?_
 refine sf (bx h rfl (lE _)) ?_
 rintro _ w ⟨b2,rfl,h⟩
 refine go h λw h=>?_
 refine jA h λb3 w h=>?_
 refine cl (ci (S.sN h a4) rfl rfl) ((cK S s p h.to hs).mono ?_)
 rintro _ w ⟨q4,rfl,h⟩
 refine⟨_,rfl,?_⟩
 refine go h λw h=>?_
 refine jA h λb5 w h=>?_
 have h:=SH.kX (h.fr (.c r4 .n))
 have h:=SH.kX (h.fr (.c r1 .n))
 refine dZ [1,3,5,11,13,15,6,9,16,18] (by kernel_rfl) h (.c r5 (.c r0 .n)) λw h=>go h λw h=>?_
 refine cs (ci (S.sN h a3) rfl rfl) ((cK S s i h.to hs).mono ?_)
 rintro _ w ⟨q6,rfl,h⟩
 refine⟨_,rfl,h.hs (.c r6 (.c r2 .n)),?_⟩
 refine go h λw h=>?_
 refine gO (iW _ _ _ (.fn 164 [] [↑b2,↑b5]) h.to) λw h=>?_
 refine rr (bP rfl rfl (h.b a5) Row.h) ?_
 have h:=h.eT a2
 have h:=h.eT a4
 have h:=h.fr (.c r0 (.c r0 (.c r7 .n)))
 have h:=Nt (S:=S) (F:=F) (n:=n) (args:=dV) (k:=(λ_=>k (s.node p).dC)) (v:=(.fn 164 [] [↑b2,↑b5])) [rb b2 [thk.val] 91,rb b5 ([.int .i64 (s.node p).dC]) 44,rD S F n 60 dQ k thk] h λm' hm' B' w' L' s' x' h' hs'=>pR eF (Yk S F b2 b5 thk k (s.node p).dC (JV _) x' s' ((sB hm' (h'.fr (.c r2 .n))).fr (.c r1 (.c r1 (.c r0 .n)))) (hs'.less (by decide)))
 have h:=kC (a:=(s.node i).main) (o:=m) (x:=(s.node p).dC) h
 exact fI (qN (qN rfl)) h.to
theorem Wd{β:Type}(S:dN)(F:β->Cc->As)(cb0 cb1 cb2:Nat)(t:Ct.bC)(v:Int)(thk:Fv)(k:Int->Ct.I β){n m:Nat}(hm:m<=n)(x:Int)(s:Ct.St)(h:SH B w (rb cb0 ([S.v,↑t.root,↑t.readOnly]) 87::rb cb1 ([↑v]) 44::rb cb2 [thk.val] 91::gP S F n 60 dQ k thk::S.a s::L))(hs:Ct.Rm 60 s):
  Calls prog 169 #[↑x,↑cb0,↑cb1,↑cb2] w λe w'=>CP S F m B ((λs_b=>Ct.iD t v s_b k) x) s L e w':=by
 have h:=eR hm (JV _) (h.fr (.c r3 .n))
 refine bZ func169 ntmps169 h λw h=>?_
 refine jA h λb1 w h=>?_
 have h:=Rj (j:=60) (by decide) (h.fr (.c r1 .n))
 refine cl (ca eF rfl) ((kK S F t v x thk k m s (h.fr (.c r0 (.c r4 .n))) (hs.less (by decide))).mono ?_)
 rintro _ w ⟨s2,t3,c4,hq5,rfl,h⟩
 refine⟨_,rfl,?_⟩
 refine sf (so h rfl rfl rfl kN (eO _) (.r (.r (.r (.r (.r (.r (.r (.r (.r (.r (.r (.r (.r (.r .d)))))))))))))) u2)<|?_
 rintro _ w h
 refine xe<|nx<|rt<|?_
 refine go h λw h=>?_
 refine rr (bP rfl rfl (h.b a2) Row.h) ?_
 exact fI (hq5) h.to
theorem Yq{β:Type}(S:dN)(F:β->Cc->As)(cb0 cb1 cb2 cb3:Nat)(d:Ct.Node)(qd:Lq)(t:Ct.bC)(v:Int)(thk:Fv)(k:Int->Ct.I β){n m:Nat}(hm:m<=n)(x:Bool)(s:Ct.St)(h:SH B w (rb cb0 (aL d qd) 53::rb cb1 ([S.v,↑t.root,↑t.readOnly]) 87::rb cb2 ([↑v]) 44::rb cb3 [thk.val] 91::gP S F n 60 dQ k thk::S.a s::L))(hs:Ct.Rm 60 s):
  Calls prog 168 #[↑x,↑cb0,↑cb1,↑cb2,↑cb3] w λe w'=>CP S F m B ((λ_=>.load (Ct.Node.status d) λs_b=>Ct.iD t v s_b k) x) s L e w':=by
 have h:=eR hm (JV _) (h.fr (.c r4 .n))
 refine bZ func168 ntmps168 h λw h=>?_
 refine jA h λb1 w h=>?_
 refine cl (ca eF rfl) ((jH d.status (.fn 169 [] [↑cb1,↑cb2,↑cb3]) (h.fr .n)).mono ?_)
 rintro _ w ⟨rfl,h⟩
 refine⟨_,rfl,?_⟩
 refine sf (so h rfl rfl rfl kN (eO _) (.r (.r (.r (.r (.r (.r (.r (.r (.r (.r (.r (.r (.r (.r .d)))))))))))))) u0)<|?_
 rintro _ w h
 refine xe<|nx<|rt<|?_
 refine go h λw h=>?_
 refine rr (bP rfl rfl (h.b a0) Row.h) ?_
 have h:=h.eT a5
 have h:=h.eT a5
 have h:=h.eT a5
 have h:=h.fr (.c r0 (.c r0 (.c r0 (.c r1 .n))))
 have h:=Nt (S:=S) (F:=F) (n:=m) (args:=dQ) (k:=(λs_b=>Ct.iD t v s_b k)) (v:=(.fn 169 [] [↑cb1,↑cb2,↑cb3])) [rb cb1 ([S.v,↑t.root,↑t.readOnly]) 87,rb cb2 ([↑v]) 44,rb cb3 [thk.val] 91,gP S F m 60 dQ k thk] h λm' hm' B' w' L' s' x' h' hs'=>pR eF (Wd S F cb1 cb2 cb3 t v thk k (Dj hm') x' s' h' (hs'.less (by decide)))
 have h:=kL (a:=d.status) h
 exact fI (rfl) h.to
theorem Yp{β:Type}(S:dN)(F:β->Cc->As)(cb0 cb1 cb2 cb3:Nat)(t:Ct.bC)(v:Int)(thk:Fv)(k:Int->Ct.I β)(d:Ct.Node)(qd:Lq){n m:Nat}(hm:m<=n)(x:Int)(s:Ct.St)(h:SH B w (rb cb0 ([S.v,↑t.root,↑t.readOnly]) 87::rb cb1 ([↑v]) 44::rb cb2 [thk.val] 91::rb cb3 (aL d qd) 53::gP S F n 60 dQ k thk::S.a s::L))(hs:Ct.Rm 60 s):
  Calls prog 167 #[↑x,↑cb0,↑cb1,↑cb2,↑cb3] w λe w'=>CP S F m B ((λs_b=>bif s_b != 0 then Ct.iD t v s_b k else .eA (Ct.Node.status d) 0 2 λ_=>.load (Ct.Node.status d) λs_b=>Ct.iD t v s_b k) x) s L e w':=by
 have h:=eR hm (JV _) (h.fr (.c r4 .n))
 refine bZ func167 ntmps167 h λw h=>?_
 refine jA h λb1 w h=>?_
 refine qc h (λhd2 w h=>?_) λhd2 w h=>?_
 have h:=Rj (j:=60) (by decide) (h.fr (.c r1 .n))
 refine fQ (kK S F _ _ _ thk k _ _ h.to (hs.less (by decide))) λs4 t5 c6 hq7 w h=>?_
 refine rc h ?_
 exact fI (qT hd2 (hq7)) h.to
 refine bA (iW _ _ _ (.fn 168 [] [↑cb3,↑cb0,↑cb1,↑cb2]) h.to) λw h=>?_
 refine rc h ?_
 have h:=h.eT a4
 have h:=h.eT a4
 have h:=h.eT a4
 have h:=h.eT a8
 have h:=h.fr (.c r0 (.c r0 (.c r0 (.c r0 (.c r1 .n)))))
 have h:=Nt (S:=S) (F:=F) (n:=m) (args:=dV) (k:=(λ_=>.load (Ct.Node.status d) λs_b=>Ct.iD t v s_b k)) (v:=(.fn 168 [] [↑cb3,↑cb0,↑cb1,↑cb2])) [rb cb3 (aL d qd) 53,rb cb0 ([S.v,↑t.root,↑t.readOnly]) 87,rb cb1 ([↑v]) 44,rb cb2 [thk.val] 91,gP S F m 60 dQ k thk] h λm' hm' B' w' L' s' x' h' hs'=>pR eF (Yq S F cb3 cb0 cb1 cb2 d qd t v thk k (Dj hm') x' s' h' (hs'.less (by decide)))
 have h:=kC (a:=d.status) (o:=0) (x:=2) h
 exact fI (qF hd2 rfl) h.to
theorem Uy{β:Type}(S:dN)(F:β->Cc->As)(cb0 cb1:Nat)(t:Ct.bC)(thk:Fv)(k:Int->Ct.I β){n m:Nat}(hm:m<=n)(x:Int)(s:Ct.St)(h:SH B w (rb cb0 ([S.v,↑t.root,↑t.readOnly]) 87::rb cb1 [thk.val] 91::gP S F n 60 dQ k thk::S.a s::L))(hs:Ct.Rm 60 s):
  Calls prog 166 #[↑x,↑cb0,↑cb1] w λe w'=>CP S F m B ((λv_b=>.node v_b λd_b=>bif d_b.kind==2 then k v_b else .load d_b.status λs_b=>bif s_b != 0 then Ct.iD t v_b s_b k else .eA d_b.status 0 2 λ_=>.load d_b.status λs_b=>Ct.iD t v_b s_b k) x) s L e w':=by
 have h:=eR hm (JV _) (h.fr (.c r2 .n))
 refine bZ func166 ntmps166 h λw h=>?_
 refine jX h λb1 w h=>?_
 refine jA h λb2 w h=>?_
 refine Vs S h (cK S s x h.to hs) λq3 w h=>?_
 refine jA h λb4 w h=>?_
 refine qc h (λhd5 w h=>?_) λhd5 w h=>?_
 refine Ma (mA (h.fr (.c r5 (.c r2 .n))) (hs.less (by decide)) x) λs7 t8 c9 hq10 w h=>?_
 refine rc h ?_
 exact fI (qN (qT hd5 (hq10))) h.to
 have h:=SH.kX (h.fr (.c r4 .n))
 have h:=SH.kX (h.fr (.c r1 .n))
 refine bA (jH _ (.fn 167 [] [↑cb0,↑b1,↑cb1,↑b4]) h.to) λw h=>?_
 refine rc h ?_
 have h:=h.eT a0
 have h:=h.eT a8
 have h:=h.eT a3
 have h:=h.eT a9
 have h:=h.fr (.c r0 (.c r0 (.c r0 (.c r0 (.c r5 .n)))))
 have h:=Nt (S:=S) (F:=F) (n:=m) (args:=dQ) (k:=(λs_b=>bif s_b != 0 then Ct.iD t x s_b k else .eA (Ct.Node.status (s.node x)) 0 2 λ_=>.load (Ct.Node.status (s.node x)) λs_b=>Ct.iD t x s_b k)) (v:=(.fn 167 [] [↑cb0,↑b1,↑cb1,↑b4])) [rb cb0 ([S.v,↑t.root,↑t.readOnly]) 87,rb b1 ([↑x]) 44,rb cb1 [thk.val] 91,rb b4 (aL (s.node x) q3) 53,gP S F m 60 dQ k thk] h λm' hm' B' w' L' s' x' h' hs'=>pR eF (Yp S F cb0 b1 cb1 b4 t x thk k (s.node x) q3 (Dj hm') x' s' h' (hs'.less (by decide)))
 have h:=kL (a:=(s.node x).status) h
 exact fI (qN (qF hd5 rfl)) h.to
theorem DY{β:Type}(S:dN)(F:β->Cc->As)(t:Ct.bC)(thk:Fv)(k:Int->Ct.I β)(n:Nat)(s:Ct.St)(h:SH B w (rD S F n 60 dQ k thk::S.a s::L))(hs:Ct.Rm 30 s):
  Calls prog 116 #[.agg [S.v,↑t.root,↑t.readOnly].toArray,thk.val] w λe w'=>CP S F n B (Ct.Zi t k) s L e w':=by
 refine bZ func116 ntmps116 h λw h=>?_
 refine jX h λb1 w h=>?_
 refine sf (bx h rfl (lE _)) ?_
 rintro _ w ⟨b2,rfl,h⟩
 refine go h λw h=>?_
 refine jA h λb3 w h=>?_
 have h:=SH.kX (h.fr (.c r2 .n))
 have h:=SH.kX (h.fr (.c r2 .n))
 refine go h λw h=>?_
 refine cl (ca eF rfl) ((jH t.root (.fn 166 [] [↑b1,↑b2]) (h.fr .n)).mono ?_)
 rintro _ w ⟨rfl,h⟩
 refine⟨_,rfl,?_⟩
 refine sf (so h rfl rfl rfl kN (eO _) (.r (.r (.r (.r (.r (.r (.r (.r (.r (.r (.r (.r (.r (.r .d)))))))))))))) u2)<|?_
 rintro _ w h
 refine xe<|nx<|rt<|?_
 refine go h λw h=>?_
 refine rr (bP rfl rfl (h.b a2) Row.h) ?_
 have h:=h.eT a0
 have h:=h.eT a2
 have h:=h.fr (.c r0 (.c r0 (.c r3 .n)))
 have h:=Nt (S:=S) (F:=F) (n:=n) (args:=dQ) (k:=(λv_b=>.node v_b λd_b=>bif d_b.kind==2 then k v_b else .load d_b.status λs_b=>bif s_b != 0 then Ct.iD t v_b s_b k else .eA d_b.status 0 2 λ_=>.load d_b.status λs_b=>Ct.iD t v_b s_b k)) (v:=(.fn 166 [] [↑b1,↑b2])) [rb b1 ([S.v,↑t.root,↑t.readOnly]) 87,rb b2 [thk.val] 91,rD S F n 60 dQ k thk] h λm' hm' B' w' L' s' x' h' hs'=>pR eF (Uy S F b1 b2 t thk k (JV _) x' s' ((sB hm' (h'.fr (.c r2 .n))).fr (.c r1 (.c r1 (.c r0 .n)))) (hs'.less (by decide)))
 have h:=kL (a:=t.root) h
 exact fI (rfl) h.to
theorem Ap{β:Type}(S:dN)(F:β->Cc->As)(t:Ct.bC)(prev:Int)(p:Int)(commit:Bool)(thk:Fv)(k:Bool->Ct.I β)(n:Nat)(s:Ct.St)(h:SH B w (rD S F n 60 dV k thk::S.a s::L))(hs:Ct.Rm 30 s):
  Calls prog 115 #[.agg [S.v,↑t.root,↑t.readOnly].toArray,↑prev,↑p,↑commit,thk.val] w λe w'=>CP S F n B (Ct.mK prev p commit k) s L e w':=by
 refine bZ func115 ntmps115 h λw h=>?_
 refine jX h λb1 w h=>?_
 refine jA h λb2 w h=>?_
 refine qc h (λhd3 w h=>?_) λhd3 w h=>?_
 refine bA (iW _ _ _ thk h.to) λw h=>?_
 refine rr (bP rfl rfl (h.b a0) Row.h) ?_
 have h:=k7 (by decide) (h.fr (.c r2 .n))
 have h:=kC (a:=prev) (o:=p) (x:=0) h
 exact fI (qT hd3 rfl) h.to
 refine dZ [1,3,5,9,11,6,12,14] (by kernel_rfl) h (.c r1 .n) λw h=>go h λw h=>?_
 refine gO (Ya _ h.to) λw h=>?_
 refine cs (ci (S.sA h a3) rfl rfl) ((cQ S s ({kind:=7,dC:=p}:Ct.Node) {} 0 (SH.eE ({kind:=7,dC:=p}:Ct.Node) rfl rfl h.to) hs (Ct.bG _ 7 0 p 0 0)).mono ?_)
 rintro _ w ⟨rfl,h⟩
 have hs:=hs.alloc (Ct.bG _ 7 0 p 0 0) 0
 refine⟨_,rfl,h.hs (.c r2 .n),?_⟩
 refine go h λw h=>?_
 refine bA (iW _ _ _ thk h.to) λw h=>?_
 refine rr (bP rfl rfl (h.b a1) Row.h) ?_
 have h:=k7 (by decide) (h.fr (.c r3 .n))
 have h:=kC (a:=prev) (o:=p) (x:=(s.alloc ({kind:=7,dC:=p}:Ct.Node) 0).2) h
 exact fI (qF hd3 (qA rfl)) h.to
theorem Mm{β:Type}(S:dN)(F:β->Cc->As)(cb0 cb1 cb2 cb3:Nat)(thk:Fv)(k:Int->Ct.I β)(m0:Int)(t:Ct.bC)(i:Int){n m:Nat}(hm:m<=n)(x:Int)(s:Ct.St)(h:SH B w (rb cb0 [thk.val] 91::rb cb1 ([↑m0]) 44::rb cb2 ([S.v,↑t.root,↑t.readOnly]) 87::rb cb3 ([↑i]) 44::gP S F n 60 dQ k thk::S.a s::L))(hs:Ct.Rm 60 s):
  Calls prog 114 #[↑x,↑cb0,↑cb1,↑cb2,↑cb3] w λe w'=>CP S F m B ((λp_b=>bif p_b==0 then k m0 else Ct.Dq i m0 p_b k) x) s L e w':=by
 have h:=eR hm (JV _) (h.fr (.c r4 .n))
 refine bZ func114 ntmps114 h λw h=>?_
 refine jA h λb1 w h=>?_
 refine qc h (λhd2 w h=>?_) λhd2 w h=>?_
 have hg3:=eq_of_beq hd2
 refine go h λw h=>?_
 refine PM rfl rfl ((mA (h.fr (.c r1 (.c r5 .n))) (hs.less (by decide)) m0).mono ?_)
 rintro _ w ⟨s4,t5,c6,hq7,rfl,h⟩
 refine⟨_,rfl,?_⟩
 refine go h λw h=>?_
 refine rr (bP rfl rfl (h.b a2) Row.h) ?_
 exact fI (qT hd2 (hq7)) h.to
 have hg8:=dP hd2
 refine go h λw h=>?_
 have h:=Rj (j:=60) (by decide) (h.fr (.c r1 .n))
 refine fQ (Jy S F _ _ _ _ thk k _ _ h.to (hs.less (by decide))) λs9 t10 c11 hq12 w h=>?_
 refine rr (bP rfl rfl (h.b a2) Row.h) ?_
 exact fI (qF hd2 (hq12)) h.to
theorem xQ{β:Type}(S:dN)(F:β->Cc->As)(cb0 cb1 cb2 cb3 cb4:Nat)(prev:Int)(thk:Fv)(k:Int->Ct.I β)(m0:Int)(t:Ct.bC)(i:Int){n m:Nat}(hm:m<=n)(x:Bool)(s:Ct.St)(h:SH B w (rb cb0 ([↑prev]) 33::rb cb1 [thk.val] 91::rb cb2 ([↑m0]) 44::rb cb3 ([S.v,↑t.root,↑t.readOnly]) 87::rb cb4 ([↑i]) 44::gP S F n 60 dQ k thk::S.a s::L))(hs:Ct.Rm 60 s):
  Calls prog 113 #[↑x,↑cb0,↑cb1,↑cb2,↑cb3,↑cb4] w λe w'=>CP S F m B ((Ct.kY prev i m0 k) x) s L e w':=by
 have h:=eR hm (JV _) (h.fr (.c r5 .n))
 refine bZ func113 ntmps113 h λw h=>?_
 refine jA h λb1 w h=>?_
 refine cl (ca eF rfl) ((jH prev (.fn 114 [] [↑cb1,↑cb2,↑cb3,↑cb4]) (h.fr .n)).mono ?_)
 rintro _ w ⟨rfl,h⟩
 refine⟨_,rfl,?_⟩
 refine sf (so h rfl rfl rfl kN (eO _) (.r (.r (.r (.r (.r (.r (.r (.r (.r (.r (.r (.r (.r (.r .d)))))))))))))) u0)<|?_
 rintro _ w h
 refine xe<|nx<|rt<|?_
 refine go h λw h=>?_
 refine rr (bP rfl rfl (h.b a0) Row.h) ?_
 have h:=h.eT a6
 have h:=h.eT a6
 have h:=h.eT a6
 have h:=h.eT a6
 have h:=h.fr (.c r0 (.c r0 (.c r0 (.c r0 (.c r1 .n)))))
 have h:=Nt (S:=S) (F:=F) (n:=m) (args:=dQ) (k:=(λp_b=>bif p_b==0 then k m0 else Ct.Dq i m0 p_b k)) (v:=(.fn 114 [] [↑cb1,↑cb2,↑cb3,↑cb4])) [rb cb1 [thk.val] 91,rb cb2 ([↑m0]) 44,rb cb3 ([S.v,↑t.root,↑t.readOnly]) 87,rb cb4 ([↑i]) 44,gP S F m 60 dQ k thk] h λm' hm' B' w' L' s' x' h' hs'=>pR eF (Mm S F cb1 cb2 cb3 cb4 thk k m0 t i (Dj hm') x' s' h' (hs'.less (by decide)))
 have h:=kL (a:=prev) h
 exact fI (rfl) h.to
theorem Lm{β:Type}(S:dN)(F:β->Cc->As)(cb0 cb1 cb2 cb3 cb4:Nat)(t:Ct.bC)(i:Int)(prev:Int)(p:Int)(thk:Fv)(k:Bool->Ct.I β){n m:Nat}(hm:m<=n)(x:Int)(s:Ct.St)(h:SH B w (rb cb0 ([S.v,↑t.root,↑t.readOnly]) 87::rb cb1 ([↑i]) 44::rb cb2 ([↑prev]) 33::rb cb3 ([↑p]) 44::rb cb4 [thk.val] 92::gP S F n 60 dV k thk::S.a s::L))(hs:Ct.Rm 60 s):
  Calls prog 117 #[↑x,↑cb0,↑cb1,↑cb2,↑cb3,↑cb4] w λe w'=>CP S F m B ((λr_b=>.node r_b λa_b=>.node i λb_b=>Ct.mK prev p (a_b.gen==b_b.gen) k) x) s L e w':=by
 have h:=eR hm (JV _) (h.fr (.c r5 .n))
 refine bZ func117 ntmps117 h λw h=>?_
 refine jA h λb1 w h=>?_
 refine dZ [1,3,5,11,13,15,6,9,16,19,21,22] (by kernel_rfl) h (.c r2 (.c r2 .n)) λw h=>go h λw h=>?_
 refine cs (ci (S.sN h a7) rfl rfl) ((cK S s x h.to hs).mono ?_)
 rintro _ w ⟨q2,rfl,h⟩
 refine⟨_,rfl,h.hs (.c r4 (.c r4 .n)),?_⟩
 refine go h λw h=>?_
 refine cs (ci (S.sN h a1) rfl rfl) ((cK S s i h.to hs).mono ?_)
 rintro _ w ⟨q3,rfl,h⟩
 refine⟨_,rfl,h.hs (.c r5 (.c r5 .n)),?_⟩
 refine go h λw h=>?_
 have h:=Rj (j:=60) (by decide) (h.fr (.c r4 .n))
 refine cl (ca eF rfl) ((Ap S F t prev p (((s.node x).gen:Int)==(s.node i).gen) thk k m s (h.fr (.c r0 (.c r1 .n))) (hs.less (by decide))).mono ?_)
 rintro _ w ⟨s4,t5,c6,hq7,rfl,h⟩
 refine⟨_,rfl,?_⟩
 refine sf (so h rfl rfl rfl kN (eO _) (.r (.r (.r (.r (.r (.r (.r (.r (.r (.r (.r (.r (.r (.r .d)))))))))))))) u4)<|?_
 rintro _ w h
 refine xe<|nx<|rt<|?_
 refine go h λw h=>?_
 refine rr (bP rfl rfl (h.b a4) Row.h) ?_
 exact fI (qN (qN (hq7))) h.to
theorem Mh{β:Type}(S:dN)(F:β->Cc->As)(cb0 cb1 cb2 cb3 cb4:Nat)(thk:Fv)(k:Int->Ct.I β)(m0:Int)(t:Ct.bC)(i:Int)(prev:Int){n m:Nat}(hm:m<=n)(x:Int)(s:Ct.St)(h:SH B w (rb cb0 [thk.val] 91::rb cb1 ([↑m0]) 44::rb cb2 ([S.v,↑t.root,↑t.readOnly]) 87::rb cb3 ([↑i]) 44::rb cb4 ([↑prev]) 33::gP S F n 60 dQ k thk::S.a s::L))(hs:Ct.Rm 60 s):
  Calls prog 110 #[↑x,↑cb0,↑cb1,↑cb2,↑cb3,↑cb4] w λe w'=>CP S F m B ((λp_b=>bif p_b==0 then k m0 else .node p_b λb_b=>bif !b_b.bM then Ct.Dq i m0 p_b k else bif (Ct.bC.readOnly t)then Ct.mK prev p_b false (Ct.kY prev i m0 k)else Ct.Zi t λr_b=>.node r_b λa_b=>.node i λb_b=>Ct.mK prev p_b (a_b.gen==b_b.gen) (Ct.kY prev i m0 k)) x) s L e w':=by
 have h:=eR hm (JV _) (h.fr (.c r5 .n))
 refine bZ func110 ntmps110 h λw h=>?_
 refine jX h λb1 w h=>?_
 refine jA h λb2 w h=>?_
 refine qc h (λhd3 w h=>?_) λhd3 w h=>?_
 refine Ma (mA (h.fr (.c r2 (.c r7 .n))) (hs.less (by decide)) m0) λs5 t6 c7 hq8 w h=>?_
 refine rc h ?_
 exact fI (qT hd3 (hq8)) h.to
 refine Vs S h (cK S s x h.to hs) λq10 w h=>?_
 refine bA (tB _ _ h.to) λw h=>?_
 refine qc h (λhd11 w h=>?_) λhd11 w h=>?_
 have h:=Rj (j:=60) (by decide) (h.fr (.c r4 .n))
 refine fQ (Jy S F _ _ _ _ thk k _ _ h.to (hs.less (by decide))) λs13 t14 c15 hq16 w h=>?_
 refine rc h ?_
 exact fI (qF hd3 (qN (qT hd11 (hq16)))) h.to
 refine jA h λb18 w h=>?_
 refine qc h (λhd19 w h=>?_) λhd19 w h=>?_
 have h:=h.eT a9
 have h:=h.eT a9
 have h:=h.eT a9
 have h:=h.eT a9
 have h:=h.eT G0
 have h:=h.fr (.c r0 (.c r0 (.c r0 (.c r0 (.c r0 (.c r5 .n))))))
 have h:=Me (j:=60) (S:=S) (F:=F) (n:=m) (args:=dV) (k:=(Ct.kY prev i m0 k)) (v:=(.fn 113 [] [↑cb4,↑cb0,↑cb1,↑cb2,↑cb3])) [rb cb4 ([↑prev]) 33,rb cb0 [thk.val] 91,rb cb1 ([↑m0]) 44,rb cb2 ([S.v,↑t.root,↑t.readOnly]) 87,rb cb3 ([↑i]) 44,gP S F m 60 dQ k thk] h λm' hm' B' w' L' s' x' h' hs'=>pR eF (xQ S F cb4 cb0 cb1 cb2 cb3 prev thk k m0 t i (Dj hm') x' s' h' (hs'.less (by decide)))
 refine fQ (Ap S F _ _ _ _ (.fn 113 [] [↑cb4,↑cb0,↑cb1,↑cb2,↑cb3]) (Ct.kY prev i m0 k) _ _ h.to (hs.less (by decide))) λs20 t21 c22 hq23 w h=>?_
 refine rc h ?_
 exact fI (qF hd3 (qN (qF hd11 (qT hd19 (hq23))))) h.to
 have h:=SH.kX (h.fr (.c r4 .n))
 have h:=SH.kX (h.fr (.c r1 .n))
 have h:=h.eT a9
 have h:=h.eT a9
 have h:=h.eT a9
 have h:=h.eT a9
 have h:=h.eT G0
 have h:=h.fr (.c r0 (.c r0 (.c r0 (.c r0 (.c r0 (.c r5 .n))))))
 have h:=YZ (S:=S) (F:=F) (n:=m) (j:=60) (args:=dV) (k:=(Ct.kY prev i m0 k)) (v:=(.fn 113 [] [↑cb4,↑cb0,↑cb1,↑cb2,↑cb3])) [rb cb4 ([↑prev]) 33,rb cb0 [thk.val] 91,rb cb1 ([↑m0]) 44,rb cb2 ([S.v,↑t.root,↑t.readOnly]) 87,rb cb3 ([↑i]) 44,gP S F m 60 dQ k thk] h λB' w' L' s' x' h' hs'=>pR eF (xQ S F cb4 cb0 cb1 cb2 cb3 prev thk k m0 t i (JV _) x' s' h' hs')
 have h:=h.eT a1
 have h:=h.eT a3
 have h:=h.eT a12
 have h:=h.eT a12
 have h:=h.eT a12
 have h:=h.fr (.c r0 (.c r0 (.c r0 (.c r0 (.c r0 (.c r0 .n))))))
 have h:=Me (j:=60) (S:=S) (F:=F) (n:=m) (args:=dQ) (k:=(λr_b=>.node r_b λa_b=>.node i λb_b=>Ct.mK prev x (a_b.gen==b_b.gen) (Ct.kY prev i m0 k))) (v:=(.fn 117 [] [↑cb2,↑cb3,↑cb4,↑b1,↑b18])) [rb cb2 ([S.v,↑t.root,↑t.readOnly]) 87,rb cb3 ([↑i]) 44,rb cb4 ([↑prev]) 33,rb b1 ([↑x]) 44,rb b18 [Go.E.Fv.val (Go.E.Fv.fn 113 [] [↑cb4,↑cb0,↑cb1,↑cb2,↑cb3])] 92,gP S F m 60 dV (Ct.kY prev i m0 k) (.fn 113 [] [↑cb4,↑cb0,↑cb1,↑cb2,↑cb3])] h λm' hm' B' w' L' s' x' h' hs'=>pR eF (Lm S F cb2 cb3 cb4 b1 b18 t i prev x (.fn 113 [] [↑cb4,↑cb0,↑cb1,↑cb2,↑cb3]) (Ct.kY prev i m0 k) (Dj hm') x' s' h' (hs'.less (by decide)))
 refine fQ (DY S F _ (.fn 117 [] [↑cb2,↑cb3,↑cb4,↑b1,↑b18]) (λr_b=>.node r_b λa_b=>.node i λb_b=>Ct.mK prev x (a_b.gen==b_b.gen) (Ct.kY prev i m0 k)) _ _ h.to (hs.less (by decide))) λs24 t25 c26 hq27 w h=>?_
 refine rc h ?_
 exact fI (qF hd3 (qN (qF hd11 (qF hd19 (hq27))))) h.to
theorem Ay{β:Type}(S:dN)(F:β->Cc->As)(t:Ct.bC)(i:Int)(m0:Int)(thk:Fv)(k:Int->Ct.I β)(n:Nat)(s:Ct.St)(h:SH B w (rD S F n 60 dQ k thk::S.a s::L))(hs:Ct.Rm 30 s):
  Calls prog 75 #[.agg [S.v,↑t.root,↑t.readOnly].toArray,↑i,↑m0,thk.val] w λe w'=>CP S F n B (Ct.qB t i m0 k) s L e w':=by
 refine bZ func75 ntmps75 h λw h=>?_
 refine jX h λb1 w h=>?_
 refine jX h λb2 w h=>?_
 refine jX h λb3 w h=>?_
 refine jX h (hc:=lE _) λb4 w h=>?_
 refine jA h λb5 w h=>?_
 refine Vs S h (cK S s m0 h.to hs) λq6 w h=>?_
 refine jA h λb7 w h=>?_
 have h:=SH.kX (h.fr (.c r4 .n))
 have h:=SH.kX (h.fr (.c r5 .n))
 have h:=SH.kX (h.fr (.c r7 .n))
 have h:=SH.kX (h.fr (.c r7 .n))
 have h:=SH.kX (h.fr (.c r4 .n))
 refine cl (ca eF rfl) ((jH (s.node m0).prev (.fn 110 [] [↑b4,↑b3,↑b1,↑b2,↑b7]) (h.fr .n)).mono ?_)
 rintro _ w ⟨rfl,h⟩
 refine⟨_,rfl,?_⟩
 refine sf (so h rfl rfl rfl kN (eO _) (.r (.r (.r (.r (.r (.r (.r (.r (.r (.r (.r (.r (.r (.r .d)))))))))))))) u7)<|?_
 rintro _ w h
 refine xe<|nx<|rt<|?_
 refine rc h ?_
 have h:=h.eT a0
 have h:=h.eT a2
 have h:=h.eT a4
 have h:=h.eT a6
 have h:=h.eT a8
 have h:=h.fr (.c r0 (.c r0 (.c r0 (.c r0 (.c r0 (.c r8 .n))))))
 have h:=Nt (S:=S) (F:=F) (n:=n) (args:=dQ) (k:=(λp_b=>bif p_b==0 then k m0 else .node p_b λb_b=>bif !b_b.bM then Ct.Dq i m0 p_b k else bif (Ct.bC.readOnly t)then Ct.mK (s.node m0).prev p_b false (Ct.kY (s.node m0).prev i m0 k)else Ct.Zi t λr_b=>.node r_b λa_b=>.node i λb_b=>Ct.mK (s.node m0).prev p_b (a_b.gen==b_b.gen) (Ct.kY (s.node m0).prev i m0 k))) (v:=(.fn 110 [] [↑b4,↑b3,↑b1,↑b2,↑b7])) [rb b4 [thk.val] 91,rb b3 ([↑m0]) 44,rb b1 ([S.v,↑t.root,↑t.readOnly]) 87,rb b2 ([↑i]) 44,rb b7 ([.int .i64 (s.node m0).prev]) 33,rD S F n 60 dQ k thk] h λm' hm' B' w' L' s' x' h' hs'=>pR eF (Mh S F b4 b3 b1 b2 b7 thk k m0 t i (s.node m0).prev (JV _) x' s' ((sB hm' (h'.fr (.c r5 .n))).fr (.c r1 (.c r1 (.c r1 (.c r1 (.c r1 (.c r0 .n))))))) (hs'.less (by decide)))
 have h:=kL (a:=(s.node m0).prev) h
 exact fI (qN rfl) h.to
theorem KW{β:Type}(S:dN)(F:β->Cc->As)(cb0 cb1 cb2:Nat)(t:Ct.bC)(i:Int)(thk:Fv)(k:Int->Ct.I β){n m:Nat}(hm:m<=n)(x:Int)(s:Ct.St)(h:SH B w (rb cb0 ([S.v,↑t.root,↑t.readOnly]) 87::rb cb1 ([↑i]) 44::rb cb2 [thk.val] 91::gP S F n 60 dQ k thk::S.a s::L))(hs:Ct.Rm 60 s):
  Calls prog 74 #[↑x,↑cb0,↑cb1,↑cb2] w λe w'=>CP S F m B ((λm0_b=>Ct.qB t i m0_b k) x) s L e w':=by
 have h:=eR hm (JV _) (h.fr (.c r3 .n))
 refine bZ func74 ntmps74 h λw h=>?_
 refine jA h λb1 w h=>?_
 have h:=Rj (j:=60) (by decide) (h.fr (.c r1 .n))
 refine cl (ca eF rfl) ((Ay S F t i x thk k m s (h.fr (.c r0 (.c r4 .n))) (hs.less (by decide))).mono ?_)
 rintro _ w ⟨s2,t3,c4,hq5,rfl,h⟩
 refine⟨_,rfl,?_⟩
 refine sf (so h rfl rfl rfl kN (eO _) (.r (.r (.r (.r (.r (.r (.r (.r (.r (.r (.r (.r (.r (.r .d)))))))))))))) u2)<|?_
 rintro _ w h
 refine xe<|nx<|rt<|?_
 refine go h λw h=>?_
 refine rr (bP rfl rfl (h.b a2) Row.h) ?_
 exact fI (hq5) h.to
theorem jZ{β:Type}(S:dN)(F:β->Cc->As)(t:Ct.bC)(i:Int)(thk:Fv)(k:Int->Ct.I β)(n:Nat)(s:Ct.St)(h:SH B w (rD S F n 60 dQ k thk::S.a s::L))(hs:Ct.Rm 30 s):
  Calls prog 40 #[.agg [S.v,↑t.root,↑t.readOnly].toArray,↑i,thk.val] w λe w'=>CP S F n B (Ct.mM t i k) s L e w':=by
 refine bZ func40 ntmps40 h λw h=>?_
 refine jX h λb1 w h=>?_
 refine jX h λb2 w h=>?_
 refine sf (bx h rfl (lE _)) ?_
 rintro _ w ⟨b3,rfl,h⟩
 refine go h λw h=>?_
 refine jA h λb4 w h=>?_
 have h:=SH.kX (h.fr (.c r3 .n))
 have h:=SH.kX (h.fr (.c r3 .n))
 have h:=SH.kX (h.fr (.c r3 .n))
 refine go h λw h=>?_
 refine cl (ci (S.sN h a5) rfl rfl) ((cK S s i h.to hs).mono ?_)
 rintro _ w ⟨q5,rfl,h⟩
 refine⟨_,rfl,?_⟩
 refine go h λw h=>?_
 refine cl (ca eF rfl) ((jH (s.node i).main (.fn 74 [] [↑b1,↑b2,↑b3]) (h.fr .n)).mono ?_)
 rintro _ w ⟨rfl,h⟩
 refine⟨_,rfl,?_⟩
 refine sf (so h rfl rfl rfl kN (eO _) (.r (.r (.r (.r (.r (.r (.r (.r (.r (.r (.r (.r (.r (.r .d)))))))))))))) u5)<|?_
 rintro _ w h
 refine xe<|nx<|rt<|?_
 refine go h λw h=>?_
 refine rr (bP rfl rfl (h.b a5) Row.h) ?_
 have h:=h.eT a2
 have h:=h.eT a4
 have h:=h.eT a6
 have h:=h.fr (.c r0 (.c r0 (.c r0 (.c r6 .n))))
 have h:=Nt (S:=S) (F:=F) (n:=n) (args:=dQ) (k:=(λm0_b=>Ct.qB t i m0_b k)) (v:=(.fn 74 [] [↑b1,↑b2,↑b3])) [rb b1 ([S.v,↑t.root,↑t.readOnly]) 87,rb b2 ([↑i]) 44,rb b3 [thk.val] 91,rD S F n 60 dQ k thk] h λm' hm' B' w' L' s' x' h' hs'=>pR eF (KW S F b1 b2 b3 t i thk k (JV _) x' s' ((sB hm' (h'.fr (.c r3 .n))).fr (.c r1 (.c r1 (.c r1 (.c r0 .n))))) (hs'.less (by decide)))
 have h:=kL (a:=(s.node i).main) h
 exact fI (qN rfl) h.to
theorem Jk{β:Type}(S:dN)(F:β->Cc->As)(cb0:Nat)(thk:Fv)(k:Unit->Ct.I β){n m:Nat}(hm:m<=n)(x:Bool)(s:Ct.St)(h:SH B w (rb cb0 [thk.val] 100::gP S F n 60 qI k thk::S.a s::L))(hs:Ct.Rm 60 s):
  Calls prog 172 #[↑x,↑cb0] w λe w'=>CP S F m B ((λ_=>k ()) x) s L e w':=by
 have h:=eR hm (JV _) (h.fr (.c r1 .n))
 refine bZ func172 ntmps172 h λw h=>?_
 refine jA h λb1 w h=>?_
 refine PM rfl rfl ((mA (h.fr (.c r1 (.c r2 .n))) (hs.less (by decide)) ()).mono ?_)
 rintro _ w ⟨s2,t3,c4,hq5,rfl,h⟩
 refine⟨_,rfl,?_⟩
 refine go h λw h=>?_
 refine rr (bP rfl rfl (h.b a2) Row.h) ?_
 exact fI (hq5) h.to
theorem DL{β:Type}(S:dN)(F:β->Cc->As)(cb0 cb1:Nat)(d:Ct.Node)(qd:Lq)(thk:Fv)(k:Unit->Ct.I β){n m:Nat}(hm:m<=n)(x:Int)(s:Ct.St)(h:SH B w (rb cb0 (aL d qd) 53::rb cb1 [thk.val] 100::gP S F n 60 qI k thk::S.a s::L))(hs:Ct.Rm 60 s):
  Calls prog 171 #[↑x,↑cb0,↑cb1] w λe w'=>CP S F m B ((λm0_b=>bif m0_b==(Ct.Node.aK d)then .eA (Ct.Node.status d) 0 1 λ_=>k ()else .eA (Ct.Node.status d) 0 2 λ_=>k ()) x) s L e w':=by
 have h:=eR hm (JV _) (h.fr (.c r2 .n))
 refine bZ func171 ntmps171 h λw h=>?_
 refine jA h λb1 w h=>?_
 refine qc h (λhd2 w h=>?_) λhd2 w h=>?_
 have hg3:=eq_of_beq hd2
 refine go h λw h=>?_
 refine bA (iW _ _ _ (.fn 172 [] [↑cb1]) h.to) λw h=>?_
 refine rr (bP rfl rfl (h.b a0) Row.h) ?_
 have h:=h.eT a3
 have h:=h.fr (.c r0 (.c r1 .n))
 have h:=Nt (S:=S) (F:=F) (n:=m) (args:=dV) (k:=(λ_=>k ())) (v:=(.fn 172 [] [↑cb1])) [rb cb1 [thk.val] 100,gP S F m 60 qI k thk] h λm' hm' B' w' L' s' x' h' hs'=>pR eF (Jk S F cb1 thk k (Dj hm') x' s' h' (hs'.less (by decide)))
 have h:=kC (a:=d.status) (o:=0) (x:=1) h
 exact fI (qT hd2 rfl) h.to
 have hg4:=dP hd2
 refine go h λw h=>?_
 refine bA (iW _ _ _ (.fn 172 [] [↑cb1]) h.to) λw h=>?_
 refine rr (bP rfl rfl (h.b a0) Row.h) ?_
 have h:=h.eT a3
 have h:=h.fr (.c r0 (.c r1 .n))
 have h:=Nt (S:=S) (F:=F) (n:=m) (args:=dV) (k:=(λ_=>k ())) (v:=(.fn 172 [] [↑cb1])) [rb cb1 [thk.val] 100,gP S F m 60 qI k thk] h λm' hm' B' w' L' s' x' h' hs'=>pR eF (Jk S F cb1 thk k (Dj hm') x' s' h' (hs'.less (by decide)))
 have h:=kC (a:=d.status) (o:=0) (x:=2) h
 exact fI (qF hd2 rfl) h.to
theorem Nw{β:Type}(S:dN)(F:β->Cc->As)(t:Ct.bC)(d:Ct.Node)(qd:Lq)(thk:Fv)(k:Unit->Ct.I β)(n:Nat)(s:Ct.St)(h:SH B w (rD S F n 60 qI k thk::S.a s::L))(hs:Ct.Rm 30 s):
  Calls prog 122 #[.agg [S.v,↑t.root,↑t.readOnly].toArray,.agg (aL d qd).toArray,thk.val] w λe w'=>CP S F n B (Ct.Gu t d (k ())) s L e w':=by
 refine bZ func122 ntmps122 h λw h=>?_
 refine jX h λb1 w h=>?_
 refine jX h λb2 w h=>?_
 refine sf (bx h rfl (lE _)) ?_
 rintro _ w ⟨b3,rfl,h⟩
 refine go h λw h=>?_
 refine jA h λb4 w h=>?_
 have h:=SH.kX (h.fr (.c r2 .n))
 have h:=SH.kX (h.fr (.c r2 .n))
 refine go h λw h=>?_
 have h:=h.eT a0
 have h:=h.eT a2
 have h:=h.fr (.c r0 (.c r0 (.c r4 .n)))
 have h:=Me (j:=60) (S:=S) (F:=F) (n:=n) (args:=dQ) (k:=(λm0_b=>bif m0_b==(Ct.Node.aK d)then .eA (Ct.Node.status d) 0 1 λ_=>k ()else .eA (Ct.Node.status d) 0 2 λ_=>k ())) (v:=(.fn 171 [] [↑b2,↑b3])) [rb b2 (aL d qd) 53,rb b3 [thk.val] 100,rD S F n 60 qI k thk] h λm' hm' B' w' L' s' x' h' hs'=>pR eF (DL S F b2 b3 d qd thk k (JV _) x' s' ((sB hm' (h'.fr (.c r2 .n))).fr (.c r1 (.c r1 (.c r0 .n)))) (hs'.less (by decide)))
 refine cl (ca eF rfl) ((jZ S F t d.dC (.fn 171 [] [↑b2,↑b3]) (λm0_b=>bif m0_b==(Ct.Node.aK d)then .eA (Ct.Node.status d) 0 1 λ_=>k ()else .eA (Ct.Node.status d) 0 2 λ_=>k ()) n s (h.fr (.c r0 (.c r4 .n))) (hs.less (by decide))).mono ?_)
 rintro _ w ⟨s5,t6,c7,hq8,rfl,h⟩
 refine⟨_,rfl,?_⟩
 refine sf (so h rfl rfl rfl kN (eO _) (.r (.r (.r (.r (.r (.r (.r (.r (.r (.r (.r (.r (.r (.r .d)))))))))))))) u4)<|?_
 rintro _ w h
 refine xe<|nx<|rt<|?_
 refine go h λw h=>?_
 refine rr (bP rfl rfl (h.b a4) Row.h) ?_
 exact fI (hq8) h.to
theorem Yb{β:Type}(S:dN)(F:β->Cc->As)(cb0 cb1 cb2:Nat)(t:Ct.bC)(v:Int)(thk:Fv)(k:Int->Ct.I β){n m:Nat}(hm:m<=n)(x:Int)(s:Ct.St)(h:SH B w (rb cb0 ([S.v,↑t.root,↑t.readOnly]) 87::rb cb1 ([↑v]) 44::rb cb2 [thk.val] 91::gP S F n 60 dQ k thk::S.a s::L))(hs:Ct.Rm 60 s):
  Calls prog 124 #[↑x,↑cb0,↑cb1,↑cb2] w λe w'=>CP S F m B ((λs_b=>Ct.iD t v s_b k) x) s L e w':=by
 have h:=eR hm (JV _) (h.fr (.c r3 .n))
 refine bZ func124 ntmps124 h λw h=>?_
 refine jA h λb1 w h=>?_
 have h:=Rj (j:=60) (by decide) (h.fr (.c r1 .n))
 refine cl (ca eF rfl) ((kK S F t v x thk k m s (h.fr (.c r0 (.c r4 .n))) (hs.less (by decide))).mono ?_)
 rintro _ w ⟨s2,t3,c4,hq5,rfl,h⟩
 refine⟨_,rfl,?_⟩
 refine sf (so h rfl rfl rfl kN (eO _) (.r (.r (.r (.r (.r (.r (.r (.r (.r (.r (.r (.r (.r (.r .d)))))))))))))) u2)<|?_
 rintro _ w h
 refine xe<|nx<|rt<|?_
 refine go h λw h=>?_
 refine rr (bP rfl rfl (h.b a2) Row.h) ?_
 exact fI (hq5) h.to
theorem Yx{β:Type}(S:dN)(F:β->Cc->As)(cb0 cb1 cb2 cb3:Nat)(d:Ct.Node)(qd:Lq)(t:Ct.bC)(v:Int)(thk:Fv)(k:Int->Ct.I β){n m:Nat}(hm:m<=n)(s:Ct.St)(h:SH B w (rb cb0 (aL d qd) 53::rb cb1 ([S.v,↑t.root,↑t.readOnly]) 87::rb cb2 ([↑v]) 44::rb cb3 [thk.val] 91::gP S F n 60 dQ k thk::S.a s::L))(hs:Ct.Rm 60 s):
  Calls prog 123 #[↑cb0,↑cb1,↑cb2,↑cb3] w λe w'=>CP S F m B ((λ_=>.load (Ct.Node.status d) λs_b=>Ct.iD t v s_b k) ()) s L e w':=by
 have h:=eR hm (JV _) (h.fr (.c r4 .n))
 refine bZ func123 ntmps123 h λw h=>?_
 refine jA h λb1 w h=>?_
 refine cl (ca eF rfl) ((jH d.status (.fn 124 [] [↑cb1,↑cb2,↑cb3]) (h.fr .n)).mono ?_)
 rintro _ w ⟨rfl,h⟩
 refine⟨_,rfl,?_⟩
 refine sf (so h rfl rfl rfl kN (eO _) (.r (.r (.r (.r (.r (.r (.r (.r (.r (.r (.r (.r (.r (.r .d)))))))))))))) u0)<|?_
 rintro _ w h
 refine xe<|nx<|rt<|?_
 refine go h λw h=>?_
 refine rr (bP rfl rfl (h.b a0) Row.h) ?_
 have h:=h.eT a5
 have h:=h.eT a5
 have h:=h.eT a5
 have h:=h.fr (.c r0 (.c r0 (.c r0 (.c r1 .n))))
 have h:=Nt (S:=S) (F:=F) (n:=m) (args:=dQ) (k:=(λs_b=>Ct.iD t v s_b k)) (v:=(.fn 124 [] [↑cb1,↑cb2,↑cb3])) [rb cb1 ([S.v,↑t.root,↑t.readOnly]) 87,rb cb2 ([↑v]) 44,rb cb3 [thk.val] 91,gP S F m 60 dQ k thk] h λm' hm' B' w' L' s' x' h' hs'=>pR eF (Yb S F cb1 cb2 cb3 t v thk k (Dj hm') x' s' h' (hs'.less (by decide)))
 have h:=kL (a:=d.status) h
 exact fI (rfl) h.to
theorem Xz{β:Type}(S:dN)(F:β->Cc->As)(cb0 cb1 cb2 cb3:Nat)(t:Ct.bC)(v:Int)(thk:Fv)(k:Int->Ct.I β)(d:Ct.Node)(qd:Lq){n m:Nat}(hm:m<=n)(x:Int)(s:Ct.St)(h:SH B w (rb cb0 ([S.v,↑t.root,↑t.readOnly]) 87::rb cb1 ([↑v]) 44::rb cb2 [thk.val] 91::rb cb3 (aL d qd) 53::gP S F n 60 dQ k thk::S.a s::L))(hs:Ct.Rm 60 s):
  Calls prog 120 #[↑x,↑cb0,↑cb1,↑cb2,↑cb3] w λe w'=>CP S F m B ((λs_b=>bif s_b != 0 then Ct.iD t v s_b k else Ct.Gu t d (.load (Ct.Node.status d) λs_b=>Ct.iD t v s_b k)) x) s L e w':=by
 have h:=eR hm (JV _) (h.fr (.c r4 .n))
 refine bZ func120 ntmps120 h λw h=>?_
 refine jA h λb1 w h=>?_
 refine qc h (λhd2 w h=>?_) λhd2 w h=>?_
 have h:=Rj (j:=60) (by decide) (h.fr (.c r1 .n))
 refine fQ (kK S F _ _ _ thk k _ _ h.to (hs.less (by decide))) λs4 t5 c6 hq7 w h=>?_
 refine rc h ?_
 exact fI (qT hd2 (hq7)) h.to
 have h:=h.eT a4
 have h:=h.eT a4
 have h:=h.eT a4
 have h:=h.eT a8
 have h:=h.fr (.c r0 (.c r0 (.c r0 (.c r0 (.c r1 .n)))))
 have h:=Me (j:=60) (S:=S) (F:=F) (n:=m) (args:=qI) (k:=(λ_=>.load (Ct.Node.status d) λs_b=>Ct.iD t v s_b k)) (v:=(.fn 123 [] [↑cb3,↑cb0,↑cb1,↑cb2])) [rb cb3 (aL d qd) 53,rb cb0 ([S.v,↑t.root,↑t.readOnly]) 87,rb cb1 ([↑v]) 44,rb cb2 [thk.val] 91,gP S F m 60 dQ k thk] h λm' hm' B' w' L' s' x' h' hs'=>pR eF (Yx S F cb3 cb0 cb1 cb2 d qd t v thk k (Dj hm') s' h' (hs'.less (by decide)))
 refine fQ (Nw S F _ _ _ (.fn 123 [] [↑cb3,↑cb0,↑cb1,↑cb2]) (λ_=>.load (Ct.Node.status d) λs_b=>Ct.iD t v s_b k) _ _ h.to (hs.less (by decide))) λs9 t10 c11 hq12 w h=>?_
 refine rc h ?_
 exact fI (qF hd2 (hq12)) h.to
theorem Wo{β:Type}(S:dN)(F:β->Cc->As)(cb0 cb1:Nat)(t:Ct.bC)(thk:Fv)(k:Int->Ct.I β){n m:Nat}(hm:m<=n)(x:Int)(s:Ct.St)(h:SH B w (rb cb0 ([S.v,↑t.root,↑t.readOnly]) 87::rb cb1 [thk.val] 91::gP S F n 60 dQ k thk::S.a s::L))(hs:Ct.Rm 60 s):
  Calls prog 119 #[↑x,↑cb0,↑cb1] w λe w'=>CP S F m B ((λv_b=>.node v_b λd_b=>bif d_b.kind==2 then k v_b else .load d_b.status λs_b=>bif s_b != 0 then Ct.iD t v_b s_b k else Ct.Gu t d_b (.load d_b.status λs_b=>Ct.iD t v_b s_b k)) x) s L e w':=by
 have h:=eR hm (JV _) (h.fr (.c r2 .n))
 refine bZ func119 ntmps119 h λw h=>?_
 refine jX h λb1 w h=>?_
 refine jA h λb2 w h=>?_
 refine Vs S h (cK S s x h.to hs) λq3 w h=>?_
 refine jA h λb4 w h=>?_
 refine qc h (λhd5 w h=>?_) λhd5 w h=>?_
 refine Ma (mA (h.fr (.c r5 (.c r2 .n))) (hs.less (by decide)) x) λs7 t8 c9 hq10 w h=>?_
 refine rc h ?_
 exact fI (qN (qT hd5 (hq10))) h.to
 have h:=SH.kX (h.fr (.c r4 .n))
 have h:=SH.kX (h.fr (.c r1 .n))
 refine bA (jH _ (.fn 120 [] [↑cb0,↑b1,↑cb1,↑b4]) h.to) λw h=>?_
 refine rc h ?_
 have h:=h.eT a0
 have h:=h.eT a8
 have h:=h.eT a3
 have h:=h.eT a9
 have h:=h.fr (.c r0 (.c r0 (.c r0 (.c r0 (.c r5 .n)))))
 have h:=Nt (S:=S) (F:=F) (n:=m) (args:=dQ) (k:=(λs_b=>bif s_b != 0 then Ct.iD t x s_b k else Ct.Gu t (s.node x) (.load (Ct.Node.status (s.node x)) λs_b=>Ct.iD t x s_b k))) (v:=(.fn 120 [] [↑cb0,↑b1,↑cb1,↑b4])) [rb cb0 ([S.v,↑t.root,↑t.readOnly]) 87,rb b1 ([↑x]) 44,rb cb1 [thk.val] 91,rb b4 (aL (s.node x) q3) 53,gP S F m 60 dQ k thk] h λm' hm' B' w' L' s' x' h' hs'=>pR eF (Xz S F cb0 b1 cb1 b4 t x thk k (s.node x) q3 (Dj hm') x' s' h' (hs'.less (by decide)))
 have h:=kL (a:=(s.node x).status) h
 exact fI (qN (qF hd5 rfl)) h.to
theorem zO{β:Type}(S:dN)(F:β->Cc->As)(t:Ct.bC)(thk:Fv)(k:Int->Ct.I β)(n:Nat)(s:Ct.St)(h:SH B w (rD S F n 60 dQ k thk::S.a s::L))(hs:Ct.Rm 30 s):
  Calls prog 78 #[.agg [S.v,↑t.root,↑t.readOnly].toArray,thk.val] w λe w'=>CP S F n B (Ct.uO t k) s L e w':=by
 refine bZ func78 ntmps78 h λw h=>?_
 refine jX h λb1 w h=>?_
 refine sf (bx h rfl (lE _)) ?_
 rintro _ w ⟨b2,rfl,h⟩
 refine go h λw h=>?_
 refine jA h λb3 w h=>?_
 have h:=SH.kX (h.fr (.c r2 .n))
 have h:=SH.kX (h.fr (.c r2 .n))
 refine go h λw h=>?_
 refine cl (ca eF rfl) ((jH t.root (.fn 119 [] [↑b1,↑b2]) (h.fr .n)).mono ?_)
 rintro _ w ⟨rfl,h⟩
 refine⟨_,rfl,?_⟩
 refine sf (so h rfl rfl rfl kN (eO _) (.r (.r (.r (.r (.r (.r (.r (.r (.r (.r (.r (.r (.r (.r .d)))))))))))))) u2)<|?_
 rintro _ w h
 refine xe<|nx<|rt<|?_
 refine go h λw h=>?_
 refine rr (bP rfl rfl (h.b a2) Row.h) ?_
 have h:=h.eT a0
 have h:=h.eT a2
 have h:=h.fr (.c r0 (.c r0 (.c r3 .n)))
 have h:=Nt (S:=S) (F:=F) (n:=n) (args:=dQ) (k:=(λv_b=>.node v_b λd_b=>bif d_b.kind==2 then k v_b else .load d_b.status λs_b=>bif s_b != 0 then Ct.iD t v_b s_b k else Ct.Gu t d_b (.load d_b.status λs_b=>Ct.iD t v_b s_b k))) (v:=(.fn 119 [] [↑b1,↑b2])) [rb b1 ([S.v,↑t.root,↑t.readOnly]) 87,rb b2 [thk.val] 91,rD S F n 60 dQ k thk] h λm' hm' B' w' L' s' x' h' hs'=>pR eF (Wo S F b1 b2 t thk k (JV _) x' s' ((sB hm' (h'.fr (.c r2 .n))).fr (.c r1 (.c r1 (.c r0 .n)))) (hs'.less (by decide)))
 have h:=kL (a:=t.root) h
 exact fI (rfl) h.to
theorem Ug{β:Type}(S:dN)(F:β->Cc->As)(cb0 cb1:Nat)(thk:Fv)(k:Bool->Ct.I β)(v:Int){n m:Nat}(hm:m<=n)(x:Int)(s:Ct.St)(h:SH B w (rb cb0 [thk.val] 92::rb cb1 ([↑v]) 44::gP S F n 60 dV k thk::S.a s::L))(hs:Ct.Rm 60 s):
  Calls prog 130 #[↑x,↑cb0,↑cb1] w λe w'=>CP S F m B ((λ_=>k (v==1)) x) s L e w':=by
 have h:=eR hm (JV _) (h.fr (.c r2 .n))
 refine bZ func130 ntmps130 h λw h=>?_
 refine jA h λb1 w h=>?_
 refine PM rfl rfl ((mA (h.fr (.c r1 (.c r3 .n))) (hs.less (by decide)) ((v:Int)==1)).mono ?_)
 rintro _ w ⟨s2,t3,c4,hq5,rfl,h⟩
 refine⟨_,rfl,?_⟩
 refine go h λw h=>?_
 refine rr (bP rfl rfl (h.b a2) Row.h) ?_
 exact fI (hq5) h.to
theorem Zh{β:Type}(S:dN)(F:β->Cc->As)(cb0 cb1 cb2:Nat)(t:Ct.bC)(v:Int)(thk:Fv)(k:Bool->Ct.I β){n m:Nat}(hm:m<=n)(x:Int)(s:Ct.St)(h:SH B w (rb cb0 ([S.v,↑t.root,↑t.readOnly]) 87::rb cb1 ([↑v]) 44::rb cb2 [thk.val] 92::gP S F n 60 dV k thk::S.a s::L))(hs:Ct.Rm 60 s):
  Calls prog 129 #[↑x,↑cb0,↑cb1,↑cb2] w λe w'=>CP S F m B ((λs_b=>Ct.iD t v s_b λ_=>k (s_b==1)) x) s L e w':=by
 have h:=eR hm (JV _) (h.fr (.c r3 .n))
 refine bZ func129 ntmps129 h λw h=>?_
 refine jX h λb1 w h=>?_
 refine jA h λb2 w h=>?_
 have h:=SH.kX (h.fr (.c r1 .n))
 refine go h λw h=>?_
 have h:=h.eT a0
 have h:=h.eT a6
 have h:=h.fr (.c r0 (.c r0 (.c r2 .n)))
 have h:=Me (j:=60) (S:=S) (F:=F) (n:=m) (args:=dQ) (k:=(λ_=>k (x==1))) (v:=(.fn 130 [] [↑cb2,↑b1])) [rb cb2 [thk.val] 92,rb b1 ([↑x]) 44,gP S F m 60 dV k thk] h λm' hm' B' w' L' s' x' h' hs'=>pR eF (Ug S F cb2 b1 thk k x (Dj hm') x' s' h' (hs'.less (by decide)))
 refine cl (ca eF rfl) ((kK S F t v x (.fn 130 [] [↑cb2,↑b1]) (λ_=>k (x==1)) m s (h.fr (.c r0 (.c r5 .n))) (hs.less (by decide))).mono ?_)
 rintro _ w ⟨s3,t4,c5,hq6,rfl,h⟩
 refine⟨_,rfl,?_⟩
 refine sf (so h rfl rfl rfl kN (eO _) (.r (.r (.r (.r (.r (.r (.r (.r (.r (.r (.r (.r (.r (.r .d)))))))))))))) u3)<|?_
 rintro _ w h
 refine xe<|nx<|rt<|?_
 refine go h λw h=>?_
 refine rr (bP rfl rfl (h.b a3) Row.h) ?_
 exact fI (hq6) h.to
theorem Wc{β:Type}(S:dN)(F:β->Cc->As)(cb0 cb1 cb2 cb3:Nat)(d:Ct.Node)(qd:Lq)(t:Ct.bC)(v:Int)(thk:Fv)(k:Bool->Ct.I β){n m:Nat}(hm:m<=n)(s:Ct.St)(h:SH B w (rb cb0 (aL d qd) 53::rb cb1 ([S.v,↑t.root,↑t.readOnly]) 87::rb cb2 ([↑v]) 44::rb cb3 [thk.val] 92::gP S F n 60 dV k thk::S.a s::L))(hs:Ct.Rm 60 s):
  Calls prog 128 #[↑cb0,↑cb1,↑cb2,↑cb3] w λe w'=>CP S F m B ((λ_=>.load (Ct.Node.status d) λs_b=>Ct.iD t v s_b λ_=>k (s_b==1)) ()) s L e w':=by
 have h:=eR hm (JV _) (h.fr (.c r4 .n))
 refine bZ func128 ntmps128 h λw h=>?_
 refine jA h λb1 w h=>?_
 refine cl (ca eF rfl) ((jH d.status (.fn 129 [] [↑cb1,↑cb2,↑cb3]) (h.fr .n)).mono ?_)
 rintro _ w ⟨rfl,h⟩
 refine⟨_,rfl,?_⟩
 refine sf (so h rfl rfl rfl kN (eO _) (.r (.r (.r (.r (.r (.r (.r (.r (.r (.r (.r (.r (.r (.r .d)))))))))))))) u0)<|?_
 rintro _ w h
 refine xe<|nx<|rt<|?_
 refine go h λw h=>?_
 refine rr (bP rfl rfl (h.b a0) Row.h) ?_
 have h:=h.eT a5
 have h:=h.eT a5
 have h:=h.eT a5
 have h:=h.fr (.c r0 (.c r0 (.c r0 (.c r1 .n))))
 have h:=Nt (S:=S) (F:=F) (n:=m) (args:=dQ) (k:=(λs_b=>Ct.iD t v s_b λ_=>k (s_b==1))) (v:=(.fn 129 [] [↑cb1,↑cb2,↑cb3])) [rb cb1 ([S.v,↑t.root,↑t.readOnly]) 87,rb cb2 ([↑v]) 44,rb cb3 [thk.val] 92,gP S F m 60 dV k thk] h λm' hm' B' w' L' s' x' h' hs'=>pR eF (Zh S F cb1 cb2 cb3 t v thk k (Dj hm') x' s' h' (hs'.less (by decide)))
 have h:=kL (a:=d.status) h
 exact fI (rfl) h.to
theorem uT{β:Type}(S:dN)(F:β->Cc->As)(cb0 cb1 cb2 cb3:Nat)(thk:Fv)(k:Bool->Ct.I β)(t:Ct.bC)(d:Ct.Node)(qd:Lq)(v:Int){n m:Nat}(hm:m<=n)(ok:Bool)(s:Ct.St)(h:SH B w (rb cb0 [thk.val] 92::rb cb1 ([S.v,↑t.root,↑t.readOnly]) 87::rb cb2 (aL d qd) 53::rb cb3 ([↑v]) 44::gP S F n 60 dV k thk::S.a s::L))(hs:Ct.Rm 60 s):
  Calls prog 127 #[↑ok,↑cb0,↑cb1,↑cb2,↑cb3] w λe w'=>CP S F m B ((λok_b=>bif !ok_b then k false else Ct.Gu t d (.load (Ct.Node.status d) λs_b=>Ct.iD t v s_b λ_=>k (s_b==1))) ok) s L e w':=by
 have h:=eR hm (JV _) (h.fr (.c r4 .n))
 refine bZ func127 ntmps127 h λw h=>?_
 refine jA h λb1 w h=>?_
 refine qc h (λhd2 w h=>?_) λhd2 w h=>?_
 refine Ma (mA (h.fr (.c r1 (.c r5 .n))) (hs.less (by decide)) false) λs4 t5 c6 hq7 w h=>?_
 refine rc h ?_
 exact fI (qT hd2 (hq7)) h.to
 have h:=h.eT a2
 have h:=h.eT a6
 have h:=h.eT a5
 have h:=h.eT a7
 have h:=h.fr (.c r0 (.c r0 (.c r0 (.c r0 (.c r1 .n)))))
 have h:=Me (j:=60) (S:=S) (F:=F) (n:=m) (args:=qI) (k:=(λ_=>.load (Ct.Node.status d) λs_b=>Ct.iD t v s_b λ_=>k (s_b==1))) (v:=(.fn 128 [] [↑cb2,↑cb1,↑cb3,↑cb0])) [rb cb2 (aL d qd) 53,rb cb1 ([S.v,↑t.root,↑t.readOnly]) 87,rb cb3 ([↑v]) 44,rb cb0 [thk.val] 92,gP S F m 60 dV k thk] h λm' hm' B' w' L' s' x' h' hs'=>pR eF (Wc S F cb2 cb1 cb3 cb0 d qd t v thk k (Dj hm') s' h' (hs'.less (by decide)))
 refine fQ (Nw S F _ _ _ (.fn 128 [] [↑cb2,↑cb1,↑cb3,↑cb0]) (λ_=>.load (Ct.Node.status d) λs_b=>Ct.iD t v s_b λ_=>k (s_b==1)) _ _ h.to (hs.less (by decide))) λs9 t10 c11 hq12 w h=>?_
 refine rc h ?_
 exact fI (qF hd2 (hq12)) h.to
theorem Li{β:Type}(S:dN)(F:β->Cc->As)(t:Ct.bC)(o:Int)(ex:Int)(nw:Int)(thk:Fv)(k:Bool->Ct.I β)(n:Nat)(s:Ct.St)(h:SH B w (rD S F n 60 dV k thk::S.a s::L))(hs:Ct.Rm 30 s):
  Calls prog 81 #[.agg [S.v,↑t.root,↑t.readOnly].toArray,↑o,↑ex,↑nw,thk.val] w λe w'=>CP S F n B (Ct.lD t o ex nw k) s L e w':=by
 refine bZ func81 ntmps81 h λw h=>?_
 refine jX h λb1 w h=>?_
 refine jX h (hc:=lE _) λb2 w h=>?_
 refine jA h λb3 w h=>?_
 refine VS (F:=[bl b1 ([S.v,↑t.root,↑t.readOnly]) 87]) (.op 0 true (.op 1 true (.op 2 true (.op 3 true (.op 4 true (.op 6 true (.op 7 true (.fork 5 9 (.fork 8 9 (.op 9 false (.op 10 false .stop)) (.op 8 false (.op 10 false .stop))) (.op 5 false (.op 8 false (.op 10 false .stop))))))))))) (by kernel_rfl) h (λw h=>(hC (h.at_ a2) hN)) λw h=>go h λw h=>?_
 refine Mg ?_ ?_
 refine gO (Nj _ _ _ h.to) λw h=>?_
 refine Mg ?_ ?_
 refine cs (ci (S.sA h a4) rfl rfl) ((cQ S s ({kind:=8,dC:=o,aK:=ex,new:=nw}:Ct.Node) {} 0 (SH.eE ({kind:=8,dC:=o,aK:=ex,new:=nw}:Ct.Node) rfl rfl h.to) hs (Ct.bG _ 8 0 o ex nw)).mono ?_)
 rintro _ w ⟨rfl,h⟩
 have hs:=hs.alloc (Ct.bG _ 8 0 o ex nw) 0
 refine⟨_,rfl,(hC (h.at_ a3) hN),?_⟩
 refine jB h λb4 w h=>?_
 refine Vs S h (cK S (s.alloc ({kind:=8,dC:=o,aK:=ex,new:=nw}:Ct.Node) 0).1 (s.alloc ({kind:=8,dC:=o,aK:=ex,new:=nw}:Ct.Node) 0).2 h.to hs) λq5 w h=>?_
 refine jA h λb6 w h=>?_
 have h:=SH.kX (h.fr (.c r5 .n))
 have h:=SH.kX (h.fr (.c r6 .n))
 have h:=SH.kX (h.fr (.c r2 .n))
 have h:=SH.kX (h.fr (.c r5 .n))
 refine cl (ca eF rfl) ((iW t.root o (s.alloc ({kind:=8,dC:=o,aK:=ex,new:=nw}:Ct.Node) 0).2 (.fn 127 [] [↑b2,↑b1,↑b6,↑b4]) (h.fr .n)).mono ?_)
 rintro _ w ⟨rfl,h⟩
 refine⟨_,rfl,?_⟩
 refine sf (so h rfl rfl rfl kN (eO _) (.r (.r (.r (.r (.r (.r (.r (.r (.r (.r (.r (.r (.r (.r .d)))))))))))))) u6)<|?_
 rintro _ w h
 refine xe<|nx<|rt<|?_
 refine rc h ?_
 have h:=h.eT a0
 have h:=h.eT a2
 have h:=h.eT a4
 have h:=h.eT a6
 have h:=h.fr (.c r0 (.c r0 (.c r0 (.c r0 (.c r7 .n)))))
 have h:=Nt (S:=S) (F:=F) (n:=n) (args:=dV) (k:=(λok_b=>bif !ok_b then k false else Ct.Gu t ((s.alloc ({kind:=8,dC:=o,aK:=ex,new:=nw}:Ct.Node) 0).1.node (s.alloc ({kind:=8,dC:=o,aK:=ex,new:=nw}:Ct.Node) 0).2) (.load (Ct.Node.status ((s.alloc ({kind:=8,dC:=o,aK:=ex,new:=nw}:Ct.Node) 0).1.node (s.alloc ({kind:=8,dC:=o,aK:=ex,new:=nw}:Ct.Node) 0).2)) λs_b=>Ct.iD t (s.alloc ({kind:=8,dC:=o,aK:=ex,new:=nw}:Ct.Node) 0).2 s_b λ_=>k (s_b==1)))) (v:=(.fn 127 [] [↑b2,↑b1,↑b6,↑b4])) [rb b2 [thk.val] 92,rb b1 ([S.v,↑t.root,↑t.readOnly]) 87,rb b6 (aL ((s.alloc ({kind:=8,dC:=o,aK:=ex,new:=nw}:Ct.Node) 0).1.node (s.alloc ({kind:=8,dC:=o,aK:=ex,new:=nw}:Ct.Node) 0).2) q5) 53,rb b4 ([.int .i64 (s.alloc ({kind:=8,dC:=o,aK:=ex,new:=nw}:Ct.Node) 0).2]) 44,rD S F n 60 dV k thk] h λm' hm' B' w' L' s' x' h' hs'=>pR eF (uT S F b2 b1 b6 b4 thk k t ((s.alloc ({kind:=8,dC:=o,aK:=ex,new:=nw}:Ct.Node) 0).1.node (s.alloc ({kind:=8,dC:=o,aK:=ex,new:=nw}:Ct.Node) 0).2) q5 (s.alloc ({kind:=8,dC:=o,aK:=ex,new:=nw}:Ct.Node) 0).2 (JV _) x' s' ((sB hm' (h'.fr (.c r4 .n))).fr (.c r1 (.c r1 (.c r1 (.c r1 (.c r0 .n)))))) (hs'.less (by decide)))
 have h:=kC (a:=t.root) (o:=o) (x:=(s.alloc ({kind:=8,dC:=o,aK:=ex,new:=nw}:Ct.Node) 0).2) h
 exact fI (qA (qN rfl)) h.to
 refine jB h λb7 w h=>?_
 refine cs (ci (S.sA h a5) rfl rfl) ((cQ S s ({kind:=8,dC:=o,aK:=ex,new:=nw}:Ct.Node) {} 0 (SH.eE ({kind:=8,dC:=o,aK:=ex,new:=nw}:Ct.Node) rfl rfl h.to) hs (Ct.bG _ 8 0 o ex nw)).mono ?_)
 rintro _ w ⟨rfl,h⟩
 have hs:=hs.alloc (Ct.bG _ 8 0 o ex nw) 0
 refine⟨_,rfl,(hC (h.at_ a4) hN),?_⟩
 refine go h λw h=>?_
 refine Vs S h (cK S (s.alloc ({kind:=8,dC:=o,aK:=ex,new:=nw}:Ct.Node) 0).1 (s.alloc ({kind:=8,dC:=o,aK:=ex,new:=nw}:Ct.Node) 0).2 h.to hs) λq8 w h=>?_
 refine jA h λb9 w h=>?_
 have h:=SH.kX (h.fr (.c r5 .n))
 have h:=SH.kX (h.fr (.c r6 .n))
 have h:=SH.kX (h.fr (.c r2 .n))
 have h:=SH.kX (h.fr (.c r5 .n))
 refine cl (ca eF rfl) ((iW t.root o (s.alloc ({kind:=8,dC:=o,aK:=ex,new:=nw}:Ct.Node) 0).2 (.fn 127 [] [↑b2,↑b1,↑b9,↑b7]) (h.fr .n)).mono ?_)
 rintro _ w ⟨rfl,h⟩
 refine⟨_,rfl,?_⟩
 refine sf (so h rfl rfl rfl kN (eO _) (.r (.r (.r (.r (.r (.r (.r (.r (.r (.r (.r (.r (.r (.r .d)))))))))))))) u6)<|?_
 rintro _ w h
 refine xe<|nx<|rt<|?_
 refine rc h ?_
 have h:=h.eT a0
 have h:=h.eT a2
 have h:=h.eT a4
 have h:=h.eT a6
 have h:=h.fr (.c r0 (.c r0 (.c r0 (.c r0 (.c r7 .n)))))
 have h:=Nt (S:=S) (F:=F) (n:=n) (args:=dV) (k:=(λok_b=>bif !ok_b then k false else Ct.Gu t ((s.alloc ({kind:=8,dC:=o,aK:=ex,new:=nw}:Ct.Node) 0).1.node (s.alloc ({kind:=8,dC:=o,aK:=ex,new:=nw}:Ct.Node) 0).2) (.load (Ct.Node.status ((s.alloc ({kind:=8,dC:=o,aK:=ex,new:=nw}:Ct.Node) 0).1.node (s.alloc ({kind:=8,dC:=o,aK:=ex,new:=nw}:Ct.Node) 0).2)) λs_b=>Ct.iD t (s.alloc ({kind:=8,dC:=o,aK:=ex,new:=nw}:Ct.Node) 0).2 s_b λ_=>k (s_b==1)))) (v:=(.fn 127 [] [↑b2,↑b1,↑b9,↑b7])) [rb b2 [thk.val] 92,rb b1 ([S.v,↑t.root,↑t.readOnly]) 87,rb b9 (aL ((s.alloc ({kind:=8,dC:=o,aK:=ex,new:=nw}:Ct.Node) 0).1.node (s.alloc ({kind:=8,dC:=o,aK:=ex,new:=nw}:Ct.Node) 0).2) q8) 53,rb b7 ([.int .i64 (s.alloc ({kind:=8,dC:=o,aK:=ex,new:=nw}:Ct.Node) 0).2]) 44,rD S F n 60 dV k thk] h λm' hm' B' w' L' s' x' h' hs'=>pR eF (uT S F b2 b1 b9 b7 thk k t ((s.alloc ({kind:=8,dC:=o,aK:=ex,new:=nw}:Ct.Node) 0).1.node (s.alloc ({kind:=8,dC:=o,aK:=ex,new:=nw}:Ct.Node) 0).2) q8 (s.alloc ({kind:=8,dC:=o,aK:=ex,new:=nw}:Ct.Node) 0).2 (JV _) x' s' ((sB hm' (h'.fr (.c r4 .n))).fr (.c r1 (.c r1 (.c r1 (.c r1 (.c r0 .n)))))) (hs'.less (by decide)))
 have h:=kC (a:=t.root) (o:=o) (x:=(s.alloc ({kind:=8,dC:=o,aK:=ex,new:=nw}:Ct.Node) 0).2) h
 exact fI (qA (qN rfl)) h.to
 refine jB h λb10 w h=>?_
 refine gO (Nj _ _ _ h.to) λw h=>?_
 refine cs (ci (S.sA h a5) rfl rfl) ((cQ S s ({kind:=8,dC:=o,aK:=ex,new:=nw}:Ct.Node) {} 0 (SH.eE ({kind:=8,dC:=o,aK:=ex,new:=nw}:Ct.Node) rfl rfl h.to) hs (Ct.bG _ 8 0 o ex nw)).mono ?_)
 rintro _ w ⟨rfl,h⟩
 have hs:=hs.alloc (Ct.bG _ 8 0 o ex nw) 0
 refine⟨_,rfl,(hC (h.at_ a4) hN),?_⟩
 refine go h λw h=>?_
 refine Vs S h (cK S (s.alloc ({kind:=8,dC:=o,aK:=ex,new:=nw}:Ct.Node) 0).1 (s.alloc ({kind:=8,dC:=o,aK:=ex,new:=nw}:Ct.Node) 0).2 h.to hs) λq11 w h=>?_
 refine jA h λb12 w h=>?_
 have h:=SH.kX (h.fr (.c r5 .n))
 have h:=SH.kX (h.fr (.c r6 .n))
 have h:=SH.kX (h.fr (.c r2 .n))
 have h:=SH.kX (h.fr (.c r5 .n))
 refine cl (ca eF rfl) ((iW t.root o (s.alloc ({kind:=8,dC:=o,aK:=ex,new:=nw}:Ct.Node) 0).2 (.fn 127 [] [↑b2,↑b1,↑b12,↑b10]) (h.fr .n)).mono ?_)
 rintro _ w ⟨rfl,h⟩
 refine⟨_,rfl,?_⟩
 refine sf (so h rfl rfl rfl kN (eO _) (.r (.r (.r (.r (.r (.r (.r (.r (.r (.r (.r (.r (.r (.r .d)))))))))))))) u6)<|?_
 rintro _ w h
 refine xe<|nx<|rt<|?_
 refine rc h ?_
 have h:=h.eT a0
 have h:=h.eT a2
 have h:=h.eT a4
 have h:=h.eT a6
 have h:=h.fr (.c r0 (.c r0 (.c r0 (.c r0 (.c r7 .n)))))
 have h:=Nt (S:=S) (F:=F) (n:=n) (args:=dV) (k:=(λok_b=>bif !ok_b then k false else Ct.Gu t ((s.alloc ({kind:=8,dC:=o,aK:=ex,new:=nw}:Ct.Node) 0).1.node (s.alloc ({kind:=8,dC:=o,aK:=ex,new:=nw}:Ct.Node) 0).2) (.load (Ct.Node.status ((s.alloc ({kind:=8,dC:=o,aK:=ex,new:=nw}:Ct.Node) 0).1.node (s.alloc ({kind:=8,dC:=o,aK:=ex,new:=nw}:Ct.Node) 0).2)) λs_b=>Ct.iD t (s.alloc ({kind:=8,dC:=o,aK:=ex,new:=nw}:Ct.Node) 0).2 s_b λ_=>k (s_b==1)))) (v:=(.fn 127 [] [↑b2,↑b1,↑b12,↑b10])) [rb b2 [thk.val] 92,rb b1 ([S.v,↑t.root,↑t.readOnly]) 87,rb b12 (aL ((s.alloc ({kind:=8,dC:=o,aK:=ex,new:=nw}:Ct.Node) 0).1.node (s.alloc ({kind:=8,dC:=o,aK:=ex,new:=nw}:Ct.Node) 0).2) q11) 53,rb b10 ([.int .i64 (s.alloc ({kind:=8,dC:=o,aK:=ex,new:=nw}:Ct.Node) 0).2]) 44,rD S F n 60 dV k thk] h λm' hm' B' w' L' s' x' h' hs'=>pR eF (uT S F b2 b1 b12 b10 thk k t ((s.alloc ({kind:=8,dC:=o,aK:=ex,new:=nw}:Ct.Node) 0).1.node (s.alloc ({kind:=8,dC:=o,aK:=ex,new:=nw}:Ct.Node) 0).2) q11 (s.alloc ({kind:=8,dC:=o,aK:=ex,new:=nw}:Ct.Node) 0).2 (JV _) x' s' ((sB hm' (h'.fr (.c r4 .n))).fr (.c r1 (.c r1 (.c r1 (.c r1 (.c r0 .n)))))) (hs'.less (by decide)))
 have h:=kC (a:=t.root) (o:=o) (x:=(s.alloc ({kind:=8,dC:=o,aK:=ex,new:=nw}:Ct.Node) 0).2) h
 exact fI (qA (qN rfl)) h.to
end Go.Q9
end
