/- Parts of a proof: Ca, Ayg. -/
import Derived.Test.YtlijgnlhkcbgpaaGreatDoorW17
set_option linter.unusedVariables false
set_option linter.unusedSimpArgs false
set_option maxRecDepth 100000
set_option maxHeartbeats 4000000
section
namespace Go.Q9
open Go.Proofs.Tryz
open Go.RowKit Go.E
attribute [local irreducible] gB wpS Go.E.X XS C jU kP fin Y U F Ca jT bl rb aU bV ex ce pu sK gK bK zK gM fO dH gP nE rD
open Go.Ct (qN qA qC qG qT qF)
variable{B w:World}{L:List As}
theorem ON(a:Int)(f:FuncId)(ff fc:List Value)(h:SH B w (L)):
  Calls prog 63 #[↑a,.func (.func f) ff.toArray fc.toArray] w λe w'=>e=.returned (.agg (zQ (tR a (.fn f ff fc))).toArray)/\SH B w' L:=by
 refine bZ func63 ntmps63 h λw h=>?_
 refine jA h λb1 w h=>?_
 exact rr (bP rfl rfl (h.b a0) Row.h)<|⟨rfl,h.drop⟩
theorem IN(a:Int)(h:SH B w (L)):
  Calls prog 63 #[↑a,.nilFunc] w λe w'=>e=.returned (.agg (zQ (tR a .nil)).toArray)/\SH B w' L:=by
 refine bZ func63 ntmps63 h λw h=>?_
 refine jA h λb1 w h=>?_
 exact rr (bP rfl rfl (h.b a0) Row.h)<|⟨rfl,h.drop⟩
theorem jH(a:Int)(v:Fv)(h:SH B w L):
  Calls prog 63 #[↑a,v.val] w λe w'=>e=.returned (.agg (zQ (tR a v)).toArray)/\SH B w' L:=by
 cases v with
 |nil=>exact IN a h
 |fn f ff fc=>exact ON a f ff fc h
theorem QV(a o x:Int)(f:FuncId)(ff fc:List Value)(h:SH B w (L)):
  Calls prog 145 #[↑a,↑o,↑x,.func (.func f) ff.toArray fc.toArray] w λe w'=>e=.returned (.agg (zQ (Fg a o x (.fn f ff fc))).toArray)/\SH B w' L:=by
 refine bZ func145 ntmps145 h λw h=>?_
 refine jA h λb1 w h=>?_
 exact rr (bP rfl rfl (h.b a0) Row.h)<|⟨rfl,h.drop⟩
theorem LZ(a o x:Int)(h:SH B w (L)):
  Calls prog 145 #[↑a,↑o,↑x,.nilFunc] w λe w'=>e=.returned (.agg (zQ (Fg a o x .nil)).toArray)/\SH B w' L:=by
 refine bZ func145 ntmps145 h λw h=>?_
 refine jA h λb1 w h=>?_
 exact rr (bP rfl rfl (h.b a0) Row.h)<|⟨rfl,h.drop⟩
theorem iW(a o x:Int)(v:Fv)(h:SH B w L):
  Calls prog 145 #[↑a,↑o,↑x,v.val] w λe w'=>e=.returned (.agg (zQ (Fg a o x v)).toArray)/\SH B w' L:=by
 cases v with
 |nil=>exact LZ a o x h
 |fn f ff fc=>exact QV a o x f ff fc h
theorem gV(r:Ct.Result)(h:SH B w (L)):
  Calls prog 30 #[.agg (Mf r).toArray] w λe w'=>e=.returned (.agg (zQ (EY r)).toArray)/\SH B w' L:=by
 refine bZ func30 ntmps30 h λw h=>?_
 refine jX h λb1 w h=>?_
 refine jA h λb2 w h=>?_
 exact rr (bP rfl rfl (h.b a0) Row.h)<|⟨rfl,h.drop.drop⟩
theorem Ya(o:Int)(h:SH B w (L)):
  Calls prog 193 #[↑o] w λe w'=>e=.returned (.agg (aL {kind:=7,dC:=o} {}).toArray)/\SH B w' L:=by
 refine bZ func193 ntmps193 h λw h=>?_
 refine jA h λb1 w h=>?_
 exact rr (bP rfl rfl (h.b a0) Row.h)<|⟨rfl,h.drop⟩
theorem tQ{β:Type}(S:dN)(F:β->Cc->As)(cb0 cb1:Nat)(thk:Fv)(k:Int->Ct.I β)(v:Int){n m:Nat}(hm:m<=n)(x:Bool)(s:Ct.St)(h:SH B w (rb cb0 [thk.val] 88::rb cb1 ([↑v]) 45::gP S F n 60 dQ k thk::S.a s::L))(hs:Ct.Rm 60 s):
  Calls prog 199 #[↑x,↑cb0,↑cb1] w λe w'=>CP S F m B ((λ_=>k v) x) s L e w':=by
 have h:=eR hm (bD _) (h.fr (.c r2 .n))
 refine bZ func199 ntmps199 h λw h=>?_
 refine jA h λb1 w h=>?_
 refine PM rfl rfl ((mA (h.fr (.c r1 (.c r3 .n))) (hs.less (by decide)) v).mono ?_)
 rintro _ w ⟨s2,t3,c4,hq5,rfl,h⟩
 refine⟨_,rfl,?_⟩
 refine go h λw h=>?_
 refine rr (bP rfl rfl (h.b a2) Row.h) ?_
 exact fI (hq5) h.to
theorem kK{β:Type}(S:dN)(F:β->Cc->As)(t:Ct.bC)(v:Int)(x:Int)(thk:Fv)(k:Int->Ct.I β)(n:Nat)(s:Ct.St)(h:SH B w (rD S F n 60 dQ k thk::S.a s::L))(hs:Ct.Rm 30 s):
  Calls prog 196 #[.agg [S.v,↑t.root,↑t.readOnly].toArray,↑v,↑x,thk.val] w λe w'=>CP S F n B (Ct.iD t v x k) s L e w':=by
 refine bZ func196 ntmps196 h λw h=>?_
 refine jX h λb1 w h=>?_
 refine jX h (hc:=lE _) λb2 w h=>?_
 refine jA h λb3 w h=>?_
 refine Vs S h (cK S s v h.to hs) λq4 w h=>?_
 refine jA h λb5 w h=>?_
 refine jA h λb6 w h=>?_
 refine qc h (λhd7 w h=>?_) λhd7 w h=>?_
 have h:=SH.kX (h.fr (.c r5 .n))
 have h:=SH.kX (h.fr (.c r1 .n))
 refine bA (iW _ _ _ (.fn 199 [] [↑b2,↑b6]) h.to) λw h=>?_
 refine rc h ?_
 have h:=h.eT a0
 have h:=h.eT a2
 have h:=h.fr (.c r0 (.c r0 (.c r7 .n)))
 have h:=Nt (S:=S) (F:=F) (n:=n) (args:=dV) (k:=(λ_=>k (s.node v).new)) (v:=(.fn 199 [] [↑b2,↑b6])) [rb b2 [thk.val] 88,rb b6 ([.int .i64 (s.node v).new]) 45,rD S F n 60 dQ k thk] h λm' hm' B' w' L' s' x' h' hs'=>pR eF (tQ S F b2 b6 thk k (s.node v).new (bD _) x' s' ((sB hm' (h'.fr (.c r2 .n))).fr (.c r1 (.c r1 (.c r0 .n)))) (hs'.less (by decide)))
 have h:=kC (a:=t.root) (o:=v) (x:=(s.node v).new) h
 exact fI (qN (qT hd7 rfl)) h.to
 have h:=SH.kX (h.fr (.c r5 .n))
 have h:=SH.kX (h.fr (.c r1 .n))
 refine bA (iW _ _ _ (.fn 199 [] [↑b2,↑b6]) h.to) λw h=>?_
 refine rc h ?_
 have h:=h.eT a0
 have h:=h.eT a2
 have h:=h.fr (.c r0 (.c r0 (.c r7 .n)))
 have h:=Nt (S:=S) (F:=F) (n:=n) (args:=dV) (k:=(λ_=>k (s.node v).dC)) (v:=(.fn 199 [] [↑b2,↑b6])) [rb b2 [thk.val] 88,rb b6 ([.int .i64 (s.node v).dC]) 45,rD S F n 60 dQ k thk] h λm' hm' B' w' L' s' x' h' hs'=>pR eF (tQ S F b2 b6 thk k (s.node v).dC (bD _) x' s' ((sB hm' (h'.fr (.c r2 .n))).fr (.c r1 (.c r1 (.c r0 .n)))) (hs'.less (by decide)))
 have h:=kC (a:=t.root) (o:=v) (x:=(s.node v).dC) h
 exact fI (qN (qF hd7 rfl)) h.to
theorem Yk{β:Type}(S:dN)(F:β->Cc->As)(cb0 cb1:Nat)(thk:Fv)(k:Int->Ct.I β)(v:Int){n m:Nat}(hm:m<=n)(x:Bool)(s:Ct.St)(h:SH B w (rb cb0 [thk.val] 88::rb cb1 ([↑v]) 45::gP S F n 60 dQ k thk::S.a s::L))(hs:Ct.Rm 60 s):
  Calls prog 192 #[↑x,↑cb0,↑cb1] w λe w'=>CP S F m B ((λ_=>k v) x) s L e w':=by
 have h:=eR hm (bD _) (h.fr (.c r2 .n))
 refine bZ func192 ntmps192 h λw h=>?_
 refine jA h λb1 w h=>?_
 refine PM rfl rfl ((mA (h.fr (.c r1 (.c r3 .n))) (hs.less (by decide)) v).mono ?_)
 rintro _ w ⟨s2,t3,c4,hq5,rfl,h⟩
 refine⟨_,rfl,?_⟩
 refine go h λw h=>?_
 refine rr (bP rfl rfl (h.b a2) Row.h) ?_
 exact fI (hq5) h.to
theorem Jy{β:Type}(S:dN)(F:β->Cc->As)(t:Ct.bC)(i:Int)(m:Int)(p:Int)(thk:Fv)(k:Int->Ct.I β)(n:Nat)(s:Ct.St)(h:SH B w (rD S F n 60 dQ k thk::S.a s::L))(hs:Ct.Rm 30 s):
  Calls prog 178 #[.agg [S.v,↑t.root,↑t.readOnly].toArray,↑i,↑m,↑p,thk.val] w λe w'=>CP S F n B (Ct.Dq i m p k) s L e w':=by
 refine bZ func178 ntmps178 h λw h=>?_
 refine jX h λb1 w h=>?_
 refine sf (bx h rfl (lE _)) ?_
 rintro _ w ⟨b2,rfl,h⟩
 refine go h λw h=>?_
 refine jA h λb3 w h=>?_
 refine cl (ci (S.sN h a4) rfl rfl) ((cK S s p h.to hs).mono ?_)
 rintro _ w ⟨q4,rfl,h⟩
 refine⟨_,rfl,?_⟩
 refine go h λw h=>?_
 refine jA h λb5 w h=>?_
 have h:=SH.kX (h.fr (.c r4 .n))
 have h:=SH.kX (h.fr (.c r1 .n))
 refine dZ [1,3,5,11,13,15,6,9,16,18] (by kernel_rfl) h (.c r5 (.c r0 .n)) λw h=>go h λw h=>?_
 refine cs (ci (S.sN h a3) rfl rfl) ((cK S s i h.to hs).mono ?_)
 rintro _ w ⟨q6,rfl,h⟩
 refine⟨_,rfl,h.hs (.c r6 (.c r2 .n)),?_⟩
 refine go h λw h=>?_
 refine gO (iW _ _ _ (.fn 192 [] [↑b2,↑b5]) h.to) λw h=>?_
 refine rr (bP rfl rfl (h.b a5) Row.h) ?_
 have h:=h.eT a2
 have h:=h.eT a4
 have h:=h.fr (.c r0 (.c r0 (.c r7 .n)))
 have h:=Nt (S:=S) (F:=F) (n:=n) (args:=dV) (k:=(λ_=>k (s.node p).dC)) (v:=(.fn 192 [] [↑b2,↑b5])) [rb b2 [thk.val] 88,rb b5 ([.int .i64 (s.node p).dC]) 45,rD S F n 60 dQ k thk] h λm' hm' B' w' L' s' x' h' hs'=>pR eF (Yk S F b2 b5 thk k (s.node p).dC (bD _) x' s' ((sB hm' (h'.fr (.c r2 .n))).fr (.c r1 (.c r1 (.c r0 .n)))) (hs'.less (by decide)))
 have h:=kC (a:=(s.node i).main) (o:=m) (x:=(s.node p).dC) h
 exact fI (qN (qN rfl)) h.to
theorem Wd{β:Type}(S:dN)(F:β->Cc->As)(cb0 cb1 cb2:Nat)(t:Ct.bC)(v:Int)(thk:Fv)(k:Int->Ct.I β){n m:Nat}(hm:m<=n)(x:Int)(s:Ct.St)(h:SH B w (rb cb0 ([S.v,↑t.root,↑t.readOnly]) 201::rb cb1 ([↑v]) 45::rb cb2 [thk.val] 88::gP S F n 60 dQ k thk::S.a s::L))(hs:Ct.Rm 60 s):
  Calls prog 198 #[↑x,↑cb0,↑cb1,↑cb2] w λe w'=>CP S F m B ((λs_b=>Ct.iD t v s_b k) x) s L e w':=by
 have h:=eR hm (bD _) (h.fr (.c r3 .n))
 refine bZ func198 ntmps198 h λw h=>?_
 refine jA h λb1 w h=>?_
 have h:=Rj (j:=60) (by decide) (h.fr (.c r1 .n))
 refine cl (ca eF rfl) ((kK S F t v x thk k m s (h.fr (.c r0 (.c r4 .n))) (hs.less (by decide))).mono ?_)
 rintro _ w ⟨s2,t3,c4,hq5,rfl,h⟩
 refine⟨_,rfl,?_⟩
 refine sf (so h rfl rfl rfl iR (eO _) (.r (.r (.r (.r (.r (.r (.r (.r (.r (.r (.r (.r (.r (.r .d)))))))))))))) u2)<|?_
 rintro _ w h
 refine xe<|nx<|rt<|?_
 refine go h λw h=>?_
 refine rr (bP rfl rfl (h.b a2) Row.h) ?_
 exact fI (hq5) h.to
theorem Yq{β:Type}(S:dN)(F:β->Cc->As)(cb0 cb1 cb2 cb3:Nat)(d:Ct.Node)(qd:Lq)(t:Ct.bC)(v:Int)(thk:Fv)(k:Int->Ct.I β){n m:Nat}(hm:m<=n)(x:Bool)(s:Ct.St)(h:SH B w (rb cb0 (aL d qd) 112::rb cb1 ([S.v,↑t.root,↑t.readOnly]) 201::rb cb2 ([↑v]) 45::rb cb3 [thk.val] 88::gP S F n 60 dQ k thk::S.a s::L))(hs:Ct.Rm 60 s):
  Calls prog 197 #[↑x,↑cb0,↑cb1,↑cb2,↑cb3] w λe w'=>CP S F m B ((λ_=>.load (Ct.Node.status d) λs_b=>Ct.iD t v s_b k) x) s L e w':=by
 have h:=eR hm (bD _) (h.fr (.c r4 .n))
 refine bZ func197 ntmps197 h λw h=>?_
 refine jA h λb1 w h=>?_
 refine cl (ca eF rfl) ((jH d.status (.fn 198 [] [↑cb1,↑cb2,↑cb3]) (h.fr .n)).mono ?_)
 rintro _ w ⟨rfl,h⟩
 refine⟨_,rfl,?_⟩
 refine sf (so h rfl rfl rfl iR (eO _) (.r (.r (.r (.r (.r (.r (.r (.r (.r (.r (.r (.r (.r (.r .d)))))))))))))) u0)<|?_
 rintro _ w h
 refine xe<|nx<|rt<|?_
 refine go h λw h=>?_
 refine rr (bP rfl rfl (h.b a0) Row.h) ?_
 have h:=h.eT a5
 have h:=h.eT a5
 have h:=h.eT a5
 have h:=h.fr (.c r0 (.c r0 (.c r0 (.c r1 .n))))
 have h:=Nt (S:=S) (F:=F) (n:=m) (args:=dQ) (k:=(λs_b=>Ct.iD t v s_b k)) (v:=(.fn 198 [] [↑cb1,↑cb2,↑cb3])) [rb cb1 ([S.v,↑t.root,↑t.readOnly]) 201,rb cb2 ([↑v]) 45,rb cb3 [thk.val] 88,gP S F m 60 dQ k thk] h λm' hm' B' w' L' s' x' h' hs'=>pR eF (Wd S F cb1 cb2 cb3 t v thk k (Nat.le_of_lt hm') x' s' h' (hs'.less (by decide)))
 have h:=kL (a:=d.status) h
 exact fI (rfl) h.to
theorem Yp{β:Type}(S:dN)(F:β->Cc->As)(cb0 cb1 cb2 cb3:Nat)(t:Ct.bC)(v:Int)(thk:Fv)(k:Int->Ct.I β)(d:Ct.Node)(qd:Lq){n m:Nat}(hm:m<=n)(x:Int)(s:Ct.St)(h:SH B w (rb cb0 ([S.v,↑t.root,↑t.readOnly]) 201::rb cb1 ([↑v]) 45::rb cb2 [thk.val] 88::rb cb3 (aL d qd) 112::gP S F n 60 dQ k thk::S.a s::L))(hs:Ct.Rm 60 s):
  Calls prog 195 #[↑x,↑cb0,↑cb1,↑cb2,↑cb3] w λe w'=>CP S F m B ((λs_b=>bif s_b != 0 then Ct.iD t v s_b k else .eA (Ct.Node.status d) 0 2 λ_=>.load (Ct.Node.status d) λs_b=>Ct.iD t v s_b k) x) s L e w':=by
 have h:=eR hm (bD _) (h.fr (.c r4 .n))
 refine bZ func195 ntmps195 h λw h=>?_
 refine jA h λb1 w h=>?_
 refine qc h (λhd2 w h=>?_) λhd2 w h=>?_
 have h:=Rj (j:=60) (by decide) (h.fr (.c r1 .n))
 refine fQ (kK S F _ _ _ thk k _ _ h.to (hs.less (by decide))) λs4 t5 c6 hq7 w h=>?_
 refine rc h ?_
 exact fI (qT hd2 (hq7)) h.to
 refine bA (iW _ _ _ (.fn 197 [] [↑cb3,↑cb0,↑cb1,↑cb2]) h.to) λw h=>?_
 refine rc h ?_
 have h:=h.eT a4
 have h:=h.eT a4
 have h:=h.eT a4
 have h:=h.eT a8
 have h:=h.fr (.c r0 (.c r0 (.c r0 (.c r0 (.c r1 .n)))))
 have h:=Nt (S:=S) (F:=F) (n:=m) (args:=dV) (k:=(λ_=>.load (Ct.Node.status d) λs_b=>Ct.iD t v s_b k)) (v:=(.fn 197 [] [↑cb3,↑cb0,↑cb1,↑cb2])) [rb cb3 (aL d qd) 112,rb cb0 ([S.v,↑t.root,↑t.readOnly]) 201,rb cb1 ([↑v]) 45,rb cb2 [thk.val] 88,gP S F m 60 dQ k thk] h λm' hm' B' w' L' s' x' h' hs'=>pR eF (Yq S F cb3 cb0 cb1 cb2 d qd t v thk k (Nat.le_of_lt hm') x' s' h' (hs'.less (by decide)))
 have h:=kC (a:=d.status) (o:=0) (x:=2) h
 exact fI (qF hd2 rfl) h.to
theorem Uy{β:Type}(S:dN)(F:β->Cc->As)(cb0 cb1:Nat)(t:Ct.bC)(thk:Fv)(k:Int->Ct.I β){n m:Nat}(hm:m<=n)(x:Int)(s:Ct.St)(h:SH B w (rb cb0 ([S.v,↑t.root,↑t.readOnly]) 201::rb cb1 [thk.val] 88::gP S F n 60 dQ k thk::S.a s::L))(hs:Ct.Rm 60 s):
  Calls prog 194 #[↑x,↑cb0,↑cb1] w λe w'=>CP S F m B ((λv_b=>.node v_b λd_b=>bif d_b.kind==2 then k v_b else .load d_b.status λs_b=>bif s_b != 0 then Ct.iD t v_b s_b k else .eA d_b.status 0 2 λ_=>.load d_b.status λs_b=>Ct.iD t v_b s_b k) x) s L e w':=by
 have h:=eR hm (bD _) (h.fr (.c r2 .n))
 refine bZ func194 ntmps194 h λw h=>?_
 refine jX h λb1 w h=>?_
 refine jA h λb2 w h=>?_
 refine Vs S h (cK S s x h.to hs) λq3 w h=>?_
 refine jA h λb4 w h=>?_
 refine qc h (λhd5 w h=>?_) λhd5 w h=>?_
 refine Ma (mA (h.fr (.c r5 (.c r2 .n))) (hs.less (by decide)) x) λs7 t8 c9 hq10 w h=>?_
 refine rc h ?_
 exact fI (qN (qT hd5 (hq10))) h.to
 have h:=SH.kX (h.fr (.c r4 .n))
 have h:=SH.kX (h.fr (.c r1 .n))
 refine bA (jH _ (.fn 195 [] [↑cb0,↑b1,↑cb1,↑b4]) h.to) λw h=>?_
 refine rc h ?_
 have h:=h.eT a0
 have h:=h.eT a8
 have h:=h.eT a3
 have h:=h.eT a9
 have h:=h.fr (.c r0 (.c r0 (.c r0 (.c r0 (.c r5 .n)))))
 have h:=Nt (S:=S) (F:=F) (n:=m) (args:=dQ) (k:=(λs_b=>bif s_b != 0 then Ct.iD t x s_b k else .eA (Ct.Node.status (s.node x)) 0 2 λ_=>.load (Ct.Node.status (s.node x)) λs_b=>Ct.iD t x s_b k)) (v:=(.fn 195 [] [↑cb0,↑b1,↑cb1,↑b4])) [rb cb0 ([S.v,↑t.root,↑t.readOnly]) 201,rb b1 ([↑x]) 45,rb cb1 [thk.val] 88,rb b4 (aL (s.node x) q3) 112,gP S F m 60 dQ k thk] h λm' hm' B' w' L' s' x' h' hs'=>pR eF (Yp S F cb0 b1 cb1 b4 t x thk k (s.node x) q3 (Nat.le_of_lt hm') x' s' h' (hs'.less (by decide)))
 have h:=kL (a:=(s.node x).status) h
 exact fI (qN (qF hd5 rfl)) h.to
theorem DY{β:Type}(S:dN)(F:β->Cc->As)(t:Ct.bC)(thk:Fv)(k:Int->Ct.I β)(n:Nat)(s:Ct.St)(h:SH B w (rD S F n 60 dQ k thk::S.a s::L))(hs:Ct.Rm 30 s):
  Calls prog 182 #[.agg [S.v,↑t.root,↑t.readOnly].toArray,thk.val] w λe w'=>CP S F n B (Ct.Zi t k) s L e w':=by
 refine bZ func182 ntmps182 h λw h=>?_
 refine jX h λb1 w h=>?_
 refine sf (bx h rfl (lE _)) ?_
 rintro _ w ⟨b2,rfl,h⟩
 refine go h λw h=>?_
 refine jA h λb3 w h=>?_
 have h:=SH.kX (h.fr (.c r2 .n))
 have h:=SH.kX (h.fr (.c r2 .n))
 refine go h λw h=>?_
 refine cl (ca eF rfl) ((jH t.root (.fn 194 [] [↑b1,↑b2]) (h.fr .n)).mono ?_)
 rintro _ w ⟨rfl,h⟩
 refine⟨_,rfl,?_⟩
 refine sf (so h rfl rfl rfl iR (eO _) (.r (.r (.r (.r (.r (.r (.r (.r (.r (.r (.r (.r (.r (.r .d)))))))))))))) u2)<|?_
 rintro _ w h
 refine xe<|nx<|rt<|?_
 refine go h λw h=>?_
 refine rr (bP rfl rfl (h.b a2) Row.h) ?_
 have h:=h.eT a0
 have h:=h.eT a2
 have h:=h.fr (.c r0 (.c r0 (.c r3 .n)))
 have h:=Nt (S:=S) (F:=F) (n:=n) (args:=dQ) (k:=(λv_b=>.node v_b λd_b=>bif d_b.kind==2 then k v_b else .load d_b.status λs_b=>bif s_b != 0 then Ct.iD t v_b s_b k else .eA d_b.status 0 2 λ_=>.load d_b.status λs_b=>Ct.iD t v_b s_b k)) (v:=(.fn 194 [] [↑b1,↑b2])) [rb b1 ([S.v,↑t.root,↑t.readOnly]) 201,rb b2 [thk.val] 88,rD S F n 60 dQ k thk] h λm' hm' B' w' L' s' x' h' hs'=>pR eF (Uy S F b1 b2 t thk k (bD _) x' s' ((sB hm' (h'.fr (.c r2 .n))).fr (.c r1 (.c r1 (.c r0 .n)))) (hs'.less (by decide)))
 have h:=kL (a:=t.root) h
 exact fI (rfl) h.to
theorem Ap{β:Type}(S:dN)(F:β->Cc->As)(t:Ct.bC)(prev:Int)(p:Int)(commit:Bool)(thk:Fv)(k:Bool->Ct.I β)(n:Nat)(s:Ct.St)(h:SH B w (rD S F n 60 dV k thk::S.a s::L))(hs:Ct.Rm 30 s):
  Calls prog 181 #[.agg [S.v,↑t.root,↑t.readOnly].toArray,↑prev,↑p,↑commit,thk.val] w λe w'=>CP S F n B (Ct.mK prev p commit k) s L e w':=by
 refine bZ func181 ntmps181 h λw h=>?_
 refine jX h λb1 w h=>?_
 refine jA h λb2 w h=>?_
 refine qc h (λhd3 w h=>?_) λhd3 w h=>?_
 refine bA (iW _ _ _ thk h.to) λw h=>?_
 refine rr (bP rfl rfl (h.b a0) Row.h) ?_
 have h:=k7 (by decide) (h.fr (.c r2 .n))
 have h:=kC (a:=prev) (o:=p) (x:=0) h
 exact fI (qT hd3 rfl) h.to
 refine dZ [1,3,5,9,11,6,12,14] (by kernel_rfl) h (.c r1 .n) λw h=>go h λw h=>?_
 refine gO (Ya _ h.to) λw h=>?_
 refine cs (ci (S.sA h a3) rfl rfl) ((cQ S s ({kind:=7,dC:=p}:Ct.Node) {} 0 (SH.eE ({kind:=7,dC:=p}:Ct.Node) rfl rfl h.to) hs (Ct.bG _ 7 0 p 0 0)).mono ?_)
 rintro _ w ⟨rfl,h⟩
 have hs:=hs.alloc (Ct.bG _ 7 0 p 0 0) 0
 refine⟨_,rfl,h.hs (.c r2 .n),?_⟩
 refine go h λw h=>?_
 refine bA (iW _ _ _ thk h.to) λw h=>?_
 refine rr (bP rfl rfl (h.b a1) Row.h) ?_
 have h:=k7 (by decide) (h.fr (.c r3 .n))
 have h:=kC (a:=prev) (o:=p) (x:=(s.alloc ({kind:=7,dC:=p}:Ct.Node) 0).2) h
 exact fI (qF hd3 (qA rfl)) h.to
theorem Mm{β:Type}(S:dN)(F:β->Cc->As)(cb0 cb1 cb2 cb3:Nat)(thk:Fv)(k:Int->Ct.I β)(m0:Int)(t:Ct.bC)(i:Int){n m:Nat}(hm:m<=n)(x:Int)(s:Ct.St)(h:SH B w (rb cb0 [thk.val] 88::rb cb1 ([↑m0]) 45::rb cb2 ([S.v,↑t.root,↑t.readOnly]) 201::rb cb3 ([↑i]) 45::gP S F n 60 dQ k thk::S.a s::L))(hs:Ct.Rm 60 s):
  Calls prog 180 #[↑x,↑cb0,↑cb1,↑cb2,↑cb3] w λe w'=>CP S F m B ((λp_b=>bif p_b==0 then k m0 else Ct.Dq i m0 p_b k) x) s L e w':=by
 have h:=eR hm (bD _) (h.fr (.c r4 .n))
 refine bZ func180 ntmps180 h λw h=>?_
 refine jA h λb1 w h=>?_
 refine qc h (λhd2 w h=>?_) λhd2 w h=>?_
 have hg3:=eq_of_beq hd2
 refine go h λw h=>?_
 refine PM rfl rfl ((mA (h.fr (.c r1 (.c r5 .n))) (hs.less (by decide)) m0).mono ?_)
 rintro _ w ⟨s4,t5,c6,hq7,rfl,h⟩
 refine⟨_,rfl,?_⟩
 refine go h λw h=>?_
 refine rr (bP rfl rfl (h.b a2) Row.h) ?_
 exact fI (qT hd2 (hq7)) h.to
 have hg8:=Pe hd2
 refine go h λw h=>?_
 have h:=Rj (j:=60) (by decide) (h.fr (.c r1 .n))
 refine fQ (Jy S F _ _ _ _ thk k _ _ h.to (hs.less (by decide))) λs9 t10 c11 hq12 w h=>?_
 refine rr (bP rfl rfl (h.b a2) Row.h) ?_
 exact fI (qF hd2 (hq12)) h.to
theorem xQ{β:Type}(S:dN)(F:β->Cc->As)(cb0 cb1 cb2 cb3 cb4:Nat)(prev:Int)(thk:Fv)(k:Int->Ct.I β)(m0:Int)(t:Ct.bC)(i:Int){n m:Nat}(hm:m<=n)(x:Bool)(s:Ct.St)(h:SH B w (rb cb0 ([↑prev]) 24::rb cb1 [thk.val] 88::rb cb2 ([↑m0]) 45::rb cb3 ([S.v,↑t.root,↑t.readOnly]) 201::rb cb4 ([↑i]) 45::gP S F n 60 dQ k thk::S.a s::L))(hs:Ct.Rm 60 s):
  Calls prog 179 #[↑x,↑cb0,↑cb1,↑cb2,↑cb3,↑cb4] w λe w'=>CP S F m B ((Ct.kY prev i m0 k) x) s L e w':=by
 have h:=eR hm (bD _) (h.fr (.c r5 .n))
 refine bZ func179 ntmps179 h λw h=>?_
 refine jA h λb1 w h=>?_
 refine cl (ca eF rfl) ((jH prev (.fn 180 [] [↑cb1,↑cb2,↑cb3,↑cb4]) (h.fr .n)).mono ?_)
 rintro _ w ⟨rfl,h⟩
 refine⟨_,rfl,?_⟩
 refine sf (so h rfl rfl rfl iR (eO _) (.r (.r (.r (.r (.r (.r (.r (.r (.r (.r (.r (.r (.r (.r .d)))))))))))))) u0)<|?_
 rintro _ w h
 refine xe<|nx<|rt<|?_
 refine go h λw h=>?_
 refine rr (bP rfl rfl (h.b a0) Row.h) ?_
 have h:=h.eT a6
 have h:=h.eT a6
 have h:=h.eT a6
 have h:=h.eT a6
 have h:=h.fr (.c r0 (.c r0 (.c r0 (.c r0 (.c r1 .n)))))
 have h:=Nt (S:=S) (F:=F) (n:=m) (args:=dQ) (k:=(λp_b=>bif p_b==0 then k m0 else Ct.Dq i m0 p_b k)) (v:=(.fn 180 [] [↑cb1,↑cb2,↑cb3,↑cb4])) [rb cb1 [thk.val] 88,rb cb2 ([↑m0]) 45,rb cb3 ([S.v,↑t.root,↑t.readOnly]) 201,rb cb4 ([↑i]) 45,gP S F m 60 dQ k thk] h λm' hm' B' w' L' s' x' h' hs'=>pR eF (Mm S F cb1 cb2 cb3 cb4 thk k m0 t i (Nat.le_of_lt hm') x' s' h' (hs'.less (by decide)))
 have h:=kL (a:=prev) h
 exact fI (rfl) h.to
theorem Lm{β:Type}(S:dN)(F:β->Cc->As)(cb0 cb1 cb2 cb3 cb4:Nat)(t:Ct.bC)(i:Int)(prev:Int)(p:Int)(thk:Fv)(k:Bool->Ct.I β){n m:Nat}(hm:m<=n)(x:Int)(s:Ct.St)(h:SH B w (rb cb0 ([S.v,↑t.root,↑t.readOnly]) 201::rb cb1 ([↑i]) 45::rb cb2 ([↑prev]) 24::rb cb3 ([↑p]) 45::rb cb4 [thk.val] 89::gP S F n 60 dV k thk::S.a s::L))(hs:Ct.Rm 60 s):
  Calls prog 183 #[↑x,↑cb0,↑cb1,↑cb2,↑cb3,↑cb4] w λe w'=>CP S F m B ((λr_b=>.node r_b λa_b=>.node i λb_b=>Ct.mK prev p (a_b.gen==b_b.gen) k) x) s L e w':=by
 have h:=eR hm (bD _) (h.fr (.c r5 .n))
 refine bZ func183 ntmps183 h λw h=>?_
 refine jA h λb1 w h=>?_
 refine dZ [1,3,5,11,13,15,6,9,16,19,21,22] (by kernel_rfl) h (.c r2 (.c r2 .n)) λw h=>go h λw h=>?_
 refine cs (ci (S.sN h a7) rfl rfl) ((cK S s x h.to hs).mono ?_)
 rintro _ w ⟨q2,rfl,h⟩
 refine⟨_,rfl,h.hs (.c r4 (.c r4 .n)),?_⟩
 refine go h λw h=>?_
 refine cs (ci (S.sN h a1) rfl rfl) ((cK S s i h.to hs).mono ?_)
 rintro _ w ⟨q3,rfl,h⟩
 refine⟨_,rfl,h.hs (.c r5 (.c r5 .n)),?_⟩
 refine go h λw h=>?_
 have h:=Rj (j:=60) (by decide) (h.fr (.c r4 .n))
 refine cl (ca eF rfl) ((Ap S F t prev p (((s.node x).gen:Int)==(s.node i).gen) thk k m s (h.fr (.c r0 (.c r1 .n))) (hs.less (by decide))).mono ?_)
 rintro _ w ⟨s4,t5,c6,hq7,rfl,h⟩
 refine⟨_,rfl,?_⟩
 refine sf (so h rfl rfl rfl iR (eO _) (.r (.r (.r (.r (.r (.r (.r (.r (.r (.r (.r (.r (.r (.r .d)))))))))))))) u4)<|?_
 rintro _ w h
 refine xe<|nx<|rt<|?_
 refine go h λw h=>?_
 refine rr (bP rfl rfl (h.b a4) Row.h) ?_
 exact fI (qN (qN (hq7))) h.to
theorem Mh{β:Type}(S:dN)(F:β->Cc->As)(cb0 cb1 cb2 cb3 cb4:Nat)(thk:Fv)(k:Int->Ct.I β)(m0:Int)(t:Ct.bC)(i:Int)(prev:Int){n m:Nat}(hm:m<=n)(x:Int)(s:Ct.St)(h:SH B w (rb cb0 [thk.val] 88::rb cb1 ([↑m0]) 45::rb cb2 ([S.v,↑t.root,↑t.readOnly]) 201::rb cb3 ([↑i]) 45::rb cb4 ([↑prev]) 24::gP S F n 60 dQ k thk::S.a s::L))(hs:Ct.Rm 60 s):
  Calls prog 177 #[↑x,↑cb0,↑cb1,↑cb2,↑cb3,↑cb4] w λe w'=>CP S F m B ((λp_b=>bif p_b==0 then k m0 else .node p_b λb_b=>bif !b_b.bM then Ct.Dq i m0 p_b k else bif (Ct.bC.readOnly t)then Ct.mK prev p_b false (Ct.kY prev i m0 k)else Ct.Zi t λr_b=>.node r_b λa_b=>.node i λb_b=>Ct.mK prev p_b (a_b.gen==b_b.gen) (Ct.kY prev i m0 k)) x) s L e w':=by
 have h:=eR hm (bD _) (h.fr (.c r5 .n))
 refine bZ func177 ntmps177 h λw h=>?_
 refine jX h λb1 w h=>?_
 refine jA h λb2 w h=>?_
 refine qc h (λhd3 w h=>?_) λhd3 w h=>?_
 refine Ma (mA (h.fr (.c r2 (.c r7 .n))) (hs.less (by decide)) m0) λs5 t6 c7 hq8 w h=>?_
 refine rc h ?_
 exact fI (qT hd3 (hq8)) h.to
 refine Vs S h (cK S s x h.to hs) λq10 w h=>?_
 refine bA (tB _ _ h.to) λw h=>?_
 refine qc h (λhd11 w h=>?_) λhd11 w h=>?_
 have h:=Rj (j:=60) (by decide) (h.fr (.c r4 .n))
 refine fQ (Jy S F _ _ _ _ thk k _ _ h.to (hs.less (by decide))) λs13 t14 c15 hq16 w h=>?_
 refine rc h ?_
 exact fI (qF hd3 (qN (qT hd11 (hq16)))) h.to
 refine jA h λb18 w h=>?_
 refine qc h (λhd19 w h=>?_) λhd19 w h=>?_
 have h:=h.eT a9
 have h:=h.eT a9
 have h:=h.eT a9
 have h:=h.eT a9
 have h:=h.eT G0
 have h:=h.fr (.c r0 (.c r0 (.c r0 (.c r0 (.c r0 (.c r5 .n))))))
 have h:=Me (j:=60) (S:=S) (F:=F) (n:=m) (args:=dV) (k:=(Ct.kY prev i m0 k)) (v:=(.fn 179 [] [↑cb4,↑cb0,↑cb1,↑cb2,↑cb3])) [rb cb4 ([↑prev]) 24,rb cb0 [thk.val] 88,rb cb1 ([↑m0]) 45,rb cb2 ([S.v,↑t.root,↑t.readOnly]) 201,rb cb3 ([↑i]) 45,gP S F m 60 dQ k thk] h λm' hm' B' w' L' s' x' h' hs'=>pR eF (xQ S F cb4 cb0 cb1 cb2 cb3 prev thk k m0 t i (Nat.le_of_lt hm') x' s' h' (hs'.less (by decide)))
 refine fQ (Ap S F _ _ _ _ (.fn 179 [] [↑cb4,↑cb0,↑cb1,↑cb2,↑cb3]) (Ct.kY prev i m0 k) _ _ h.to (hs.less (by decide))) λs20 t21 c22 hq23 w h=>?_
 refine rc h ?_
 exact fI (qF hd3 (qN (qF hd11 (qT hd19 (hq23))))) h.to
 have h:=SH.kX (h.fr (.c r4 .n))
 have h:=SH.kX (h.fr (.c r1 .n))
 have h:=h.eT a9
 have h:=h.eT a9
 have h:=h.eT a9
 have h:=h.eT a9
 have h:=h.eT G0
 have h:=h.fr (.c r0 (.c r0 (.c r0 (.c r0 (.c r0 (.c r5 .n))))))
 have h:=YZ (S:=S) (F:=F) (n:=m) (j:=60) (args:=dV) (k:=(Ct.kY prev i m0 k)) (v:=(.fn 179 [] [↑cb4,↑cb0,↑cb1,↑cb2,↑cb3])) [rb cb4 ([↑prev]) 24,rb cb0 [thk.val] 88,rb cb1 ([↑m0]) 45,rb cb2 ([S.v,↑t.root,↑t.readOnly]) 201,rb cb3 ([↑i]) 45,gP S F m 60 dQ k thk] h λB' w' L' s' x' h' hs'=>pR eF (xQ S F cb4 cb0 cb1 cb2 cb3 prev thk k m0 t i (bD _) x' s' h' hs')
 have h:=h.eT a1
 have h:=h.eT a3
 have h:=h.eT w3
 have h:=h.eT w3
 have h:=h.eT w3
 have h:=h.fr (.c r0 (.c r0 (.c r0 (.c r0 (.c r0 (.c r0 .n))))))
 have h:=Me (j:=60) (S:=S) (F:=F) (n:=m) (args:=dQ) (k:=(λr_b=>.node r_b λa_b=>.node i λb_b=>Ct.mK prev x (a_b.gen==b_b.gen) (Ct.kY prev i m0 k))) (v:=(.fn 183 [] [↑cb2,↑cb3,↑cb4,↑b1,↑b18])) [rb cb2 ([S.v,↑t.root,↑t.readOnly]) 201,rb cb3 ([↑i]) 45,rb cb4 ([↑prev]) 24,rb b1 ([↑x]) 45,rb b18 [Go.E.Fv.val (Go.E.Fv.fn 179 [] [↑cb4,↑cb0,↑cb1,↑cb2,↑cb3])] 89,gP S F m 60 dV (Ct.kY prev i m0 k) (.fn 179 [] [↑cb4,↑cb0,↑cb1,↑cb2,↑cb3])] h λm' hm' B' w' L' s' x' h' hs'=>pR eF (Lm S F cb2 cb3 cb4 b1 b18 t i prev x (.fn 179 [] [↑cb4,↑cb0,↑cb1,↑cb2,↑cb3]) (Ct.kY prev i m0 k) (Nat.le_of_lt hm') x' s' h' (hs'.less (by decide)))
 refine fQ (DY S F _ (.fn 183 [] [↑cb2,↑cb3,↑cb4,↑b1,↑b18]) (λr_b=>.node r_b λa_b=>.node i λb_b=>Ct.mK prev x (a_b.gen==b_b.gen) (Ct.kY prev i m0 k)) _ _ h.to (hs.less (by decide))) λs24 t25 c26 hq27 w h=>?_
 refine rc h ?_
 exact fI (qF hd3 (qN (qF hd11 (qF hd19 (hq27))))) h.to
theorem Ay{β:Type}(S:dN)(F:β->Cc->As)(t:Ct.bC)(i:Int)(m0:Int)(thk:Fv)(k:Int->Ct.I β)(n:Nat)(s:Ct.St)(h:SH B w (rD S F n 60 dQ k thk::S.a s::L))(hs:Ct.Rm 30 s):
  Calls prog 170 #[.agg [S.v,↑t.root,↑t.readOnly].toArray,↑i,↑m0,thk.val] w λe w'=>CP S F n B (Ct.qB t i m0 k) s L e w':=by
 refine bZ func170 ntmps170 h λw h=>?_
 refine jX h λb1 w h=>?_
 refine jX h λb2 w h=>?_
 refine jX h λb3 w h=>?_
 refine jX h (hc:=lE _) λb4 w h=>?_
 refine jA h λb5 w h=>?_
 refine Vs S h (cK S s m0 h.to hs) λq6 w h=>?_
 refine jA h λb7 w h=>?_
 have h:=SH.kX (h.fr (.c r4 .n))
 have h:=SH.kX (h.fr (.c r5 .n))
 have h:=SH.kX (h.fr (.c r7 .n))
 have h:=SH.kX (h.fr (.c r7 .n))
 have h:=SH.kX (h.fr (.c r4 .n))
 refine cl (ca eF rfl) ((jH (s.node m0).prev (.fn 177 [] [↑b4,↑b3,↑b1,↑b2,↑b7]) (h.fr .n)).mono ?_)
 rintro _ w ⟨rfl,h⟩
 refine⟨_,rfl,?_⟩
 refine sf (so h rfl rfl rfl iR (eO _) (.r (.r (.r (.r (.r (.r (.r (.r (.r (.r (.r (.r (.r (.r .d)))))))))))))) u7)<|?_
 rintro _ w h
 refine xe<|nx<|rt<|?_
 refine rc h ?_
 have h:=h.eT a0
 have h:=h.eT a2
 have h:=h.eT a4
 have h:=h.eT a6
 have h:=h.eT a8
 have h:=h.fr (.c r0 (.c r0 (.c r0 (.c r0 (.c r0 (.c r8 .n))))))
 have h:=Nt (S:=S) (F:=F) (n:=n) (args:=dQ) (k:=(λp_b=>bif p_b==0 then k m0 else .node p_b λb_b=>bif !b_b.bM then Ct.Dq i m0 p_b k else bif (Ct.bC.readOnly t)then Ct.mK (s.node m0).prev p_b false (Ct.kY (s.node m0).prev i m0 k)else Ct.Zi t λr_b=>.node r_b λa_b=>.node i λb_b=>Ct.mK (s.node m0).prev p_b (a_b.gen==b_b.gen) (Ct.kY (s.node m0).prev i m0 k))) (v:=(.fn 177 [] [↑b4,↑b3,↑b1,↑b2,↑b7])) [rb b4 [thk.val] 88,rb b3 ([↑m0]) 45,rb b1 ([S.v,↑t.root,↑t.readOnly]) 201,rb b2 ([↑i]) 45,rb b7 ([.int .i64 (s.node m0).prev]) 24,rD S F n 60 dQ k thk] h λm' hm' B' w' L' s' x' h' hs'=>pR eF (Mh S F b4 b3 b1 b2 b7 thk k m0 t i (s.node m0).prev (bD _) x' s' ((sB hm' (h'.fr (.c r5 .n))).fr (.c r1 (.c r1 (.c r1 (.c r1 (.c r1 (.c r0 .n))))))) (hs'.less (by decide)))
 have h:=kL (a:=(s.node m0).prev) h
 exact fI (qN rfl) h.to
theorem Vx{β:Type}(S:dN)(F:β->Cc->As)(cb0 cb1 cb2:Nat)(t:Ct.bC)(i:Int)(thk:Fv)(k:Int->Ct.I β){n m:Nat}(hm:m<=n)(x:Int)(s:Ct.St)(h:SH B w (rb cb0 ([S.v,↑t.root,↑t.readOnly]) 201::rb cb1 ([↑i]) 45::rb cb2 [thk.val] 88::gP S F n 60 dQ k thk::S.a s::L))(hs:Ct.Rm 60 s):
  Calls prog 169 #[↑x,↑cb0,↑cb1,↑cb2] w λe w'=>CP S F m B ((λm0_b=>Ct.qB t i m0_b k) x) s L e w':=by
 have h:=eR hm (bD _) (h.fr (.c r3 .n))
 refine bZ func169 ntmps169 h λw h=>?_
 refine jA h λb1 w h=>?_
 have h:=Rj (j:=60) (by decide) (h.fr (.c r1 .n))
 refine cl (ca eF rfl) ((Ay S F t i x thk k m s (h.fr (.c r0 (.c r4 .n))) (hs.less (by decide))).mono ?_)
 rintro _ w ⟨s2,t3,c4,hq5,rfl,h⟩
 refine⟨_,rfl,?_⟩
 refine sf (so h rfl rfl rfl iR (eO _) (.r (.r (.r (.r (.r (.r (.r (.r (.r (.r (.r (.r (.r (.r .d)))))))))))))) u2)<|?_
 rintro _ w h
 refine xe<|nx<|rt<|?_
 refine go h λw h=>?_
 refine rr (bP rfl rfl (h.b a2) Row.h) ?_
 exact fI (hq5) h.to
theorem jZ{β:Type}(S:dN)(F:β->Cc->As)(t:Ct.bC)(i:Int)(thk:Fv)(k:Int->Ct.I β)(n:Nat)(s:Ct.St)(h:SH B w (rD S F n 60 dQ k thk::S.a s::L))(hs:Ct.Rm 30 s):
  Calls prog 142 #[.agg [S.v,↑t.root,↑t.readOnly].toArray,↑i,thk.val] w λe w'=>CP S F n B (Ct.mM t i k) s L e w':=by
 refine bZ func142 ntmps142 h λw h=>?_
 refine jX h λb1 w h=>?_
 refine jX h λb2 w h=>?_
 refine sf (bx h rfl (lE _)) ?_
 rintro _ w ⟨b3,rfl,h⟩
 refine go h λw h=>?_
 refine jA h λb4 w h=>?_
 have h:=SH.kX (h.fr (.c r3 .n))
 have h:=SH.kX (h.fr (.c r3 .n))
 have h:=SH.kX (h.fr (.c r3 .n))
 refine go h λw h=>?_
 refine cl (ci (S.sN h a5) rfl rfl) ((cK S s i h.to hs).mono ?_)
 rintro _ w ⟨q5,rfl,h⟩
 refine⟨_,rfl,?_⟩
 refine go h λw h=>?_
 refine cl (ca eF rfl) ((jH (s.node i).main (.fn 169 [] [↑b1,↑b2,↑b3]) (h.fr .n)).mono ?_)
 rintro _ w ⟨rfl,h⟩
 refine⟨_,rfl,?_⟩
 refine sf (so h rfl rfl rfl iR (eO _) (.r (.r (.r (.r (.r (.r (.r (.r (.r (.r (.r (.r (.r (.r .d)))))))))))))) u5)<|?_
 rintro _ w h
 refine xe<|nx<|rt<|?_
 refine go h λw h=>?_
 refine rr (bP rfl rfl (h.b a5) Row.h) ?_
 have h:=h.eT a2
 have h:=h.eT a4
 have h:=h.eT a6
 have h:=h.fr (.c r0 (.c r0 (.c r0 (.c r6 .n))))
 have h:=Nt (S:=S) (F:=F) (n:=n) (args:=dQ) (k:=(λm0_b=>Ct.qB t i m0_b k)) (v:=(.fn 169 [] [↑b1,↑b2,↑b3])) [rb b1 ([S.v,↑t.root,↑t.readOnly]) 201,rb b2 ([↑i]) 45,rb b3 [thk.val] 88,rD S F n 60 dQ k thk] h λm' hm' B' w' L' s' x' h' hs'=>pR eF (Vx S F b1 b2 b3 t i thk k (bD _) x' s' ((sB hm' (h'.fr (.c r3 .n))).fr (.c r1 (.c r1 (.c r1 (.c r0 .n))))) (hs'.less (by decide)))
 have h:=kL (a:=(s.node i).main) h
 exact fI (qN rfl) h.to
end Go.Q9
end
section
namespace Go.Q9
open Go.Proofs.Tryz
open Go.E
theorem aAs:KY prog 123=some ([.nilIface,.int .i64 0,.int .i64 0,.int .i64 0,.int .i64 0,.nilFunc,.nilFunc,.int .i64 0,↑false,.int .u64 0,.string .empty,.int .i64 0,.int .i64 0,.int .i64 0,↑false,.int .i64 0,↑false],[(0,1),(1,14),(15,1),(16,1)]):=by kernel_rfl
theorem WJ:fo prog 75 0=some 0:=by kernel_rfl
theorem T7:fo prog 123 0=some 0:=by kernel_rfl
theorem Xr:fo prog 123 1=some 1:=by kernel_rfl
theorem Lt:fo prog 123 2=some 15:=by kernel_rfl
theorem Bv:fo prog 123 3=some 16:=by kernel_rfl
end Go.Q9
end
