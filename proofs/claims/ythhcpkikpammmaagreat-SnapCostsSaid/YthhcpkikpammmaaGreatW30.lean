/- Parts of a proof: Ca. -/
import Derived.Test.YthhcpkikpammmaaGreatW29
set_option linter.unusedVariables false
set_option linter.unusedSimpArgs false
set_option maxRecDepth 100000
set_option maxHeartbeats 4000000
section
namespace Go.Q9
open Go.Proofs.Tryz
open Go.RowKit Go.E
attribute [local irreducible] gB wpS Go.E.X XS C jU kP fin Y U F Ca jT bl rb aU bV ex ce pu sK gK bK zK gM fO dH gP nE rD
open Go.Ct (qN qA qC qG qT qF)
variable{B w:World}{L:List As}
theorem ON(a:Int)(f:FuncId)(ff fc:List Value)(h:SH B w (L)):
  Calls prog 45 #[↑a,.func (.func f) ff.toArray fc.toArray] w λe w'=>e=.returned (.agg (zQ (tR a (.fn f ff fc))).toArray)/\SH B w' L:=by
 refine bZ func45 ntmps45 h λw h=>?_
 refine jA h λb1 w h=>?_
 exact rr (bP rfl rfl (h.b a0) Row.h)<|⟨rfl,h.drop⟩
theorem IN(a:Int)(h:SH B w (L)):
  Calls prog 45 #[↑a,.nilFunc] w λe w'=>e=.returned (.agg (zQ (tR a .nil)).toArray)/\SH B w' L:=by
 refine bZ func45 ntmps45 h λw h=>?_
 refine jA h λb1 w h=>?_
 exact rr (bP rfl rfl (h.b a0) Row.h)<|⟨rfl,h.drop⟩
theorem jH(a:Int)(v:Fv)(h:SH B w L):
  Calls prog 45 #[↑a,v.val] w λe w'=>e=.returned (.agg (zQ (tR a v)).toArray)/\SH B w' L:=by
 cases v with
 |nil=>exact IN a h
 |fn f ff fc=>exact ON a f ff fc h
theorem QV(a o x:Int)(f:FuncId)(ff fc:List Value)(h:SH B w (L)):
  Calls prog 123 #[↑a,↑o,↑x,.func (.func f) ff.toArray fc.toArray] w λe w'=>e=.returned (.agg (zQ (Sr a o x (.fn f ff fc))).toArray)/\SH B w' L:=by
 refine bZ func123 ntmps123 h λw h=>?_
 refine jA h λb1 w h=>?_
 exact rr (bP rfl rfl (h.b a0) Row.h)<|⟨rfl,h.drop⟩
theorem LZ(a o x:Int)(h:SH B w (L)):
  Calls prog 123 #[↑a,↑o,↑x,.nilFunc] w λe w'=>e=.returned (.agg (zQ (Sr a o x .nil)).toArray)/\SH B w' L:=by
 refine bZ func123 ntmps123 h λw h=>?_
 refine jA h λb1 w h=>?_
 exact rr (bP rfl rfl (h.b a0) Row.h)<|⟨rfl,h.drop⟩
theorem iW(a o x:Int)(v:Fv)(h:SH B w L):
  Calls prog 123 #[↑a,↑o,↑x,v.val] w λe w'=>e=.returned (.agg (zQ (Sr a o x v)).toArray)/\SH B w' L:=by
 cases v with
 |nil=>exact LZ a o x h
 |fn f ff fc=>exact QV a o x f ff fc h
theorem gV(r:Ct.Result)(h:SH B w (L)):
  Calls prog 79 #[.agg (Mf r).toArray] w λe w'=>e=.returned (.agg (zQ (EY r)).toArray)/\SH B w' L:=by
 refine bZ func79 ntmps79 h λw h=>?_
 refine jX h λb1 w h=>?_
 refine jA h λb2 w h=>?_
 exact rr (bP rfl rfl (h.b a0) Row.h)<|⟨rfl,h.drop.drop⟩
theorem Ya(o:Int)(h:SH B w (L)):
  Calls prog 179 #[↑o] w λe w'=>e=.returned (.agg (aL {kind:=7,dC:=o} {}).toArray)/\SH B w' L:=by
 refine bZ func179 ntmps179 h λw h=>?_
 refine jA h λb1 w h=>?_
 exact rr (bP rfl rfl (h.b a0) Row.h)<|⟨rfl,h.drop⟩
theorem Nj(o ex nw:Int)(h:SH B w (L)):
  Calls prog 122 #[↑o,↑ex,↑nw] w λe w'=>e=.returned (.agg (aL {kind:=8,dC:=o,aK:=ex,new:=nw} {}).toArray)/\SH B w' L:=by
 refine bZ func122 ntmps122 h λw h=>?_
 refine jA h λb1 w h=>?_
 exact rr (bP rfl rfl (h.b a0) Row.h)<|⟨rfl,h.drop⟩
theorem Jg(h:SH B w (L)):
  Calls prog 75 #[] w λe w'=>e=.returned (.agg (aL {kind:=3} {}).toArray)/\SH B w' L:=by
 refine bZ func75 ntmps75 h λw h=>?_
 refine jA h λb1 w h=>?_
 exact rr (bP rfl rfl (h.b a0) Row.h)<|⟨rfl,h.drop⟩
theorem nA(x:Int)(h:SH B w (L)):
  Calls prog 76 #[↑x] w λe w'=>e=.returned (.agg (aL {kind:=2,gen:=x} {}).toArray)/\SH B w' L:=by
 refine bZ func76 ntmps76 h λw h=>?_
 refine jA h λb1 w h=>?_
 exact rr (bP rfl rfl (h.b a0) Row.h)<|⟨rfl,h.drop⟩
theorem tQ{β:Type}(S:dN)(F:β->Cc->As)(cb0 cb1:Nat)(thk:Fv)(k:Int->Ct.I β)(v:Int){n m:Nat}(hm:m<=n)(x:Bool)(s:Ct.St)(h:SH B w (rb cb0 [thk.val] 97::rb cb1 ([↑v]) 36::gP S F n 60 dQ k thk::S.a s::L))(hs:Ct.Rm 60 s):
  Calls prog 175 #[↑x,↑cb0,↑cb1] w λe w'=>CP S F m B ((λ_=>k v) x) s L e w':=by
 have h:=iI hm (bD _) (h.fr (.c r2 .n))
 refine bZ func175 ntmps175 h λw h=>?_
 refine jA h λb1 w h=>?_
 refine PM rfl rfl ((mA (h.fr (.c r1 (.c r3 .n))) (hs.less (by decide)) v).mono ?_)
 rintro _ w ⟨s2,t3,c4,hq5,rfl,h⟩
 refine⟨_,rfl,?_⟩
 refine go h λw h=>?_
 refine rr (bP rfl rfl (h.b a2) Row.h) ?_
 exact fI (hq5) h.to
theorem kK{β:Type}(S:dN)(F:β->Cc->As)(t:Ct.bC)(v:Int)(x:Int)(thk:Fv)(k:Int->Ct.I β)(n:Nat)(s:Ct.St)(h:SH B w (rD S F n 60 dQ k thk::S.a s::L))(hs:Ct.Rm 30 s):
  Calls prog 118 #[.agg [S.v,↑t.root,↑t.readOnly].toArray,↑v,↑x,thk.val] w λe w'=>CP S F n B (Ct.iD t v x k) s L e w':=by
 refine bZ func118 ntmps118 h λw h=>?_
 refine jX h λb1 w h=>?_
 refine jX h (hc:=lE _) λb2 w h=>?_
 refine jA h λb3 w h=>?_
 refine Vs S h (cK S s v h.to hs) λq4 w h=>?_
 refine jA h λb5 w h=>?_
 refine jA h λb6 w h=>?_
 refine qc h (λhd7 w h=>?_) λhd7 w h=>?_
 have h:=SH.kX (h.fr (.c r5 .n))
 have h:=SH.kX (h.fr (.c r1 .n))
 refine bA (iW _ _ _ (.fn 175 [] [↑b2,↑b6]) h.to) λw h=>?_
 refine rc h ?_
 have h:=h.eT a0
 have h:=h.eT a2
 have h:=h.fr (.c r0 (.c r0 (.c r7 .n)))
 have h:=Nt (S:=S) (F:=F) (n:=n) (args:=dV) (k:=(λ_=>k (s.node v).new)) (v:=(.fn 175 [] [↑b2,↑b6])) [rb b2 [thk.val] 97,rb b6 ([.int .i64 (s.node v).new]) 36,rD S F n 60 dQ k thk] h λm' hm' B' w' L' s' x' h' hs'=>pR eF (tQ S F b2 b6 thk k (s.node v).new (bD _) x' s' ((sB hm' (h'.fr (.c r2 .n))).fr (.c r1 (.c r1 (.c r0 .n)))) (hs'.less (by decide)))
 have h:=kC (a:=t.root) (o:=v) (x:=(s.node v).new) h
 exact fI (qN (qT hd7 rfl)) h.to
 have h:=SH.kX (h.fr (.c r5 .n))
 have h:=SH.kX (h.fr (.c r1 .n))
 refine bA (iW _ _ _ (.fn 175 [] [↑b2,↑b6]) h.to) λw h=>?_
 refine rc h ?_
 have h:=h.eT a0
 have h:=h.eT a2
 have h:=h.fr (.c r0 (.c r0 (.c r7 .n)))
 have h:=Nt (S:=S) (F:=F) (n:=n) (args:=dV) (k:=(λ_=>k (s.node v).dC)) (v:=(.fn 175 [] [↑b2,↑b6])) [rb b2 [thk.val] 97,rb b6 ([.int .i64 (s.node v).dC]) 36,rD S F n 60 dQ k thk] h λm' hm' B' w' L' s' x' h' hs'=>pR eF (tQ S F b2 b6 thk k (s.node v).dC (bD _) x' s' ((sB hm' (h'.fr (.c r2 .n))).fr (.c r1 (.c r1 (.c r0 .n)))) (hs'.less (by decide)))
 have h:=kC (a:=t.root) (o:=v) (x:=(s.node v).dC) h
 exact fI (qN (qF hd7 rfl)) h.to
theorem Yk{β:Type}(S:dN)(F:β->Cc->As)(cb0 cb1:Nat)(thk:Fv)(k:Int->Ct.I β)(v:Int){n m:Nat}(hm:m<=n)(x:Bool)(s:Ct.St)(h:SH B w (rb cb0 [thk.val] 97::rb cb1 ([↑v]) 36::gP S F n 60 dQ k thk::S.a s::L))(hs:Ct.Rm 60 s):
  Calls prog 178 #[↑x,↑cb0,↑cb1] w λe w'=>CP S F m B ((λ_=>k v) x) s L e w':=by
 have h:=iI hm (bD _) (h.fr (.c r2 .n))
 refine bZ func178 ntmps178 h λw h=>?_
 refine jA h λb1 w h=>?_
 refine PM rfl rfl ((mA (h.fr (.c r1 (.c r3 .n))) (hs.less (by decide)) v).mono ?_)
 rintro _ w ⟨s2,t3,c4,hq5,rfl,h⟩
 refine⟨_,rfl,?_⟩
 refine go h λw h=>?_
 refine rr (bP rfl rfl (h.b a2) Row.h) ?_
 exact fI (hq5) h.to
theorem Jy{β:Type}(S:dN)(F:β->Cc->As)(t:Ct.bC)(i:Int)(m:Int)(p:Int)(thk:Fv)(k:Int->Ct.I β)(n:Nat)(s:Ct.St)(h:SH B w (rD S F n 60 dQ k thk::S.a s::L))(hs:Ct.Rm 30 s):
  Calls prog 131 #[.agg [S.v,↑t.root,↑t.readOnly].toArray,↑i,↑m,↑p,thk.val] w λe w'=>CP S F n B (Ct.Dq i m p k) s L e w':=by
 refine bZ func131 ntmps131 h λw h=>?_
 refine jX h λb1 w h=>?_
 refine sf (bx h rfl (lE _)) ?_
 rintro _ w ⟨b2,rfl,h⟩
 refine go h λw h=>?_
 refine jA h λb3 w h=>?_
 refine cl (ci (S.sN h a4) rfl rfl) ((cK S s p h.to hs).mono ?_)
 rintro _ w ⟨q4,rfl,h⟩
 refine⟨_,rfl,?_⟩
 refine go h λw h=>?_
 refine jA h λb5 w h=>?_
 have h:=SH.kX (h.fr (.c r4 .n))
 have h:=SH.kX (h.fr (.c r1 .n))
 refine dZ [1,3,5,11,13,15,6,9,16,18] (by kernel_rfl) h (.c r5 (.c r0 .n)) λw h=>go h λw h=>?_
 refine cs (ci (S.sN h a3) rfl rfl) ((cK S s i h.to hs).mono ?_)
 rintro _ w ⟨q6,rfl,h⟩
 refine⟨_,rfl,h.hs (.c r6 (.c r2 .n)),?_⟩
 refine go h λw h=>?_
 refine gO (iW _ _ _ (.fn 178 [] [↑b2,↑b5]) h.to) λw h=>?_
 refine rr (bP rfl rfl (h.b a5) Row.h) ?_
 have h:=h.eT a2
 have h:=h.eT a4
 have h:=h.fr (.c r0 (.c r0 (.c r7 .n)))
 have h:=Nt (S:=S) (F:=F) (n:=n) (args:=dV) (k:=(λ_=>k (s.node p).dC)) (v:=(.fn 178 [] [↑b2,↑b5])) [rb b2 [thk.val] 97,rb b5 ([.int .i64 (s.node p).dC]) 36,rD S F n 60 dQ k thk] h λm' hm' B' w' L' s' x' h' hs'=>pR eF (Yk S F b2 b5 thk k (s.node p).dC (bD _) x' s' ((sB hm' (h'.fr (.c r2 .n))).fr (.c r1 (.c r1 (.c r0 .n)))) (hs'.less (by decide)))
 have h:=kC (a:=(s.node i).main) (o:=m) (x:=(s.node p).dC) h
 exact fI (qN (qN rfl)) h.to
theorem Wd{β:Type}(S:dN)(F:β->Cc->As)(cb0 cb1 cb2:Nat)(t:Ct.bC)(v:Int)(thk:Fv)(k:Int->Ct.I β){n m:Nat}(hm:m<=n)(x:Int)(s:Ct.St)(h:SH B w (rb cb0 ([S.v,↑t.root,↑t.readOnly]) 93::rb cb1 ([↑v]) 36::rb cb2 [thk.val] 97::gP S F n 60 dQ k thk::S.a s::L))(hs:Ct.Rm 60 s):
  Calls prog 183 #[↑x,↑cb0,↑cb1,↑cb2] w λe w'=>CP S F m B ((λs_b=>Ct.iD t v s_b k) x) s L e w':=by
 have h:=iI hm (bD _) (h.fr (.c r3 .n))
 refine bZ func183 ntmps183 h λw h=>?_
 refine jA h λb1 w h=>?_
 have h:=Rj (j:=60) (by decide) (h.fr (.c r1 .n))
 refine cl (ca eF rfl) ((kK S F t v x thk k m s (h.fr (.c r0 (.c r4 .n))) (hs.less (by decide))).mono ?_)
 rintro _ w ⟨s2,t3,c4,hq5,rfl,h⟩
 refine⟨_,rfl,?_⟩
 refine sf (so h rfl rfl rfl fZ (eO _) (.r (.r (.r (.r (.r (.r (.r (.r (.r (.r (.r (.r (.r (.r .d)))))))))))))) u2)<|?_
 rintro _ w h
 refine xe<|nx<|rt<|?_
 refine go h λw h=>?_
 refine rr (bP rfl rfl (h.b a2) Row.h) ?_
 exact fI (hq5) h.to
theorem Yq{β:Type}(S:dN)(F:β->Cc->As)(cb0 cb1 cb2 cb3:Nat)(d:Ct.Node)(qd:Lq)(t:Ct.bC)(v:Int)(thk:Fv)(k:Int->Ct.I β){n m:Nat}(hm:m<=n)(x:Bool)(s:Ct.St)(h:SH B w (rb cb0 (aL d qd) 68::rb cb1 ([S.v,↑t.root,↑t.readOnly]) 93::rb cb2 ([↑v]) 36::rb cb3 [thk.val] 97::gP S F n 60 dQ k thk::S.a s::L))(hs:Ct.Rm 60 s):
  Calls prog 182 #[↑x,↑cb0,↑cb1,↑cb2,↑cb3] w λe w'=>CP S F m B ((λ_=>.load (Ct.Node.status d) λs_b=>Ct.iD t v s_b k) x) s L e w':=by
 have h:=iI hm (bD _) (h.fr (.c r4 .n))
 refine bZ func182 ntmps182 h λw h=>?_
 refine jA h λb1 w h=>?_
 refine cl (ca eF rfl) ((jH d.status (.fn 183 [] [↑cb1,↑cb2,↑cb3]) (h.fr .n)).mono ?_)
 rintro _ w ⟨rfl,h⟩
 refine⟨_,rfl,?_⟩
 refine sf (so h rfl rfl rfl fZ (eO _) (.r (.r (.r (.r (.r (.r (.r (.r (.r (.r (.r (.r (.r (.r .d)))))))))))))) u0)<|?_
 rintro _ w h
 refine xe<|nx<|rt<|?_
 refine go h λw h=>?_
 refine rr (bP rfl rfl (h.b a0) Row.h) ?_
 have h:=h.eT a5
 have h:=h.eT a5
 have h:=h.eT a5
 have h:=h.fr (.c r0 (.c r0 (.c r0 (.c r1 .n))))
 have h:=Nt (S:=S) (F:=F) (n:=m) (args:=dQ) (k:=(λs_b=>Ct.iD t v s_b k)) (v:=(.fn 183 [] [↑cb1,↑cb2,↑cb3])) [rb cb1 ([S.v,↑t.root,↑t.readOnly]) 93,rb cb2 ([↑v]) 36,rb cb3 [thk.val] 97,gP S F m 60 dQ k thk] h λm' hm' B' w' L' s' x' h' hs'=>pR eF (Wd S F cb1 cb2 cb3 t v thk k (vL hm') x' s' h' (hs'.less (by decide)))
 have h:=kL (a:=d.status) h
 exact fI (rfl) h.to
theorem Yp{β:Type}(S:dN)(F:β->Cc->As)(cb0 cb1 cb2 cb3:Nat)(t:Ct.bC)(v:Int)(thk:Fv)(k:Int->Ct.I β)(d:Ct.Node)(qd:Lq){n m:Nat}(hm:m<=n)(x:Int)(s:Ct.St)(h:SH B w (rb cb0 ([S.v,↑t.root,↑t.readOnly]) 93::rb cb1 ([↑v]) 36::rb cb2 [thk.val] 97::rb cb3 (aL d qd) 68::gP S F n 60 dQ k thk::S.a s::L))(hs:Ct.Rm 60 s):
  Calls prog 181 #[↑x,↑cb0,↑cb1,↑cb2,↑cb3] w λe w'=>CP S F m B ((λs_b=>bif s_b != 0 then Ct.iD t v s_b k else .eA (Ct.Node.status d) 0 2 λ_=>.load (Ct.Node.status d) λs_b=>Ct.iD t v s_b k) x) s L e w':=by
 have h:=iI hm (bD _) (h.fr (.c r4 .n))
 refine bZ func181 ntmps181 h λw h=>?_
 refine jA h λb1 w h=>?_
 refine qc h (λhd2 w h=>?_) λhd2 w h=>?_
 have h:=Rj (j:=60) (by decide) (h.fr (.c r1 .n))
 refine fQ (kK S F _ _ _ thk k _ _ h.to (hs.less (by decide))) λs4 t5 c6 hq7 w h=>?_
 refine rc h ?_
 exact fI (qT hd2 (hq7)) h.to
 refine bA (iW _ _ _ (.fn 182 [] [↑cb3,↑cb0,↑cb1,↑cb2]) h.to) λw h=>?_
 refine rc h ?_
 have h:=h.eT a4
 have h:=h.eT a4
 have h:=h.eT a4
 have h:=h.eT a8
 have h:=h.fr (.c r0 (.c r0 (.c r0 (.c r0 (.c r1 .n)))))
 have h:=Nt (S:=S) (F:=F) (n:=m) (args:=dV) (k:=(λ_=>.load (Ct.Node.status d) λs_b=>Ct.iD t v s_b k)) (v:=(.fn 182 [] [↑cb3,↑cb0,↑cb1,↑cb2])) [rb cb3 (aL d qd) 68,rb cb0 ([S.v,↑t.root,↑t.readOnly]) 93,rb cb1 ([↑v]) 36,rb cb2 [thk.val] 97,gP S F m 60 dQ k thk] h λm' hm' B' w' L' s' x' h' hs'=>pR eF (Yq S F cb3 cb0 cb1 cb2 d qd t v thk k (vL hm') x' s' h' (hs'.less (by decide)))
 have h:=kC (a:=d.status) (o:=0) (x:=2) h
 exact fI (qF hd2 rfl) h.to
theorem Uy{β:Type}(S:dN)(F:β->Cc->As)(cb0 cb1:Nat)(t:Ct.bC)(thk:Fv)(k:Int->Ct.I β){n m:Nat}(hm:m<=n)(x:Int)(s:Ct.St)(h:SH B w (rb cb0 ([S.v,↑t.root,↑t.readOnly]) 93::rb cb1 [thk.val] 97::gP S F n 60 dQ k thk::S.a s::L))(hs:Ct.Rm 60 s):
  Calls prog 180 #[↑x,↑cb0,↑cb1] w λe w'=>CP S F m B ((λv_b=>.node v_b λd_b=>bif d_b.kind==2 then k v_b else .load d_b.status λs_b=>bif s_b != 0 then Ct.iD t v_b s_b k else .eA d_b.status 0 2 λ_=>.load d_b.status λs_b=>Ct.iD t v_b s_b k) x) s L e w':=by
 have h:=iI hm (bD _) (h.fr (.c r2 .n))
 refine bZ func180 ntmps180 h λw h=>?_
 refine jX h λb1 w h=>?_
 refine jA h λb2 w h=>?_
 refine Vs S h (cK S s x h.to hs) λq3 w h=>?_
 refine jA h λb4 w h=>?_
 refine qc h (λhd5 w h=>?_) λhd5 w h=>?_
 refine Ma (mA (h.fr (.c r5 (.c r2 .n))) (hs.less (by decide)) x) λs7 t8 c9 hq10 w h=>?_
 refine rc h ?_
 exact fI (qN (qT hd5 (hq10))) h.to
 have h:=SH.kX (h.fr (.c r4 .n))
 have h:=SH.kX (h.fr (.c r1 .n))
 refine bA (jH _ (.fn 181 [] [↑cb0,↑b1,↑cb1,↑b4]) h.to) λw h=>?_
 refine rc h ?_
 have h:=h.eT a0
 have h:=h.eT a8
 have h:=h.eT a3
 have h:=h.eT a9
 have h:=h.fr (.c r0 (.c r0 (.c r0 (.c r0 (.c r5 .n)))))
 have h:=Nt (S:=S) (F:=F) (n:=m) (args:=dQ) (k:=(λs_b=>bif s_b != 0 then Ct.iD t x s_b k else .eA (Ct.Node.status (s.node x)) 0 2 λ_=>.load (Ct.Node.status (s.node x)) λs_b=>Ct.iD t x s_b k)) (v:=(.fn 181 [] [↑cb0,↑b1,↑cb1,↑b4])) [rb cb0 ([S.v,↑t.root,↑t.readOnly]) 93,rb b1 ([↑x]) 36,rb cb1 [thk.val] 97,rb b4 (aL (s.node x) q3) 68,gP S F m 60 dQ k thk] h λm' hm' B' w' L' s' x' h' hs'=>pR eF (Yp S F cb0 b1 cb1 b4 t x thk k (s.node x) q3 (vL hm') x' s' h' (hs'.less (by decide)))
 have h:=kL (a:=(s.node x).status) h
 exact fI (qN (qF hd5 rfl)) h.to
theorem DY{β:Type}(S:dN)(F:β->Cc->As)(t:Ct.bC)(thk:Fv)(k:Int->Ct.I β)(n:Nat)(s:Ct.St)(h:SH B w (rD S F n 60 dQ k thk::S.a s::L))(hs:Ct.Rm 30 s):
  Calls prog 135 #[.agg [S.v,↑t.root,↑t.readOnly].toArray,thk.val] w λe w'=>CP S F n B (Ct.Zi t k) s L e w':=by
 refine bZ func135 ntmps135 h λw h=>?_
 refine jX h λb1 w h=>?_
 refine sf (bx h rfl (lE _)) ?_
 rintro _ w ⟨b2,rfl,h⟩
 refine go h λw h=>?_
 refine jA h λb3 w h=>?_
 have h:=SH.kX (h.fr (.c r2 .n))
 have h:=SH.kX (h.fr (.c r2 .n))
 refine go h λw h=>?_
 refine cl (ca eF rfl) ((jH t.root (.fn 180 [] [↑b1,↑b2]) (h.fr .n)).mono ?_)
 rintro _ w ⟨rfl,h⟩
 refine⟨_,rfl,?_⟩
 refine sf (so h rfl rfl rfl fZ (eO _) (.r (.r (.r (.r (.r (.r (.r (.r (.r (.r (.r (.r (.r (.r .d)))))))))))))) u2)<|?_
 rintro _ w h
 refine xe<|nx<|rt<|?_
 refine go h λw h=>?_
 refine rr (bP rfl rfl (h.b a2) Row.h) ?_
 have h:=h.eT a0
 have h:=h.eT a2
 have h:=h.fr (.c r0 (.c r0 (.c r3 .n)))
 have h:=Nt (S:=S) (F:=F) (n:=n) (args:=dQ) (k:=(λv_b=>.node v_b λd_b=>bif d_b.kind==2 then k v_b else .load d_b.status λs_b=>bif s_b != 0 then Ct.iD t v_b s_b k else .eA d_b.status 0 2 λ_=>.load d_b.status λs_b=>Ct.iD t v_b s_b k)) (v:=(.fn 180 [] [↑b1,↑b2])) [rb b1 ([S.v,↑t.root,↑t.readOnly]) 93,rb b2 [thk.val] 97,rD S F n 60 dQ k thk] h λm' hm' B' w' L' s' x' h' hs'=>pR eF (Uy S F b1 b2 t thk k (bD _) x' s' ((sB hm' (h'.fr (.c r2 .n))).fr (.c r1 (.c r1 (.c r0 .n)))) (hs'.less (by decide)))
 have h:=kL (a:=t.root) h
 exact fI (rfl) h.to
theorem Ap{β:Type}(S:dN)(F:β->Cc->As)(t:Ct.bC)(prev:Int)(p:Int)(commit:Bool)(thk:Fv)(k:Bool->Ct.I β)(n:Nat)(s:Ct.St)(h:SH B w (rD S F n 60 dV k thk::S.a s::L))(hs:Ct.Rm 30 s):
  Calls prog 134 #[.agg [S.v,↑t.root,↑t.readOnly].toArray,↑prev,↑p,↑commit,thk.val] w λe w'=>CP S F n B (Ct.mK prev p commit k) s L e w':=by
 refine bZ func134 ntmps134 h λw h=>?_
 refine jX h λb1 w h=>?_
 refine jA h λb2 w h=>?_
 refine qc h (λhd3 w h=>?_) λhd3 w h=>?_
 refine bA (iW _ _ _ thk h.to) λw h=>?_
 refine rr (bP rfl rfl (h.b a0) Row.h) ?_
 have h:=k7 (by decide) (h.fr (.c r2 .n))
 have h:=kC (a:=prev) (o:=p) (x:=0) h
 exact fI (qT hd3 rfl) h.to
 refine dZ [1,3,5,9,11,6,12,14] (by kernel_rfl) h (.c r1 .n) λw h=>go h λw h=>?_
 refine gO (Ya _ h.to) λw h=>?_
 refine cs (ci (S.sA h a3) rfl rfl) ((cQ S s ({kind:=7,dC:=p}:Ct.Node) {} 0 (SH.eE ({kind:=7,dC:=p}:Ct.Node) rfl rfl h.to) hs (Ct.bG _ 7 0 p 0 0)).mono ?_)
 rintro _ w ⟨rfl,h⟩
 have hs:=hs.alloc (Ct.bG _ 7 0 p 0 0) 0
 refine⟨_,rfl,h.hs (.c r2 .n),?_⟩
 refine go h λw h=>?_
 refine bA (iW _ _ _ thk h.to) λw h=>?_
 refine rr (bP rfl rfl (h.b a1) Row.h) ?_
 have h:=k7 (by decide) (h.fr (.c r3 .n))
 have h:=kC (a:=prev) (o:=p) (x:=(s.alloc ({kind:=7,dC:=p}:Ct.Node) 0).2) h
 exact fI (qF hd3 (qA rfl)) h.to
theorem Mm{β:Type}(S:dN)(F:β->Cc->As)(cb0 cb1 cb2 cb3:Nat)(thk:Fv)(k:Int->Ct.I β)(m0:Int)(t:Ct.bC)(i:Int){n m:Nat}(hm:m<=n)(x:Int)(s:Ct.St)(h:SH B w (rb cb0 [thk.val] 97::rb cb1 ([↑m0]) 36::rb cb2 ([S.v,↑t.root,↑t.readOnly]) 93::rb cb3 ([↑i]) 36::gP S F n 60 dQ k thk::S.a s::L))(hs:Ct.Rm 60 s):
  Calls prog 133 #[↑x,↑cb0,↑cb1,↑cb2,↑cb3] w λe w'=>CP S F m B ((λp_b=>bif p_b==0 then k m0 else Ct.Dq i m0 p_b k) x) s L e w':=by
 have h:=iI hm (bD _) (h.fr (.c r4 .n))
 refine bZ func133 ntmps133 h λw h=>?_
 refine jA h λb1 w h=>?_
 refine qc h (λhd2 w h=>?_) λhd2 w h=>?_
 have hg3:=eq_of_beq hd2
 refine go h λw h=>?_
 refine PM rfl rfl ((mA (h.fr (.c r1 (.c r5 .n))) (hs.less (by decide)) m0).mono ?_)
 rintro _ w ⟨s4,t5,c6,hq7,rfl,h⟩
 refine⟨_,rfl,?_⟩
 refine go h λw h=>?_
 refine rr (bP rfl rfl (h.b a2) Row.h) ?_
 exact fI (qT hd2 (hq7)) h.to
 have hg8:=AD hd2
 refine go h λw h=>?_
 have h:=Rj (j:=60) (by decide) (h.fr (.c r1 .n))
 refine fQ (Jy S F _ _ _ _ thk k _ _ h.to (hs.less (by decide))) λs9 t10 c11 hq12 w h=>?_
 refine rr (bP rfl rfl (h.b a2) Row.h) ?_
 exact fI (qF hd2 (hq12)) h.to
theorem xQ{β:Type}(S:dN)(F:β->Cc->As)(cb0 cb1 cb2 cb3 cb4:Nat)(prev:Int)(thk:Fv)(k:Int->Ct.I β)(m0:Int)(t:Ct.bC)(i:Int){n m:Nat}(hm:m<=n)(x:Bool)(s:Ct.St)(h:SH B w (rb cb0 ([↑prev]) 33::rb cb1 [thk.val] 97::rb cb2 ([↑m0]) 36::rb cb3 ([S.v,↑t.root,↑t.readOnly]) 93::rb cb4 ([↑i]) 36::gP S F n 60 dQ k thk::S.a s::L))(hs:Ct.Rm 60 s):
  Calls prog 132 #[↑x,↑cb0,↑cb1,↑cb2,↑cb3,↑cb4] w λe w'=>CP S F m B ((Ct.kY prev i m0 k) x) s L e w':=by
 have h:=iI hm (bD _) (h.fr (.c r5 .n))
 refine bZ func132 ntmps132 h λw h=>?_
 refine jA h λb1 w h=>?_
 refine cl (ca eF rfl) ((jH prev (.fn 133 [] [↑cb1,↑cb2,↑cb3,↑cb4]) (h.fr .n)).mono ?_)
 rintro _ w ⟨rfl,h⟩
 refine⟨_,rfl,?_⟩
 refine sf (so h rfl rfl rfl fZ (eO _) (.r (.r (.r (.r (.r (.r (.r (.r (.r (.r (.r (.r (.r (.r .d)))))))))))))) u0)<|?_
 rintro _ w h
 refine xe<|nx<|rt<|?_
 refine go h λw h=>?_
 refine rr (bP rfl rfl (h.b a0) Row.h) ?_
 have h:=h.eT a6
 have h:=h.eT a6
 have h:=h.eT a6
 have h:=h.eT a6
 have h:=h.fr (.c r0 (.c r0 (.c r0 (.c r0 (.c r1 .n)))))
 have h:=Nt (S:=S) (F:=F) (n:=m) (args:=dQ) (k:=(λp_b=>bif p_b==0 then k m0 else Ct.Dq i m0 p_b k)) (v:=(.fn 133 [] [↑cb1,↑cb2,↑cb3,↑cb4])) [rb cb1 [thk.val] 97,rb cb2 ([↑m0]) 36,rb cb3 ([S.v,↑t.root,↑t.readOnly]) 93,rb cb4 ([↑i]) 36,gP S F m 60 dQ k thk] h λm' hm' B' w' L' s' x' h' hs'=>pR eF (Mm S F cb1 cb2 cb3 cb4 thk k m0 t i (vL hm') x' s' h' (hs'.less (by decide)))
 have h:=kL (a:=prev) h
 exact fI (rfl) h.to
theorem Lm{β:Type}(S:dN)(F:β->Cc->As)(cb0 cb1 cb2 cb3 cb4:Nat)(t:Ct.bC)(i:Int)(prev:Int)(p:Int)(thk:Fv)(k:Bool->Ct.I β){n m:Nat}(hm:m<=n)(x:Int)(s:Ct.St)(h:SH B w (rb cb0 ([S.v,↑t.root,↑t.readOnly]) 93::rb cb1 ([↑i]) 36::rb cb2 ([↑prev]) 33::rb cb3 ([↑p]) 36::rb cb4 [thk.val] 98::gP S F n 60 dV k thk::S.a s::L))(hs:Ct.Rm 60 s):
  Calls prog 136 #[↑x,↑cb0,↑cb1,↑cb2,↑cb3,↑cb4] w λe w'=>CP S F m B ((λr_b=>.node r_b λa_b=>.node i λb_b=>Ct.mK prev p (a_b.gen==b_b.gen) k) x) s L e w':=by
 have h:=iI hm (bD _) (h.fr (.c r5 .n))
 refine bZ func136 ntmps136 h λw h=>?_
 refine jA h λb1 w h=>?_
 refine dZ [1,3,5,11,13,15,6,9,16,19,21,22] (by kernel_rfl) h (.c r2 (.c r2 .n)) λw h=>go h λw h=>?_
 refine cs (ci (S.sN h a7) rfl rfl) ((cK S s x h.to hs).mono ?_)
 rintro _ w ⟨q2,rfl,h⟩
 refine⟨_,rfl,h.hs (.c r4 (.c r4 .n)),?_⟩
 refine go h λw h=>?_
 refine cs (ci (S.sN h a1) rfl rfl) ((cK S s i h.to hs).mono ?_)
 rintro _ w ⟨q3,rfl,h⟩
 refine⟨_,rfl,h.hs (.c r5 (.c r5 .n)),?_⟩
 refine go h λw h=>?_
 have h:=Rj (j:=60) (by decide) (h.fr (.c r4 .n))
 refine cl (ca eF rfl) ((Ap S F t prev p (((s.node x).gen:Int)==(s.node i).gen) thk k m s (h.fr (.c r0 (.c r1 .n))) (hs.less (by decide))).mono ?_)
 rintro _ w ⟨s4,t5,c6,hq7,rfl,h⟩
 refine⟨_,rfl,?_⟩
 refine sf (so h rfl rfl rfl fZ (eO _) (.r (.r (.r (.r (.r (.r (.r (.r (.r (.r (.r (.r (.r (.r .d)))))))))))))) u4)<|?_
 rintro _ w h
 refine xe<|nx<|rt<|?_
 refine go h λw h=>?_
 refine rr (bP rfl rfl (h.b a4) Row.h) ?_
 exact fI (qN (qN (hq7))) h.to
theorem Mh{β:Type}(S:dN)(F:β->Cc->As)(cb0 cb1 cb2 cb3 cb4:Nat)(thk:Fv)(k:Int->Ct.I β)(m0:Int)(t:Ct.bC)(i:Int)(prev:Int){n m:Nat}(hm:m<=n)(x:Int)(s:Ct.St)(h:SH B w (rb cb0 [thk.val] 97::rb cb1 ([↑m0]) 36::rb cb2 ([S.v,↑t.root,↑t.readOnly]) 93::rb cb3 ([↑i]) 36::rb cb4 ([↑prev]) 33::gP S F n 60 dQ k thk::S.a s::L))(hs:Ct.Rm 60 s):
  Calls prog 129 #[↑x,↑cb0,↑cb1,↑cb2,↑cb3,↑cb4] w λe w'=>CP S F m B ((λp_b=>bif p_b==0 then k m0 else .node p_b λb_b=>bif !b_b.bM then Ct.Dq i m0 p_b k else bif (Ct.bC.readOnly t)then Ct.mK prev p_b false (Ct.kY prev i m0 k)else Ct.Zi t λr_b=>.node r_b λa_b=>.node i λb_b=>Ct.mK prev p_b (a_b.gen==b_b.gen) (Ct.kY prev i m0 k)) x) s L e w':=by
 have h:=iI hm (bD _) (h.fr (.c r5 .n))
 refine bZ func129 ntmps129 h λw h=>?_
 refine jX h λb1 w h=>?_
 refine jA h λb2 w h=>?_
 refine qc h (λhd3 w h=>?_) λhd3 w h=>?_
 refine Ma (mA (h.fr (.c r2 (.c r7 .n))) (hs.less (by decide)) m0) λs5 t6 c7 hq8 w h=>?_
 refine rc h ?_
 exact fI (qT hd3 (hq8)) h.to
 refine Vs S h (cK S s x h.to hs) λq10 w h=>?_
 refine bA (tB _ _ h.to) λw h=>?_
 refine qc h (λhd11 w h=>?_) λhd11 w h=>?_
 have h:=Rj (j:=60) (by decide) (h.fr (.c r4 .n))
 refine fQ (Jy S F _ _ _ _ thk k _ _ h.to (hs.less (by decide))) λs13 t14 c15 hq16 w h=>?_
 refine rc h ?_
 exact fI (qF hd3 (qN (qT hd11 (hq16)))) h.to
 refine jA h λb18 w h=>?_
 refine qc h (λhd19 w h=>?_) λhd19 w h=>?_
 have h:=h.eT a9
 have h:=h.eT a9
 have h:=h.eT a9
 have h:=h.eT a9
 have h:=h.eT G0
 have h:=h.fr (.c r0 (.c r0 (.c r0 (.c r0 (.c r0 (.c r5 .n))))))
 have h:=Me (j:=60) (S:=S) (F:=F) (n:=m) (args:=dV) (k:=(Ct.kY prev i m0 k)) (v:=(.fn 132 [] [↑cb4,↑cb0,↑cb1,↑cb2,↑cb3])) [rb cb4 ([↑prev]) 33,rb cb0 [thk.val] 97,rb cb1 ([↑m0]) 36,rb cb2 ([S.v,↑t.root,↑t.readOnly]) 93,rb cb3 ([↑i]) 36,gP S F m 60 dQ k thk] h λm' hm' B' w' L' s' x' h' hs'=>pR eF (xQ S F cb4 cb0 cb1 cb2 cb3 prev thk k m0 t i (vL hm') x' s' h' (hs'.less (by decide)))
 refine fQ (Ap S F _ _ _ _ (.fn 132 [] [↑cb4,↑cb0,↑cb1,↑cb2,↑cb3]) (Ct.kY prev i m0 k) _ _ h.to (hs.less (by decide))) λs20 t21 c22 hq23 w h=>?_
 refine rc h ?_
 exact fI (qF hd3 (qN (qF hd11 (qT hd19 (hq23))))) h.to
 have h:=SH.kX (h.fr (.c r4 .n))
 have h:=SH.kX (h.fr (.c r1 .n))
 have h:=h.eT a9
 have h:=h.eT a9
 have h:=h.eT a9
 have h:=h.eT a9
 have h:=h.eT G0
 have h:=h.fr (.c r0 (.c r0 (.c r0 (.c r0 (.c r0 (.c r5 .n))))))
 have h:=YZ (S:=S) (F:=F) (n:=m) (j:=60) (args:=dV) (k:=(Ct.kY prev i m0 k)) (v:=(.fn 132 [] [↑cb4,↑cb0,↑cb1,↑cb2,↑cb3])) [rb cb4 ([↑prev]) 33,rb cb0 [thk.val] 97,rb cb1 ([↑m0]) 36,rb cb2 ([S.v,↑t.root,↑t.readOnly]) 93,rb cb3 ([↑i]) 36,gP S F m 60 dQ k thk] h λB' w' L' s' x' h' hs'=>pR eF (xQ S F cb4 cb0 cb1 cb2 cb3 prev thk k m0 t i (bD _) x' s' h' hs')
 have h:=h.eT a1
 have h:=h.eT a3
 have h:=h.eT Y4
 have h:=h.eT Y4
 have h:=h.eT Y4
 have h:=h.fr (.c r0 (.c r0 (.c r0 (.c r0 (.c r0 (.c r0 .n))))))
 have h:=Me (j:=60) (S:=S) (F:=F) (n:=m) (args:=dQ) (k:=(λr_b=>.node r_b λa_b=>.node i λb_b=>Ct.mK prev x (a_b.gen==b_b.gen) (Ct.kY prev i m0 k))) (v:=(.fn 136 [] [↑cb2,↑cb3,↑cb4,↑b1,↑b18])) [rb cb2 ([S.v,↑t.root,↑t.readOnly]) 93,rb cb3 ([↑i]) 36,rb cb4 ([↑prev]) 33,rb b1 ([↑x]) 36,rb b18 [Go.E.Fv.val (Go.E.Fv.fn 132 [] [↑cb4,↑cb0,↑cb1,↑cb2,↑cb3])] 98,gP S F m 60 dV (Ct.kY prev i m0 k) (.fn 132 [] [↑cb4,↑cb0,↑cb1,↑cb2,↑cb3])] h λm' hm' B' w' L' s' x' h' hs'=>pR eF (Lm S F cb2 cb3 cb4 b1 b18 t i prev x (.fn 132 [] [↑cb4,↑cb0,↑cb1,↑cb2,↑cb3]) (Ct.kY prev i m0 k) (vL hm') x' s' h' (hs'.less (by decide)))
 refine fQ (DY S F _ (.fn 136 [] [↑cb2,↑cb3,↑cb4,↑b1,↑b18]) (λr_b=>.node r_b λa_b=>.node i λb_b=>Ct.mK prev x (a_b.gen==b_b.gen) (Ct.kY prev i m0 k)) _ _ h.to (hs.less (by decide))) λs24 t25 c26 hq27 w h=>?_
 refine rc h ?_
 exact fI (qF hd3 (qN (qF hd11 (qF hd19 (hq27))))) h.to
theorem Ay{β:Type}(S:dN)(F:β->Cc->As)(t:Ct.bC)(i:Int)(m0:Int)(thk:Fv)(k:Int->Ct.I β)(n:Nat)(s:Ct.St)(h:SH B w (rD S F n 60 dQ k thk::S.a s::L))(hs:Ct.Rm 30 s):
  Calls prog 82 #[.agg [S.v,↑t.root,↑t.readOnly].toArray,↑i,↑m0,thk.val] w λe w'=>CP S F n B (Ct.qB t i m0 k) s L e w':=by
 refine bZ func82 ntmps82 h λw h=>?_
 refine jX h λb1 w h=>?_
 refine jX h λb2 w h=>?_
 refine jX h λb3 w h=>?_
 refine jX h (hc:=lE _) λb4 w h=>?_
 refine jA h λb5 w h=>?_
 refine Vs S h (cK S s m0 h.to hs) λq6 w h=>?_
 refine jA h λb7 w h=>?_
 have h:=SH.kX (h.fr (.c r4 .n))
 have h:=SH.kX (h.fr (.c r5 .n))
 have h:=SH.kX (h.fr (.c r7 .n))
 have h:=SH.kX (h.fr (.c r7 .n))
 have h:=SH.kX (h.fr (.c r4 .n))
 refine cl (ca eF rfl) ((jH (s.node m0).prev (.fn 129 [] [↑b4,↑b3,↑b1,↑b2,↑b7]) (h.fr .n)).mono ?_)
 rintro _ w ⟨rfl,h⟩
 refine⟨_,rfl,?_⟩
 refine sf (so h rfl rfl rfl fZ (eO _) (.r (.r (.r (.r (.r (.r (.r (.r (.r (.r (.r (.r (.r (.r .d)))))))))))))) u7)<|?_
 rintro _ w h
 refine xe<|nx<|rt<|?_
 refine rc h ?_
 have h:=h.eT a0
 have h:=h.eT a2
 have h:=h.eT a4
 have h:=h.eT a6
 have h:=h.eT a8
 have h:=h.fr (.c r0 (.c r0 (.c r0 (.c r0 (.c r0 (.c r8 .n))))))
 have h:=Nt (S:=S) (F:=F) (n:=n) (args:=dQ) (k:=(λp_b=>bif p_b==0 then k m0 else .node p_b λb_b=>bif !b_b.bM then Ct.Dq i m0 p_b k else bif (Ct.bC.readOnly t)then Ct.mK (s.node m0).prev p_b false (Ct.kY (s.node m0).prev i m0 k)else Ct.Zi t λr_b=>.node r_b λa_b=>.node i λb_b=>Ct.mK (s.node m0).prev p_b (a_b.gen==b_b.gen) (Ct.kY (s.node m0).prev i m0 k))) (v:=(.fn 129 [] [↑b4,↑b3,↑b1,↑b2,↑b7])) [rb b4 [thk.val] 97,rb b3 ([↑m0]) 36,rb b1 ([S.v,↑t.root,↑t.readOnly]) 93,rb b2 ([↑i]) 36,rb b7 ([.int .i64 (s.node m0).prev]) 33,rD S F n 60 dQ k thk] h λm' hm' B' w' L' s' x' h' hs'=>pR eF (Mh S F b4 b3 b1 b2 b7 thk k m0 t i (s.node m0).prev (bD _) x' s' ((sB hm' (h'.fr (.c r5 .n))).fr (.c r1 (.c r1 (.c r1 (.c r1 (.c r1 (.c r0 .n))))))) (hs'.less (by decide)))
 have h:=kL (a:=(s.node m0).prev) h
 exact fI (qN rfl) h.to
theorem Vx{β:Type}(S:dN)(F:β->Cc->As)(cb0 cb1 cb2:Nat)(t:Ct.bC)(i:Int)(thk:Fv)(k:Int->Ct.I β){n m:Nat}(hm:m<=n)(x:Int)(s:Ct.St)(h:SH B w (rb cb0 ([S.v,↑t.root,↑t.readOnly]) 93::rb cb1 ([↑i]) 36::rb cb2 [thk.val] 97::gP S F n 60 dQ k thk::S.a s::L))(hs:Ct.Rm 60 s):
  Calls prog 81 #[↑x,↑cb0,↑cb1,↑cb2] w λe w'=>CP S F m B ((λm0_b=>Ct.qB t i m0_b k) x) s L e w':=by
 have h:=iI hm (bD _) (h.fr (.c r3 .n))
 refine bZ func81 ntmps81 h λw h=>?_
 refine jA h λb1 w h=>?_
 have h:=Rj (j:=60) (by decide) (h.fr (.c r1 .n))
 refine cl (ca eF rfl) ((Ay S F t i x thk k m s (h.fr (.c r0 (.c r4 .n))) (hs.less (by decide))).mono ?_)
 rintro _ w ⟨s2,t3,c4,hq5,rfl,h⟩
 refine⟨_,rfl,?_⟩
 refine sf (so h rfl rfl rfl fZ (eO _) (.r (.r (.r (.r (.r (.r (.r (.r (.r (.r (.r (.r (.r (.r .d)))))))))))))) u2)<|?_
 rintro _ w h
 refine xe<|nx<|rt<|?_
 refine go h λw h=>?_
 refine rr (bP rfl rfl (h.b a2) Row.h) ?_
 exact fI (hq5) h.to
theorem jZ{β:Type}(S:dN)(F:β->Cc->As)(t:Ct.bC)(i:Int)(thk:Fv)(k:Int->Ct.I β)(n:Nat)(s:Ct.St)(h:SH B w (rD S F n 60 dQ k thk::S.a s::L))(hs:Ct.Rm 30 s):
  Calls prog 47 #[.agg [S.v,↑t.root,↑t.readOnly].toArray,↑i,thk.val] w λe w'=>CP S F n B (Ct.mM t i k) s L e w':=by
 refine bZ func47 ntmps47 h λw h=>?_
 refine jX h λb1 w h=>?_
 refine jX h λb2 w h=>?_
 refine sf (bx h rfl (lE _)) ?_
 rintro _ w ⟨b3,rfl,h⟩
 refine go h λw h=>?_
 refine jA h λb4 w h=>?_
 have h:=SH.kX (h.fr (.c r3 .n))
 have h:=SH.kX (h.fr (.c r3 .n))
 have h:=SH.kX (h.fr (.c r3 .n))
 refine go h λw h=>?_
 refine cl (ci (S.sN h a5) rfl rfl) ((cK S s i h.to hs).mono ?_)
 rintro _ w ⟨q5,rfl,h⟩
 refine⟨_,rfl,?_⟩
 refine go h λw h=>?_
 refine cl (ca eF rfl) ((jH (s.node i).main (.fn 81 [] [↑b1,↑b2,↑b3]) (h.fr .n)).mono ?_)
 rintro _ w ⟨rfl,h⟩
 refine⟨_,rfl,?_⟩
 refine sf (so h rfl rfl rfl fZ (eO _) (.r (.r (.r (.r (.r (.r (.r (.r (.r (.r (.r (.r (.r (.r .d)))))))))))))) u5)<|?_
 rintro _ w h
 refine xe<|nx<|rt<|?_
 refine go h λw h=>?_
 refine rr (bP rfl rfl (h.b a5) Row.h) ?_
 have h:=h.eT a2
 have h:=h.eT a4
 have h:=h.eT a6
 have h:=h.fr (.c r0 (.c r0 (.c r0 (.c r6 .n))))
 have h:=Nt (S:=S) (F:=F) (n:=n) (args:=dQ) (k:=(λm0_b=>Ct.qB t i m0_b k)) (v:=(.fn 81 [] [↑b1,↑b2,↑b3])) [rb b1 ([S.v,↑t.root,↑t.readOnly]) 93,rb b2 ([↑i]) 36,rb b3 [thk.val] 97,rD S F n 60 dQ k thk] h λm' hm' B' w' L' s' x' h' hs'=>pR eF (Vx S F b1 b2 b3 t i thk k (bD _) x' s' ((sB hm' (h'.fr (.c r3 .n))).fr (.c r1 (.c r1 (.c r1 (.c r0 .n))))) (hs'.less (by decide)))
 have h:=kL (a:=(s.node i).main) h
 exact fI (qN rfl) h.to
theorem Jk{β:Type}(S:dN)(F:β->Cc->As)(cb0:Nat)(thk:Fv)(k:Unit->Ct.I β){n m:Nat}(hm:m<=n)(x:Bool)(s:Ct.St)(h:SH B w (rb cb0 [thk.val] 102::gP S F n 60 qI k thk::S.a s::L))(hs:Ct.Rm 60 s):
  Calls prog 177 #[↑x,↑cb0] w λe w'=>CP S F m B ((λ_=>k ()) x) s L e w':=by
 have h:=iI hm (bD _) (h.fr (.c r1 .n))
 refine bZ func177 ntmps177 h λw h=>?_
 refine jA h λb1 w h=>?_
 refine PM rfl rfl ((mA (h.fr (.c r1 (.c r2 .n))) (hs.less (by decide)) ()).mono ?_)
 rintro _ w ⟨s2,t3,c4,hq5,rfl,h⟩
 refine⟨_,rfl,?_⟩
 refine go h λw h=>?_
 refine rr (bP rfl rfl (h.b a2) Row.h) ?_
 exact fI (hq5) h.to
theorem DL{β:Type}(S:dN)(F:β->Cc->As)(cb0 cb1:Nat)(d:Ct.Node)(qd:Lq)(thk:Fv)(k:Unit->Ct.I β){n m:Nat}(hm:m<=n)(x:Int)(s:Ct.St)(h:SH B w (rb cb0 (aL d qd) 68::rb cb1 [thk.val] 102::gP S F n 60 qI k thk::S.a s::L))(hs:Ct.Rm 60 s):
  Calls prog 176 #[↑x,↑cb0,↑cb1] w λe w'=>CP S F m B ((λm0_b=>bif m0_b==(Ct.Node.aK d)then .eA (Ct.Node.status d) 0 1 λ_=>k ()else .eA (Ct.Node.status d) 0 2 λ_=>k ()) x) s L e w':=by
 have h:=iI hm (bD _) (h.fr (.c r2 .n))
 refine bZ func176 ntmps176 h λw h=>?_
 refine jA h λb1 w h=>?_
 refine qc h (λhd2 w h=>?_) λhd2 w h=>?_
 have hg3:=eq_of_beq hd2
 refine go h λw h=>?_
 refine bA (iW _ _ _ (.fn 177 [] [↑cb1]) h.to) λw h=>?_
 refine rr (bP rfl rfl (h.b a0) Row.h) ?_
 have h:=h.eT a3
 have h:=h.fr (.c r0 (.c r1 .n))
 have h:=Nt (S:=S) (F:=F) (n:=m) (args:=dV) (k:=(λ_=>k ())) (v:=(.fn 177 [] [↑cb1])) [rb cb1 [thk.val] 102,gP S F m 60 qI k thk] h λm' hm' B' w' L' s' x' h' hs'=>pR eF (Jk S F cb1 thk k (vL hm') x' s' h' (hs'.less (by decide)))
 have h:=kC (a:=d.status) (o:=0) (x:=1) h
 exact fI (qT hd2 rfl) h.to
 have hg4:=AD hd2
 refine go h λw h=>?_
 refine bA (iW _ _ _ (.fn 177 [] [↑cb1]) h.to) λw h=>?_
 refine rr (bP rfl rfl (h.b a0) Row.h) ?_
 have h:=h.eT a3
 have h:=h.fr (.c r0 (.c r1 .n))
 have h:=Nt (S:=S) (F:=F) (n:=m) (args:=dV) (k:=(λ_=>k ())) (v:=(.fn 177 [] [↑cb1])) [rb cb1 [thk.val] 102,gP S F m 60 qI k thk] h λm' hm' B' w' L' s' x' h' hs'=>pR eF (Jk S F cb1 thk k (vL hm') x' s' h' (hs'.less (by decide)))
 have h:=kC (a:=d.status) (o:=0) (x:=2) h
 exact fI (qF hd2 rfl) h.to
theorem Nw{β:Type}(S:dN)(F:β->Cc->As)(t:Ct.bC)(d:Ct.Node)(qd:Lq)(thk:Fv)(k:Unit->Ct.I β)(n:Nat)(s:Ct.St)(h:SH B w (rD S F n 60 qI k thk::S.a s::L))(hs:Ct.Rm 30 s):
  Calls prog 119 #[.agg [S.v,↑t.root,↑t.readOnly].toArray,.agg (aL d qd).toArray,thk.val] w λe w'=>CP S F n B (Ct.Fm t d (k ())) s L e w':=by
 refine bZ func119 ntmps119 h λw h=>?_
 refine jX h λb1 w h=>?_
 refine jX h λb2 w h=>?_
 refine sf (bx h rfl (lE _)) ?_
 rintro _ w ⟨b3,rfl,h⟩
 refine go h λw h=>?_
 refine jA h λb4 w h=>?_
 have h:=SH.kX (h.fr (.c r2 .n))
 have h:=SH.kX (h.fr (.c r2 .n))
 refine go h λw h=>?_
 have h:=h.eT a0
 have h:=h.eT a2
 have h:=h.fr (.c r0 (.c r0 (.c r4 .n)))
 have h:=Me (j:=60) (S:=S) (F:=F) (n:=n) (args:=dQ) (k:=(λm0_b=>bif m0_b==(Ct.Node.aK d)then .eA (Ct.Node.status d) 0 1 λ_=>k ()else .eA (Ct.Node.status d) 0 2 λ_=>k ())) (v:=(.fn 176 [] [↑b2,↑b3])) [rb b2 (aL d qd) 68,rb b3 [thk.val] 102,rD S F n 60 qI k thk] h λm' hm' B' w' L' s' x' h' hs'=>pR eF (DL S F b2 b3 d qd thk k (bD _) x' s' ((sB hm' (h'.fr (.c r2 .n))).fr (.c r1 (.c r1 (.c r0 .n)))) (hs'.less (by decide)))
 refine cl (ca eF rfl) ((jZ S F t d.dC (.fn 176 [] [↑b2,↑b3]) (λm0_b=>bif m0_b==(Ct.Node.aK d)then .eA (Ct.Node.status d) 0 1 λ_=>k ()else .eA (Ct.Node.status d) 0 2 λ_=>k ()) n s (h.fr (.c r0 (.c r4 .n))) (hs.less (by decide))).mono ?_)
 rintro _ w ⟨s5,t6,c7,hq8,rfl,h⟩
 refine⟨_,rfl,?_⟩
 refine sf (so h rfl rfl rfl fZ (eO _) (.r (.r (.r (.r (.r (.r (.r (.r (.r (.r (.r (.r (.r (.r .d)))))))))))))) u4)<|?_
 rintro _ w h
 refine xe<|nx<|rt<|?_
 refine go h λw h=>?_
 refine rr (bP rfl rfl (h.b a4) Row.h) ?_
 exact fI (hq8) h.to
theorem Yb{β:Type}(S:dN)(F:β->Cc->As)(cb0 cb1 cb2:Nat)(t:Ct.bC)(v:Int)(thk:Fv)(k:Int->Ct.I β){n m:Nat}(hm:m<=n)(x:Int)(s:Ct.St)(h:SH B w (rb cb0 ([S.v,↑t.root,↑t.readOnly]) 93::rb cb1 ([↑v]) 36::rb cb2 [thk.val] 97::gP S F n 60 dQ k thk::S.a s::L))(hs:Ct.Rm 60 s):
  Calls prog 121 #[↑x,↑cb0,↑cb1,↑cb2] w λe w'=>CP S F m B ((λs_b=>Ct.iD t v s_b k) x) s L e w':=by
 have h:=iI hm (bD _) (h.fr (.c r3 .n))
 refine bZ func121 ntmps121 h λw h=>?_
 refine jA h λb1 w h=>?_
 have h:=Rj (j:=60) (by decide) (h.fr (.c r1 .n))
 refine cl (ca eF rfl) ((kK S F t v x thk k m s (h.fr (.c r0 (.c r4 .n))) (hs.less (by decide))).mono ?_)
 rintro _ w ⟨s2,t3,c4,hq5,rfl,h⟩
 refine⟨_,rfl,?_⟩
 refine sf (so h rfl rfl rfl fZ (eO _) (.r (.r (.r (.r (.r (.r (.r (.r (.r (.r (.r (.r (.r (.r .d)))))))))))))) u2)<|?_
 rintro _ w h
 refine xe<|nx<|rt<|?_
 refine go h λw h=>?_
 refine rr (bP rfl rfl (h.b a2) Row.h) ?_
 exact fI (hq5) h.to
theorem Yx{β:Type}(S:dN)(F:β->Cc->As)(cb0 cb1 cb2 cb3:Nat)(d:Ct.Node)(qd:Lq)(t:Ct.bC)(v:Int)(thk:Fv)(k:Int->Ct.I β){n m:Nat}(hm:m<=n)(s:Ct.St)(h:SH B w (rb cb0 (aL d qd) 68::rb cb1 ([S.v,↑t.root,↑t.readOnly]) 93::rb cb2 ([↑v]) 36::rb cb3 [thk.val] 97::gP S F n 60 dQ k thk::S.a s::L))(hs:Ct.Rm 60 s):
  Calls prog 120 #[↑cb0,↑cb1,↑cb2,↑cb3] w λe w'=>CP S F m B ((λ_=>.load (Ct.Node.status d) λs_b=>Ct.iD t v s_b k) ()) s L e w':=by
 have h:=iI hm (bD _) (h.fr (.c r4 .n))
 refine bZ func120 ntmps120 h λw h=>?_
 refine jA h λb1 w h=>?_
 refine cl (ca eF rfl) ((jH d.status (.fn 121 [] [↑cb1,↑cb2,↑cb3]) (h.fr .n)).mono ?_)
 rintro _ w ⟨rfl,h⟩
 refine⟨_,rfl,?_⟩
 refine sf (so h rfl rfl rfl fZ (eO _) (.r (.r (.r (.r (.r (.r (.r (.r (.r (.r (.r (.r (.r (.r .d)))))))))))))) u0)<|?_
 rintro _ w h
 refine xe<|nx<|rt<|?_
 refine go h λw h=>?_
 refine rr (bP rfl rfl (h.b a0) Row.h) ?_
 have h:=h.eT a5
 have h:=h.eT a5
 have h:=h.eT a5
 have h:=h.fr (.c r0 (.c r0 (.c r0 (.c r1 .n))))
 have h:=Nt (S:=S) (F:=F) (n:=m) (args:=dQ) (k:=(λs_b=>Ct.iD t v s_b k)) (v:=(.fn 121 [] [↑cb1,↑cb2,↑cb3])) [rb cb1 ([S.v,↑t.root,↑t.readOnly]) 93,rb cb2 ([↑v]) 36,rb cb3 [thk.val] 97,gP S F m 60 dQ k thk] h λm' hm' B' w' L' s' x' h' hs'=>pR eF (Yb S F cb1 cb2 cb3 t v thk k (vL hm') x' s' h' (hs'.less (by decide)))
 have h:=kL (a:=d.status) h
 exact fI (rfl) h.to
theorem Xz{β:Type}(S:dN)(F:β->Cc->As)(cb0 cb1 cb2 cb3:Nat)(t:Ct.bC)(v:Int)(thk:Fv)(k:Int->Ct.I β)(d:Ct.Node)(qd:Lq){n m:Nat}(hm:m<=n)(x:Int)(s:Ct.St)(h:SH B w (rb cb0 ([S.v,↑t.root,↑t.readOnly]) 93::rb cb1 ([↑v]) 36::rb cb2 [thk.val] 97::rb cb3 (aL d qd) 68::gP S F n 60 dQ k thk::S.a s::L))(hs:Ct.Rm 60 s):
  Calls prog 117 #[↑x,↑cb0,↑cb1,↑cb2,↑cb3] w λe w'=>CP S F m B ((λs_b=>bif s_b != 0 then Ct.iD t v s_b k else Ct.Fm t d (.load (Ct.Node.status d) λs_b=>Ct.iD t v s_b k)) x) s L e w':=by
 have h:=iI hm (bD _) (h.fr (.c r4 .n))
 refine bZ func117 ntmps117 h λw h=>?_
 refine jA h λb1 w h=>?_
 refine qc h (λhd2 w h=>?_) λhd2 w h=>?_
 have h:=Rj (j:=60) (by decide) (h.fr (.c r1 .n))
 refine fQ (kK S F _ _ _ thk k _ _ h.to (hs.less (by decide))) λs4 t5 c6 hq7 w h=>?_
 refine rc h ?_
 exact fI (qT hd2 (hq7)) h.to
 have h:=h.eT a4
 have h:=h.eT a4
 have h:=h.eT a4
 have h:=h.eT a8
 have h:=h.fr (.c r0 (.c r0 (.c r0 (.c r0 (.c r1 .n)))))
 have h:=Me (j:=60) (S:=S) (F:=F) (n:=m) (args:=qI) (k:=(λ_=>.load (Ct.Node.status d) λs_b=>Ct.iD t v s_b k)) (v:=(.fn 120 [] [↑cb3,↑cb0,↑cb1,↑cb2])) [rb cb3 (aL d qd) 68,rb cb0 ([S.v,↑t.root,↑t.readOnly]) 93,rb cb1 ([↑v]) 36,rb cb2 [thk.val] 97,gP S F m 60 dQ k thk] h λm' hm' B' w' L' s' x' h' hs'=>pR eF (Yx S F cb3 cb0 cb1 cb2 d qd t v thk k (vL hm') s' h' (hs'.less (by decide)))
 refine fQ (Nw S F _ _ _ (.fn 120 [] [↑cb3,↑cb0,↑cb1,↑cb2]) (λ_=>.load (Ct.Node.status d) λs_b=>Ct.iD t v s_b k) _ _ h.to (hs.less (by decide))) λs9 t10 c11 hq12 w h=>?_
 refine rc h ?_
 exact fI (qF hd2 (hq12)) h.to
theorem Wo{β:Type}(S:dN)(F:β->Cc->As)(cb0 cb1:Nat)(t:Ct.bC)(thk:Fv)(k:Int->Ct.I β){n m:Nat}(hm:m<=n)(x:Int)(s:Ct.St)(h:SH B w (rb cb0 ([S.v,↑t.root,↑t.readOnly]) 93::rb cb1 [thk.val] 97::gP S F n 60 dQ k thk::S.a s::L))(hs:Ct.Rm 60 s):
  Calls prog 116 #[↑x,↑cb0,↑cb1] w λe w'=>CP S F m B ((λv_b=>.node v_b λd_b=>bif d_b.kind==2 then k v_b else .load d_b.status λs_b=>bif s_b != 0 then Ct.iD t v_b s_b k else Ct.Fm t d_b (.load d_b.status λs_b=>Ct.iD t v_b s_b k)) x) s L e w':=by
 have h:=iI hm (bD _) (h.fr (.c r2 .n))
 refine bZ func116 ntmps116 h λw h=>?_
 refine jX h λb1 w h=>?_
 refine jA h λb2 w h=>?_
 refine Vs S h (cK S s x h.to hs) λq3 w h=>?_
 refine jA h λb4 w h=>?_
 refine qc h (λhd5 w h=>?_) λhd5 w h=>?_
 refine Ma (mA (h.fr (.c r5 (.c r2 .n))) (hs.less (by decide)) x) λs7 t8 c9 hq10 w h=>?_
 refine rc h ?_
 exact fI (qN (qT hd5 (hq10))) h.to
 have h:=SH.kX (h.fr (.c r4 .n))
 have h:=SH.kX (h.fr (.c r1 .n))
 refine bA (jH _ (.fn 117 [] [↑cb0,↑b1,↑cb1,↑b4]) h.to) λw h=>?_
 refine rc h ?_
 have h:=h.eT a0
 have h:=h.eT a8
 have h:=h.eT a3
 have h:=h.eT a9
 have h:=h.fr (.c r0 (.c r0 (.c r0 (.c r0 (.c r5 .n)))))
 have h:=Nt (S:=S) (F:=F) (n:=m) (args:=dQ) (k:=(λs_b=>bif s_b != 0 then Ct.iD t x s_b k else Ct.Fm t (s.node x) (.load (Ct.Node.status (s.node x)) λs_b=>Ct.iD t x s_b k))) (v:=(.fn 117 [] [↑cb0,↑b1,↑cb1,↑b4])) [rb cb0 ([S.v,↑t.root,↑t.readOnly]) 93,rb b1 ([↑x]) 36,rb cb1 [thk.val] 97,rb b4 (aL (s.node x) q3) 68,gP S F m 60 dQ k thk] h λm' hm' B' w' L' s' x' h' hs'=>pR eF (Xz S F cb0 b1 cb1 b4 t x thk k (s.node x) q3 (vL hm') x' s' h' (hs'.less (by decide)))
 have h:=kL (a:=(s.node x).status) h
 exact fI (qN (qF hd5 rfl)) h.to
theorem zO{β:Type}(S:dN)(F:β->Cc->As)(t:Ct.bC)(thk:Fv)(k:Int->Ct.I β)(n:Nat)(s:Ct.St)(h:SH B w (rD S F n 60 dQ k thk::S.a s::L))(hs:Ct.Rm 30 s):
  Calls prog 72 #[.agg [S.v,↑t.root,↑t.readOnly].toArray,thk.val] w λe w'=>CP S F n B (Ct.uO t k) s L e w':=by
 refine bZ func72 ntmps72 h λw h=>?_
 refine jX h λb1 w h=>?_
 refine sf (bx h rfl (lE _)) ?_
 rintro _ w ⟨b2,rfl,h⟩
 refine go h λw h=>?_
 refine jA h λb3 w h=>?_
 have h:=SH.kX (h.fr (.c r2 .n))
 have h:=SH.kX (h.fr (.c r2 .n))
 refine go h λw h=>?_
 refine cl (ca eF rfl) ((jH t.root (.fn 116 [] [↑b1,↑b2]) (h.fr .n)).mono ?_)
 rintro _ w ⟨rfl,h⟩
 refine⟨_,rfl,?_⟩
 refine sf (so h rfl rfl rfl fZ (eO _) (.r (.r (.r (.r (.r (.r (.r (.r (.r (.r (.r (.r (.r (.r .d)))))))))))))) u2)<|?_
 rintro _ w h
 refine xe<|nx<|rt<|?_
 refine go h λw h=>?_
 refine rr (bP rfl rfl (h.b a2) Row.h) ?_
 have h:=h.eT a0
 have h:=h.eT a2
 have h:=h.fr (.c r0 (.c r0 (.c r3 .n)))
 have h:=Nt (S:=S) (F:=F) (n:=n) (args:=dQ) (k:=(λv_b=>.node v_b λd_b=>bif d_b.kind==2 then k v_b else .load d_b.status λs_b=>bif s_b != 0 then Ct.iD t v_b s_b k else Ct.Fm t d_b (.load d_b.status λs_b=>Ct.iD t v_b s_b k))) (v:=(.fn 116 [] [↑b1,↑b2])) [rb b1 ([S.v,↑t.root,↑t.readOnly]) 93,rb b2 [thk.val] 97,rD S F n 60 dQ k thk] h λm' hm' B' w' L' s' x' h' hs'=>pR eF (Wo S F b1 b2 t thk k (bD _) x' s' ((sB hm' (h'.fr (.c r2 .n))).fr (.c r1 (.c r1 (.c r0 .n)))) (hs'.less (by decide)))
 have h:=kL (a:=t.root) h
 exact fI (rfl) h.to
theorem Ug{β:Type}(S:dN)(F:β->Cc->As)(cb0 cb1:Nat)(thk:Fv)(k:Bool->Ct.I β)(v:Int){n m:Nat}(hm:m<=n)(x:Int)(s:Ct.St)(h:SH B w (rb cb0 [thk.val] 98::rb cb1 ([↑v]) 36::gP S F n 60 dV k thk::S.a s::L))(hs:Ct.Rm 60 s):
  Calls prog 127 #[↑x,↑cb0,↑cb1] w λe w'=>CP S F m B ((λ_=>k (v==1)) x) s L e w':=by
 have h:=iI hm (bD _) (h.fr (.c r2 .n))
 refine bZ func127 ntmps127 h λw h=>?_
 refine jA h λb1 w h=>?_
 refine PM rfl rfl ((mA (h.fr (.c r1 (.c r3 .n))) (hs.less (by decide)) ((v:Int)==1)).mono ?_)
 rintro _ w ⟨s2,t3,c4,hq5,rfl,h⟩
 refine⟨_,rfl,?_⟩
 refine go h λw h=>?_
 refine rr (bP rfl rfl (h.b a2) Row.h) ?_
 exact fI (hq5) h.to
theorem Zh{β:Type}(S:dN)(F:β->Cc->As)(cb0 cb1 cb2:Nat)(t:Ct.bC)(v:Int)(thk:Fv)(k:Bool->Ct.I β){n m:Nat}(hm:m<=n)(x:Int)(s:Ct.St)(h:SH B w (rb cb0 ([S.v,↑t.root,↑t.readOnly]) 93::rb cb1 ([↑v]) 36::rb cb2 [thk.val] 98::gP S F n 60 dV k thk::S.a s::L))(hs:Ct.Rm 60 s):
  Calls prog 126 #[↑x,↑cb0,↑cb1,↑cb2] w λe w'=>CP S F m B ((λs_b=>Ct.iD t v s_b λ_=>k (s_b==1)) x) s L e w':=by
 have h:=iI hm (bD _) (h.fr (.c r3 .n))
 refine bZ func126 ntmps126 h λw h=>?_
 refine jX h λb1 w h=>?_
 refine jA h λb2 w h=>?_
 have h:=SH.kX (h.fr (.c r1 .n))
 refine go h λw h=>?_
 have h:=h.eT a0
 have h:=h.eT a6
 have h:=h.fr (.c r0 (.c r0 (.c r2 .n)))
 have h:=Me (j:=60) (S:=S) (F:=F) (n:=m) (args:=dQ) (k:=(λ_=>k (x==1))) (v:=(.fn 127 [] [↑cb2,↑b1])) [rb cb2 [thk.val] 98,rb b1 ([↑x]) 36,gP S F m 60 dV k thk] h λm' hm' B' w' L' s' x' h' hs'=>pR eF (Ug S F cb2 b1 thk k x (vL hm') x' s' h' (hs'.less (by decide)))
 refine cl (ca eF rfl) ((kK S F t v x (.fn 127 [] [↑cb2,↑b1]) (λ_=>k (x==1)) m s (h.fr (.c r0 (.c r5 .n))) (hs.less (by decide))).mono ?_)
 rintro _ w ⟨s3,t4,c5,hq6,rfl,h⟩
 refine⟨_,rfl,?_⟩
 refine sf (so h rfl rfl rfl fZ (eO _) (.r (.r (.r (.r (.r (.r (.r (.r (.r (.r (.r (.r (.r (.r .d)))))))))))))) u3)<|?_
 rintro _ w h
 refine xe<|nx<|rt<|?_
 refine go h λw h=>?_
 refine rr (bP rfl rfl (h.b a3) Row.h) ?_
 exact fI (hq6) h.to
theorem Wc{β:Type}(S:dN)(F:β->Cc->As)(cb0 cb1 cb2 cb3:Nat)(d:Ct.Node)(qd:Lq)(t:Ct.bC)(v:Int)(thk:Fv)(k:Bool->Ct.I β){n m:Nat}(hm:m<=n)(s:Ct.St)(h:SH B w (rb cb0 (aL d qd) 68::rb cb1 ([S.v,↑t.root,↑t.readOnly]) 93::rb cb2 ([↑v]) 36::rb cb3 [thk.val] 98::gP S F n 60 dV k thk::S.a s::L))(hs:Ct.Rm 60 s):
  Calls prog 125 #[↑cb0,↑cb1,↑cb2,↑cb3] w λe w'=>CP S F m B ((λ_=>.load (Ct.Node.status d) λs_b=>Ct.iD t v s_b λ_=>k (s_b==1)) ()) s L e w':=by
 have h:=iI hm (bD _) (h.fr (.c r4 .n))
 refine bZ func125 ntmps125 h λw h=>?_
 refine jA h λb1 w h=>?_
 refine cl (ca eF rfl) ((jH d.status (.fn 126 [] [↑cb1,↑cb2,↑cb3]) (h.fr .n)).mono ?_)
 rintro _ w ⟨rfl,h⟩
 refine⟨_,rfl,?_⟩
 refine sf (so h rfl rfl rfl fZ (eO _) (.r (.r (.r (.r (.r (.r (.r (.r (.r (.r (.r (.r (.r (.r .d)))))))))))))) u0)<|?_
 rintro _ w h
 refine xe<|nx<|rt<|?_
 refine go h λw h=>?_
 refine rr (bP rfl rfl (h.b a0) Row.h) ?_
 have h:=h.eT a5
 have h:=h.eT a5
 have h:=h.eT a5
 have h:=h.fr (.c r0 (.c r0 (.c r0 (.c r1 .n))))
 have h:=Nt (S:=S) (F:=F) (n:=m) (args:=dQ) (k:=(λs_b=>Ct.iD t v s_b λ_=>k (s_b==1))) (v:=(.fn 126 [] [↑cb1,↑cb2,↑cb3])) [rb cb1 ([S.v,↑t.root,↑t.readOnly]) 93,rb cb2 ([↑v]) 36,rb cb3 [thk.val] 98,gP S F m 60 dV k thk] h λm' hm' B' w' L' s' x' h' hs'=>pR eF (Zh S F cb1 cb2 cb3 t v thk k (vL hm') x' s' h' (hs'.less (by decide)))
 have h:=kL (a:=d.status) h
 exact fI (rfl) h.to
theorem uT{β:Type}(S:dN)(F:β->Cc->As)(cb0 cb1 cb2 cb3:Nat)(thk:Fv)(k:Bool->Ct.I β)(t:Ct.bC)(d:Ct.Node)(qd:Lq)(v:Int){n m:Nat}(hm:m<=n)(ok:Bool)(s:Ct.St)(h:SH B w (rb cb0 [thk.val] 98::rb cb1 ([S.v,↑t.root,↑t.readOnly]) 93::rb cb2 (aL d qd) 68::rb cb3 ([↑v]) 36::gP S F n 60 dV k thk::S.a s::L))(hs:Ct.Rm 60 s):
  Calls prog 124 #[↑ok,↑cb0,↑cb1,↑cb2,↑cb3] w λe w'=>CP S F m B ((λok_b=>bif !ok_b then k false else Ct.Fm t d (.load (Ct.Node.status d) λs_b=>Ct.iD t v s_b λ_=>k (s_b==1))) ok) s L e w':=by
 have h:=iI hm (bD _) (h.fr (.c r4 .n))
 refine bZ func124 ntmps124 h λw h=>?_
 refine jA h λb1 w h=>?_
 refine qc h (λhd2 w h=>?_) λhd2 w h=>?_
 refine Ma (mA (h.fr (.c r1 (.c r5 .n))) (hs.less (by decide)) false) λs4 t5 c6 hq7 w h=>?_
 refine rc h ?_
 exact fI (qT hd2 (hq7)) h.to
 have h:=h.eT a2
 have h:=h.eT a6
 have h:=h.eT a5
 have h:=h.eT a7
 have h:=h.fr (.c r0 (.c r0 (.c r0 (.c r0 (.c r1 .n)))))
 have h:=Me (j:=60) (S:=S) (F:=F) (n:=m) (args:=qI) (k:=(λ_=>.load (Ct.Node.status d) λs_b=>Ct.iD t v s_b λ_=>k (s_b==1))) (v:=(.fn 125 [] [↑cb2,↑cb1,↑cb3,↑cb0])) [rb cb2 (aL d qd) 68,rb cb1 ([S.v,↑t.root,↑t.readOnly]) 93,rb cb3 ([↑v]) 36,rb cb0 [thk.val] 98,gP S F m 60 dV k thk] h λm' hm' B' w' L' s' x' h' hs'=>pR eF (Wc S F cb2 cb1 cb3 cb0 d qd t v thk k (vL hm') s' h' (hs'.less (by decide)))
 refine fQ (Nw S F _ _ _ (.fn 125 [] [↑cb2,↑cb1,↑cb3,↑cb0]) (λ_=>.load (Ct.Node.status d) λs_b=>Ct.iD t v s_b λ_=>k (s_b==1)) _ _ h.to (hs.less (by decide))) λs9 t10 c11 hq12 w h=>?_
 refine rc h ?_
 exact fI (qF hd2 (hq12)) h.to
theorem Li{β:Type}(S:dN)(F:β->Cc->As)(t:Ct.bC)(o:Int)(ex:Int)(nw:Int)(thk:Fv)(k:Bool->Ct.I β)(n:Nat)(s:Ct.St)(h:SH B w (rD S F n 60 dV k thk::S.a s::L))(hs:Ct.Rm 30 s):
  Calls prog 77 #[.agg [S.v,↑t.root,↑t.readOnly].toArray,↑o,↑ex,↑nw,thk.val] w λe w'=>CP S F n B (Ct.lD t o ex nw k) s L e w':=by
 refine bZ func77 ntmps77 h λw h=>?_
 refine jX h λb1 w h=>?_
 refine jX h (hc:=lE _) λb2 w h=>?_
 refine jA h λb3 w h=>?_
 refine VS (F:=[bl b1 ([S.v,↑t.root,↑t.readOnly]) 93]) (.op 0 true (.op 1 true (.op 2 true (.op 3 true (.op 4 true (.op 6 true (.op 7 true (.fork 5 9 (.fork 8 9 (.op 9 false (.op 10 false .stop)) (.op 8 false (.op 10 false .stop))) (.op 5 false (.op 8 false (.op 10 false .stop))))))))))) (by kernel_rfl) h (λw h=>(hC (h.at_ a2) hN)) λw h=>go h λw h=>?_
 refine Mg ?_ ?_
 refine gO (Nj _ _ _ h.to) λw h=>?_
 refine Mg ?_ ?_
 refine cs (ci (S.sA h a4) rfl rfl) ((cQ S s ({kind:=8,dC:=o,aK:=ex,new:=nw}:Ct.Node) {} 0 (SH.eE ({kind:=8,dC:=o,aK:=ex,new:=nw}:Ct.Node) rfl rfl h.to) hs (Ct.bG _ 8 0 o ex nw)).mono ?_)
 rintro _ w ⟨rfl,h⟩
 have hs:=hs.alloc (Ct.bG _ 8 0 o ex nw) 0
 refine⟨_,rfl,(hC (h.at_ a3) hN),?_⟩
 refine jB h λb4 w h=>?_
 refine Vs S h (cK S (s.alloc ({kind:=8,dC:=o,aK:=ex,new:=nw}:Ct.Node) 0).1 (s.alloc ({kind:=8,dC:=o,aK:=ex,new:=nw}:Ct.Node) 0).2 h.to hs) λq5 w h=>?_
 refine jA h λb6 w h=>?_
 have h:=SH.kX (h.fr (.c r5 .n))
 have h:=SH.kX (h.fr (.c r6 .n))
 have h:=SH.kX (h.fr (.c r2 .n))
 have h:=SH.kX (h.fr (.c r5 .n))
 refine cl (ca eF rfl) ((iW t.root o (s.alloc ({kind:=8,dC:=o,aK:=ex,new:=nw}:Ct.Node) 0).2 (.fn 124 [] [↑b2,↑b1,↑b6,↑b4]) (h.fr .n)).mono ?_)
 rintro _ w ⟨rfl,h⟩
 refine⟨_,rfl,?_⟩
 refine sf (so h rfl rfl rfl fZ (eO _) (.r (.r (.r (.r (.r (.r (.r (.r (.r (.r (.r (.r (.r (.r .d)))))))))))))) u6)<|?_
 rintro _ w h
 refine xe<|nx<|rt<|?_
 refine rc h ?_
 have h:=h.eT a0
 have h:=h.eT a2
 have h:=h.eT a4
 have h:=h.eT a6
 have h:=h.fr (.c r0 (.c r0 (.c r0 (.c r0 (.c r7 .n)))))
 have h:=Nt (S:=S) (F:=F) (n:=n) (args:=dV) (k:=(λok_b=>bif !ok_b then k false else Ct.Fm t ((s.alloc ({kind:=8,dC:=o,aK:=ex,new:=nw}:Ct.Node) 0).1.node (s.alloc ({kind:=8,dC:=o,aK:=ex,new:=nw}:Ct.Node) 0).2) (.load (Ct.Node.status ((s.alloc ({kind:=8,dC:=o,aK:=ex,new:=nw}:Ct.Node) 0).1.node (s.alloc ({kind:=8,dC:=o,aK:=ex,new:=nw}:Ct.Node) 0).2)) λs_b=>Ct.iD t (s.alloc ({kind:=8,dC:=o,aK:=ex,new:=nw}:Ct.Node) 0).2 s_b λ_=>k (s_b==1)))) (v:=(.fn 124 [] [↑b2,↑b1,↑b6,↑b4])) [rb b2 [thk.val] 98,rb b1 ([S.v,↑t.root,↑t.readOnly]) 93,rb b6 (aL ((s.alloc ({kind:=8,dC:=o,aK:=ex,new:=nw}:Ct.Node) 0).1.node (s.alloc ({kind:=8,dC:=o,aK:=ex,new:=nw}:Ct.Node) 0).2) q5) 68,rb b4 ([.int .i64 (s.alloc ({kind:=8,dC:=o,aK:=ex,new:=nw}:Ct.Node) 0).2]) 36,rD S F n 60 dV k thk] h λm' hm' B' w' L' s' x' h' hs'=>pR eF (uT S F b2 b1 b6 b4 thk k t ((s.alloc ({kind:=8,dC:=o,aK:=ex,new:=nw}:Ct.Node) 0).1.node (s.alloc ({kind:=8,dC:=o,aK:=ex,new:=nw}:Ct.Node) 0).2) q5 (s.alloc ({kind:=8,dC:=o,aK:=ex,new:=nw}:Ct.Node) 0).2 (bD _) x' s' ((sB hm' (h'.fr (.c r4 .n))).fr (.c r1 (.c r1 (.c r1 (.c r1 (.c r0 .n)))))) (hs'.less (by decide)))
 have h:=kC (a:=t.root) (o:=o) (x:=(s.alloc ({kind:=8,dC:=o,aK:=ex,new:=nw}:Ct.Node) 0).2) h
 exact fI (qA (qN rfl)) h.to
 refine jB h λb7 w h=>?_
 refine cs (ci (S.sA h a5) rfl rfl) ((cQ S s ({kind:=8,dC:=o,aK:=ex,new:=nw}:Ct.Node) {} 0 (SH.eE ({kind:=8,dC:=o,aK:=ex,new:=nw}:Ct.Node) rfl rfl h.to) hs (Ct.bG _ 8 0 o ex nw)).mono ?_)
 rintro _ w ⟨rfl,h⟩
 have hs:=hs.alloc (Ct.bG _ 8 0 o ex nw) 0
 refine⟨_,rfl,(hC (h.at_ a4) hN),?_⟩
 refine go h λw h=>?_
 refine Vs S h (cK S (s.alloc ({kind:=8,dC:=o,aK:=ex,new:=nw}:Ct.Node) 0).1 (s.alloc ({kind:=8,dC:=o,aK:=ex,new:=nw}:Ct.Node) 0).2 h.to hs) λq8 w h=>?_
 refine jA h λb9 w h=>?_
 have h:=SH.kX (h.fr (.c r5 .n))
 have h:=SH.kX (h.fr (.c r6 .n))
 have h:=SH.kX (h.fr (.c r2 .n))
 have h:=SH.kX (h.fr (.c r5 .n))
 refine cl (ca eF rfl) ((iW t.root o (s.alloc ({kind:=8,dC:=o,aK:=ex,new:=nw}:Ct.Node) 0).2 (.fn 124 [] [↑b2,↑b1,↑b9,↑b7]) (h.fr .n)).mono ?_)
 rintro _ w ⟨rfl,h⟩
 refine⟨_,rfl,?_⟩
 refine sf (so h rfl rfl rfl fZ (eO _) (.r (.r (.r (.r (.r (.r (.r (.r (.r (.r (.r (.r (.r (.r .d)))))))))))))) u6)<|?_
 rintro _ w h
 refine xe<|nx<|rt<|?_
 refine rc h ?_
 have h:=h.eT a0
 have h:=h.eT a2
 have h:=h.eT a4
 have h:=h.eT a6
 have h:=h.fr (.c r0 (.c r0 (.c r0 (.c r0 (.c r7 .n)))))
 have h:=Nt (S:=S) (F:=F) (n:=n) (args:=dV) (k:=(λok_b=>bif !ok_b then k false else Ct.Fm t ((s.alloc ({kind:=8,dC:=o,aK:=ex,new:=nw}:Ct.Node) 0).1.node (s.alloc ({kind:=8,dC:=o,aK:=ex,new:=nw}:Ct.Node) 0).2) (.load (Ct.Node.status ((s.alloc ({kind:=8,dC:=o,aK:=ex,new:=nw}:Ct.Node) 0).1.node (s.alloc ({kind:=8,dC:=o,aK:=ex,new:=nw}:Ct.Node) 0).2)) λs_b=>Ct.iD t (s.alloc ({kind:=8,dC:=o,aK:=ex,new:=nw}:Ct.Node) 0).2 s_b λ_=>k (s_b==1)))) (v:=(.fn 124 [] [↑b2,↑b1,↑b9,↑b7])) [rb b2 [thk.val] 98,rb b1 ([S.v,↑t.root,↑t.readOnly]) 93,rb b9 (aL ((s.alloc ({kind:=8,dC:=o,aK:=ex,new:=nw}:Ct.Node) 0).1.node (s.alloc ({kind:=8,dC:=o,aK:=ex,new:=nw}:Ct.Node) 0).2) q8) 68,rb b7 ([.int .i64 (s.alloc ({kind:=8,dC:=o,aK:=ex,new:=nw}:Ct.Node) 0).2]) 36,rD S F n 60 dV k thk] h λm' hm' B' w' L' s' x' h' hs'=>pR eF (uT S F b2 b1 b9 b7 thk k t ((s.alloc ({kind:=8,dC:=o,aK:=ex,new:=nw}:Ct.Node) 0).1.node (s.alloc ({kind:=8,dC:=o,aK:=ex,new:=nw}:Ct.Node) 0).2) q8 (s.alloc ({kind:=8,dC:=o,aK:=ex,new:=nw}:Ct.Node) 0).2 (bD _) x' s' ((sB hm' (h'.fr (.c r4 .n))).fr (.c r1 (.c r1 (.c r1 (.c r1 (.c r0 .n)))))) (hs'.less (by decide)))
 have h:=kC (a:=t.root) (o:=o) (x:=(s.alloc ({kind:=8,dC:=o,aK:=ex,new:=nw}:Ct.Node) 0).2) h
 exact fI (qA (qN rfl)) h.to
 refine jB h λb10 w h=>?_
 refine gO (Nj _ _ _ h.to) λw h=>?_
 refine cs (ci (S.sA h a5) rfl rfl) ((cQ S s ({kind:=8,dC:=o,aK:=ex,new:=nw}:Ct.Node) {} 0 (SH.eE ({kind:=8,dC:=o,aK:=ex,new:=nw}:Ct.Node) rfl rfl h.to) hs (Ct.bG _ 8 0 o ex nw)).mono ?_)
 rintro _ w ⟨rfl,h⟩
 have hs:=hs.alloc (Ct.bG _ 8 0 o ex nw) 0
 refine⟨_,rfl,(hC (h.at_ a4) hN),?_⟩
 refine go h λw h=>?_
 refine Vs S h (cK S (s.alloc ({kind:=8,dC:=o,aK:=ex,new:=nw}:Ct.Node) 0).1 (s.alloc ({kind:=8,dC:=o,aK:=ex,new:=nw}:Ct.Node) 0).2 h.to hs) λq11 w h=>?_
 refine jA h λb12 w h=>?_
 have h:=SH.kX (h.fr (.c r5 .n))
 have h:=SH.kX (h.fr (.c r6 .n))
 have h:=SH.kX (h.fr (.c r2 .n))
 have h:=SH.kX (h.fr (.c r5 .n))
 refine cl (ca eF rfl) ((iW t.root o (s.alloc ({kind:=8,dC:=o,aK:=ex,new:=nw}:Ct.Node) 0).2 (.fn 124 [] [↑b2,↑b1,↑b12,↑b10]) (h.fr .n)).mono ?_)
 rintro _ w ⟨rfl,h⟩
 refine⟨_,rfl,?_⟩
 refine sf (so h rfl rfl rfl fZ (eO _) (.r (.r (.r (.r (.r (.r (.r (.r (.r (.r (.r (.r (.r (.r .d)))))))))))))) u6)<|?_
 rintro _ w h
 refine xe<|nx<|rt<|?_
 refine rc h ?_
 have h:=h.eT a0
 have h:=h.eT a2
 have h:=h.eT a4
 have h:=h.eT a6
 have h:=h.fr (.c r0 (.c r0 (.c r0 (.c r0 (.c r7 .n)))))
 have h:=Nt (S:=S) (F:=F) (n:=n) (args:=dV) (k:=(λok_b=>bif !ok_b then k false else Ct.Fm t ((s.alloc ({kind:=8,dC:=o,aK:=ex,new:=nw}:Ct.Node) 0).1.node (s.alloc ({kind:=8,dC:=o,aK:=ex,new:=nw}:Ct.Node) 0).2) (.load (Ct.Node.status ((s.alloc ({kind:=8,dC:=o,aK:=ex,new:=nw}:Ct.Node) 0).1.node (s.alloc ({kind:=8,dC:=o,aK:=ex,new:=nw}:Ct.Node) 0).2)) λs_b=>Ct.iD t (s.alloc ({kind:=8,dC:=o,aK:=ex,new:=nw}:Ct.Node) 0).2 s_b λ_=>k (s_b==1)))) (v:=(.fn 124 [] [↑b2,↑b1,↑b12,↑b10])) [rb b2 [thk.val] 98,rb b1 ([S.v,↑t.root,↑t.readOnly]) 93,rb b12 (aL ((s.alloc ({kind:=8,dC:=o,aK:=ex,new:=nw}:Ct.Node) 0).1.node (s.alloc ({kind:=8,dC:=o,aK:=ex,new:=nw}:Ct.Node) 0).2) q11) 68,rb b10 ([.int .i64 (s.alloc ({kind:=8,dC:=o,aK:=ex,new:=nw}:Ct.Node) 0).2]) 36,rD S F n 60 dV k thk] h λm' hm' B' w' L' s' x' h' hs'=>pR eF (uT S F b2 b1 b12 b10 thk k t ((s.alloc ({kind:=8,dC:=o,aK:=ex,new:=nw}:Ct.Node) 0).1.node (s.alloc ({kind:=8,dC:=o,aK:=ex,new:=nw}:Ct.Node) 0).2) q11 (s.alloc ({kind:=8,dC:=o,aK:=ex,new:=nw}:Ct.Node) 0).2 (bD _) x' s' ((sB hm' (h'.fr (.c r4 .n))).fr (.c r1 (.c r1 (.c r1 (.c r1 (.c r0 .n)))))) (hs'.less (by decide)))
 have h:=kC (a:=t.root) (o:=o) (x:=(s.alloc ({kind:=8,dC:=o,aK:=ex,new:=nw}:Ct.Node) 0).2) h
 exact fI (qA (qN rfl)) h.to
end Go.Q9
end
