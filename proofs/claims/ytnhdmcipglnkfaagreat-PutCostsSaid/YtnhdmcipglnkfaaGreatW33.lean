/- Parts of a proof: Ca. -/
import Derived.Test.YtnhdmcipglnkfaaGreatW32
set_option linter.unusedVariables false
set_option linter.unusedSimpArgs false
set_option maxRecDepth 100000
set_option maxHeartbeats 4000000
section
namespace Go.Q9
open Go.Proofs.Tryz
open Go.RowKit Go.E
attribute [local irreducible] gA wpS Go.E.X XS C kV lL fin Y U F Ca kU bl rb aV bS ex ce pu sK gK bK zK gG fE cZ gY mA rQ
open Go.Ct (qN qA qC qG qT qF)
variable{B w:World}{L:List As}
theorem B9(a:Int)(f:FuncId)(ff fc:List Value)(h:SH B w (L)):
  Calls prog 38 #[↑a,.func (.func f) ff.toArray fc.toArray] w λe w'=>e=.returned (.agg (Cm (sF a (.fn f ff fc))).toArray)/\SH B w' L:=by
 refine cN func38 ntmps38 h λw h=>?_
 refine jA h λb1 w h=>?_
 exact rr (cD rfl rfl (h.b a0) Row.h)<|⟨rfl,h.drop⟩
theorem XU(a:Int)(h:SH B w (L)):
  Calls prog 38 #[↑a,.nilFunc] w λe w'=>e=.returned (.agg (Cm (sF a .nil)).toArray)/\SH B w' L:=by
 refine cN func38 ntmps38 h λw h=>?_
 refine jA h λb1 w h=>?_
 exact rr (cD rfl rfl (h.b a0) Row.h)<|⟨rfl,h.drop⟩
theorem nJ(a:Int)(v:Fv)(h:SH B w L):
  Calls prog 38 #[↑a,v.val] w λe w'=>e=.returned (.agg (Cm (sF a v)).toArray)/\SH B w' L:=by
 cases v with
 |nil=>exact XU a h
 |fn f ff fc=>exact B9 a f ff fc h
theorem Y5(a o x:Int)(f:FuncId)(ff fc:List Value)(h:SH B w (L)):
  Calls prog 126 #[↑a,↑o,↑x,.func (.func f) ff.toArray fc.toArray] w λe w'=>e=.returned (.agg (Cm (Bo a o x (.fn f ff fc))).toArray)/\SH B w' L:=by
 refine cN func126 ntmps126 h λw h=>?_
 refine jA h λb1 w h=>?_
 exact rr (cD rfl rfl (h.b a0) Row.h)<|⟨rfl,h.drop⟩
theorem H9(a o x:Int)(h:SH B w (L)):
  Calls prog 126 #[↑a,↑o,↑x,.nilFunc] w λe w'=>e=.returned (.agg (Cm (Bo a o x .nil)).toArray)/\SH B w' L:=by
 refine cN func126 ntmps126 h λw h=>?_
 refine jA h λb1 w h=>?_
 exact rr (cD rfl rfl (h.b a0) Row.h)<|⟨rfl,h.drop⟩
theorem pG(a o x:Int)(v:Fv)(h:SH B w L):
  Calls prog 126 #[↑a,↑o,↑x,v.val] w λe w'=>e=.returned (.agg (Cm (Bo a o x v)).toArray)/\SH B w' L:=by
 cases v with
 |nil=>exact H9 a o x h
 |fn f ff fc=>exact Y5 a o x f ff fc h
theorem oG(r:Ct.Result)(h:SH B w (L)):
  Calls prog 77 #[.agg (B5 r).toArray] w λe w'=>e=.returned (.agg (Cm (TI r)).toArray)/\SH B w' L:=by
 refine cN func77 ntmps77 h λw h=>?_
 refine jX h λb1 w h=>?_
 refine jA h λb2 w h=>?_
 exact rr (cD rfl rfl (h.b a0) Row.h)<|⟨rfl,h.drop.drop⟩
theorem JH(o:Int)(h:SH B w (L)):
  Calls prog 165 #[↑o] w λe w'=>e=.returned (.agg (aK {kind:=7,dO:=o} {}).toArray)/\SH B w' L:=by
 refine cN func165 ntmps165 h λw h=>?_
 refine jA h λb1 w h=>?_
 exact rr (cD rfl rfl (h.b a0) Row.h)<|⟨rfl,h.drop⟩
theorem ND(h:SH B w (L)):
  Calls prog 138 #[] w λe w'=>e=.returned (.agg (aK {kind:=3} {}).toArray)/\SH B w' L:=by
 refine cN func138 ntmps138 h λw h=>?_
 refine jA h λb1 w h=>?_
 exact rr (cD rfl rfl (h.b a0) Row.h)<|⟨rfl,h.drop⟩
theorem tJ(x:Int)(h:SH B w (L)):
  Calls prog 118 #[↑x] w λe w'=>e=.returned (.agg (aK {kind:=2,gen:=x} {}).toArray)/\SH B w' L:=by
 refine cN func118 ntmps118 h λw h=>?_
 refine jA h λb1 w h=>?_
 exact rr (cD rfl rfl (h.b a0) Row.h)<|⟨rfl,h.drop⟩
theorem xV{β:Type}(S:fX)(F:β->Cc->As)(gX fM:Nat)(thk:Fv)(k:Int->Ct.I β)(v:Int){n m:Nat}(hm:m<=n)(x:Bool)(s:Ct.St)(h:SH B w (rb gX [thk.val] 91::rb fM ([↑v]) 44::gY S F n 60 eM k thk::S.a s::L))(hs:Ct.Rm 60 s):
  Calls prog 170 #[↑x,↑gX,↑fM] w λe w'=>CP S F m B ((λ_=>k v) x) s L e w':=by
 have h:=gL hm (aW _) (h.fr (.c r2 .n))
 refine cN func170 ntmps170 h λw h=>?_
 refine jA h λb1 w h=>?_
 refine O6 rfl rfl ((pR (h.fr (.c r1 (.c r3 .n))) (hs.less (by decide)) v).mono ?_)
 rintro _ w ⟨s2,t3,c4,Vo,rfl,h⟩
 refine⟨_,rfl,?_⟩
 refine go h λw h=>?_
 refine rr (cD rfl rfl (h.b a2) Row.h) ?_
 exact jW (Vo) h.to
theorem oW{β:Type}(S:fX)(F:β->Cc->As)(t:Ct.aX)(v:Int)(x:Int)(thk:Fv)(k:Int->Ct.I β)(n:Nat)(s:Ct.St)(h:SH B w (rQ S F n 60 eM k thk::S.a s::L))(hs:Ct.Rm 30 s):
  Calls prog 121 #[.agg [S.v,↑t.root,↑t.readOnly].toArray,↑v,↑x,thk.val] w λe w'=>CP S F n B (Ct.mN t v x k) s L e w':=by
 refine cN func121 ntmps121 h λw h=>?_
 refine jX h λb1 w h=>?_
 refine jX h (hc:=oY _) λb2 w h=>?_
 refine jA h λb3 w h=>?_
 refine F4 S h (dK S s v h.to hs) λq4 w h=>?_
 refine jA h λb5 w h=>?_
 refine jA h λb6 w h=>?_
 refine qc h (λfF w h=>?_) λfF w h=>?_
 have h:=SH.tH (h.fr (.c r5 .n))
 have h:=SH.tH (h.fr (.c r1 .n))
 refine bQ (pG _ _ _ (.fn 170 [] [↑b2,↑b6]) h.to) λw h=>?_
 refine rc h ?_
 have h:=h.jF a0
 have h:=h.jF a2
 have h:=h.fr (.c r0 (.c r0 (.c r7 .n)))
 have h:=KN (S:=S) (F:=F) (n:=n) (args:=iC) (k:=(λ_=>k (s.node v).new)) (v:=(.fn 170 [] [↑b2,↑b6])) [rb b2 [thk.val] 91,rb b6 ([.int .i64 (s.node v).new]) 44,rQ S F n 60 eM k thk] h λm' nN B' w' L' s' x' h' mD=>Bt eF (xV S F b2 b6 thk k (s.node v).new (aW _) x' s' ((Cu nN (h'.fr (.c r2 .n))).fr (.c r1 (.c r1 (.c r0 .n)))) (mD.less (by decide)))
 have h:=kC (a:=t.root) (o:=v) (x:=(s.node v).new) h
 exact jW (qN (qT fF rfl)) h.to
 have h:=SH.tH (h.fr (.c r5 .n))
 have h:=SH.tH (h.fr (.c r1 .n))
 refine bQ (pG _ _ _ (.fn 170 [] [↑b2,↑b6]) h.to) λw h=>?_
 refine rc h ?_
 have h:=h.jF a0
 have h:=h.jF a2
 have h:=h.fr (.c r0 (.c r0 (.c r7 .n)))
 have h:=KN (S:=S) (F:=F) (n:=n) (args:=iC) (k:=(λ_=>k (s.node v).dO)) (v:=(.fn 170 [] [↑b2,↑b6])) [rb b2 [thk.val] 91,rb b6 ([.int .i64 (s.node v).dO]) 44,rQ S F n 60 eM k thk] h λm' nN B' w' L' s' x' h' mD=>Bt eF (xV S F b2 b6 thk k (s.node v).dO (aW _) x' s' ((Cu nN (h'.fr (.c r2 .n))).fr (.c r1 (.c r1 (.c r0 .n)))) (mD.less (by decide)))
 have h:=kC (a:=t.root) (o:=v) (x:=(s.node v).dO) h
 exact jW (qN (qF fF rfl)) h.to
theorem FM{β:Type}(S:fX)(F:β->Cc->As)(gX fM:Nat)(thk:Fv)(k:Int->Ct.I β)(v:Int){n m:Nat}(hm:m<=n)(x:Bool)(s:Ct.St)(h:SH B w (rb gX [thk.val] 91::rb fM ([↑v]) 44::gY S F n 60 eM k thk::S.a s::L))(hs:Ct.Rm 60 s):
  Calls prog 164 #[↑x,↑gX,↑fM] w λe w'=>CP S F m B ((λ_=>k v) x) s L e w':=by
 have h:=gL hm (aW _) (h.fr (.c r2 .n))
 refine cN func164 ntmps164 h λw h=>?_
 refine jA h λb1 w h=>?_
 refine O6 rfl rfl ((pR (h.fr (.c r1 (.c r3 .n))) (hs.less (by decide)) v).mono ?_)
 rintro _ w ⟨s2,t3,c4,Vo,rfl,h⟩
 refine⟨_,rfl,?_⟩
 refine go h λw h=>?_
 refine rr (cD rfl rfl (h.b a2) Row.h) ?_
 exact jW (Vo) h.to
theorem Pd{β:Type}(S:fX)(F:β->Cc->As)(t:Ct.aX)(i:Int)(m:Int)(p:Int)(thk:Fv)(k:Int->Ct.I β)(n:Nat)(s:Ct.St)(h:SH B w (rQ S F n 60 eM k thk::S.a s::L))(hs:Ct.Rm 30 s):
  Calls prog 112 #[.agg [S.v,↑t.root,↑t.readOnly].toArray,↑i,↑m,↑p,thk.val] w λe w'=>CP S F n B (Ct.Gc i m p k) s L e w':=by
 refine cN func112 ntmps112 h λw h=>?_
 refine jX h λb1 w h=>?_
 refine sf (bx h rfl (oY _)) ?_
 rintro _ w ⟨b2,rfl,h⟩
 refine go h λw h=>?_
 refine jA h λb3 w h=>?_
 refine cl (ci (S.sN h a4) rfl rfl) ((dK S s p h.to hs).mono ?_)
 rintro _ w ⟨q4,rfl,h⟩
 refine⟨_,rfl,?_⟩
 refine go h λw h=>?_
 refine jA h λb5 w h=>?_
 have h:=SH.tH (h.fr (.c r4 .n))
 have h:=SH.tH (h.fr (.c r1 .n))
 refine fD [1,3,5,11,13,15,6,9,16,18] (by kernel_rfl) h (.c r5 (.c r0 .n)) λw h=>go h λw h=>?_
 refine cs (ci (S.sN h a3) rfl rfl) ((dK S s i h.to hs).mono ?_)
 rintro _ w ⟨q6,rfl,h⟩
 refine⟨_,rfl,h.hs (.c r6 (.c r2 .n)),?_⟩
 refine go h λw h=>?_
 refine qB (pG _ _ _ (.fn 164 [] [↑b2,↑b5]) h.to) λw h=>?_
 refine rr (cD rfl rfl (h.b a5) Row.h) ?_
 have h:=h.jF a2
 have h:=h.jF a4
 have h:=h.fr (.c r0 (.c r0 (.c r7 .n)))
 have h:=KN (S:=S) (F:=F) (n:=n) (args:=iC) (k:=(λ_=>k (s.node p).dO)) (v:=(.fn 164 [] [↑b2,↑b5])) [rb b2 [thk.val] 91,rb b5 ([.int .i64 (s.node p).dO]) 44,rQ S F n 60 eM k thk] h λm' nN B' w' L' s' x' h' mD=>Bt eF (FM S F b2 b5 thk k (s.node p).dO (aW _) x' s' ((Cu nN (h'.fr (.c r2 .n))).fr (.c r1 (.c r1 (.c r0 .n)))) (mD.less (by decide)))
 have h:=kC (a:=(s.node i).main) (o:=m) (x:=(s.node p).dO) h
 exact jW (qN (qN rfl)) h.to
theorem JB{β:Type}(S:fX)(F:β->Cc->As)(gX fM jD:Nat)(t:Ct.aX)(v:Int)(thk:Fv)(k:Int->Ct.I β){n m:Nat}(hm:m<=n)(x:Int)(s:Ct.St)(h:SH B w (rb gX ([S.v,↑t.root,↑t.readOnly]) 87::rb fM ([↑v]) 44::rb jD [thk.val] 91::gY S F n 60 eM k thk::S.a s::L))(hs:Ct.Rm 60 s):
  Calls prog 169 #[↑x,↑gX,↑fM,↑jD] w λe w'=>CP S F m B ((λs_b=>Ct.mN t v s_b k) x) s L e w':=by
 have h:=gL hm (aW _) (h.fr (.c r3 .n))
 refine cN func169 ntmps169 h λw h=>?_
 refine jA h λb1 w h=>?_
 have h:=AO (j:=60) (by decide) (h.fr (.c r1 .n))
 refine cl (ca eF rfl) ((oW S F t v x thk k m s (h.fr (.c r0 (.c r4 .n))) (hs.less (by decide))).mono ?_)
 rintro _ w ⟨s2,t3,c4,Vo,rfl,h⟩
 refine⟨_,rfl,?_⟩
 refine sf (so h rfl rfl rfl uI (kF _) (.r (.r (.r (.r (.r (.r (.r (.r (.r (.r (.r (.r (.r (.r .d)))))))))))))) u2)<|?_
 rintro _ w h
 refine xe<|nx<|rt<|?_
 refine go h λw h=>?_
 refine rr (cD rfl rfl (h.b a2) Row.h) ?_
 exact jW (Vo) h.to
theorem GC{β:Type}(S:fX)(F:β->Cc->As)(gX fM jD lR:Nat)(d:Ct.Node)(qd:Lq)(t:Ct.aX)(v:Int)(thk:Fv)(k:Int->Ct.I β){n m:Nat}(hm:m<=n)(x:Bool)(s:Ct.St)(h:SH B w (rb gX (aK d qd) 53::rb fM ([S.v,↑t.root,↑t.readOnly]) 87::rb jD ([↑v]) 44::rb lR [thk.val] 91::gY S F n 60 eM k thk::S.a s::L))(hs:Ct.Rm 60 s):
  Calls prog 168 #[↑x,↑gX,↑fM,↑jD,↑lR] w λe w'=>CP S F m B ((λ_=>.load (Ct.Node.status d) λs_b=>Ct.mN t v s_b k) x) s L e w':=by
 have h:=gL hm (aW _) (h.fr (.c r4 .n))
 refine cN func168 ntmps168 h λw h=>?_
 refine jA h λb1 w h=>?_
 refine cl (ca eF rfl) ((nJ d.status (.fn 169 [] [↑fM,↑jD,↑lR]) (h.fr .n)).mono ?_)
 rintro _ w ⟨rfl,h⟩
 refine⟨_,rfl,?_⟩
 refine sf (so h rfl rfl rfl uI (kF _) (.r (.r (.r (.r (.r (.r (.r (.r (.r (.r (.r (.r (.r (.r .d)))))))))))))) u0)<|?_
 rintro _ w h
 refine xe<|nx<|rt<|?_
 refine go h λw h=>?_
 refine rr (cD rfl rfl (h.b a0) Row.h) ?_
 have h:=h.jF a5
 have h:=h.jF a5
 have h:=h.jF a5
 have h:=h.fr (.c r0 (.c r0 (.c r0 (.c r1 .n))))
 have h:=KN (S:=S) (F:=F) (n:=m) (args:=eM) (k:=(λs_b=>Ct.mN t v s_b k)) (v:=(.fn 169 [] [↑fM,↑jD,↑lR])) [rb fM ([S.v,↑t.root,↑t.readOnly]) 87,rb jD ([↑v]) 44,rb lR [thk.val] 91,gY S F m 60 eM k thk] h λm' nN B' w' L' s' x' h' mD=>Bt eF (JB S F fM jD lR t v thk k (wO nN) x' s' h' (mD.less (by decide)))
 have h:=kL (a:=d.status) h
 exact jW (rfl) h.to
theorem EL{β:Type}(S:fX)(F:β->Cc->As)(gX fM jD lR:Nat)(t:Ct.aX)(v:Int)(thk:Fv)(k:Int->Ct.I β)(d:Ct.Node)(qd:Lq){n m:Nat}(hm:m<=n)(x:Int)(s:Ct.St)(h:SH B w (rb gX ([S.v,↑t.root,↑t.readOnly]) 87::rb fM ([↑v]) 44::rb jD [thk.val] 91::rb lR (aK d qd) 53::gY S F n 60 eM k thk::S.a s::L))(hs:Ct.Rm 60 s):
  Calls prog 167 #[↑x,↑gX,↑fM,↑jD,↑lR] w λe w'=>CP S F m B ((λs_b=>bif s_b != 0 then Ct.mN t v s_b k else .cH (Ct.Node.status d) 0 2 λ_=>.load (Ct.Node.status d) λs_b=>Ct.mN t v s_b k) x) s L e w':=by
 have h:=gL hm (aW _) (h.fr (.c r4 .n))
 refine cN func167 ntmps167 h λw h=>?_
 refine jA h λb1 w h=>?_
 refine qc h (λcO w h=>?_) λcO w h=>?_
 have h:=AO (j:=60) (by decide) (h.fr (.c r1 .n))
 refine lA (oW S F _ _ _ thk k _ _ h.to (hs.less (by decide))) λs4 t5 c6 PZ w h=>?_
 refine rc h ?_
 exact jW (qT cO (PZ)) h.to
 refine bQ (pG _ _ _ (.fn 168 [] [↑lR,↑gX,↑fM,↑jD]) h.to) λw h=>?_
 refine rc h ?_
 have h:=h.jF a4
 have h:=h.jF a4
 have h:=h.jF a4
 have h:=h.jF a8
 have h:=h.fr (.c r0 (.c r0 (.c r0 (.c r0 (.c r1 .n)))))
 have h:=KN (S:=S) (F:=F) (n:=m) (args:=iC) (k:=(λ_=>.load (Ct.Node.status d) λs_b=>Ct.mN t v s_b k)) (v:=(.fn 168 [] [↑lR,↑gX,↑fM,↑jD])) [rb lR (aK d qd) 53,rb gX ([S.v,↑t.root,↑t.readOnly]) 87,rb fM ([↑v]) 44,rb jD [thk.val] 91,gY S F m 60 eM k thk] h λm' nN B' w' L' s' x' h' mD=>Bt eF (GC S F lR gX fM jD d qd t v thk k (wO nN) x' s' h' (mD.less (by decide)))
 have h:=kC (a:=d.status) (o:=0) (x:=2) h
 exact jW (qF cO rfl) h.to
theorem HU{β:Type}(S:fX)(F:β->Cc->As)(gX fM:Nat)(t:Ct.aX)(thk:Fv)(k:Int->Ct.I β){n m:Nat}(hm:m<=n)(x:Int)(s:Ct.St)(h:SH B w (rb gX ([S.v,↑t.root,↑t.readOnly]) 87::rb fM [thk.val] 91::gY S F n 60 eM k thk::S.a s::L))(hs:Ct.Rm 60 s):
  Calls prog 166 #[↑x,↑gX,↑fM] w λe w'=>CP S F m B ((λv_b=>.node v_b λd_b=>bif d_b.kind==2 then k v_b else .load d_b.status λs_b=>bif s_b != 0 then Ct.mN t v_b s_b k else .cH d_b.status 0 2 λ_=>.load d_b.status λs_b=>Ct.mN t v_b s_b k) x) s L e w':=by
 have h:=gL hm (aW _) (h.fr (.c r2 .n))
 refine cN func166 ntmps166 h λw h=>?_
 refine jX h λb1 w h=>?_
 refine jA h λb2 w h=>?_
 refine F4 S h (dK S s x h.to hs) λq3 w h=>?_
 refine jA h λb4 w h=>?_
 refine qc h (λdM w h=>?_) λdM w h=>?_
 refine AT (pR (h.fr (.c r5 (.c r2 .n))) (hs.less (by decide)) x) λs7 t8 c9 Ju w h=>?_
 refine rc h ?_
 exact jW (qN (qT dM (Ju))) h.to
 have h:=SH.tH (h.fr (.c r4 .n))
 have h:=SH.tH (h.fr (.c r1 .n))
 refine bQ (nJ _ (.fn 167 [] [↑gX,↑b1,↑fM,↑b4]) h.to) λw h=>?_
 refine rc h ?_
 have h:=h.jF a0
 have h:=h.jF a8
 have h:=h.jF a3
 have h:=h.jF a9
 have h:=h.fr (.c r0 (.c r0 (.c r0 (.c r0 (.c r5 .n)))))
 have h:=KN (S:=S) (F:=F) (n:=m) (args:=eM) (k:=(λs_b=>bif s_b != 0 then Ct.mN t x s_b k else .cH (Ct.Node.status (s.node x)) 0 2 λ_=>.load (Ct.Node.status (s.node x)) λs_b=>Ct.mN t x s_b k)) (v:=(.fn 167 [] [↑gX,↑b1,↑fM,↑b4])) [rb gX ([S.v,↑t.root,↑t.readOnly]) 87,rb b1 ([↑x]) 44,rb fM [thk.val] 91,rb b4 (aK (s.node x) q3) 53,gY S F m 60 eM k thk] h λm' nN B' w' L' s' x' h' mD=>Bt eF (EL S F gX b1 fM b4 t x thk k (s.node x) q3 (wO nN) x' s' h' (mD.less (by decide)))
 have h:=kL (a:=(s.node x).status) h
 exact jW (qN (qF dM rfl)) h.to
theorem LX{β:Type}(S:fX)(F:β->Cc->As)(t:Ct.aX)(thk:Fv)(k:Int->Ct.I β)(n:Nat)(s:Ct.St)(h:SH B w (rQ S F n 60 eM k thk::S.a s::L))(hs:Ct.Rm 30 s):
  Calls prog 116 #[.agg [S.v,↑t.root,↑t.readOnly].toArray,thk.val] w λe w'=>CP S F n B (Ct.Vz t k) s L e w':=by
 refine cN func116 ntmps116 h λw h=>?_
 refine jX h λb1 w h=>?_
 refine sf (bx h rfl (oY _)) ?_
 rintro _ w ⟨b2,rfl,h⟩
 refine go h λw h=>?_
 refine jA h λb3 w h=>?_
 have h:=SH.tH (h.fr (.c r2 .n))
 have h:=SH.tH (h.fr (.c r2 .n))
 refine go h λw h=>?_
 refine cl (ca eF rfl) ((nJ t.root (.fn 166 [] [↑b1,↑b2]) (h.fr .n)).mono ?_)
 rintro _ w ⟨rfl,h⟩
 refine⟨_,rfl,?_⟩
 refine sf (so h rfl rfl rfl uI (kF _) (.r (.r (.r (.r (.r (.r (.r (.r (.r (.r (.r (.r (.r (.r .d)))))))))))))) u2)<|?_
 rintro _ w h
 refine xe<|nx<|rt<|?_
 refine go h λw h=>?_
 refine rr (cD rfl rfl (h.b a2) Row.h) ?_
 have h:=h.jF a0
 have h:=h.jF a2
 have h:=h.fr (.c r0 (.c r0 (.c r3 .n)))
 have h:=KN (S:=S) (F:=F) (n:=n) (args:=eM) (k:=(λv_b=>.node v_b λd_b=>bif d_b.kind==2 then k v_b else .load d_b.status λs_b=>bif s_b != 0 then Ct.mN t v_b s_b k else .cH d_b.status 0 2 λ_=>.load d_b.status λs_b=>Ct.mN t v_b s_b k)) (v:=(.fn 166 [] [↑b1,↑b2])) [rb b1 ([S.v,↑t.root,↑t.readOnly]) 87,rb b2 [thk.val] 91,rQ S F n 60 eM k thk] h λm' nN B' w' L' s' x' h' mD=>Bt eF (HU S F b1 b2 t thk k (aW _) x' s' ((Cu nN (h'.fr (.c r2 .n))).fr (.c r1 (.c r1 (.c r0 .n)))) (mD.less (by decide)))
 have h:=kL (a:=t.root) h
 exact jW (rfl) h.to
theorem Fb{β:Type}(S:fX)(F:β->Cc->As)(t:Ct.aX)(prev:Int)(p:Int)(commit:Bool)(thk:Fv)(k:Bool->Ct.I β)(n:Nat)(s:Ct.St)(h:SH B w (rQ S F n 60 iC k thk::S.a s::L))(hs:Ct.Rm 30 s):
  Calls prog 115 #[.agg [S.v,↑t.root,↑t.readOnly].toArray,↑prev,↑p,↑commit,thk.val] w λe w'=>CP S F n B (Ct.oB prev p commit k) s L e w':=by
 refine cN func115 ntmps115 h λw h=>?_
 refine jX h λb1 w h=>?_
 refine jA h λb2 w h=>?_
 refine qc h (λcJ w h=>?_) λcJ w h=>?_
 refine bQ (pG _ _ _ thk h.to) λw h=>?_
 refine rr (cD rfl rfl (h.b a0) Row.h) ?_
 have h:=aI8 (by decide) (h.fr (.c r2 .n))
 have h:=kC (a:=prev) (o:=p) (x:=0) h
 exact jW (qT cJ rfl) h.to
 refine fD [1,3,5,9,11,6,12,14] (by kernel_rfl) h (.c r1 .n) λw h=>go h λw h=>?_
 refine qB (JH _ h.to) λw h=>?_
 refine cs (ci (S.sA h a3) rfl rfl) ((dY S s ({kind:=7,dO:=p}:Ct.Node) {} 0 (SH.fI ({kind:=7,dO:=p}:Ct.Node) rfl rfl h.to) hs (Ct.bP _ 7 0 p 0 0)).mono ?_)
 rintro _ w ⟨rfl,h⟩
 have hs:=hs.alloc (Ct.bP _ 7 0 p 0 0) 0
 refine⟨_,rfl,h.hs (.c r2 .n),?_⟩
 refine go h λw h=>?_
 refine bQ (pG _ _ _ thk h.to) λw h=>?_
 refine rr (cD rfl rfl (h.b a1) Row.h) ?_
 have h:=aI8 (by decide) (h.fr (.c r3 .n))
 have h:=kC (a:=prev) (o:=p) (x:=(s.alloc ({kind:=7,dO:=p}:Ct.Node) 0).2) h
 exact jW (qF cJ (qA rfl)) h.to
theorem Vi{β:Type}(S:fX)(F:β->Cc->As)(gX fM jD lR:Nat)(thk:Fv)(k:Int->Ct.I β)(m0:Int)(t:Ct.aX)(i:Int){n m:Nat}(hm:m<=n)(x:Int)(s:Ct.St)(h:SH B w (rb gX [thk.val] 91::rb fM ([↑m0]) 44::rb jD ([S.v,↑t.root,↑t.readOnly]) 87::rb lR ([↑i]) 44::gY S F n 60 eM k thk::S.a s::L))(hs:Ct.Rm 60 s):
  Calls prog 114 #[↑x,↑gX,↑fM,↑jD,↑lR] w λe w'=>CP S F m B ((λp_b=>bif p_b==0 then k m0 else Ct.Gc i m0 p_b k) x) s L e w':=by
 have h:=gL hm (aW _) (h.fr (.c r4 .n))
 refine cN func114 ntmps114 h λw h=>?_
 refine jA h λb1 w h=>?_
 refine qc h (λcO w h=>?_) λcO w h=>?_
 have Lt:=eq_of_beq cO
 refine go h λw h=>?_
 refine O6 rfl rfl ((pR (h.fr (.c r1 (.c r5 .n))) (hs.less (by decide)) m0).mono ?_)
 rintro _ w ⟨s4,t5,c6,PZ,rfl,h⟩
 refine⟨_,rfl,?_⟩
 refine go h λw h=>?_
 refine rr (cD rfl rfl (h.b a2) Row.h) ?_
 exact jW (qT cO (PZ)) h.to
 have Ua:=bM cO
 refine go h λw h=>?_
 have h:=AO (j:=60) (by decide) (h.fr (.c r1 .n))
 refine lA (Pd S F _ _ _ _ thk k _ _ h.to (hs.less (by decide))) λs9 t10 c11 Ty w h=>?_
 refine rr (cD rfl rfl (h.b a2) Row.h) ?_
 exact jW (qF cO (Ty)) h.to
theorem Co{β:Type}(S:fX)(F:β->Cc->As)(gX fM jD lR vF:Nat)(prev:Int)(thk:Fv)(k:Int->Ct.I β)(m0:Int)(t:Ct.aX)(i:Int){n m:Nat}(hm:m<=n)(x:Bool)(s:Ct.St)(h:SH B w (rb gX ([↑prev]) 33::rb fM [thk.val] 91::rb jD ([↑m0]) 44::rb lR ([S.v,↑t.root,↑t.readOnly]) 87::rb vF ([↑i]) 44::gY S F n 60 eM k thk::S.a s::L))(hs:Ct.Rm 60 s):
  Calls prog 113 #[↑x,↑gX,↑fM,↑jD,↑lR,↑vF] w λe w'=>CP S F m B ((Ct.mI prev i m0 k) x) s L e w':=by
 have h:=gL hm (aW _) (h.fr (.c r5 .n))
 refine cN func113 ntmps113 h λw h=>?_
 refine jA h λb1 w h=>?_
 refine cl (ca eF rfl) ((nJ prev (.fn 114 [] [↑fM,↑jD,↑lR,↑vF]) (h.fr .n)).mono ?_)
 rintro _ w ⟨rfl,h⟩
 refine⟨_,rfl,?_⟩
 refine sf (so h rfl rfl rfl uI (kF _) (.r (.r (.r (.r (.r (.r (.r (.r (.r (.r (.r (.r (.r (.r .d)))))))))))))) u0)<|?_
 rintro _ w h
 refine xe<|nx<|rt<|?_
 refine go h λw h=>?_
 refine rr (cD rfl rfl (h.b a0) Row.h) ?_
 have h:=h.jF a6
 have h:=h.jF a6
 have h:=h.jF a6
 have h:=h.jF a6
 have h:=h.fr (.c r0 (.c r0 (.c r0 (.c r0 (.c r1 .n)))))
 have h:=KN (S:=S) (F:=F) (n:=m) (args:=eM) (k:=(λp_b=>bif p_b==0 then k m0 else Ct.Gc i m0 p_b k)) (v:=(.fn 114 [] [↑fM,↑jD,↑lR,↑vF])) [rb fM [thk.val] 91,rb jD ([↑m0]) 44,rb lR ([S.v,↑t.root,↑t.readOnly]) 87,rb vF ([↑i]) 44,gY S F m 60 eM k thk] h λm' nN B' w' L' s' x' h' mD=>Bt eF (Vi S F fM jD lR vF thk k m0 t i (wO nN) x' s' h' (mD.less (by decide)))
 have h:=kL (a:=prev) h
 exact jW (rfl) h.to
theorem Uz{β:Type}(S:fX)(F:β->Cc->As)(gX fM jD lR vF:Nat)(t:Ct.aX)(i:Int)(prev:Int)(p:Int)(thk:Fv)(k:Bool->Ct.I β){n m:Nat}(hm:m<=n)(x:Int)(s:Ct.St)(h:SH B w (rb gX ([S.v,↑t.root,↑t.readOnly]) 87::rb fM ([↑i]) 44::rb jD ([↑prev]) 33::rb lR ([↑p]) 44::rb vF [thk.val] 92::gY S F n 60 iC k thk::S.a s::L))(hs:Ct.Rm 60 s):
  Calls prog 117 #[↑x,↑gX,↑fM,↑jD,↑lR,↑vF] w λe w'=>CP S F m B ((λr_b=>.node r_b λa_b=>.node i λb_b=>Ct.oB prev p (a_b.gen==b_b.gen) k) x) s L e w':=by
 have h:=gL hm (aW _) (h.fr (.c r5 .n))
 refine cN func117 ntmps117 h λw h=>?_
 refine jA h λb1 w h=>?_
 refine fD [1,3,5,11,13,15,6,9,16,19,21,22] (by kernel_rfl) h (.c r2 (.c r2 .n)) λw h=>go h λw h=>?_
 refine cs (ci (S.sN h a7) rfl rfl) ((dK S s x h.to hs).mono ?_)
 rintro _ w ⟨q2,rfl,h⟩
 refine⟨_,rfl,h.hs (.c r4 (.c r4 .n)),?_⟩
 refine go h λw h=>?_
 refine cs (ci (S.sN h a1) rfl rfl) ((dK S s i h.to hs).mono ?_)
 rintro _ w ⟨q3,rfl,h⟩
 refine⟨_,rfl,h.hs (.c r5 (.c r5 .n)),?_⟩
 refine go h λw h=>?_
 have h:=AO (j:=60) (by decide) (h.fr (.c r4 .n))
 refine cl (ca eF rfl) ((Fb S F t prev p (((s.node x).gen:Int)==(s.node i).gen) thk k m s (h.fr (.c r0 (.c r1 .n))) (hs.less (by decide))).mono ?_)
 rintro _ w ⟨s4,t5,c6,PZ,rfl,h⟩
 refine⟨_,rfl,?_⟩
 refine sf (so h rfl rfl rfl uI (kF _) (.r (.r (.r (.r (.r (.r (.r (.r (.r (.r (.r (.r (.r (.r .d)))))))))))))) u4)<|?_
 rintro _ w h
 refine xe<|nx<|rt<|?_
 refine go h λw h=>?_
 refine rr (cD rfl rfl (h.b a4) Row.h) ?_
 exact jW (qN (qN (PZ))) h.to
theorem Ut{β:Type}(S:fX)(F:β->Cc->As)(gX fM jD lR vF:Nat)(thk:Fv)(k:Int->Ct.I β)(m0:Int)(t:Ct.aX)(i:Int)(prev:Int){n m:Nat}(hm:m<=n)(x:Int)(s:Ct.St)(h:SH B w (rb gX [thk.val] 91::rb fM ([↑m0]) 44::rb jD ([S.v,↑t.root,↑t.readOnly]) 87::rb lR ([↑i]) 44::rb vF ([↑prev]) 33::gY S F n 60 eM k thk::S.a s::L))(hs:Ct.Rm 60 s):
  Calls prog 110 #[↑x,↑gX,↑fM,↑jD,↑lR,↑vF] w λe w'=>CP S F m B ((λp_b=>bif p_b==0 then k m0 else .node p_b λb_b=>bif !b_b.bG then Ct.Gc i m0 p_b k else bif (Ct.aX.readOnly t)then Ct.oB prev p_b false (Ct.mI prev i m0 k)else Ct.Vz t λr_b=>.node r_b λa_b=>.node i λb_b=>Ct.oB prev p_b (a_b.gen==b_b.gen) (Ct.mI prev i m0 k)) x) s L e w':=by
 have h:=gL hm (aW _) (h.fr (.c r5 .n))
 refine cN func110 ntmps110 h λw h=>?_
 refine jX h λb1 w h=>?_
 refine jA h λb2 w h=>?_
 refine qc h (λcJ w h=>?_) λcJ w h=>?_
 refine AT (pR (h.fr (.c r2 (.c r7 .n))) (hs.less (by decide)) m0) λs5 t6 c7 hq8 w h=>?_
 refine rc h ?_
 exact jW (qT cJ (hq8)) h.to
 refine F4 S h (dK S s x h.to hs) λwI w h=>?_
 refine bQ (wR _ _ h.to) λw h=>?_
 refine qc h (λiT w h=>?_) λiT w h=>?_
 have h:=AO (j:=60) (by decide) (h.fr (.c r4 .n))
 refine lA (Pd S F _ _ _ _ thk k _ _ h.to (hs.less (by decide))) λs13 t14 c15 aFw w h=>?_
 refine rc h ?_
 exact jW (qF cJ (qN (qT iT (aFw)))) h.to
 refine jA h λb18 w h=>?_
 refine qc h (λiM w h=>?_) λiM w h=>?_
 have h:=h.jF a9
 have h:=h.jF a9
 have h:=h.jF a9
 have h:=h.jF a9
 have h:=h.jF a14
 have h:=h.fr (.c r0 (.c r0 (.c r0 (.c r0 (.c r0 (.c r5 .n))))))
 have h:=SA (j:=60) (S:=S) (F:=F) (n:=m) (args:=iC) (k:=(Ct.mI prev i m0 k)) (v:=(.fn 113 [] [↑vF,↑gX,↑fM,↑jD,↑lR])) [rb vF ([↑prev]) 33,rb gX [thk.val] 91,rb fM ([↑m0]) 44,rb jD ([S.v,↑t.root,↑t.readOnly]) 87,rb lR ([↑i]) 44,gY S F m 60 eM k thk] h λm' nN B' w' L' s' x' h' mD=>Bt eF (Co S F vF gX fM jD lR prev thk k m0 t i (wO nN) x' s' h' (mD.less (by decide)))
 refine lA (Fb S F _ _ _ _ (.fn 113 [] [↑vF,↑gX,↑fM,↑jD,↑lR]) (Ct.mI prev i m0 k) _ _ h.to (hs.less (by decide))) λs20 t21 ZI N5 w h=>?_
 refine rc h ?_
 exact jW (qF cJ (qN (qF iT (qT iM (N5))))) h.to
 have h:=SH.tH (h.fr (.c r4 .n))
 have h:=SH.tH (h.fr (.c r1 .n))
 have h:=h.jF a9
 have h:=h.jF a9
 have h:=h.jF a9
 have h:=h.jF a9
 have h:=h.jF a14
 have h:=h.fr (.c r0 (.c r0 (.c r0 (.c r0 (.c r0 (.c r5 .n))))))
 have h:=mkl (S:=S) (F:=F) (n:=m) (j:=60) (args:=iC) (k:=(Ct.mI prev i m0 k)) (v:=(.fn 113 [] [↑vF,↑gX,↑fM,↑jD,↑lR])) [rb vF ([↑prev]) 33,rb gX [thk.val] 91,rb fM ([↑m0]) 44,rb jD ([S.v,↑t.root,↑t.readOnly]) 87,rb lR ([↑i]) 44,gY S F m 60 eM k thk] h λB' w' L' s' x' h' mD=>Bt eF (Co S F vF gX fM jD lR prev thk k m0 t i (aW _) x' s' h' mD)
 have h:=h.jF a1
 have h:=h.jF a3
 have h:=h.jF a12
 have h:=h.jF a12
 have h:=h.jF a12
 have h:=h.fr (.c r0 (.c r0 (.c r0 (.c r0 (.c r0 (.c r0 .n))))))
 have h:=SA (j:=60) (S:=S) (F:=F) (n:=m) (args:=eM) (k:=(λr_b=>.node r_b λa_b=>.node i λb_b=>Ct.oB prev x (a_b.gen==b_b.gen) (Ct.mI prev i m0 k))) (v:=(.fn 117 [] [↑jD,↑lR,↑vF,↑b1,↑b18])) [rb jD ([S.v,↑t.root,↑t.readOnly]) 87,rb lR ([↑i]) 44,rb vF ([↑prev]) 33,rb b1 ([↑x]) 44,rb b18 [Go.E.Fv.val (Go.E.Fv.fn 113 [] [↑vF,↑gX,↑fM,↑jD,↑lR])] 92,gY S F m 60 iC (Ct.mI prev i m0 k) (.fn 113 [] [↑vF,↑gX,↑fM,↑jD,↑lR])] h λm' nN B' w' L' s' x' h' mD=>Bt eF (Uz S F jD lR vF b1 b18 t i prev x (.fn 113 [] [↑vF,↑gX,↑fM,↑jD,↑lR]) (Ct.mI prev i m0 k) (wO nN) x' s' h' (mD.less (by decide)))
 refine lA (LX S F _ (.fn 117 [] [↑jD,↑lR,↑vF,↑b1,↑b18]) (λr_b=>.node r_b λa_b=>.node i λb_b=>Ct.oB prev x (a_b.gen==b_b.gen) (Ct.mI prev i m0 k)) _ _ h.to (hs.less (by decide))) λs24 t25 c26 M9 w h=>?_
 refine rc h ?_
 exact jW (qF cJ (qN (qF iT (qF iM (M9))))) h.to
theorem Gk{β:Type}(S:fX)(F:β->Cc->As)(t:Ct.aX)(i:Int)(m0:Int)(thk:Fv)(k:Int->Ct.I β)(n:Nat)(s:Ct.St)(h:SH B w (rQ S F n 60 eM k thk::S.a s::L))(hs:Ct.Rm 30 s):
  Calls prog 75 #[.agg [S.v,↑t.root,↑t.readOnly].toArray,↑i,↑m0,thk.val] w λe w'=>CP S F n B (Ct.nZ t i m0 k) s L e w':=by
 refine cN func75 ntmps75 h λw h=>?_
 refine jX h λb1 w h=>?_
 refine jX h λb2 w h=>?_
 refine jX h λb3 w h=>?_
 refine jX h (hc:=oY _) λb4 w h=>?_
 refine jA h λb5 w h=>?_
 refine F4 S h (dK S s m0 h.to hs) λq6 w h=>?_
 refine jA h λb7 w h=>?_
 have h:=SH.tH (h.fr (.c r4 .n))
 have h:=SH.tH (h.fr (.c r5 .n))
 have h:=SH.tH (h.fr (.c r7 .n))
 have h:=SH.tH (h.fr (.c r7 .n))
 have h:=SH.tH (h.fr (.c r4 .n))
 refine cl (ca eF rfl) ((nJ (s.node m0).prev (.fn 110 [] [↑b4,↑b3,↑b1,↑b2,↑b7]) (h.fr .n)).mono ?_)
 rintro _ w ⟨rfl,h⟩
 refine⟨_,rfl,?_⟩
 refine sf (so h rfl rfl rfl uI (kF _) (.r (.r (.r (.r (.r (.r (.r (.r (.r (.r (.r (.r (.r (.r .d)))))))))))))) u7)<|?_
 rintro _ w h
 refine xe<|nx<|rt<|?_
 refine rc h ?_
 have h:=h.jF a0
 have h:=h.jF a2
 have h:=h.jF a4
 have h:=h.jF a6
 have h:=h.jF a8
 have h:=h.fr (.c r0 (.c r0 (.c r0 (.c r0 (.c r0 (.c r8 .n))))))
 have h:=KN (S:=S) (F:=F) (n:=n) (args:=eM) (k:=(λp_b=>bif p_b==0 then k m0 else .node p_b λb_b=>bif !b_b.bG then Ct.Gc i m0 p_b k else bif (Ct.aX.readOnly t)then Ct.oB (s.node m0).prev p_b false (Ct.mI (s.node m0).prev i m0 k)else Ct.Vz t λr_b=>.node r_b λa_b=>.node i λb_b=>Ct.oB (s.node m0).prev p_b (a_b.gen==b_b.gen) (Ct.mI (s.node m0).prev i m0 k))) (v:=(.fn 110 [] [↑b4,↑b3,↑b1,↑b2,↑b7])) [rb b4 [thk.val] 91,rb b3 ([↑m0]) 44,rb b1 ([S.v,↑t.root,↑t.readOnly]) 87,rb b2 ([↑i]) 44,rb b7 ([.int .i64 (s.node m0).prev]) 33,rQ S F n 60 eM k thk] h λm' nN B' w' L' s' x' h' mD=>Bt eF (Ut S F b4 b3 b1 b2 b7 thk k m0 t i (s.node m0).prev (aW _) x' s' ((Cu nN (h'.fr (.c r5 .n))).fr (.c r1 (.c r1 (.c r1 (.c r1 (.c r1 (.c r0 .n))))))) (mD.less (by decide)))
 have h:=kL (a:=(s.node m0).prev) h
 exact jW (qN rfl) h.to
theorem IS{β:Type}(S:fX)(F:β->Cc->As)(gX fM jD:Nat)(t:Ct.aX)(i:Int)(thk:Fv)(k:Int->Ct.I β){n m:Nat}(hm:m<=n)(x:Int)(s:Ct.St)(h:SH B w (rb gX ([S.v,↑t.root,↑t.readOnly]) 87::rb fM ([↑i]) 44::rb jD [thk.val] 91::gY S F n 60 eM k thk::S.a s::L))(hs:Ct.Rm 60 s):
  Calls prog 74 #[↑x,↑gX,↑fM,↑jD] w λe w'=>CP S F m B ((λm0_b=>Ct.nZ t i m0_b k) x) s L e w':=by
 have h:=gL hm (aW _) (h.fr (.c r3 .n))
 refine cN func74 ntmps74 h λw h=>?_
 refine jA h λb1 w h=>?_
 have h:=AO (j:=60) (by decide) (h.fr (.c r1 .n))
 refine cl (ca eF rfl) ((Gk S F t i x thk k m s (h.fr (.c r0 (.c r4 .n))) (hs.less (by decide))).mono ?_)
 rintro _ w ⟨s2,t3,c4,Vo,rfl,h⟩
 refine⟨_,rfl,?_⟩
 refine sf (so h rfl rfl rfl uI (kF _) (.r (.r (.r (.r (.r (.r (.r (.r (.r (.r (.r (.r (.r (.r .d)))))))))))))) u2)<|?_
 rintro _ w h
 refine xe<|nx<|rt<|?_
 refine go h λw h=>?_
 refine rr (cD rfl rfl (h.b a2) Row.h) ?_
 exact jW (Vo) h.to
theorem pY{β:Type}(S:fX)(F:β->Cc->As)(t:Ct.aX)(i:Int)(thk:Fv)(k:Int->Ct.I β)(n:Nat)(s:Ct.St)(h:SH B w (rQ S F n 60 eM k thk::S.a s::L))(hs:Ct.Rm 30 s):
  Calls prog 40 #[.agg [S.v,↑t.root,↑t.readOnly].toArray,↑i,thk.val] w λe w'=>CP S F n B (Ct.kT t i k) s L e w':=by
 refine cN func40 ntmps40 h λw h=>?_
 refine jX h λb1 w h=>?_
 refine jX h λb2 w h=>?_
 refine sf (bx h rfl (oY _)) ?_
 rintro _ w ⟨b3,rfl,h⟩
 refine go h λw h=>?_
 refine jA h λb4 w h=>?_
 have h:=SH.tH (h.fr (.c r3 .n))
 have h:=SH.tH (h.fr (.c r3 .n))
 have h:=SH.tH (h.fr (.c r3 .n))
 refine go h λw h=>?_
 refine cl (ci (S.sN h a5) rfl rfl) ((dK S s i h.to hs).mono ?_)
 rintro _ w ⟨q5,rfl,h⟩
 refine⟨_,rfl,?_⟩
 refine go h λw h=>?_
 refine cl (ca eF rfl) ((nJ (s.node i).main (.fn 74 [] [↑b1,↑b2,↑b3]) (h.fr .n)).mono ?_)
 rintro _ w ⟨rfl,h⟩
 refine⟨_,rfl,?_⟩
 refine sf (so h rfl rfl rfl uI (kF _) (.r (.r (.r (.r (.r (.r (.r (.r (.r (.r (.r (.r (.r (.r .d)))))))))))))) u5)<|?_
 rintro _ w h
 refine xe<|nx<|rt<|?_
 refine go h λw h=>?_
 refine rr (cD rfl rfl (h.b a5) Row.h) ?_
 have h:=h.jF a2
 have h:=h.jF a4
 have h:=h.jF a6
 have h:=h.fr (.c r0 (.c r0 (.c r0 (.c r6 .n))))
 have h:=KN (S:=S) (F:=F) (n:=n) (args:=eM) (k:=(λm0_b=>Ct.nZ t i m0_b k)) (v:=(.fn 74 [] [↑b1,↑b2,↑b3])) [rb b1 ([S.v,↑t.root,↑t.readOnly]) 87,rb b2 ([↑i]) 44,rb b3 [thk.val] 91,rQ S F n 60 eM k thk] h λm' nN B' w' L' s' x' h' mD=>Bt eF (IS S F b1 b2 b3 t i thk k (aW _) x' s' ((Cu nN (h'.fr (.c r3 .n))).fr (.c r1 (.c r1 (.c r1 (.c r0 .n))))) (mD.less (by decide)))
 have h:=kL (a:=(s.node i).main) h
 exact jW (qN rfl) h.to
theorem Og{β:Type}(S:fX)(F:β->Cc->As)(gX:Nat)(thk:Fv)(k:Unit->Ct.I β){n m:Nat}(hm:m<=n)(x:Bool)(s:Ct.St)(h:SH B w (rb gX [thk.val] 100::gY S F n 60 yJ k thk::S.a s::L))(hs:Ct.Rm 60 s):
  Calls prog 172 #[↑x,↑gX] w λe w'=>CP S F m B ((λ_=>k ()) x) s L e w':=by
 have h:=gL hm (aW _) (h.fr (.c r1 .n))
 refine cN func172 ntmps172 h λw h=>?_
 refine jA h λb1 w h=>?_
 refine O6 rfl rfl ((pR (h.fr (.c r1 (.c r2 .n))) (hs.less (by decide)) ()).mono ?_)
 rintro _ w ⟨s2,t3,c4,Vo,rfl,h⟩
 refine⟨_,rfl,?_⟩
 refine go h λw h=>?_
 refine rr (cD rfl rfl (h.b a2) Row.h) ?_
 exact jW (Vo) h.to
theorem MK{β:Type}(S:fX)(F:β->Cc->As)(gX fM:Nat)(d:Ct.Node)(qd:Lq)(thk:Fv)(k:Unit->Ct.I β){n m:Nat}(hm:m<=n)(x:Int)(s:Ct.St)(h:SH B w (rb gX (aK d qd) 53::rb fM [thk.val] 100::gY S F n 60 yJ k thk::S.a s::L))(hs:Ct.Rm 60 s):
  Calls prog 171 #[↑x,↑gX,↑fM] w λe w'=>CP S F m B ((λm0_b=>bif m0_b==(Ct.Node.aS d)then .cH (Ct.Node.status d) 0 1 λ_=>k ()else .cH (Ct.Node.status d) 0 2 λ_=>k ()) x) s L e w':=by
 have h:=gL hm (aW _) (h.fr (.c r2 .n))
 refine cN func171 ntmps171 h λw h=>?_
 refine jA h λb1 w h=>?_
 refine qc h (λcO w h=>?_) λcO w h=>?_
 have Lt:=eq_of_beq cO
 refine go h λw h=>?_
 refine bQ (pG _ _ _ (.fn 172 [] [↑fM]) h.to) λw h=>?_
 refine rr (cD rfl rfl (h.b a0) Row.h) ?_
 have h:=h.jF a3
 have h:=h.fr (.c r0 (.c r1 .n))
 have h:=KN (S:=S) (F:=F) (n:=m) (args:=iC) (k:=(λ_=>k ())) (v:=(.fn 172 [] [↑fM])) [rb fM [thk.val] 100,gY S F m 60 yJ k thk] h λm' nN B' w' L' s' x' h' mD=>Bt eF (Og S F fM thk k (wO nN) x' s' h' (mD.less (by decide)))
 have h:=kC (a:=d.status) (o:=0) (x:=1) h
 exact jW (qT cO rfl) h.to
 have Tv:=bM cO
 refine go h λw h=>?_
 refine bQ (pG _ _ _ (.fn 172 [] [↑fM]) h.to) λw h=>?_
 refine rr (cD rfl rfl (h.b a0) Row.h) ?_
 have h:=h.jF a3
 have h:=h.fr (.c r0 (.c r1 .n))
 have h:=KN (S:=S) (F:=F) (n:=m) (args:=iC) (k:=(λ_=>k ())) (v:=(.fn 172 [] [↑fM])) [rb fM [thk.val] 100,gY S F m 60 yJ k thk] h λm' nN B' w' L' s' x' h' mD=>Bt eF (Og S F fM thk k (wO nN) x' s' h' (mD.less (by decide)))
 have h:=kC (a:=d.status) (o:=0) (x:=2) h
 exact jW (qF cO rfl) h.to
theorem VS{β:Type}(S:fX)(F:β->Cc->As)(t:Ct.aX)(d:Ct.Node)(qd:Lq)(thk:Fv)(k:Unit->Ct.I β)(n:Nat)(s:Ct.St)(h:SH B w (rQ S F n 60 yJ k thk::S.a s::L))(hs:Ct.Rm 30 s):
  Calls prog 122 #[.agg [S.v,↑t.root,↑t.readOnly].toArray,.agg (aK d qd).toArray,thk.val] w λe w'=>CP S F n B (Ct.Vk t d (k ())) s L e w':=by
 refine cN func122 ntmps122 h λw h=>?_
 refine jX h λb1 w h=>?_
 refine jX h λb2 w h=>?_
 refine sf (bx h rfl (oY _)) ?_
 rintro _ w ⟨b3,rfl,h⟩
 refine go h λw h=>?_
 refine jA h λb4 w h=>?_
 have h:=SH.tH (h.fr (.c r2 .n))
 have h:=SH.tH (h.fr (.c r2 .n))
 refine go h λw h=>?_
 have h:=h.jF a0
 have h:=h.jF a2
 have h:=h.fr (.c r0 (.c r0 (.c r4 .n)))
 have h:=SA (j:=60) (S:=S) (F:=F) (n:=n) (args:=eM) (k:=(λm0_b=>bif m0_b==(Ct.Node.aS d)then .cH (Ct.Node.status d) 0 1 λ_=>k ()else .cH (Ct.Node.status d) 0 2 λ_=>k ())) (v:=(.fn 171 [] [↑b2,↑b3])) [rb b2 (aK d qd) 53,rb b3 [thk.val] 100,rQ S F n 60 yJ k thk] h λm' nN B' w' L' s' x' h' mD=>Bt eF (MK S F b2 b3 d qd thk k (aW _) x' s' ((Cu nN (h'.fr (.c r2 .n))).fr (.c r1 (.c r1 (.c r0 .n)))) (mD.less (by decide)))
 refine cl (ca eF rfl) ((pY S F t d.dO (.fn 171 [] [↑b2,↑b3]) (λm0_b=>bif m0_b==(Ct.Node.aS d)then .cH (Ct.Node.status d) 0 1 λ_=>k ()else .cH (Ct.Node.status d) 0 2 λ_=>k ()) n s (h.fr (.c r0 (.c r4 .n))) (hs.less (by decide))).mono ?_)
 rintro _ w ⟨s5,t6,c7,hq8,rfl,h⟩
 refine⟨_,rfl,?_⟩
 refine sf (so h rfl rfl rfl uI (kF _) (.r (.r (.r (.r (.r (.r (.r (.r (.r (.r (.r (.r (.r (.r .d)))))))))))))) u4)<|?_
 rintro _ w h
 refine xe<|nx<|rt<|?_
 refine go h λw h=>?_
 refine rr (cD rfl rfl (h.b a4) Row.h) ?_
 exact jW (hq8) h.to
theorem JD{β:Type}(S:fX)(F:β->Cc->As)(gX fM jD:Nat)(t:Ct.aX)(v:Int)(thk:Fv)(k:Int->Ct.I β){n m:Nat}(hm:m<=n)(x:Int)(s:Ct.St)(h:SH B w (rb gX ([S.v,↑t.root,↑t.readOnly]) 87::rb fM ([↑v]) 44::rb jD [thk.val] 91::gY S F n 60 eM k thk::S.a s::L))(hs:Ct.Rm 60 s):
  Calls prog 124 #[↑x,↑gX,↑fM,↑jD] w λe w'=>CP S F m B ((λs_b=>Ct.mN t v s_b k) x) s L e w':=by
 have h:=gL hm (aW _) (h.fr (.c r3 .n))
 refine cN func124 ntmps124 h λw h=>?_
 refine jA h λb1 w h=>?_
 have h:=AO (j:=60) (by decide) (h.fr (.c r1 .n))
 refine cl (ca eF rfl) ((oW S F t v x thk k m s (h.fr (.c r0 (.c r4 .n))) (hs.less (by decide))).mono ?_)
 rintro _ w ⟨s2,t3,c4,Vo,rfl,h⟩
 refine⟨_,rfl,?_⟩
 refine sf (so h rfl rfl rfl uI (kF _) (.r (.r (.r (.r (.r (.r (.r (.r (.r (.r (.r (.r (.r (.r .d)))))))))))))) u2)<|?_
 rintro _ w h
 refine xe<|nx<|rt<|?_
 refine go h λw h=>?_
 refine rr (cD rfl rfl (h.b a2) Row.h) ?_
 exact jW (Vo) h.to
theorem DU{β:Type}(S:fX)(F:β->Cc->As)(gX fM jD lR:Nat)(d:Ct.Node)(qd:Lq)(t:Ct.aX)(v:Int)(thk:Fv)(k:Int->Ct.I β){n m:Nat}(hm:m<=n)(s:Ct.St)(h:SH B w (rb gX (aK d qd) 53::rb fM ([S.v,↑t.root,↑t.readOnly]) 87::rb jD ([↑v]) 44::rb lR [thk.val] 91::gY S F n 60 eM k thk::S.a s::L))(hs:Ct.Rm 60 s):
  Calls prog 123 #[↑gX,↑fM,↑jD,↑lR] w λe w'=>CP S F m B ((λ_=>.load (Ct.Node.status d) λs_b=>Ct.mN t v s_b k) ()) s L e w':=by
 have h:=gL hm (aW _) (h.fr (.c r4 .n))
 refine cN func123 ntmps123 h λw h=>?_
 refine jA h λb1 w h=>?_
 refine cl (ca eF rfl) ((nJ d.status (.fn 124 [] [↑fM,↑jD,↑lR]) (h.fr .n)).mono ?_)
 rintro _ w ⟨rfl,h⟩
 refine⟨_,rfl,?_⟩
 refine sf (so h rfl rfl rfl uI (kF _) (.r (.r (.r (.r (.r (.r (.r (.r (.r (.r (.r (.r (.r (.r .d)))))))))))))) u0)<|?_
 rintro _ w h
 refine xe<|nx<|rt<|?_
 refine go h λw h=>?_
 refine rr (cD rfl rfl (h.b a0) Row.h) ?_
 have h:=h.jF a5
 have h:=h.jF a5
 have h:=h.jF a5
 have h:=h.fr (.c r0 (.c r0 (.c r0 (.c r1 .n))))
 have h:=KN (S:=S) (F:=F) (n:=m) (args:=eM) (k:=(λs_b=>Ct.mN t v s_b k)) (v:=(.fn 124 [] [↑fM,↑jD,↑lR])) [rb fM ([S.v,↑t.root,↑t.readOnly]) 87,rb jD ([↑v]) 44,rb lR [thk.val] 91,gY S F m 60 eM k thk] h λm' nN B' w' L' s' x' h' mD=>Bt eF (JD S F fM jD lR t v thk k (wO nN) x' s' h' (mD.less (by decide)))
 have h:=kL (a:=d.status) h
 exact jW (rfl) h.to
theorem EM{β:Type}(S:fX)(F:β->Cc->As)(gX fM jD lR:Nat)(t:Ct.aX)(v:Int)(thk:Fv)(k:Int->Ct.I β)(d:Ct.Node)(qd:Lq){n m:Nat}(hm:m<=n)(x:Int)(s:Ct.St)(h:SH B w (rb gX ([S.v,↑t.root,↑t.readOnly]) 87::rb fM ([↑v]) 44::rb jD [thk.val] 91::rb lR (aK d qd) 53::gY S F n 60 eM k thk::S.a s::L))(hs:Ct.Rm 60 s):
  Calls prog 120 #[↑x,↑gX,↑fM,↑jD,↑lR] w λe w'=>CP S F m B ((λs_b=>bif s_b != 0 then Ct.mN t v s_b k else Ct.Vk t d (.load (Ct.Node.status d) λs_b=>Ct.mN t v s_b k)) x) s L e w':=by
 have h:=gL hm (aW _) (h.fr (.c r4 .n))
 refine cN func120 ntmps120 h λw h=>?_
 refine jA h λb1 w h=>?_
 refine qc h (λcO w h=>?_) λcO w h=>?_
 have h:=AO (j:=60) (by decide) (h.fr (.c r1 .n))
 refine lA (oW S F _ _ _ thk k _ _ h.to (hs.less (by decide))) λs4 t5 c6 PZ w h=>?_
 refine rc h ?_
 exact jW (qT cO (PZ)) h.to
 have h:=h.jF a4
 have h:=h.jF a4
 have h:=h.jF a4
 have h:=h.jF a8
 have h:=h.fr (.c r0 (.c r0 (.c r0 (.c r0 (.c r1 .n)))))
 have h:=SA (j:=60) (S:=S) (F:=F) (n:=m) (args:=yJ) (k:=(λ_=>.load (Ct.Node.status d) λs_b=>Ct.mN t v s_b k)) (v:=(.fn 123 [] [↑lR,↑gX,↑fM,↑jD])) [rb lR (aK d qd) 53,rb gX ([S.v,↑t.root,↑t.readOnly]) 87,rb fM ([↑v]) 44,rb jD [thk.val] 91,gY S F m 60 eM k thk] h λm' nN B' w' L' s' x' h' mD=>Bt eF (DU S F lR gX fM jD d qd t v thk k (wO nN) s' h' (mD.less (by decide)))
 refine lA (VS S F _ _ _ (.fn 123 [] [↑lR,↑gX,↑fM,↑jD]) (λ_=>.load (Ct.Node.status d) λs_b=>Ct.mN t v s_b k) _ _ h.to (hs.less (by decide))) λs9 t10 c11 Ty w h=>?_
 refine rc h ?_
 exact jW (qF cO (Ty)) h.to
theorem FZ{β:Type}(S:fX)(F:β->Cc->As)(gX fM:Nat)(t:Ct.aX)(thk:Fv)(k:Int->Ct.I β){n m:Nat}(hm:m<=n)(x:Int)(s:Ct.St)(h:SH B w (rb gX ([S.v,↑t.root,↑t.readOnly]) 87::rb fM [thk.val] 91::gY S F n 60 eM k thk::S.a s::L))(hs:Ct.Rm 60 s):
  Calls prog 119 #[↑x,↑gX,↑fM] w λe w'=>CP S F m B ((λv_b=>.node v_b λd_b=>bif d_b.kind==2 then k v_b else .load d_b.status λs_b=>bif s_b != 0 then Ct.mN t v_b s_b k else Ct.Vk t d_b (.load d_b.status λs_b=>Ct.mN t v_b s_b k)) x) s L e w':=by
 have h:=gL hm (aW _) (h.fr (.c r2 .n))
 refine cN func119 ntmps119 h λw h=>?_
 refine jX h λb1 w h=>?_
 refine jA h λb2 w h=>?_
 refine F4 S h (dK S s x h.to hs) λq3 w h=>?_
 refine jA h λb4 w h=>?_
 refine qc h (λdM w h=>?_) λdM w h=>?_
 refine AT (pR (h.fr (.c r5 (.c r2 .n))) (hs.less (by decide)) x) λs7 t8 c9 Ju w h=>?_
 refine rc h ?_
 exact jW (qN (qT dM (Ju))) h.to
 have h:=SH.tH (h.fr (.c r4 .n))
 have h:=SH.tH (h.fr (.c r1 .n))
 refine bQ (nJ _ (.fn 120 [] [↑gX,↑b1,↑fM,↑b4]) h.to) λw h=>?_
 refine rc h ?_
 have h:=h.jF a0
 have h:=h.jF a8
 have h:=h.jF a3
 have h:=h.jF a9
 have h:=h.fr (.c r0 (.c r0 (.c r0 (.c r0 (.c r5 .n)))))
 have h:=KN (S:=S) (F:=F) (n:=m) (args:=eM) (k:=(λs_b=>bif s_b != 0 then Ct.mN t x s_b k else Ct.Vk t (s.node x) (.load (Ct.Node.status (s.node x)) λs_b=>Ct.mN t x s_b k))) (v:=(.fn 120 [] [↑gX,↑b1,↑fM,↑b4])) [rb gX ([S.v,↑t.root,↑t.readOnly]) 87,rb b1 ([↑x]) 44,rb fM [thk.val] 91,rb b4 (aK (s.node x) q3) 53,gY S F m 60 eM k thk] h λm' nN B' w' L' s' x' h' mD=>Bt eF (EM S F gX b1 fM b4 t x thk k (s.node x) q3 (wO nN) x' s' h' (mD.less (by decide)))
 have h:=kL (a:=(s.node x).status) h
 exact jW (qN (qF dM rfl)) h.to
theorem LC{β:Type}(S:fX)(F:β->Cc->As)(t:Ct.aX)(thk:Fv)(k:Int->Ct.I β)(n:Nat)(s:Ct.St)(h:SH B w (rQ S F n 60 eM k thk::S.a s::L))(hs:Ct.Rm 30 s):
  Calls prog 78 #[.agg [S.v,↑t.root,↑t.readOnly].toArray,thk.val] w λe w'=>CP S F n B (Ct.uD t k) s L e w':=by
 refine cN func78 ntmps78 h λw h=>?_
 refine jX h λb1 w h=>?_
 refine sf (bx h rfl (oY _)) ?_
 rintro _ w ⟨b2,rfl,h⟩
 refine go h λw h=>?_
 refine jA h λb3 w h=>?_
 have h:=SH.tH (h.fr (.c r2 .n))
 have h:=SH.tH (h.fr (.c r2 .n))
 refine go h λw h=>?_
 refine cl (ca eF rfl) ((nJ t.root (.fn 119 [] [↑b1,↑b2]) (h.fr .n)).mono ?_)
 rintro _ w ⟨rfl,h⟩
 refine⟨_,rfl,?_⟩
 refine sf (so h rfl rfl rfl uI (kF _) (.r (.r (.r (.r (.r (.r (.r (.r (.r (.r (.r (.r (.r (.r .d)))))))))))))) u2)<|?_
 rintro _ w h
 refine xe<|nx<|rt<|?_
 refine go h λw h=>?_
 refine rr (cD rfl rfl (h.b a2) Row.h) ?_
 have h:=h.jF a0
 have h:=h.jF a2
 have h:=h.fr (.c r0 (.c r0 (.c r3 .n)))
 have h:=KN (S:=S) (F:=F) (n:=n) (args:=eM) (k:=(λv_b=>.node v_b λd_b=>bif d_b.kind==2 then k v_b else .load d_b.status λs_b=>bif s_b != 0 then Ct.mN t v_b s_b k else Ct.Vk t d_b (.load d_b.status λs_b=>Ct.mN t v_b s_b k))) (v:=(.fn 119 [] [↑b1,↑b2])) [rb b1 ([S.v,↑t.root,↑t.readOnly]) 87,rb b2 [thk.val] 91,rQ S F n 60 eM k thk] h λm' nN B' w' L' s' x' h' mD=>Bt eF (FZ S F b1 b2 t thk k (aW _) x' s' ((Cu nN (h'.fr (.c r2 .n))).fr (.c r1 (.c r1 (.c r0 .n)))) (mD.less (by decide)))
 have h:=kL (a:=t.root) h
 exact jW (rfl) h.to
end Go.Q9
end
