/- Parts of a proof: Q6, Qi, Cv, E16, E14. -/
import Derived.Test.YtnhdmcipglnkfaaGreatW40
set_option linter.unusedVariables false
set_option linter.unusedSimpArgs false
set_option maxRecDepth 100000
set_option maxHeartbeats 4000000
section
namespace Go.Q9
open Go.Proofs.Tryz
open Go.RowKit Go.E Go.Ct
attribute [local irreducible] gB wpS Go.E.X XS C jU kP fin Y U F Ca jT bl rb aU bV ex ce pu sK gK bK zK
variable{B w:World}{L:List As}
theorem Gt(xb mb:Nat)(x:Ct.X)(m:Int)(h:SH B w (XA xb mb x::L))(k:Ct.Ok 60 x):
  Calls prog 197 #[↑xb,↑m] w λe w'=>∃y v,Ct.aX (Ct.wK m) x=Ct.out y v/\e=.returned (.agg (xC v).toArray)/\SH B w' (XA xb mb y::L)/\Ct.Ok 50 y:=by
 have hlen:=k.len
 refine bZ func197 ntmps197 h λw h=>?_
 refine jA h λb1 w h=>?_
 refine dE (MG (j:=59) xb mb x h.to (k.less (by omega))) λy2 v3 q4 w h k=>?_
 have lq4:=Ct.A8 q4
 refine go h λw h=>?_
 refine dE (dS (j:=58) xb mb y2 ({kind:=2,gen:=v3}) {} m (SH.eE ({kind:=2,gen:=v3}) rfl rfl h.to) (k.less (by omega)) (Ct.bG _ 2 v3 0 0 0)) λy5 v6 q7 w h ⟨k,hly5⟩=>?_
 have lq7:=Ct.Gq q7
 refine go h λw h=>?_
 refine dE (AL (j:=57) xb mb y5 v6 h.to (k.less (by omega))) λy8 v9 q10 w h k=>?_
 have lq10:=Ct.B7 q10
 refine go h λw h=>?_
 exact rr (bP rfl rfl (h.b a1) Row.h)<|⟨_,({found:=true,aE:={root:=v9}}:Ct.Result),Ct.rG q4<|Ct.rA q7<|Ct.rE q10<|Ct.rR,rfl,h.to,(k.less (by omega))⟩
theorem ID(xb mb:Nat)(x:Ct.X)(c:Ct.Call)(F:Nat)(h:SH B w (XA xb mb (Ct.X.of c x)::L))(k:Ct.Ok 60 (Ct.X.of c x))(hx:(Ct.X.of c x).left<F):
  Calls prog 155 #[↑xb] w λe w'=>∃y v,Ct.aX (Ct.vK c.aE F) (Ct.X.of c x)=Ct.out y v/\e=.returned (.agg (xC v).toArray)/\SH B w' (XA xb mb y::L)/\Ct.Ok 60 y:=by
 have hlen:=k.len
 refine bZ func155 ntmps155 h λw h=>?_
 refine jA h λb1 w h=>?_
 refine st (gJ (cs:=cU c.aE) rfl (h.xr 2 a1 λ_=>rfl) Row.h)<|go h λw h=>?_
 refine jA h λb2 w h=>?_
 refine lp (α:=Ct.X×Nat) (λρ=>(.c 0 ↑xb (.c 2 ↑b1 (.c 3 ↑b2 .n)))) (λρ w=>SH B w (XA xb mb (Ct.X.of c ρ.1)::bl b2 (cU c.aE) 35::bl b1 ([.int .i64 0,↑false,.int .u64 0,.string .empty,.int .i64 0,.int .i64 0,.int .i64 0,↑false]) 49::L)/\(Ct.aX (Ct.vK c.aE F) (Ct.X.of c x)=Ct.aX (Ct.vK c.aE ρ.2) (Ct.X.of c ρ.1))/\(Ct.Ok 60 (Ct.X.of c ρ.1))/\((Ct.X.of c ρ.1).e.aC=true\/(Ct.X.of c ρ.1).left<ρ.2)) (λρ=>ρ.2) (x,F) ⟨rfl,rfl,rfl,trivial⟩ ⟨h.to,(rfl),k,(.inr (by(try dsimp only);omega))⟩ ?_
 rintro⟨y,n⟩ w ⟨h,hq,k,hn⟩
 dsimp only at *
 refine go h λw h=>?_
 refine st (ld (v:=.bool (Ct.X.of c y).e.aC) One.h rfl (h.xc a0 λ_=>rfl))<|go h λw h=>?_
 refine qc h (λhd3 w h=>?_) λhd3 w h=>?_
 have hd4:(Ct.X.of c y).e.aC=false:=by simpa using hd3
 refine go h λw h=>?_
 obtain⟨n,rfl⟩:∃k,n=k+1:=⟨n-1,by have:=hn.resolve_left (by rw[hd4];decide);omega⟩
 replace hn:=hn.resolve_left (by rw[hd4];decide)
 refine go h λw h=>?_
 have kb5:=k
 refine dE (nV xb mb (Ct.X.of c y) c.aE h.to (k.less (by omega))) λy6 v7 q8 w h k=>?_
 obtain⟨z9,rfl⟩:=Ct.mB q8
 have lq8:=Ct.nY q8
 have ltq8:=Ct.pY kb5 (by omega) q8
 have mq8:=Ct.UJ q8
 refine go h λw h=>?_
 have kb10:=k
 refine dE (hU xb mb (Ct.X.of c z9) c.aE v7 h.to (k.less (by omega))) λy11 v12 q13 w h k=>?_
 obtain⟨z14,rfl⟩:=Ct.mB q13
 have lq13:=Ct.nY q13
 have ltq13:=Ct.oK kb10 q13
 have mq13:=Ct.UJ q13
 refine go h λw h=>?_
 refine dE (dS (j:=59) xb mb (Ct.X.of c z14) ({kind:=3}) {} 0 (SH.eE ({kind:=3}) rfl rfl h.to) (k.less (by omega)) (Ct.fY _)) λy15 v16 q17 w h ⟨k,hly15⟩=>?_
 obtain⟨z18,rfl⟩:=Ct.Lg q17
 have lq17:=Ct.Gq q17
 have mq17:=Ct.w8 q17
 refine go h λw h=>?_
 refine dE (MG (j:=58) xb mb (Ct.X.of c z18) h.to (k.less (by omega))) λy19 v20 q21 w h k=>?_
 obtain⟨z22,rfl⟩:=Ct.G5 q21
 have lq21:=Ct.A8 q21
 have mq21:=Ct.J1 q21
 refine go h λw h=>?_
 refine dZ [1,3,5,7,9,11,13,15,16,18] (by kernel_rfl) h (.c r1 .n) λw h=>go h λw h=>?_
 refine mF (dS (j:=57) xb mb (Ct.X.of c z22) ({kind:=2,gen:=v20}) {} v16 (SH.eE ({kind:=2,gen:=v20}) rfl rfl h.to) (k.less (by omega)) (Ct.bG _ 2 v20 0 0 0)) λy23 v24 q25 w h ⟨k,hly23⟩=>?_
 obtain⟨z26,rfl⟩:=Ct.Lg q25
 have lq25:=Ct.Gq q25
 have mq25:=Ct.w8 q25
 refine go h λw h=>?_
 refine mF (No xb mb (Ct.X.of c z26) c.aE v7 v12 v24 h.to (k.less (by omega))) λy27 v28 q29 w h k=>?_
 obtain⟨z30,rfl⟩:=Ct.mB q29
 have lq29:=Ct.nY q29
 have mq29:=Ct.UJ q29
 refine go h λw h=>?_
 refine qc h (λhd31 w h=>?_) λhd31 w h=>?_
 exact rc h ⟨_,({found:=true}:Ct.Result),hq.trans<|Ct.rB q8<|Ct.rB q13<|Ct.rA q17<|Ct.rG q21<|Ct.rA q25<|Ct.rB q29<|Ct.rT hd31<|Ct.rR,rfl,h.to,k⟩
 exact⟨(z30,n),⟨rfl,rfl,rfl,trivial⟩,⟨h,(hq.trans<|Ct.rB q8<|Ct.rB q13<|Ct.rA q17<|Ct.rG q21<|Ct.rA q25<|Ct.rB q29<|Ct.rF hd31<|rfl),k,(ltq8.elim (λhz=>.inl (Ct.o0 q29 (Ct.y0 q25 (Ct.I9 q21 (Ct.y0 q17 (Ct.o0 q13 hz)))))) λhz=>.inr (by have:=hz.2;(try dsimp only);omega))⟩,by(try dsimp only);omega⟩
 have hd32:(Ct.X.of c y).e.aC=true:=by simpa using hd3
 refine go h λw h=>?_
 exact rc h ⟨_,({}:Ct.Result),hq.trans<|Ct.rS hd32,rfl,h.to,(k.stop hd32)⟩
theorem Bw(xb mb:Nat)(x:Ct.X)(c:Ct.Call)(fz:Bool)(F:Nat)(h:SH B w (XA xb mb (Ct.X.of c x)::L))(k:Ct.Ok 60 (Ct.X.of c x))(hx:(Ct.X.of c x).left<F):
  Calls prog 154 #[↑xb,↑fz] w λe w'=>∃y v,Ct.aX (Ct.iL c.aE fz F) (Ct.X.of c x)=Ct.out y v/\e=.returned (.agg (xC v).toArray)/\SH B w' (XA xb mb y::L)/\Ct.Ok 50 y:=by
 have hlen:=k.len
 refine bZ func154 ntmps154 h λw h=>?_
 refine jA h λb1 w h=>?_
 refine st (gJ (cs:=cU c.aE) rfl (h.xr 2 a1 λ_=>rfl) Row.h)<|go h λw h=>?_
 refine jA h λb2 w h=>?_
 refine qc h (λhd3 w h=>?_) λhd3 w h=>?_
 refine dE (mU xb mb (Ct.X.of c x) c.aE.root h.to (k.less (by omega))) λy4 v5 q6 w h k=>?_
 obtain⟨z7,rfl⟩:=Ct.J2 q6
 have lq6:=Ct.M8 q6
 have mq6:=Ct.K1 q6
 refine go h λw h=>?_
 refine qc h (λhd8 w h=>?_) λhd8 w h=>?_
 refine dE (AL (j:=89) xb mb (Ct.X.of c z7) v5 h.to (k.less (by omega))) λy9 v10 q11 w h k=>?_
 obtain⟨z12,rfl⟩:=Ct.F5 q11
 have lq11:=Ct.B7 q11
 have mq11:=Ct.I6 q11
 refine go h λw h=>?_
 exact rc h ⟨_,({found:=true,aE:={root:=v10,readOnly:=true}}:Ct.Result),Ct.rT hd3<|Ct.rL q6<|Ct.rT hd8<|Ct.rE q11<|Ct.rR,rfl,h.to,(k.less (by omega))⟩
 have kb13:=k
 refine dE (hU xb mb (Ct.X.of c z7) c.aE v5 h.to (k.less (by omega))) λy14 v15 q16 w h k=>?_
 obtain⟨z17,rfl⟩:=Ct.mB q16
 have lq16:=Ct.nY q16
 have ltq16:=Ct.oK kb13 q16
 have mq16:=Ct.UJ q16
 refine go h λw h=>?_
 refine dE (Gt xb mb (Ct.X.of c z17) v15 h.to (k.less (by omega))) λy18 v19 q20 w h k=>?_
 obtain⟨z21,rfl⟩:=Ct.mB q20
 have lq20:=Ct.nY q20
 have mq20:=Ct.UJ q20
 refine go h λw h=>?_
 exact rc h ⟨_,v19,Ct.rT hd3<|Ct.rL q6<|Ct.rF hd8<|Ct.rB q16<|q20,rfl,h.to,k⟩
 refine lp (α:=Ct.X×Nat) (λρ=>(.c 0 ↑xb (.c 1 ↑fz (.c 4 ↑b1 (.c 5 ↑b2 .n))))) (λρ w=>SH B w (XA xb mb (Ct.X.of c ρ.1)::bl b2 (cU c.aE) 35::bl b1 ([.int .i64 0,↑false,.int .u64 0,.string .empty,.int .i64 0,.int .i64 0,.int .i64 0,↑false]) 49::L)/\(Ct.aX (Ct.iL c.aE fz F) (Ct.X.of c x)=Ct.aX (Ct.Xl c.aE fz ρ.2) (Ct.X.of c ρ.1))/\(Ct.Ok 60 (Ct.X.of c ρ.1))/\((Ct.X.of c ρ.1).e.aC=true\/(Ct.X.of c ρ.1).left<ρ.2)) (λρ=>ρ.2) (x,F) ⟨rfl,rfl,rfl,rfl,trivial⟩ ⟨h.to,(Ct.rF hd3<|rfl),k,(.inr (by(try dsimp only);omega))⟩ ?_
 rintro⟨y,n⟩ w ⟨h,hq,k,hn⟩
 dsimp only at *
 refine go h λw h=>?_
 refine st (ld (v:=.bool (Ct.X.of c y).e.aC) One.h rfl (h.xc a0 λ_=>rfl))<|go h λw h=>?_
 refine qc h (λhd22 w h=>?_) λhd22 w h=>?_
 have hd23:(Ct.X.of c y).e.aC=false:=by simpa using hd22
 refine go h λw h=>?_
 obtain⟨n,rfl⟩:∃k,n=k+1:=⟨n-1,by have:=hn.resolve_left (by rw[hd23];decide);omega⟩
 replace hn:=hn.resolve_left (by rw[hd23];decide)
 refine go h λw h=>?_
 have kb24:=k
 refine dE (nV xb mb (Ct.X.of c y) c.aE h.to (k.less (by omega))) λy25 v26 q27 w h k=>?_
 obtain⟨z28,rfl⟩:=Ct.mB q27
 have lq27:=Ct.nY q27
 have ltq27:=Ct.pY kb24 (by omega) q27
 have mq27:=Ct.UJ q27
 refine go h λw h=>?_
 have kb29:=k
 refine dE (hU xb mb (Ct.X.of c z28) c.aE v26 h.to (k.less (by omega))) λy30 v31 q32 w h k=>?_
 obtain⟨z33,rfl⟩:=Ct.mB q32
 have lq32:=Ct.nY q32
 have ltq32:=Ct.oK kb29 q32
 have mq32:=Ct.UJ q32
 refine go h λw h=>?_
 refine dE (MG (j:=59) xb mb (Ct.X.of c z33) h.to (k.less (by omega))) λy34 v35 q36 w h k=>?_
 obtain⟨z37,rfl⟩:=Ct.G5 q36
 have lq36:=Ct.A8 q36
 have mq36:=Ct.J1 q36
 refine go h λw h=>?_
 refine dZ [1,3,5,7,9,11,13,15,16,18,21] (by kernel_rfl) h (.c r1 .n) λw h=>go h λw h=>?_
 refine mF (dS (j:=58) xb mb (Ct.X.of c z37) ({kind:=2,gen:=v35}) {} v31 (SH.eE ({kind:=2,gen:=v35}) rfl rfl h.to) (k.less (by omega)) (Ct.bG _ 2 v35 0 0 0)) λy38 v39 q40 w h ⟨k,hly38⟩=>?_
 obtain⟨z41,rfl⟩:=Ct.Lg q40
 have lq40:=Ct.Gq q40
 have mq40:=Ct.w8 q40
 refine go h λw h=>?_
 refine mF (No xb mb (Ct.X.of c z41) c.aE v26 v31 v39 h.to (k.less (by omega))) λy42 v43 q44 w h k=>?_
 obtain⟨z45,rfl⟩:=Ct.mB q44
 have lq44:=Ct.nY q44
 have mq44:=Ct.UJ q44
 refine go h λw h=>?_
 refine qc h (λhd46 w h=>?_) λhd46 w h=>?_
 have hd47:v43=false:=by simpa using hd46
 refine go h λw h=>?_
 exact⟨(z45,n),⟨rfl,rfl,rfl,rfl,trivial⟩,⟨h,(hq.trans<|Ct.rB q27<|Ct.rB q32<|Ct.rG q36<|Ct.rA q40<|Ct.rB q44<|Ct.Zo hd47<|rfl),k,(ltq27.elim (λhz=>.inl (Ct.o0 q44 (Ct.y0 q40 (Ct.I9 q36 (Ct.o0 q32 hz))))) λhz=>.inr (by have:=hz.2;(try dsimp only);omega))⟩,by(try dsimp only);omega⟩
 have hd48:v43=true:=by simpa using hd46
 refine go h λw h=>?_
 refine qc h (λhd49 w h=>?_) λhd49 w h=>?_
 refine dE (AL (j:=59) xb mb (Ct.X.of c z45) v26 h.to (k.less (by omega))) λy50 v51 q52 w h k=>?_
 obtain⟨z53,rfl⟩:=Ct.F5 q52
 have lq52:=Ct.B7 q52
 have mq52:=Ct.I6 q52
 refine go h λw h=>?_
 exact rc h ⟨_,({found:=true,aE:={root:=v51,readOnly:=true}}:Ct.Result),hq.trans<|Ct.rB q27<|Ct.rB q32<|Ct.rG q36<|Ct.rA q40<|Ct.rB q44<|Ct.wF hd48<|Ct.rT hd49<|Ct.rE q52<|Ct.rR,rfl,h.to,(k.less (by omega))⟩
 refine dE (Gt xb mb (Ct.X.of c z45) v31 h.to (k.less (by omega))) λy54 v55 q56 w h k=>?_
 obtain⟨z57,rfl⟩:=Ct.mB q56
 have lq56:=Ct.nY q56
 have mq56:=Ct.UJ q56
 refine go h λw h=>?_
 exact rc h ⟨_,v55,hq.trans<|Ct.rB q27<|Ct.rB q32<|Ct.rG q36<|Ct.rA q40<|Ct.rB q44<|Ct.wF hd48<|Ct.rF hd49<|q56,rfl,h.to,k⟩
 have hd58:(Ct.X.of c y).e.aC=true:=by simpa using hd22
 refine go h λw h=>?_
 exact rc h ⟨_,({}:Ct.Result),hq.trans<|Ct.rS hd58,rfl,h.to,(k.stop hd58)⟩
end Go.Q9
end
section
namespace Go.Ct
variable{α β:Type}{x y:X}
def Y4(l:List (Int×Int)):Nat:=(l.map λf=>(64-f.2).toNat).sum
def Wk.mu(w:Wk):Nat:=w.wait.length+Y4 w.stack
theorem n7:∀l:List (Int×Int),(∀f∈l,0<=f.2)->Y4 l<=64*l.length
 |[],h=>JV _
 |p::l,h=>by
  have:=n7 l λf hf=>h f (Dk _ hf)
  have h0:=h p (oD ..)
  unfold Y4 at *
  rw[GL,List.sum_cons,QR]
  omega
theorem GX(f:Int×Int)(l:List (Int×Int)):Y4 (f::l)=(64-f.2).toNat+Y4 l:=by unfold Y4;rw[GL,List.sum_cons]
def FF(x y:X)(w v:Wk):Prop:=(y.e.aC=true\/y.left<x.left)/\v.started=w.started/\(v.stack=w.stack\/∃m,v.stack=(m,0)::w.stack)/\v.wait.length<=1000000000000
def IJ(x y:X)(w:Wk)(v:Nx):Prop:=y.e.aC=true\/(v.w.started=true/\v.w.stack.length+y.left<=w.stack.length+x.left/\(∀f∈v.w.stack,0<=f.2/\f.2<=64)/\v.w.wait.length<=1000000000000/\(y.left<x.left\/(v.ok=true->v.w.mu<w.mu))/\y.left<=x.left)
def oB(x y:X)(w:Wk)(fs:List (Int×Int))(wt:List bN):Prop:=y.e.aC=true\/(fs.length+y.left<=w.stack.length+x.left/\(∀f∈fs,0<=f.2/\f.2<=64)/\wt.length<=1000000000000/\(y.left<x.left\/(⟨true,fs,wt⟩:Wk).mu<=w.mu)/\y.left<=x.left)
theorem oB.start{x:X}{sd:Bool}{fs:List (Int×Int)}{wt:List bN}(h1:∀f∈fs,0<=f.2/\f.2<=64)(h2:wt.length<=1000000000000):oB x x ⟨sd,fs,wt⟩ fs wt:=.inr ⟨JV _,h1,h2,.inr (JV _),JV _⟩
theorem oB.first{x y z:X}{w v:Wk}(h1:∀f∈w.stack,0<=f.2/\f.2<=64)(hl:y.left<=x.left)(h:FF y z w v):oB x z w v.stack v.wait:=by
 obtain⟨h2,h3,h4,h5⟩:=h
 rcases h2 with h2|h2
 ·exact .inl h2
 ·refine .inr ⟨?_,?_,h5,.inl (by omega),by omega⟩
  ·rcases h4 with h4|⟨m,h4⟩<;>rw[h4]
   ·omega
   ·rw[QR];omega
  ·rcases h4 with h4|⟨m,h4⟩<;>rw[h4]
   ·exact h1
   ·exact λf hf=>(List.mem_cons.1 hf).elim (λe=>by rw[e];exact⟨JA 0,by show (0:Int)<=64;decide⟩) (h1 f)
theorem oB.head{x y:X}{w:Wk}{f:Int×Int}{l:List (Int×Int)}{wt:List bN}(h:oB x y w (f::l) wt)(hs:y.e.aC=false):0<=f.2/\f.2<=64:=(h.resolve_left (by rw[hs];decide)).2.1 f (oD ..)
theorem oB.pop{x y:X}{w:Wk}{f:Int×Int}{l:List (Int×Int)}{wt:List bN}(h:oB x y w (f::l) wt):oB x y w l wt:=h.imp id λ⟨h1,h2,h3,h4,h5⟩=>by
 rw[QR]at h1
 refine⟨by omega,λf hf=>h2 f (Dk _ hf),h3,h4.imp id λh=>?_,h5⟩
 unfold Wk.mu at *
 dsimp only at *
 rw[GX]at h
 omega
theorem oB.push{x y:X}{w:Wk}{f:Int×Int}{l:List (Int×Int)}{wt:List bN}{i:Int}(h:oB x y w (f::l) wt)(hs:y.e.aC=false)(h0:f.2<=i)(h1:i<64):l.length+1+y.left<=w.stack.length+x.left/\(∀g∈(f.1,i+1)::l,0<=g.2/\g.2<=64)/\(y.left<x.left\/(⟨true,(f.1,i+1)::l,wt⟩:Wk).mu<w.mu)/\y.left<=x.left:=by
 have hf:=h.head hs
 obtain⟨a1,a2,a3,a4,a5⟩:=h.resolve_left (by rw[hs];decide)
 refine⟨a1,λg hg=>(List.mem_cons.1 hg).elim (λe=>by rw[e];dsimp only;omega) λhg=>a2 g (Dk _ hg),a4.imp id λh=>?_,a5⟩
 unfold Wk.mu at *
 dsimp only at *
 rw[GX]at h ⊢
 dsimp only at *
 omega
theorem oB.one{x y:X}{w:Wk}{f:Int×Int}{l:List (Int×Int)}{wt:List bN}{i:Int}{p:bN}(h:oB x y w (f::l) wt)(hs:y.e.aC=false)(h0:f.2<=i)(h1:i<64):IJ x y w ⟨⟨true,(f.1,i+1)::l,wt⟩,p,true⟩:=by
 obtain⟨a1,a2,a3,a4⟩:=h.push hs h0 h1
 obtain⟨_,_,b3,_,_⟩:=h.resolve_left (by rw[hs];decide)
 exact .inr ⟨rfl,a1,a2,b3,a3.imp id λh _=>h,a4⟩
theorem oB.enter{x y z:X}{w v:Wk}{f:Int×Int}{l:List (Int×Int)}{wt:List bN}{i:Int}(h:oB x y w (f::l) wt)(hs:y.e.aC=false)(h0:f.2<=i)(h1:i<64)(he:FF y z ⟨true,(f.1,i+1)::l,wt⟩ v):oB x z w v.stack v.wait:=by
 obtain⟨a1,a2,a3,a4⟩:=h.push hs h0 h1
 obtain⟨h2,h3,h4,h5⟩:=he
 rcases h2 with h2|h2
 ·exact .inl h2
 ·refine .inr ⟨?_,?_,h5,.inl (by omega),by omega⟩
  ·rcases h4 with h4|⟨m,h4⟩<;>rw[h4]<;>simp only[QR]<;>omega
  ·rcases h4 with h4|⟨m,h4⟩<;>rw[h4]
   ·exact a2
   ·exact λf hf=>(List.mem_cons.1 hf).elim (λe=>by rw[e];exact⟨JA 0,by show (0:Int)<=64;decide⟩) (a2 f)
theorem oB.wait{x y:X}{w:Wk}{fs:List (Int×Int)}{p:bN}{wt:List bN}(h:oB x y w fs (p::wt)):IJ x y w ⟨⟨true,fs,wt⟩,p,true⟩:=h.imp id λ⟨h1,h2,h3,h4,h5⟩=>by
 rw[QR]at h3
 refine⟨rfl,h1,h2,by dsimp only;omega,h4.imp id λh _=>?_,h5⟩
 unfold Wk.mu at *
 dsimp only at *
 rw[QR]at h
 omega
theorem oB.none{x y:X}{w:Wk}{fs:List (Int×Int)}{wt:List bN}{p:bN}(h:oB x y w fs wt):IJ x y w ⟨⟨true,fs,wt⟩,p,false⟩:=h.imp id λ⟨h1,h2,h3,h4,h5⟩=>⟨rfl,h1,h2,h3,h4.imp id λ_ h=>(by cases h),h5⟩
theorem LS{t:bC}{n:Nat}{f:Int×Int}{l:List (Int×Int)}(h:eQ (x.node f.1).aD f.2=64):aX (iS t n ⟨true,f::l,[]⟩) x=aX (iS t n ⟨true,l,[]⟩) x:=by
 have key:∀K,aX (Nn t K ⟨true,f::l,[]⟩) x=aX (Nn t K ⟨true,l,[]⟩) x:=λK=>by
  show aX (bif eQ (x.node f.1).aD f.2==64 then _ else _) x=_
  rw[h];rfl
 cases n<;>exact key _
theorem PN{t:bC}{n:Nat}{f:Int×Int}{l:List (Int×Int)}{i:Int}(h:eQ (x.node f.1).aD f.2=i)(h64:i≠64)(hk:(x.node (aB (x.node f.1) i).1).kind=4){v:Nx}(hv:v=⟨⟨true,(f.1,i+1)::l,[]⟩,⟨(x.node (aB (x.node f.1) i).1).key,(x.node (aB (x.node f.1) i).1).value⟩,true⟩):aX (iS t n ⟨true,f::l,[]⟩) x=out x v:=by
 subst hv h
 have key:∀K,aX (Nn t K ⟨true,f::l,[]⟩) x=out x _:=λK=>by
  show aX (bif eQ (x.node f.1).aD f.2==64 then _ else .node _ _) x=_
  rw[show (eQ (x.node f.1).aD f.2==64)=false from beq_eq_false_iff_ne.2 h64]
  show aX (bif (x.node (aB (x.node f.1) (eQ (x.node f.1).aD f.2)).1).kind==4 then _ else _) x=_
  rw[hk];exact rR
 cases n<;>exact key _
theorem DC{t:bC}{n:Nat}{f:Int×Int}{l:List (Int×Int)}{i:Int}(h:eQ (x.node f.1).aD f.2=i)(h64:i≠64)(hk:(x.node (aB (x.node f.1) i).1).kind≠4){v:Wk}{o:X×Option Nx}(q:aX (wS t ⟨true,(f.1,i+1)::l,[]⟩ (aB (x.node f.1) i).1) x=out y v)(hr:aX (iS t n v) y=o):aX (iS t (n+1) ⟨true,f::l,[]⟩) x=o:=by
 subst h
 show aX (bif eQ (x.node f.1).aD f.2==64 then _ else .node _ _) x=_
 rw[show (eQ (x.node f.1).aD f.2==64)=false from beq_eq_false_iff_ne.2 h64]
 show aX (bif (x.node (aB (x.node f.1) (eQ (x.node f.1).aD f.2)).1).kind==4 then _ else _) x=_
 rw[show ((x.node (aB (x.node f.1) (eQ (x.node f.1).aD f.2)).1).kind==4)=false from beq_eq_false_iff_ne.2 hk]
 exact rB q hr
theorem JO{t:bC}{n:Nat}{fs:List (Int×Int)}{p:bN}{wt:List bN}:aX (iS t n ⟨true,fs,p::wt⟩) x=out x ⟨⟨true,fs,wt⟩,p,true⟩:=by cases n<;>exact rR
theorem OS{t:bC}{n:Nat}:aX (iS t n ⟨true,[],[]⟩) x=out x ⟨⟨true,[],[]⟩,⟨.empty,0⟩,false⟩:=by cases n<;>exact rR
theorem S6{fs l:List (Int×Int)}{f d:Int×Int}(h:fs=f::l):fs.reverse.getD l.length d=f:=by
 subst h
 rw[List.reverse_cons,dI,tW (by simp)]
 simp
theorem N3{fs l:List (Int×Int)}{f:Int×Int}(h:fs=f::l):fs.reverse.take l.length=l.reverse:=by
 subst h
 rw[List.reverse_cons,List.take_append_of_le_length (by simp),MA (by simp)]
theorem If{x y:X}{w:Wk}{m:Int}{n:Node}(h:y.e.aC=true\/y.left<x.left)(hw:w.wait.length<=1000000000000)(hn:n.aF.length<=1000000000000):FF x y w (w.meet m n):=by
 unfold FF Wk.meet
 refine⟨h,?_⟩
 cases (n.kind==3)with
 |true=>exact⟨rfl,.inr ⟨m,rfl⟩,hw⟩
 |false=>
  cases (n.kind==5)with
  |true=>exact⟨rfl,.inl rfl,by show 1<=_;decide⟩
  |false=>
   cases (n.kind==6)with
   |true=>exact⟨rfl,.inl rfl,hn⟩
   |false=>exact⟨rfl,.inl rfl,hw⟩
end Go.Ct
namespace Go.Ct
theorem Y6{v:Wk}(h:v.started=true):v=⟨true,v.stack,v.wait⟩:=by cases v;cases h;rfl
theorem Yc{t:bC}{n:Nat}{x:X}{v:Wk}(h:v.started=true):aX (iS t n v) x=aX (iS t n ⟨true,v.stack,v.wait⟩) x:=congrArg (λv=>aX (iS t n v) x) (Y6 h)
def cM(l:Nat):Nat:=l*10000000000000
theorem V9{l m:Nat}(h:l<m):cM l+10000000000000<=cM m:=by
 obtain⟨d,rfl⟩:∃d,m=l+1+d:=⟨m-l-1,by omega⟩
 unfold cM
 rw[Nat.add_mul,Nat.add_mul];omega
theorem U1{l m:Nat}(h:l<=m):cM l<=cM m:=IS _ h
def LA(F:Nat)(y:X)(cf:Nat)(w:Wk):Prop:=y.e.aC=true\/(cM y.left+w.mu<cf/\w.stack.length+y.left<=100000000000/\(∀f∈w.stack,0<=f.2/\f.2<=64)/\w.wait.length<=1000000000000/\y.left<F)
theorem LA.start{F:Nat}{x:X}(h:x.left<F)(hF:F<=100000000000):LA F x (Mz F) {}:=.inr ⟨by
 have h1:=V9 h
 have h2:Mz F=cM (F+1):=rfl
 have h3:=U1 (show F<=F+1 by omega)
 have h4:({}:Wk).mu=0:=rfl
 rw[h2,h4]
 omega,by show 0+_<=_;omega,(λf hf=>by cases hf),dF _,h⟩
theorem LA.next{F:Nat}{y z:X}{cf:Nat}{w:Wk}{v:Nx}(h:LA F y (cf+1) w)(hs:y.e.aC=false)(hz:IJ y z w v)(ho:v.ok=true):LA F z cf v.w:=by
 obtain⟨h1,h2,h3,h4,h5⟩:=h.resolve_left (by rw[hs];decide)
 rcases hz with hz|⟨a0,a1,a2,a3,a4,a5⟩
 ·exact .inl hz
 ·have h6:cM z.left+v.w.mu<cf:=by
   rcases a4 with a4|a4
   ·have h7:=n7 v.w.stack λf hf=>(a2 f hf).1
    have h8:v.w.mu=v.w.wait.length+Y4 v.w.stack:=rfl
    have h9:=V9 a4
    omega
   ·have h7:=a4 ho
    have h9:=U1 a5
    omega
  exact .inr ⟨h6,by omega,a2,a3,by omega⟩
theorem LA.pos{F:Nat}{y:X}{cf:Nat}{w:Wk}(h:LA F y cf w)(hs:y.e.aC=false):∃k,cf=k+1:=by
 obtain⟨h1,_⟩:=h.resolve_left (by rw[hs];decide)
 exact⟨cf-1,by omega⟩
end Go.Ct
end
section
namespace Go.E
open Go.RowKit
end Go.E
end
section
namespace Go.E
open Go.RowKit
theorem KG{fn:Func}{p q u:Tmp}{ty uy:TypeId}(h:fn.results=#[.cell p ty,.cell q uy,.tmp u])(tmps:Array Value)(P:Program)(w:World):(results fn tmps).run P w=((asAddr (tmps.getD p undef)).run P w).andThen λa w₁=>((loadVar ty a).run P w₁).andThen λv w₂=>((asAddr (tmps.getD q undef)).run P w₂).andThen λb w₃=>((loadVar uy b).run P w₃).andThen λz w₄=>.ok (.tuple #[v,z,tmps.getD u undef]) w₄:=by
 simp only[results,h]
 simp[Sem.run_bind,Result.andThen]
theorem FG{P:Program}{n:Nat}{e:Tm}{w:World}{fn:Func}{t r s:Nat}{ty uy u1 u2:TypeId}{g k:Nat}{cs ds:List Value}{v:Value}(hr:fn.results=#[.cell t ty,.cell r uy,.tmp s])(hp:ev n e (.tmp t)=some (.pointer (some ⟨g,0,none⟩)))(hg:w.heap[g]?=some (.cells cs.toArray u1 (0,0)))(hR:xA P ty=some cs.length)
  (hq:ev n e (.tmp r)=some (.pointer (some ⟨k,0,none⟩))) (hk:w.heap[k]?=some (.cells ds.toArray u2 (0,0))) (hS:xA P uy=some ds.length) (hv:ev n e (.tmp s)=some v):jT P fn n e w (.tuple #[.agg cs.toArray,.agg ds.toArray,v]):=λa ha=>by
 have h4:a.tmps.getD s undef=v:=ha.eval hv
 have h5:a.tmps.getD t undef=_:=ha.eval hp
 have h7:a.tmps.getD r undef=_:=ha.eval hq
 rw[KG hr,h4,h5,h7]
 have h6:=SN (P:=P) hR hg
 have h8:=SN (P:=P) hS hk
 simp[asAddr,Result.andThen,h6,h8]
end Go.E
end
section
namespace Go.E
open Go.RowKit
variable{B w:World}{L:List As}{P:Program}{n:Nat}{K:iG}{e:Tm}{ops:Array Oper}{l:List Oper}
variable{L':List As}{d:Option Tmp}{ty:TypeId}{ps:String}{af:Array Edge}{g:Option (Nat×Bool)}
theorem Kk{α:Type}{enc:α->List Value}{sz:Nat}(he:∀x,(enc x).length=sz):∀(xs:List α) (k:Nat),(xs.flatMap enc).take (k*sz)=(xs.take k).flatMap enc
 |[],k=>by simp
 |x::xs,0=>by simp
 |x::xs,k+1=>by
  rw[Xe,List.take_succ_cons,Xe,<- Kk he xs k,List.take_append,he x,Nat.succ_mul,MA (by rw[he x];omega),OG]
end Go.E
end
