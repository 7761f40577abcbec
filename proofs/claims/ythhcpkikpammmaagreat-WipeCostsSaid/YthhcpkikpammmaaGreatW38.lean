/- Parts of a proof: Q6, Qi, Cv, E16, E14. -/
import Derived.Test.YthhcpkikpammmaaGreatW37
set_option linter.unusedVariables false
set_option linter.unusedSimpArgs false
set_option maxRecDepth 100000
set_option maxHeartbeats 4000000
section
namespace Go.Q9
open Go.Proofs.Tryz
open Go.RowKit Go.E Go.Ct
attribute [local irreducible] gB wpS Go.E.X XS C jU kP fin Y U F Ca jT bl rb aU bV ex ce pu sK gK bK zK
variable{B w:World}{L:List As}
theorem Gt(xb mb:Nat)(x:Ct.X)(m:Int)(h:SH B w (XA xb mb x::L))(k:Ct.Ok 60 x):
  Calls prog 215 #[↑xb,↑m] w λe w'=>∃y v,Ct.aX (Ct.wK m) x=Ct.out y v/\e=.returned (.agg (xC v).toArray)/\SH B w' (XA xb mb y::L)/\Ct.Ok 50 y:=by
 have hlen:=k.len
 refine bZ func215 ntmps215 h λw h=>?_
 refine jA h λb1 w h=>?_
 refine dE (MG (j:=59) xb mb x h.to (k.less (by omega))) λy2 v3 q4 w h k=>?_
 have lq4:=Ct.A8 q4
 refine go h λw h=>?_
 refine dE (dS (j:=58) xb mb y2 ({kind:=2,gen:=v3}) {} m (SH.eE ({kind:=2,gen:=v3}) rfl rfl h.to) (k.less (by omega)) (Ct.bG _ 2 v3 0 0 0)) λy5 v6 q7 w h ⟨k,hly5⟩=>?_
 have lq7:=Ct.Gq q7
 refine go h λw h=>?_
 refine dE (AL (j:=57) xb mb y5 v6 h.to (k.less (by omega))) λy8 v9 q10 w h k=>?_
 have lq10:=Ct.B7 q10
 refine go h λw h=>?_
 exact rr (bP rfl rfl (h.b a1) Row.h)<|⟨_,({found:=true,aE:={root:=v9}}:Ct.Result),Ct.rG q4<|Ct.rA q7<|Ct.rE q10<|Ct.rR,rfl,h.to,(k.less (by omega))⟩
theorem ID(xb mb:Nat)(x:Ct.X)(c:Ct.Call)(F:Nat)(h:SH B w (XA xb mb (Ct.X.of c x)::L))(k:Ct.Ok 60 (Ct.X.of c x))(hx:(Ct.X.of c x).left<F):
  Calls prog 164 #[↑xb] w λe w'=>∃y v,Ct.aX (Ct.vK c.aE F) (Ct.X.of c x)=Ct.out y v/\e=.returned (.agg (xC v).toArray)/\SH B w' (XA xb mb y::L)/\Ct.Ok 60 y:=by
 have hlen:=k.len
 refine bZ func164 ntmps164 h λw h=>?_
 refine jA h λb1 w h=>?_
 refine st (gJ (cs:=cU c.aE) rfl (h.xr 2 a1 λ_=>rfl) Row.h)<|go h λw h=>?_
 refine jA h λb2 w h=>?_
 refine lp (α:=Ct.X×Nat) (λρ=>(.c 0 ↑xb (.c 2 ↑b1 (.c 3 ↑b2 .n)))) (λρ w=>SH B w (XA xb mb (Ct.X.of c ρ.1)::bl b2 (cU c.aE) 35::bl b1 ([.int .i64 0,↑false,.int .u64 0,.string .empty,.int .i64 0,.int .i64 0,.int .i64 0,↑false]) 43::L)/\(Ct.aX (Ct.vK c.aE F) (Ct.X.of c x)=Ct.aX (Ct.vK c.aE ρ.2) (Ct.X.of c ρ.1))/\(Ct.Ok 60 (Ct.X.of c ρ.1))/\((Ct.X.of c ρ.1).e.aC=true\/(Ct.X.of c ρ.1).left<ρ.2)) (λρ=>ρ.2) (x,F) ⟨rfl,rfl,rfl,trivial⟩ ⟨h.to,(rfl),k,(.inr (by(try dsimp only);omega))⟩ ?_
 rintro⟨y,n⟩ w ⟨h,hq,k,hn⟩
 dsimp only at *
 refine go h λw h=>?_
 refine st (ld (v:=.bool (Ct.X.of c y).e.aC) One.h rfl (h.xc a0 λ_=>rfl))<|go h λw h=>?_
 refine qc h (λhd3 w h=>?_) λhd3 w h=>?_
 have hd4:(Ct.X.of c y).e.aC=false:=by simpa using hd3
 refine go h λw h=>?_
 obtain⟨n,rfl⟩:∃k,n=k+1:=⟨n-1,by have:=hn.resolve_left (by rw[hd4];decide);omega⟩
 replace hn:=hn.resolve_left (by rw[hd4];decide)
 refine go h λw h=>?_
 have kb5:=k
 refine dE (nV xb mb (Ct.X.of c y) c.aE h.to (k.less (by omega))) λy6 v7 q8 w h k=>?_
 obtain⟨z9,rfl⟩:=Ct.mB q8
 have lq8:=Ct.nY q8
 have ltq8:=Ct.pY kb5 (by omega) q8
 have mq8:=Ct.UJ q8
 refine go h λw h=>?_
 have kb10:=k
 refine dE (hU xb mb (Ct.X.of c z9) c.aE v7 h.to (k.less (by omega))) λy11 v12 q13 w h k=>?_
 obtain⟨z14,rfl⟩:=Ct.mB q13
 have lq13:=Ct.nY q13
 have ltq13:=Ct.oK kb10 q13
 have mq13:=Ct.UJ q13
 refine go h λw h=>?_
 refine dE (dS (j:=59) xb mb (Ct.X.of c z14) ({kind:=3}) {} 0 (SH.eE ({kind:=3}) rfl rfl h.to) (k.less (by omega)) (Ct.fY _)) λy15 v16 q17 w h ⟨k,hly15⟩=>?_
 obtain⟨z18,rfl⟩:=Ct.Lg q17
 have lq17:=Ct.Gq q17
 have mq17:=Ct.w8 q17
 refine go h λw h=>?_
 refine dE (MG (j:=58) xb mb (Ct.X.of c z18) h.to (k.less (by omega))) λy19 v20 q21 w h k=>?_
 obtain⟨z22,rfl⟩:=Ct.G5 q21
 have lq21:=Ct.A8 q21
 have mq21:=Ct.J1 q21
 refine go h λw h=>?_
 refine dZ [1,3,5,7,9,11,13,15,16,18] (by kernel_rfl) h (.c r1 .n) λw h=>go h λw h=>?_
 refine mF (dS (j:=57) xb mb (Ct.X.of c z22) ({kind:=2,gen:=v20}) {} v16 (SH.eE ({kind:=2,gen:=v20}) rfl rfl h.to) (k.less (by omega)) (Ct.bG _ 2 v20 0 0 0)) λy23 v24 q25 w h ⟨k,hly23⟩=>?_
 obtain⟨z26,rfl⟩:=Ct.Lg q25
 have lq25:=Ct.Gq q25
 have mq25:=Ct.w8 q25
 refine go h λw h=>?_
 refine mF (No xb mb (Ct.X.of c z26) c.aE v7 v12 v24 h.to (k.less (by omega))) λy27 v28 q29 w h k=>?_
 obtain⟨z30,rfl⟩:=Ct.mB q29
 have lq29:=Ct.nY q29
 have mq29:=Ct.UJ q29
 refine go h λw h=>?_
 refine qc h (λhd31 w h=>?_) λhd31 w h=>?_
 exact rc h ⟨_,({found:=true}:Ct.Result),hq.trans<|Ct.rB q8<|Ct.rB q13<|Ct.rA q17<|Ct.rG q21<|Ct.rA q25<|Ct.rB q29<|Ct.rT hd31<|Ct.rR,rfl,h.to,k⟩
 exact⟨(z30,n),⟨rfl,rfl,rfl,trivial⟩,⟨h,(hq.trans<|Ct.rB q8<|Ct.rB q13<|Ct.rA q17<|Ct.rG q21<|Ct.rA q25<|Ct.rB q29<|Ct.rF hd31<|rfl),k,(ltq8.elim (λhz=>.inl (Ct.o0 q29 (Ct.y0 q25 (Ct.I9 q21 (Ct.y0 q17 (Ct.o0 q13 hz)))))) λhz=>.inr (by have:=hz.2;(try dsimp only);omega))⟩,by(try dsimp only);omega⟩
 have hd32:(Ct.X.of c y).e.aC=true:=by simpa using hd3
 refine go h λw h=>?_
 exact rc h ⟨_,({}:Ct.Result),hq.trans<|Ct.rS hd32,rfl,h.to,(k.stop hd32)⟩
theorem Bw(xb mb:Nat)(x:Ct.X)(c:Ct.Call)(fz:Bool)(F:Nat)(h:SH B w (XA xb mb (Ct.X.of c x)::L))(k:Ct.Ok 60 (Ct.X.of c x))(hx:(Ct.X.of c x).left<F):
  Calls prog 163 #[↑xb,↑fz] w λe w'=>∃y v,Ct.aX (Ct.iL c.aE fz F) (Ct.X.of c x)=Ct.out y v/\e=.returned (.agg (xC v).toArray)/\SH B w' (XA xb mb y::L)/\Ct.Ok 50 y:=by
 have hlen:=k.len
 refine bZ func163 ntmps163 h λw h=>?_
 refine jA h λb1 w h=>?_
 refine st (gJ (cs:=cU c.aE) rfl (h.xr 2 a1 λ_=>rfl) Row.h)<|go h λw h=>?_
 refine jA h λb2 w h=>?_
 refine qc h (λhd3 w h=>?_) λhd3 w h=>?_
 refine dE (mU xb mb (Ct.X.of c x) c.aE.root h.to (k.less (by omega))) λy4 v5 q6 w h k=>?_
 obtain⟨z7,rfl⟩:=Ct.J2 q6
 have lq6:=Ct.M8 q6
 have mq6:=Ct.K1 q6
 refine go h λw h=>?_
 refine qc h (λhd8 w h=>?_) λhd8 w h=>?_
 refine dE (AL (j:=89) xb mb (Ct.X.of c z7) v5 h.to (k.less (by omega))) λy9 v10 q11 w h k=>?_
 obtain⟨z12,rfl⟩:=Ct.F5 q11
 have lq11:=Ct.B7 q11
 have mq11:=Ct.I6 q11
 refine go h λw h=>?_
 exact rc h ⟨_,({found:=true,aE:={root:=v10,readOnly:=true}}:Ct.Result),Ct.rT hd3<|Ct.rL q6<|Ct.rT hd8<|Ct.rE q11<|Ct.rR,rfl,h.to,(k.less (by omega))⟩
 have kb13:=k
 refine dE (hU xb mb (Ct.X.of c z7) c.aE v5 h.to (k.less (by omega))) λy14 v15 q16 w h k=>?_
 obtain⟨z17,rfl⟩:=Ct.mB q16
 have lq16:=Ct.nY q16
 have ltq16:=Ct.oK kb13 q16
 have mq16:=Ct.UJ q16
 refine go h λw h=>?_
 refine dE (Gt xb mb (Ct.X.of c z17) v15 h.to (k.less (by omega))) λy18 v19 q20 w h k=>?_
 obtain⟨z21,rfl⟩:=Ct.mB q20
 have lq20:=Ct.nY q20
 have mq20:=Ct.UJ q20
 refine go h λw h=>?_
 exact rc h ⟨_,v19,Ct.rT hd3<|Ct.rL q6<|Ct.rF hd8<|Ct.rB q16<|q20,rfl,h.to,k⟩
 refine lp (α:=Ct.X×Nat) (λρ=>(.c 0 ↑xb (.c 1 ↑fz (.c 4 ↑b1 (.c 5 ↑b2 .n))))) (λρ w=>SH B w (XA xb mb (Ct.X.of c ρ.1)::bl b2 (cU c.aE) 35::bl b1 ([.int .i64 0,↑false,.int .u64 0,.string .empty,.int .i64 0,.int .i64 0,.int .i64 0,↑false]) 43::L)/\(Ct.aX (Ct.iL c.aE fz F) (Ct.X.of c x)=Ct.aX (Ct.Xl c.aE fz ρ.2) (Ct.X.of c ρ.1))/\(Ct.Ok 60 (Ct.X.of c ρ.1))/\((Ct.X.of c ρ.1).e.aC=true\/(Ct.X.of c ρ.1).left<ρ.2)) (λρ=>ρ.2) (x,F) ⟨rfl,rfl,rfl,rfl,trivial⟩ ⟨h.to,(Ct.rF hd3<|rfl),k,(.inr (by(try dsimp only);omega))⟩ ?_
 rintro⟨y,n⟩ w ⟨h,hq,k,hn⟩
 dsimp only at *
 refine go h λw h=>?_
 refine st (ld (v:=.bool (Ct.X.of c y).e.aC) One.h rfl (h.xc a0 λ_=>rfl))<|go h λw h=>?_
 refine qc h (λhd22 w h=>?_) λhd22 w h=>?_
 have hd23:(Ct.X.of c y).e.aC=false:=by simpa using hd22
 refine go h λw h=>?_
 obtain⟨n,rfl⟩:∃k,n=k+1:=⟨n-1,by have:=hn.resolve_left (by rw[hd23];decide);omega⟩
 replace hn:=hn.resolve_left (by rw[hd23];decide)
 refine go h λw h=>?_
 have kb24:=k
 refine dE (nV xb mb (Ct.X.of c y) c.aE h.to (k.less (by omega))) λy25 v26 q27 w h k=>?_
 obtain⟨z28,rfl⟩:=Ct.mB q27
 have lq27:=Ct.nY q27
 have ltq27:=Ct.pY kb24 (by omega) q27
 have mq27:=Ct.UJ q27
 refine go h λw h=>?_
 have kb29:=k
 refine dE (hU xb mb (Ct.X.of c z28) c.aE v26 h.to (k.less (by omega))) λy30 v31 q32 w h k=>?_
 obtain⟨z33,rfl⟩:=Ct.mB q32
 have lq32:=Ct.nY q32
 have ltq32:=Ct.oK kb29 q32
 have mq32:=Ct.UJ q32
 refine go h λw h=>?_
 refine dE (MG (j:=59) xb mb (Ct.X.of c z33) h.to (k.less (by omega))) λy34 v35 q36 w h k=>?_
 obtain⟨z37,rfl⟩:=Ct.G5 q36
 have lq36:=Ct.A8 q36
 have mq36:=Ct.J1 q36
 refine go h λw h=>?_
 refine dZ [1,3,5,7,9,11,13,15,16,18,21] (by kernel_rfl) h (.c r1 .n) λw h=>go h λw h=>?_
 refine mF (dS (j:=58) xb mb (Ct.X.of c z37) ({kind:=2,gen:=v35}) {} v31 (SH.eE ({kind:=2,gen:=v35}) rfl rfl h.to) (k.less (by omega)) (Ct.bG _ 2 v35 0 0 0)) λy38 v39 q40 w h ⟨k,hly38⟩=>?_
 obtain⟨z41,rfl⟩:=Ct.Lg q40
 have lq40:=Ct.Gq q40
 have mq40:=Ct.w8 q40
 refine go h λw h=>?_
 refine mF (No xb mb (Ct.X.of c z41) c.aE v26 v31 v39 h.to (k.less (by omega))) λy42 v43 q44 w h k=>?_
 obtain⟨z45,rfl⟩:=Ct.mB q44
 have lq44:=Ct.nY q44
 have mq44:=Ct.UJ q44
 refine go h λw h=>?_
 refine qc h (λhd46 w h=>?_) λhd46 w h=>?_
 have hd47:v43=false:=by simpa using hd46
 refine go h λw h=>?_
 exact⟨(z45,n),⟨rfl,rfl,rfl,rfl,trivial⟩,⟨h,(hq.trans<|Ct.rB q27<|Ct.rB q32<|Ct.rG q36<|Ct.rA q40<|Ct.rB q44<|Ct.Zo hd47<|rfl),k,(ltq27.elim (λhz=>.inl (Ct.o0 q44 (Ct.y0 q40 (Ct.I9 q36 (Ct.o0 q32 hz))))) λhz=>.inr (by have:=hz.2;(try dsimp only);omega))⟩,by(try dsimp only);omega⟩
 have hd48:v43=true:=by simpa using hd46
 refine go h λw h=>?_
 refine qc h (λhd49 w h=>?_) λhd49 w h=>?_
 refine dE (AL (j:=59) xb mb (Ct.X.of c z45) v26 h.to (k.less (by omega))) λy50 v51 q52 w h k=>?_
 obtain⟨z53,rfl⟩:=Ct.F5 q52
 have lq52:=Ct.B7 q52
 have mq52:=Ct.I6 q52
 refine go h λw h=>?_
 exact rc h ⟨_,({found:=true,aE:={root:=v51,readOnly:=true}}:Ct.Result),hq.trans<|Ct.rB q27<|Ct.rB q32<|Ct.rG q36<|Ct.rA q40<|Ct.rB q44<|Ct.wF hd48<|Ct.rT hd49<|Ct.rE q52<|Ct.rR,rfl,h.to,(k.less (by omega))⟩
 refine dE (Gt xb mb (Ct.X.of c z45) v31 h.to (k.less (by omega))) λy54 v55 q56 w h k=>?_
 obtain⟨z57,rfl⟩:=Ct.mB q56
 have lq56:=Ct.nY q56
 have mq56:=Ct.UJ q56
 refine go h λw h=>?_
 exact rc h ⟨_,v55,hq.trans<|Ct.rB q27<|Ct.rB q32<|Ct.rG q36<|Ct.rA q40<|Ct.rB q44<|Ct.wF hd48<|Ct.rF hd49<|q56,rfl,h.to,k⟩
 have hd58:(Ct.X.of c y).e.aC=true:=by simpa using hd22
 refine go h λw h=>?_
 exact rc h ⟨_,({}:Ct.Result),hq.trans<|Ct.rS hd58,rfl,h.to,(k.stop hd58)⟩
end Go.Q9
end
section
namespace Go.Ct
variable{α β:Type}{x y:X}
def P'(l:List (Int×Int)):Nat:=(l.map λf=>(64-f.2).toNat).sum
def Wk.mu(w:Wk):Nat:=w.wait.length+P' w.stack
theorem S8:∀l:List (Int×Int),(∀f∈l,0<=f.2)->P' l<=64*l.length
 |[],h=>bD _
 |p::l,h=>by
  have:=S8 l λf hf=>h f (List.mem_cons_of_mem _ hf)
  have h0:=h p (List.mem_cons_self ..)
  unfold P' at *
  rw[GL,List.sum_cons,Qb]
  omega
theorem RC(f:Int×Int)(l:List (Int×Int)):P' (f::l)=(64-f.2).toNat+P' l:=by unfold P';rw[GL,List.sum_cons]
def GM(x y:X)(w v:Wk):Prop:=(y.e.aC=true\/y.left<x.left)/\v.started=w.started/\(v.stack=w.stack\/∃m,v.stack=(m,0)::w.stack)/\v.wait.length<=1000000000000
def JO(x y:X)(w:Wk)(v:Nx):Prop:=y.e.aC=true\/(v.w.started=true/\v.w.stack.length+y.left<=w.stack.length+x.left/\(∀f∈v.w.stack,0<=f.2/\f.2<=64)/\v.w.wait.length<=1000000000000/\(y.left<x.left\/(v.ok=true->v.w.mu<w.mu))/\y.left<=x.left)
def oB(x y:X)(w:Wk)(fs:List (Int×Int))(wt:List bN):Prop:=y.e.aC=true\/(fs.length+y.left<=w.stack.length+x.left/\(∀f∈fs,0<=f.2/\f.2<=64)/\wt.length<=1000000000000/\(y.left<x.left\/(⟨true,fs,wt⟩:Wk).mu<=w.mu)/\y.left<=x.left)
theorem oB.start{x:X}{sd:Bool}{fs:List (Int×Int)}{wt:List bN}(h1:∀f∈fs,0<=f.2/\f.2<=64)(h2:wt.length<=1000000000000):oB x x ⟨sd,fs,wt⟩ fs wt:=.inr ⟨bD _,h1,h2,.inr (bD _),bD _⟩
theorem oB.first{x y z:X}{w v:Wk}(h1:∀f∈w.stack,0<=f.2/\f.2<=64)(hl:y.left<=x.left)(h:GM y z w v):oB x z w v.stack v.wait:=by
 obtain⟨h2,h3,h4,h5⟩:=h
 rcases h2 with h2|h2
 ·exact .inl h2
 ·refine .inr ⟨?_,?_,h5,.inl (by omega),by omega⟩
  ·rcases h4 with h4|⟨m,h4⟩<;>rw[h4]
   ·omega
   ·rw[Qb];omega
  ·rcases h4 with h4|⟨m,h4⟩<;>rw[h4]
   ·exact h1
   ·exact λf hf=>(List.mem_cons.1 hf).elim (λe=>by rw[e];exact⟨CG 0,by show (0:Int)<=64;decide⟩) (h1 f)
theorem oB.head{x y:X}{w:Wk}{f:Int×Int}{l:List (Int×Int)}{wt:List bN}(h:oB x y w (f::l) wt)(hs:y.e.aC=false):0<=f.2/\f.2<=64:=(h.resolve_left (by rw[hs];decide)).2.1 f (List.mem_cons_self ..)
theorem oB.pop{x y:X}{w:Wk}{f:Int×Int}{l:List (Int×Int)}{wt:List bN}(h:oB x y w (f::l) wt):oB x y w l wt:=h.imp id λ⟨h1,h2,h3,h4,h5⟩=>by
 rw[Qb]at h1
 refine⟨by omega,λf hf=>h2 f (List.mem_cons_of_mem _ hf),h3,h4.imp id λh=>?_,h5⟩
 unfold Wk.mu at *
 dsimp only at *
 rw[RC]at h
 omega
theorem oB.push{x y:X}{w:Wk}{f:Int×Int}{l:List (Int×Int)}{wt:List bN}{i:Int}(h:oB x y w (f::l) wt)(hs:y.e.aC=false)(h0:f.2<=i)(h1:i<64):l.length+1+y.left<=w.stack.length+x.left/\(∀g∈(f.1,i+1)::l,0<=g.2/\g.2<=64)/\(y.left<x.left\/(⟨true,(f.1,i+1)::l,wt⟩:Wk).mu<w.mu)/\y.left<=x.left:=by
 have hf:=h.head hs
 obtain⟨a1,a2,a3,a4,a5⟩:=h.resolve_left (by rw[hs];decide)
 refine⟨a1,λg hg=>(List.mem_cons.1 hg).elim (λe=>by rw[e];dsimp only;omega) λhg=>a2 g (List.mem_cons_of_mem _ hg),a4.imp id λh=>?_,a5⟩
 unfold Wk.mu at *
 dsimp only at *
 rw[RC]at h ⊢
 dsimp only at *
 omega
theorem oB.one{x y:X}{w:Wk}{f:Int×Int}{l:List (Int×Int)}{wt:List bN}{i:Int}{p:bN}(h:oB x y w (f::l) wt)(hs:y.e.aC=false)(h0:f.2<=i)(h1:i<64):JO x y w ⟨⟨true,(f.1,i+1)::l,wt⟩,p,true⟩:=by
 obtain⟨a1,a2,a3,a4⟩:=h.push hs h0 h1
 obtain⟨_,_,b3,_,_⟩:=h.resolve_left (by rw[hs];decide)
 exact .inr ⟨rfl,a1,a2,b3,a3.imp id λh _=>h,a4⟩
theorem oB.enter{x y z:X}{w v:Wk}{f:Int×Int}{l:List (Int×Int)}{wt:List bN}{i:Int}(h:oB x y w (f::l) wt)(hs:y.e.aC=false)(h0:f.2<=i)(h1:i<64)(he:GM y z ⟨true,(f.1,i+1)::l,wt⟩ v):oB x z w v.stack v.wait:=by
 obtain⟨a1,a2,a3,a4⟩:=h.push hs h0 h1
 obtain⟨h2,h3,h4,h5⟩:=he
 rcases h2 with h2|h2
 ·exact .inl h2
 ·refine .inr ⟨?_,?_,h5,.inl (by omega),by omega⟩
  ·rcases h4 with h4|⟨m,h4⟩<;>rw[h4]<;>simp only[Qb]<;>omega
  ·rcases h4 with h4|⟨m,h4⟩<;>rw[h4]
   ·exact a2
   ·exact λf hf=>(List.mem_cons.1 hf).elim (λe=>by rw[e];exact⟨CG 0,by show (0:Int)<=64;decide⟩) (a2 f)
theorem oB.wait{x y:X}{w:Wk}{fs:List (Int×Int)}{p:bN}{wt:List bN}(h:oB x y w fs (p::wt)):JO x y w ⟨⟨true,fs,wt⟩,p,true⟩:=h.imp id λ⟨h1,h2,h3,h4,h5⟩=>by
 rw[Qb]at h3
 refine⟨rfl,h1,h2,by dsimp only;omega,h4.imp id λh _=>?_,h5⟩
 unfold Wk.mu at *
 dsimp only at *
 rw[Qb]at h
 omega
theorem oB.none{x y:X}{w:Wk}{fs:List (Int×Int)}{wt:List bN}{p:bN}(h:oB x y w fs wt):JO x y w ⟨⟨true,fs,wt⟩,p,false⟩:=h.imp id λ⟨h1,h2,h3,h4,h5⟩=>⟨rfl,h1,h2,h3,h4.imp id λ_ h=>(by cases h),h5⟩
theorem TT{t:bC}{n:Nat}{f:Int×Int}{l:List (Int×Int)}(h:fS (x.node f.1).aD f.2=64):aX (kN t n ⟨true,f::l,[]⟩) x=aX (kN t n ⟨true,l,[]⟩) x:=by
 have key:∀K,aX (Sy t K ⟨true,f::l,[]⟩) x=aX (Sy t K ⟨true,l,[]⟩) x:=λK=>by
  show aX (bif fS (x.node f.1).aD f.2==64 then _ else _) x=_
  rw[h];rfl
 cases n<;>exact key _
theorem TP{t:bC}{n:Nat}{f:Int×Int}{l:List (Int×Int)}{i:Int}(h:fS (x.node f.1).aD f.2=i)(h64:i≠64)(hk:(x.node (aB (x.node f.1) i).1).kind=4){v:Nx}(hv:v=⟨⟨true,(f.1,i+1)::l,[]⟩,⟨(x.node (aB (x.node f.1) i).1).key,(x.node (aB (x.node f.1) i).1).value⟩,true⟩):aX (kN t n ⟨true,f::l,[]⟩) x=out x v:=by
 subst hv h
 have key:∀K,aX (Sy t K ⟨true,f::l,[]⟩) x=out x _:=λK=>by
  show aX (bif fS (x.node f.1).aD f.2==64 then _ else .node _ _) x=_
  rw[show (fS (x.node f.1).aD f.2==64)=false from beq_eq_false_iff_ne.2 h64]
  show aX (bif (x.node (aB (x.node f.1) (fS (x.node f.1).aD f.2)).1).kind==4 then _ else _) x=_
  rw[hk];exact rR
 cases n<;>exact key _
theorem IK{t:bC}{n:Nat}{f:Int×Int}{l:List (Int×Int)}{i:Int}(h:fS (x.node f.1).aD f.2=i)(h64:i≠64)(hk:(x.node (aB (x.node f.1) i).1).kind≠4){v:Wk}{o:X×Option Nx}(q:aX (xG t ⟨true,(f.1,i+1)::l,[]⟩ (aB (x.node f.1) i).1) x=out y v)(hr:aX (kN t n v) y=o):aX (kN t (n+1) ⟨true,f::l,[]⟩) x=o:=by
 subst h
 show aX (bif fS (x.node f.1).aD f.2==64 then _ else .node _ _) x=_
 rw[show (fS (x.node f.1).aD f.2==64)=false from beq_eq_false_iff_ne.2 h64]
 show aX (bif (x.node (aB (x.node f.1) (fS (x.node f.1).aD f.2)).1).kind==4 then _ else _) x=_
 rw[show ((x.node (aB (x.node f.1) (fS (x.node f.1).aD f.2)).1).kind==4)=false from beq_eq_false_iff_ne.2 hk]
 exact rB q hr
theorem PE{t:bC}{n:Nat}{fs:List (Int×Int)}{p:bN}{wt:List bN}:aX (kN t n ⟨true,fs,p::wt⟩) x=out x ⟨⟨true,fs,wt⟩,p,true⟩:=by cases n<;>exact rR
theorem SQ{t:bC}{n:Nat}:aX (kN t n ⟨true,[],[]⟩) x=out x ⟨⟨true,[],[]⟩,⟨.empty,0⟩,false⟩:=by cases n<;>exact rR
theorem U2{fs l:List (Int×Int)}{f d:Int×Int}(h:fs=f::l):fs.reverse.getD l.length d=f:=by
 subst h
 rw[List.reverse_cons,Xe,cO (by simp)]
 simp
theorem T1{fs l:List (Int×Int)}{f:Int×Int}(h:fs=f::l):fs.reverse.take l.length=l.reverse:=by
 subst h
 rw[List.reverse_cons,List.take_append_of_le_length (by simp),Gy (by simp)]
theorem Ns{x y:X}{w:Wk}{m:Int}{n:Node}(h:y.e.aC=true\/y.left<x.left)(hw:w.wait.length<=1000000000000)(hn:n.aF.length<=1000000000000):GM x y w (w.meet m n):=by
 unfold GM Wk.meet
 refine⟨h,?_⟩
 cases (n.kind==3)with
 |true=>exact⟨rfl,.inr ⟨m,rfl⟩,hw⟩
 |false=>
  cases (n.kind==5)with
  |true=>exact⟨rfl,.inl rfl,by show 1<=_;decide⟩
  |false=>
   cases (n.kind==6)with
   |true=>exact⟨rfl,.inl rfl,hn⟩
   |false=>exact⟨rfl,.inl rfl,hw⟩
end Go.Ct
namespace Go.Ct
theorem Z'{v:Wk}(h:v.started=true):v=⟨true,v.stack,v.wait⟩:=by cases v;cases h;rfl
theorem Wx{t:bC}{n:Nat}{x:X}{v:Wk}(h:v.started=true):aX (kN t n v) x=aX (kN t n ⟨true,v.stack,v.wait⟩) x:=congrArg (λv=>aX (kN t n v) x) (Z' h)
def cM(l:Nat):Nat:=l*10000000000000
theorem Y1{l m:Nat}(h:l<m):cM l+10000000000000<=cM m:=by
 obtain⟨d,rfl⟩:∃d,m=l+1+d:=⟨m-l-1,by omega⟩
 unfold cM
 rw[Nat.add_mul,Nat.add_mul];omega
theorem Z8{l m:Nat}(h:l<=m):cM l<=cM m:=RF _ h
def KG(F:Nat)(y:X)(cf:Nat)(w:Wk):Prop:=y.e.aC=true\/(cM y.left+w.mu<cf/\w.stack.length+y.left<=100000000000/\(∀f∈w.stack,0<=f.2/\f.2<=64)/\w.wait.length<=1000000000000/\y.left<F)
theorem KG.start{F:Nat}{x:X}(h:x.left<F)(hF:F<=100000000000):KG F x (Td F) {}:=.inr ⟨by
 have h1:=Y1 h
 have h2:Td F=cM (F+1):=rfl
 have h3:=Z8 (show F<=F+1 by omega)
 have h4:({}:Wk).mu=0:=rfl
 rw[h2,h4]
 omega,by show 0+_<=_;omega,(λf hf=>by cases hf),Hg _,h⟩
theorem KG.next{F:Nat}{y z:X}{cf:Nat}{w:Wk}{v:Nx}(h:KG F y (cf+1) w)(hs:y.e.aC=false)(hz:JO y z w v)(ho:v.ok=true):KG F z cf v.w:=by
 obtain⟨h1,h2,h3,h4,h5⟩:=h.resolve_left (by rw[hs];decide)
 rcases hz with hz|⟨a0,a1,a2,a3,a4,a5⟩
 ·exact .inl hz
 ·have h6:cM z.left+v.w.mu<cf:=by
   rcases a4 with a4|a4
   ·have h7:=S8 v.w.stack λf hf=>(a2 f hf).1
    have h8:v.w.mu=v.w.wait.length+P' v.w.stack:=rfl
    have h9:=Y1 a4
    omega
   ·have h7:=a4 ho
    have h9:=Z8 a5
    omega
  exact .inr ⟨h6,by omega,a2,a3,by omega⟩
theorem KG.pos{F:Nat}{y:X}{cf:Nat}{w:Wk}(h:KG F y cf w)(hs:y.e.aC=false):∃k,cf=k+1:=by
 obtain⟨h1,_⟩:=h.resolve_left (by rw[hs];decide)
 exact⟨cf-1,by omega⟩
end Go.Ct
end
section
namespace Go.E
open Go.RowKit
end Go.E
end
section
namespace Go.E
open Go.RowKit
theorem NG{fn:Func}{p q u:Tmp}{ty uy:TypeId}(h:fn.results=#[.cell p ty,.cell q uy,.tmp u])(tmps:Array Value)(P:Program)(w:World):(results fn tmps).run P w=((asAddr (tmps.getD p undef)).run P w).andThen λa w₁=>((loadVar ty a).run P w₁).andThen λv w₂=>((asAddr (tmps.getD q undef)).run P w₂).andThen λb w₃=>((loadVar uy b).run P w₃).andThen λz w₄=>.ok (.tuple #[v,z,tmps.getD u undef]) w₄:=by
 simp only[results,h]
 simp[Sem.run_bind,Result.andThen]
theorem IX{P:Program}{n:Nat}{e:Tm}{w:World}{fn:Func}{t r s:Nat}{ty uy u1 u2:TypeId}{g k:Nat}{cs ds:List Value}{v:Value}(hr:fn.results=#[.cell t ty,.cell r uy,.tmp s])(hp:ev n e (.tmp t)=some (.pointer (some ⟨g,0,none⟩)))(hg:w.heap[g]?=some (.cells cs.toArray u1 (0,0)))(hR:xA P ty=some cs.length)
  (hq:ev n e (.tmp r)=some (.pointer (some ⟨k,0,none⟩))) (hk:w.heap[k]?=some (.cells ds.toArray u2 (0,0))) (hS:xA P uy=some ds.length) (hv:ev n e (.tmp s)=some v):jT P fn n e w (.tuple #[.agg cs.toArray,.agg ds.toArray,v]):=λa ha=>by
 have h4:a.tmps.getD s undef=v:=ha.eval hv
 have h5:a.tmps.getD t undef=_:=ha.eval hp
 have h7:a.tmps.getD r undef=_:=ha.eval hq
 rw[NG hr,h4,h5,h7]
 have h6:=SN (P:=P) hR hg
 have h8:=SN (P:=P) hS hk
 simp[asAddr,Result.andThen,h6,h8]
end Go.E
end
section
namespace Go.E
open Go.RowKit
variable{B w:World}{L:List As}{P:Program}{n:Nat}{K:iG}{e:Tm}{ops:Array Oper}{l:List Oper}
variable{L':List As}{d:Option Tmp}{ty:TypeId}{ps:String}{af:Array Edge}{g:Option (Nat×Bool)}
theorem KW(w:World)(dT sT ty elem:TypeId)(i:TypeInfo)(dp sp:Option Addr)(dl dc sl sc:Nat)(hu:P.underlying dT=some (.slice elem))(hi:P.info? elem=some i)(hn:Nat.min sl dl=0):
  (Builtin.copy_ #[dT,sT] ty #[.slice dp dl dc,.slice sp sl sc]).run P w=.ok (goInt 0) w:=by
 have hl:∀(x:Addr),(loadCells x 0).run P w=.ok #[] w:=λx=>by simpa using run_loadCells_list (P:=P) w x [] (by simp)
 cases dp<;>cases sp<;>simp[Builtin.copy_,run_underlying hu,Builtin.lenOf,Builtin.firstCells,sizeOf,typeInfo,hi,hn,storeCells,hl]
theorem KV(w:World)(dT sT ty elem:TypeId)(i:TypeInfo)(size:Nat)(gb o m dl dc sc:Nat)(a:Addr)(cur:Array Value)(t:TypeId)(cs:List Value)
  (hu:P.underlying dT=some (.slice elem)) (hi:P.info? elem=some i) (hs:i.size=size)
  (hg:w.heap[gb]?=some (.cells cur t (0,0))) (hn:cs.length=m*size) (hc:o+cs.length<=cur.size) (hml:m<=dl)
  (hsrc:∀j v,cs[j]?=some v->w.cell? (a.add j)=some v) (h1:∀v∈cs,v.oneCell'=true):
  (Builtin.copy_ #[dT,sT] ty #[.slice (some ⟨gb,o,none⟩) dl dc,.slice (some a) m sc]).run P w=.ok (goInt m) (w.setRow gb (cur.toList.take o++cs++cur.toList.drop (o+cs.length)).toArray):=by
 have hl:=run_firstCells_some (P:=P) w size m a m sc cs hn hsrc
 have hst:=run_storeCells_at P gb o t cs 0 cur w hg (by omega) h1
 rw[QR]at hst
 have hmin:Nat.min m dl=m:=IS hml
 simp[Builtin.copy_,run_underlying hu,Builtin.lenOf,sizeOf,typeInfo,hi,hs,hmin,hl,hst]
theorem Kk{α:Type}{enc:α->List Value}{sz:Nat}(he:∀x,(enc x).length=sz):∀(xs:List α) (k:Nat),(xs.flatMap enc).take (k*sz)=(xs.take k).flatMap enc
 |[],k=>by simp
 |x::xs,0=>by simp
 |x::xs,k+1=>by
  rw[dF,List.take_succ_cons,dF,<- Kk he xs k,List.take_append,he x,Nat.succ_mul,Gy (by rw[he x];omega),lK]
def TB(xs:List Value)(o:Nat)(ys:List Value):List Value:=xs.take o++ys++xs.drop (o+ys.length)
theorem SF(xs:List Value)(o:Nat)(ys:List Value)(h:o+ys.length<=xs.length):(TB xs o ys).length=xs.length:=by unfold TB;simp;omega
theorem LN{cur xs ys:List Value}{o m:Nat}(h:cur.take m=xs)(hm:o+ys.length<=m)(hc:m<=cur.length):(cur.take o++ys++cur.drop (o+ys.length)).take m=TB xs o ys:=by
 subst h
 unfold TB
 have hl:(cur.take o++ys).length=o+ys.length:=by rw[Xb,Bq,IS (by omega)]
 rw[List.take_append,hl,Gy (by rw[hl];exact hm),List.take_take,IS (by omega),List.drop_take]
theorem ZW{dT sT el:TypeId}{x y:Operand}{sz m b c k n' dl dc c2:Nat}{dp sp:Option Addr}{xs ys:List Value}{L':List As}(h:SH B w L)(mr:At L (bV sz (.slice sp m c2) m ys))(ht:P.underlying dT=some (.slice el))(hs:(P.info? el).map (·.size)=some sz)
  (hx:ev n e x=some (.slice dp dl dc)) (hy:ev n e y=some (.slice sp m c2)) (up:sJ L L' (aU el sz (.slice (some ⟨b,0,none⟩) n' c) n' xs) (aU el sz (.slice (some ⟨b,0,none⟩) n' c) n' (TB xs (k*sz) ys)))
  (hdp:0<m->dp=some ⟨b,k*sz,none⟩) (hml:m<=dl) (hk:k+m<=n') (h1:∀u∈ys,Value.oneCell' u=true):
  F P n e ⟨d,.call ⟨.builtin .copy,#[x,y],#[dT,sT]⟩,ty,ps,af,g⟩ w λv w'=>v=.int .i64 m/\SH B w' L':=by
 cases hq:P.info? el with
 |none=>rw[hq]at hs;cases hs
 |some inf=>
  rw[hq]at hs
  have hz:inf.size=sz:=by simpa using hs
  obtain⟨_,_,hA⟩:=h.at_ mr
  have hyl:=hA.1.1
  by_cases h0:m=0
  ·subst h0
   have hy0:ys=[]:=MA (by rw[hyl];omega)
   subst hy0
   have hrun:=KW (P:=P) w dT sT ty el inf dp sp dl dc 0 c2 ht hq (Nat.zero_min _)
   refine⟨.int .i64 (0:Nat),w,.inl λa ha=>?_,rfl,?_⟩
   ·have e1:=ha.eval hx
    have e2:=ha.eval hy
    simp only[execOp,resolve,invoke,builtin,List.map_toArray,GL,List.map_nil,e1,e2,Sem.run_bind,Sem.run_pure,Result.andThen_ok,hrun]
    rfl
   ·have e:TB xs (k*sz) []=xs:=by unfold TB;simp
    rw[e]at up
    exact h.step up λO R hA'=>⟨O,R,hA',Kp.refl _ _,λk hk=>.inl hk,λk hk=>.inr (.inl hk)⟩
  ·have hd:=hdp (by omega)
   subst hd
   rcases hA.1.2 with⟨h2,h3⟩|⟨b3,o3,cap,h2,hb,h3,h4,h5⟩
   ·omega
   ·injection h2 with h2 h6 h7
    subst h2 h7
    obtain⟨m0,m1,m2,_⟩:=up.ix
    have hm:At L (aU el sz (.slice (some ⟨b,0,none⟩) n' c) n' xs):=by
     have:∀{L L':List As} {A A':As},sJ L L' A A'->At L A:=λu=>by
      induction u with
      |z=>exact .z
      |s _ ih=>exact .s ih
     exact this up
    obtain⟨_,_,hO⟩:=h.at_ hm
    rcases hO.1.2 with⟨h2,_⟩|⟨g',cap,cur,h2,hgb,hg,hc,hml2,hcs,htk⟩
    ·cases h2
    ·injection h2 with h2 h6 h7
     injection h2 with h2
     injection h2 with h2 h8
     subst h2 h7
     have hxl:=hO.1.1
     have hmul:k*sz+ys.length<=n'*sz:=by rw[hyl,<- Nat.add_mul];exact RF _ hk
     have hcap:n'*sz<=cur.size:=by rw[hcs];exact RF _ hc
     have hrun:=KV (P:=P) w dT sT ty el inf sz b (k*sz) m dl dc c2 ⟨b3,o3,none⟩ cur el ys ht hq hz hg hyl (by omega) hml (λj v hj=>by rw[mP];exact h5 j v hj) h1
     refine⟨.int .i64 m,w.setRow b (cur.toList.take (k*sz)++ys++cur.toList.drop (k*sz+ys.length)).toArray,.inl λa ha=>?_,rfl,?_⟩
     ·have e1:=ha.eval hx
      have e2:=ha.eval hy
      simp only[execOp,resolve,invoke,builtin,List.map_toArray,GL,List.map_nil,e1,e2,Sem.run_bind,Sem.run_pure,Result.andThen_ok,hrun]
      rfl
     ·refine h.step up λO R hA'=>⟨O,R,⟨⟨by rw[SF _ _ _ (by rw[hxl];exact hmul)];exact hxl,.inr ⟨b,c,(cur.toList.take (k*sz)++ys++cur.toList.drop (k*sz+ys.length)).toArray,rfl,hgb,setRow_heap w b cur _ el _ hg,hc,hml2,?_,?_⟩⟩,hA'.2⟩,⟨⟨rfl,rfl,rfl⟩,by simp[World.setRow],λk hk hne=>setRow_other w b k _ (λe=>hne ((hA'.2.1 k).2 (by rw[e];rfl)))⟩,λk hk=>.inl hk,λk hk=>.inr (.inl hk)⟩
      ·simp;omega
      ·exact LN htk (by omega) (by simp;omega)
end Go.E
end
