/- Parts of a proof: Q6, Qi, Cv, E16, E14, Qn. -/
import Derived.Test.YtnhdmcipglnkfaaGreatW38
set_option linter.unusedVariables false
set_option linter.unusedSimpArgs false
set_option maxRecDepth 100000
set_option maxHeartbeats 4000000
section
namespace Go.Q9
open Go.Proofs.Tryz
open Go.RowKit Go.E Go.Ct
attribute [local irreducible] gA wpS Go.E.X XS C kV lL fin Y U F Ca kU bl rb aV bS ex ce pu sK gK bK zK
variable{B w:World}{L:List As}
theorem Pw(xb mb:Nat)(x:Ct.X)(m:Int)(h:SH B w (XA xb mb x::L))(k:Ct.Ok 60 x):
  Calls prog 197 #[↑xb,↑m] w λe w'=>∃y v,Ct.bC (Ct.Au m) x=Ct.out y v/\e=.returned (.agg (Bn v).toArray)/\SH B w' (XA xb mb y::L)/\Ct.Ok 50 y:=by
 have hlen:=k.len
 refine cN func197 ntmps197 h λw h=>?_
 refine jA h λb1 w h=>?_
 refine eI (l5 (j:=59) xb mb x h.to (k.less (by omega))) λy2 v3 q4 w h k=>?_
 have lq4:=Ct.leG q4
 refine go h λw h=>?_
 refine eI (fA (j:=58) xb mb y2 ({kind:=2,gen:=v3}) {} m (SH.fI ({kind:=2,gen:=v3}) rfl rfl h.to) (k.less (by omega)) (Ct.bP _ 2 v3 0 0 0)) λy5 v6 q7 w h ⟨k,aPs⟩=>?_
 have lq7:=Ct.AX q7
 refine go h λw h=>?_
 refine eI (KZ (j:=57) xb mb y5 v6 h.to (k.less (by omega))) λy8 v9 wI w h k=>?_
 have aP3:=Ct.leE wI
 refine go h λw h=>?_
 exact rr (cD rfl rfl (h.b a1) Row.h)<|⟨_,({found:=true,aF:={root:=v9}}:Ct.Result),Ct.rG q4<|Ct.rA q7<|Ct.rE wI<|Ct.rR,rfl,h.to,(k.less (by omega))⟩
theorem XF(xb mb:Nat)(x:Ct.X)(c:Ct.Call)(F:Nat)(h:SH B w (XA xb mb (Ct.X.of c x)::L))(k:Ct.Ok 60 (Ct.X.of c x))(hx:(Ct.X.of c x).left<F):
  Calls prog 155 #[↑xb] w λe w'=>∃y v,Ct.bC (Ct.yI c.aF F) (Ct.X.of c x)=Ct.out y v/\e=.returned (.agg (Bn v).toArray)/\SH B w' (XA xb mb y::L)/\Ct.Ok 60 y:=by
 have hlen:=k.len
 refine cN func155 ntmps155 h λw h=>?_
 refine jA h λb1 w h=>?_
 refine st (kB (cs:=dV c.aF) rfl (h.xr 2 a1 λ_=>rfl) Row.h)<|go h λw h=>?_
 refine jA h λb2 w h=>?_
 refine lp (α:=Ct.X×Nat) (λρ=>(.c 0 ↑xb (.c 2 ↑b1 (.c 3 ↑b2 .n)))) (λρ w=>SH B w (XA xb mb (Ct.X.of c ρ.1)::bl b2 (dV c.aF) 35::bl b1 ([.int .i64 0,↑false,.int .u64 0,.string .empty,.int .i64 0,.int .i64 0,.int .i64 0,↑false]) 49::L)/\(Ct.bC (Ct.yI c.aF F) (Ct.X.of c x)=Ct.bC (Ct.yI c.aF ρ.2) (Ct.X.of c ρ.1))/\(Ct.Ok 60 (Ct.X.of c ρ.1))/\((Ct.X.of c ρ.1).e.aD=true\/(Ct.X.of c ρ.1).left<ρ.2)) (λρ=>ρ.2) (x,F) ⟨rfl,rfl,rfl,trivial⟩ ⟨h.to,(rfl),k,(.inr (by(try dsimp only);omega))⟩ ?_
 rintro⟨y,n⟩ w ⟨h,hq,k,hn⟩
 dsimp only at *
 refine go h λw h=>?_
 refine st (ld (v:=.bool (Ct.X.of c y).e.aD) One.h rfl (h.xc a0 λ_=>rfl))<|go h λw h=>?_
 refine qc h (λcJ w h=>?_) λcJ w h=>?_
 have eB:(Ct.X.of c y).e.aD=false:=by simpa using cJ
 refine go h λw h=>?_
 obtain⟨n,rfl⟩:∃k,n=k+1:=⟨n-1,by have:=hn.resolve_left (by rw[eB];decide);omega⟩
 replace hn:=hn.resolve_left (by rw[eB];decide)
 refine go h λw h=>?_
 have kb5:=k
 refine eI (zV xb mb (Ct.X.of c y) c.aF h.to (k.less (by omega))) λy6 v7 q8 w h k=>?_
 obtain⟨z9,rfl⟩:=Ct.uG q8
 have lq8:=Ct.uA q8
 have aP1:=Ct.Ev kb5 (by omega) q8
 have mq8:=Ct.V8 q8
 refine go h λw h=>?_
 have aRv:=k
 refine eI (mR xb mb (Ct.X.of c z9) c.aF v7 h.to (k.less (by omega))) λy11 v12 Bj w h k=>?_
 obtain⟨z14,rfl⟩:=Ct.uG Bj
 have aR3:=Ct.uA Bj
 have aTu:=Ct.Ao aRv Bj
 have bCq:=Ct.V8 Bj
 refine go h λw h=>?_
 refine eI (fA (j:=59) xb mb (Ct.X.of c z14) ({kind:=3}) {} 0 (SH.fI ({kind:=3}) rfl rfl h.to) (k.less (by omega)) (Ct.iS _)) λy15 v16 Vr w h ⟨k,aVt⟩=>?_
 obtain⟨z18,rfl⟩:=Ct.IQ Vr
 have aQ6:=Ct.AX Vr
 have bAj:=Ct.lfA Vr
 refine go h λw h=>?_
 refine eI (l5 (j:=58) xb mb (Ct.X.of c z18) h.to (k.less (by omega))) λy19 v20 ZF w h k=>?_
 obtain⟨z22,rfl⟩:=Ct.keG ZF
 have aQk:=Ct.leG ZF
 have bAo:=Ct.lfG ZF
 refine go h λw h=>?_
 refine fD [1,3,5,7,9,11,13,15,16,18] (by kernel_rfl) h (.c r1 .n) λw h=>go h λw h=>?_
 refine pO (fA (j:=57) xb mb (Ct.X.of c z22) ({kind:=2,gen:=v20}) {} v16 (SH.fI ({kind:=2,gen:=v20}) rfl rfl h.to) (k.less (by omega)) (Ct.bP _ 2 v20 0 0 0)) λy23 v24 ZL w h ⟨k,aUh⟩=>?_
 obtain⟨z26,rfl⟩:=Ct.IQ ZL
 have aQ0:=Ct.AX ZL
 have bB1:=Ct.lfA ZL
 refine go h λw h=>?_
 refine pO (Yt xb mb (Ct.X.of c z26) c.aF v7 v12 v24 h.to (k.less (by omega))) λy27 v28 q29 w h k=>?_
 obtain⟨z30,rfl⟩:=Ct.uG q29
 have bBr:=Ct.uA q29
 have bFc:=Ct.V8 q29
 refine go h λw h=>?_
 refine qc h (λaGa w h=>?_) λaGa w h=>?_
 exact rc h ⟨_,({found:=true}:Ct.Result),hq.trans<|Ct.rB q8<|Ct.rB Bj<|Ct.rA Vr<|Ct.rG ZF<|Ct.rA ZL<|Ct.rB q29<|Ct.rT aGa<|Ct.rR,rfl,h.to,k⟩
 exact⟨(z30,n),⟨rfl,rfl,rfl,trivial⟩,⟨h,(hq.trans<|Ct.rB q8<|Ct.rB Bj<|Ct.rA Vr<|Ct.rG ZF<|Ct.rA ZL<|Ct.rB q29<|Ct.rF aGa<|rfl),k,(aP1.elim (λhz=>.inl (Ct.sgB q29 (Ct.sgA ZL (Ct.sgG ZF (Ct.sgA Vr (Ct.sgB Bj hz)))))) λhz=>.inr (by have:=hz.2;(try dsimp only);omega))⟩,by(try dsimp only);omega⟩
 have CS:(Ct.X.of c y).e.aD=true:=by simpa using cJ
 refine go h λw h=>?_
 exact rc h ⟨_,({}:Ct.Result),hq.trans<|Ct.rS CS,rfl,h.to,(k.stop CS)⟩
theorem Ha(xb mb:Nat)(x:Ct.X)(c:Ct.Call)(fz:Bool)(F:Nat)(h:SH B w (XA xb mb (Ct.X.of c x)::L))(k:Ct.Ok 60 (Ct.X.of c x))(hx:(Ct.X.of c x).left<F):
  Calls prog 154 #[↑xb,↑fz] w λe w'=>∃y v,Ct.bC (Ct.kK c.aF fz F) (Ct.X.of c x)=Ct.out y v/\e=.returned (.agg (Bn v).toArray)/\SH B w' (XA xb mb y::L)/\Ct.Ok 50 y:=by
 have hlen:=k.len
 refine cN func154 ntmps154 h λw h=>?_
 refine jA h λb1 w h=>?_
 refine st (kB (cs:=dV c.aF) rfl (h.xr 2 a1 λ_=>rfl) Row.h)<|go h λw h=>?_
 refine jA h λb2 w h=>?_
 refine qc h (λcJ w h=>?_) λcJ w h=>?_
 refine eI (qM xb mb (Ct.X.of c x) c.aF.root h.to (k.less (by omega))) λy4 v5 q6 w h k=>?_
 obtain⟨z7,rfl⟩:=Ct.keL q6
 have lq6:=Ct.leL q6
 have mq6:=Ct.lfL q6
 refine go h λw h=>?_
 refine qc h (λfG w h=>?_) λfG w h=>?_
 refine eI (KZ (j:=89) xb mb (Ct.X.of c z7) v5 h.to (k.less (by omega))) λy9 v10 Ug w h k=>?_
 obtain⟨z12,rfl⟩:=Ct.keE Ug
 have aQh:=Ct.leE Ug
 have bEh:=Ct.lfE Ug
 refine go h λw h=>?_
 exact rc h ⟨_,({found:=true,aF:={root:=v10,readOnly:=true}}:Ct.Result),Ct.rT cJ<|Ct.rL q6<|Ct.rT fG<|Ct.rE Ug<|Ct.rR,rfl,h.to,(k.less (by omega))⟩
 have aOv:=k
 refine eI (mR xb mb (Ct.X.of c z7) c.aF v5 h.to (k.less (by omega))) λYX v15 Ui w h k=>?_
 obtain⟨z17,rfl⟩:=Ct.uG Ui
 have bCm:=Ct.uA Ui
 have aVw:=Ct.Ao aOv Ui
 have bE8:=Ct.V8 Ui
 refine go h λw h=>?_
 refine eI (Pw xb mb (Ct.X.of c z17) v15 h.to (k.less (by omega))) λy18 v19 q20 w h k=>?_
 obtain⟨z21,rfl⟩:=Ct.uG q20
 have bAy:=Ct.uA q20
 have aYg:=Ct.V8 q20
 refine go h λw h=>?_
 exact rc h ⟨_,v19,Ct.rT cJ<|Ct.rL q6<|Ct.rF fG<|Ct.rB Ui<|q20,rfl,h.to,k⟩
 refine lp (α:=Ct.X×Nat) (λρ=>(.c 0 ↑xb (.c 1 ↑fz (.c 4 ↑b1 (.c 5 ↑b2 .n))))) (λρ w=>SH B w (XA xb mb (Ct.X.of c ρ.1)::bl b2 (dV c.aF) 35::bl b1 ([.int .i64 0,↑false,.int .u64 0,.string .empty,.int .i64 0,.int .i64 0,.int .i64 0,↑false]) 49::L)/\(Ct.bC (Ct.kK c.aF fz F) (Ct.X.of c x)=Ct.bC (Ct.II c.aF fz ρ.2) (Ct.X.of c ρ.1))/\(Ct.Ok 60 (Ct.X.of c ρ.1))/\((Ct.X.of c ρ.1).e.aD=true\/(Ct.X.of c ρ.1).left<ρ.2)) (λρ=>ρ.2) (x,F) ⟨rfl,rfl,rfl,rfl,trivial⟩ ⟨h.to,(Ct.rF cJ<|rfl),k,(.inr (by(try dsimp only);omega))⟩ ?_
 rintro⟨y,n⟩ w ⟨h,hq,k,hn⟩
 dsimp only at *
 refine go h λw h=>?_
 refine st (ld (v:=.bool (Ct.X.of c y).e.aD) One.h rfl (h.xc a0 λ_=>rfl))<|go h λw h=>?_
 refine qc h (λmW w h=>?_) λmW w h=>?_
 have fP:(Ct.X.of c y).e.aD=false:=by simpa using mW
 refine go h λw h=>?_
 obtain⟨n,rfl⟩:∃k,n=k+1:=⟨n-1,by have:=hn.resolve_left (by rw[fP];decide);omega⟩
 replace hn:=hn.resolve_left (by rw[fP];decide)
 refine go h λw h=>?_
 have aQg:=k
 refine eI (zV xb mb (Ct.X.of c y) c.aF h.to (k.less (by omega))) λy25 v26 UB w h k=>?_
 obtain⟨z28,rfl⟩:=Ct.uG UB
 have bC1:=Ct.uA UB
 have aLc:=Ct.Ev aQg (by omega) UB
 have bF6:=Ct.V8 UB
 refine go h λw h=>?_
 have aSb:=k
 refine eI (mR xb mb (Ct.X.of c z28) c.aF v26 h.to (k.less (by omega))) λy30 v31 q32 w h k=>?_
 obtain⟨z33,rfl⟩:=Ct.uG q32
 have bB4:=Ct.uA q32
 have aVl:=Ct.Ao aSb q32
 have bFe:=Ct.V8 q32
 refine go h λw h=>?_
 refine eI (l5 (j:=59) xb mb (Ct.X.of c z33) h.to (k.less (by omega))) λy34 v35 KJ w h k=>?_
 obtain⟨z37,rfl⟩:=Ct.keG KJ
 have aPi:=Ct.leG KJ
 have bBa:=Ct.lfG KJ
 refine go h λw h=>?_
 refine fD [1,3,5,7,9,11,13,15,16,18,21] (by kernel_rfl) h (.c r1 .n) λw h=>go h λw h=>?_
 refine pO (fA (j:=58) xb mb (Ct.X.of c z37) ({kind:=2,gen:=v35}) {} v31 (SH.fI ({kind:=2,gen:=v35}) rfl rfl h.to) (k.less (by omega)) (Ct.bP _ 2 v35 0 0 0)) λy38 v39 K3 w h ⟨k,aWv⟩=>?_
 obtain⟨z41,rfl⟩:=Ct.IQ K3
 have aPk:=Ct.AX K3
 have aYp:=Ct.lfA K3
 refine go h λw h=>?_
 refine pO (Yt xb mb (Ct.X.of c z41) c.aF v26 v31 v39 h.to (k.less (by omega))) λy42 v43 M7 w h k=>?_
 obtain⟨z45,rfl⟩:=Ct.uG M7
 have aOo:=Ct.uA M7
 have bC0:=Ct.V8 M7
 refine go h λw h=>?_
 refine qc h (λJR w h=>?_) λJR w h=>?_
 have QB:v43=false:=by simpa using JR
 refine go h λw h=>?_
 exact⟨(z45,n),⟨rfl,rfl,rfl,rfl,trivial⟩,⟨h,(hq.trans<|Ct.rB UB<|Ct.rB q32<|Ct.rG KJ<|Ct.rA K3<|Ct.rB M7<|Ct.US QB<|rfl),k,(aLc.elim (λhz=>.inl (Ct.sgB M7 (Ct.sgA K3 (Ct.sgG KJ (Ct.sgB q32 hz))))) λhz=>.inr (by have:=hz.2;(try dsimp only);omega))⟩,by(try dsimp only);omega⟩
 have tT:v43=true:=by simpa using JR
 refine go h λw h=>?_
 refine qc h (λCR w h=>?_) λCR w h=>?_
 refine eI (KZ (j:=59) xb mb (Ct.X.of c z45) v26 h.to (k.less (by omega))) λy50 v51 q52 w h k=>?_
 obtain⟨z53,rfl⟩:=Ct.keE q52
 have aRg:=Ct.leE q52
 have bAq:=Ct.lfE q52
 refine go h λw h=>?_
 exact rc h ⟨_,({found:=true,aF:={root:=v51,readOnly:=true}}:Ct.Result),hq.trans<|Ct.rB UB<|Ct.rB q32<|Ct.rG KJ<|Ct.rA K3<|Ct.rB M7<|Ct.Nn tT<|Ct.rT CR<|Ct.rE q52<|Ct.rR,rfl,h.to,(k.less (by omega))⟩
 refine eI (Pw xb mb (Ct.X.of c z45) v31 h.to (k.less (by omega))) λy54 v55 P5 w h k=>?_
 obtain⟨z57,rfl⟩:=Ct.uG P5
 have aP5:=Ct.uA P5
 have bD1:=Ct.V8 P5
 refine go h λw h=>?_
 exact rc h ⟨_,v55,hq.trans<|Ct.rB UB<|Ct.rB q32<|Ct.rG KJ<|Ct.rA K3<|Ct.rB M7<|Ct.Nn tT<|Ct.rF CR<|P5,rfl,h.to,k⟩
 have JY:(Ct.X.of c y).e.aD=true:=by simpa using mW
 refine go h λw h=>?_
 exact rc h ⟨_,({}:Ct.Result),hq.trans<|Ct.rS JY,rfl,h.to,(k.stop JY)⟩
end Go.Q9
end
section
namespace Go.Ct
variable{α β:Type}{x y:X}
def muF(l:List (Int×Int)):Nat:=(l.map λf=>(64-f.2).toNat).sum
def Wk.mu(w:Wk):Nat:=w.wait.length+muF w.stack
theorem D2:∀l:List (Int×Int),(∀f∈l,0<=f.2)->muF l<=64*l.length
 |[],h=>aW _
 |p::l,h=>by
  have:=D2 l λf hf=>h f (VY _ hf)
  have h0:=h p (PQ ..)
  unfold muF at *
  rw[KP,List.sum_cons,Hd]
  omega
theorem HH(f:Int×Int)(l:List (Int×Int)):muF (f::l)=(64-f.2).toNat+muF l:=by unfold muF;rw[KP,List.sum_cons]
def aJg(x y:X)(w v:Wk):Prop:=(y.e.aD=true\/y.left<x.left)/\v.started=w.started/\(v.stack=w.stack\/∃m,v.stack=(m,0)::w.stack)/\v.wait.length<=1000000000000
def SI(x y:X)(w:Wk)(v:Nx):Prop:=y.e.aD=true\/(v.w.started=true/\v.w.stack.length+y.left<=w.stack.length+x.left/\(∀f∈v.w.stack,0<=f.2/\f.2<=64)/\v.w.wait.length<=1000000000000/\(y.left<x.left\/(v.ok=true->v.w.mu<w.mu))/\y.left<=x.left)
def oJ(x y:X)(w:Wk)(fs:List (Int×Int))(wt:List bA):Prop:=y.e.aD=true\/(fs.length+y.left<=w.stack.length+x.left/\(∀f∈fs,0<=f.2/\f.2<=64)/\wt.length<=1000000000000/\(y.left<x.left\/(⟨true,fs,wt⟩:Wk).mu<=w.mu)/\y.left<=x.left)
theorem oJ.start{x:X}{sd:Bool}{fs:List (Int×Int)}{wt:List bA}(h1:∀f∈fs,0<=f.2/\f.2<=64)(h2:wt.length<=1000000000000):oJ x x ⟨sd,fs,wt⟩ fs wt:=.inr ⟨aW _,h1,h2,.inr (aW _),aW _⟩
theorem oJ.first{x y z:X}{w v:Wk}(h1:∀f∈w.stack,0<=f.2/\f.2<=64)(hl:y.left<=x.left)(h:aJg y z w v):oJ x z w v.stack v.wait:=by
 obtain⟨h2,h3,h4,h5⟩:=h
 rcases h2 with h2|h2
 ·exact .inl h2
 ·refine .inr ⟨?_,?_,h5,.inl (by omega),by omega⟩
  ·rcases h4 with h4|⟨m,h4⟩<;>rw[h4]
   ·omega
   ·rw[Hd];omega
  ·rcases h4 with h4|⟨m,h4⟩<;>rw[h4]
   ·exact h1
   ·exact λf hf=>(List.mem_cons.1 hf).elim (λe=>by rw[e];exact⟨Int.le_refl 0,by show (0:Int)<=64;decide⟩) (h1 f)
theorem oJ.head{x y:X}{w:Wk}{f:Int×Int}{l:List (Int×Int)}{wt:List bA}(h:oJ x y w (f::l) wt)(hs:y.e.aD=false):0<=f.2/\f.2<=64:=(h.resolve_left (by rw[hs];decide)).2.1 f (PQ ..)
theorem oJ.pop{x y:X}{w:Wk}{f:Int×Int}{l:List (Int×Int)}{wt:List bA}(h:oJ x y w (f::l) wt):oJ x y w l wt:=h.imp id λ⟨h1,h2,h3,h4,h5⟩=>by
 rw[Hd]at h1
 refine⟨by omega,λf hf=>h2 f (VY _ hf),h3,h4.imp id λh=>?_,h5⟩
 unfold Wk.mu at *
 dsimp only at *
 rw[HH]at h
 omega
theorem oJ.push{x y:X}{w:Wk}{f:Int×Int}{l:List (Int×Int)}{wt:List bA}{i:Int}(h:oJ x y w (f::l) wt)(hs:y.e.aD=false)(h0:f.2<=i)(h1:i<64):l.length+1+y.left<=w.stack.length+x.left/\(∀g∈(f.1,i+1)::l,0<=g.2/\g.2<=64)/\(y.left<x.left\/(⟨true,(f.1,i+1)::l,wt⟩:Wk).mu<w.mu)/\y.left<=x.left:=by
 have hf:=h.head hs
 obtain⟨a1,a2,a3,a4,a5⟩:=h.resolve_left (by rw[hs];decide)
 refine⟨a1,λg hg=>(List.mem_cons.1 hg).elim (λe=>by rw[e];dsimp only;omega) λhg=>a2 g (VY _ hg),a4.imp id λh=>?_,a5⟩
 unfold Wk.mu at *
 dsimp only at *
 rw[HH]at h ⊢
 dsimp only at *
 omega
theorem oJ.one{x y:X}{w:Wk}{f:Int×Int}{l:List (Int×Int)}{wt:List bA}{i:Int}{p:bA}(h:oJ x y w (f::l) wt)(hs:y.e.aD=false)(h0:f.2<=i)(h1:i<64):SI x y w ⟨⟨true,(f.1,i+1)::l,wt⟩,p,true⟩:=by
 obtain⟨a1,a2,a3,a4⟩:=h.push hs h0 h1
 obtain⟨_,_,b3,_,_⟩:=h.resolve_left (by rw[hs];decide)
 exact .inr ⟨rfl,a1,a2,b3,a3.imp id λh _=>h,a4⟩
theorem oJ.enter{x y z:X}{w v:Wk}{f:Int×Int}{l:List (Int×Int)}{wt:List bA}{i:Int}(h:oJ x y w (f::l) wt)(hs:y.e.aD=false)(h0:f.2<=i)(h1:i<64)(he:aJg y z ⟨true,(f.1,i+1)::l,wt⟩ v):oJ x z w v.stack v.wait:=by
 obtain⟨a1,a2,a3,a4⟩:=h.push hs h0 h1
 obtain⟨h2,h3,h4,h5⟩:=he
 rcases h2 with h2|h2
 ·exact .inl h2
 ·refine .inr ⟨?_,?_,h5,.inl (by omega),by omega⟩
  ·rcases h4 with h4|⟨m,h4⟩<;>rw[h4]<;>simp only[Hd]<;>omega
  ·rcases h4 with h4|⟨m,h4⟩<;>rw[h4]
   ·exact a2
   ·exact λf hf=>(List.mem_cons.1 hf).elim (λe=>by rw[e];exact⟨Int.le_refl 0,by show (0:Int)<=64;decide⟩) (a2 f)
theorem oJ.wait{x y:X}{w:Wk}{fs:List (Int×Int)}{p:bA}{wt:List bA}(h:oJ x y w fs (p::wt)):SI x y w ⟨⟨true,fs,wt⟩,p,true⟩:=h.imp id λ⟨h1,h2,h3,h4,h5⟩=>by
 rw[Hd]at h3
 refine⟨rfl,h1,h2,by dsimp only;omega,h4.imp id λh _=>?_,h5⟩
 unfold Wk.mu at *
 dsimp only at *
 rw[Hd]at h
 omega
theorem oJ.none{x y:X}{w:Wk}{fs:List (Int×Int)}{wt:List bA}{p:bA}(h:oJ x y w fs wt):SI x y w ⟨⟨true,fs,wt⟩,p,false⟩:=h.imp id λ⟨h1,h2,h3,h4,h5⟩=>⟨rfl,h1,h2,h3,h4.imp id λ_ h=>(by cases h),h5⟩
end Go.Ct
namespace Go.Ct
def cM(l:Nat):Nat:=l*10000000000000
theorem aCa{l m:Nat}(h:l<m):cM l+10000000000000<=cM m:=by
 obtain⟨d,rfl⟩:∃d,m=l+1+d:=⟨m-l-1,by omega⟩
 unfold cM
 rw[Nat.add_mul,Nat.add_mul];omega
theorem aBe{l m:Nat}(h:l<=m):cM l<=cM m:=NI _ h
def OJ(F:Nat)(y:X)(cf:Nat)(w:Wk):Prop:=y.e.aD=true\/(cM y.left+w.mu<cf/\w.stack.length+y.left<=100000000000/\(∀f∈w.stack,0<=f.2/\f.2<=64)/\w.wait.length<=1000000000000/\y.left<F)
theorem OJ.start{F:Nat}{x:X}(h:x.left<F)(hF:F<=100000000000):OJ F x (aC0 F) {}:=.inr ⟨by
 have h1:=aCa h
 have h2:aC0 F=cM (F+1):=rfl
 have h3:=aBe (show F<=F+1 by omega)
 have h4:({}:Wk).mu=0:=rfl
 rw[h2,h4]
 omega,by show 0+_<=_;omega,(λf hf=>by cases hf),bZ _,h⟩
theorem OJ.next{F:Nat}{y z:X}{cf:Nat}{w:Wk}{v:Nx}(h:OJ F y (cf+1) w)(hs:y.e.aD=false)(hz:SI y z w v)(ho:v.ok=true):OJ F z cf v.w:=by
 obtain⟨h1,h2,h3,h4,h5⟩:=h.resolve_left (by rw[hs];decide)
 rcases hz with hz|⟨a0,a1,a2,a3,a4,a5⟩
 ·exact .inl hz
 ·have h6:cM z.left+v.w.mu<cf:=by
   rcases a4 with a4|a4
   ·have h7:=D2 v.w.stack λf hf=>(a2 f hf).1
    have h8:v.w.mu=v.w.wait.length+muF v.w.stack:=rfl
    have h9:=aCa a4
    omega
   ·have h7:=a4 ho
    have h9:=aBe a5
    omega
  exact .inr ⟨h6,by omega,a2,a3,by omega⟩
theorem OJ.pos{F:Nat}{y:X}{cf:Nat}{w:Wk}(h:OJ F y cf w)(hs:y.e.aD=false):∃k,cf=k+1:=by
 obtain⟨h1,_⟩:=h.resolve_left (by rw[hs];decide)
 exact⟨cf-1,by omega⟩
end Go.Ct
end
section
namespace Go.E
open Go.RowKit
theorem aNh{P:Program}{n:Nat}{K:kG}{e:Tm}{ops:Array Oper}{S:World->Prop}{ls:List (Oper×Bool)}{d:Option Tmp}{ty:TypeId}{ps:String}{af:Array Edge}{w:World}{x:Operand}{v:Fv}{az:Array Operand}{ats:Array TypeId}{vs:List Value}(hx:ev n e x=some v.val)(ha:uU n e az.toList=some vs)
  (k:lS P v vs w λy w'=>∃u,y=.returned u/\S w'/\XS P n ops S ls K (Tm.put e d u) w'):XS P n ops S ((⟨d,.call ⟨.value x,az,ats⟩,ty,ps,af,none⟩,false)::ls) K e w:=by
 obtain⟨f,ff,fc,rfl,en,hc⟩:=k
 exact cs (cv_ en hx ha) hc
end Go.E
end
section
namespace Go.E
open Go.RowKit
end Go.E
end
section
namespace Go.E
open Go.RowKit
variable{B w:World}{L:List As}{P:Program}{n:Nat}{K:kG}{e:Tm}{ops:Array Oper}{l:List Oper}
variable{L':List As}{d:Option Tmp}{ty:TypeId}{ps:String}{af:Array Edge}{g:Option (Nat×Bool)}
theorem XP(w:World)(dT sT ty elem:TypeId)(i:TypeInfo)(dp sp:Option Addr)(dl dc sl sc:Nat)(hu:P.underlying dT=some (.slice elem))(hi:P.info? elem=some i)(hn:Nat.min sl dl=0):
  (Builtin.copy_ #[dT,sT] ty #[.slice dp dl dc,.slice sp sl sc]).run P w=.ok (goInt 0) w:=by
 have hl:∀(x:Addr),(loadCells x 0).run P w=.ok #[] w:=λx=>by simpa using run_loadCells_list (P:=P) w x [] (by simp)
 cases dp<;>cases sp<;>simp[Builtin.copy_,run_underlying hu,Builtin.lenOf,Builtin.firstCells,sizeOf,typeInfo,hi,hn,storeCells,hl]
theorem VA(w:World)(dT sT ty elem:TypeId)(i:TypeInfo)(size:Nat)(gb o m dl dc sc:Nat)(a:Addr)(cur:Array Value)(t:TypeId)(cs:List Value)
  (hu:P.underlying dT=some (.slice elem)) (hi:P.info? elem=some i) (hs:i.size=size)
  (hg:w.heap[gb]?=some (.cells cur t (0,0))) (hn:cs.length=m*size) (hc:o+cs.length<=cur.size) (hml:m<=dl)
  (aGn:∀j v,cs[j]?=some v->w.cell? (a.add j)=some v) (h1:∀v∈cs,v.oneCell'=true):
  (Builtin.copy_ #[dT,sT] ty #[.slice (some ⟨gb,o,none⟩) dl dc,.slice (some a) m sc]).run P w=.ok (goInt m) (w.setRow gb (cur.toList.take o++cs++cur.toList.drop (o+cs.length)).toArray):=by
 have hl:=run_firstCells_some (P:=P) w size m a m sc cs hn aGn
 have oP:=run_storeCells_at P gb o t cs 0 cur w hg (by omega) h1
 rw[P1]at oP
 have aS2:Nat.min m dl=m:=Hc hml
 simp[Builtin.copy_,run_underlying hu,Builtin.lenOf,sizeOf,typeInfo,hi,hs,aS2,hl,oP]
theorem Td{α:Type}{enc:α->List Value}{sz:Nat}(he:∀x,(enc x).length=sz):∀(xs:List α) (k:Nat),(xs.flatMap enc).take (k*sz)=(xs.take k).flatMap enc
 |[],k=>by simp
 |x::xs,0=>by simp
 |x::xs,k+1=>by
  rw[HY,List.take_succ_cons,HY,<- Td he xs k,List.take_append,he x,Nat.succ_mul,xW (by rw[he x];omega),YA]
def Z0(xs:List Value)(o:Nat)(ys:List Value):List Value:=xs.take o++ys++xs.drop (o+ys.length)
theorem Z4(xs:List Value)(o:Nat)(ys:List Value)(h:o+ys.length<=xs.length):(Z0 xs o ys).length=xs.length:=by unfold Z0;simp;omega
theorem w8{cur xs ys:List Value}{o m:Nat}(h:cur.take m=xs)(hm:o+ys.length<=m)(hc:m<=cur.length):(cur.take o++ys++cur.drop (o+ys.length)).take m=Z0 xs o ys:=by
 subst h
 unfold Z0
 have hl:(cur.take o++ys).length=o+ys.length:=by rw[cV,lI,Hc (by omega)]
 rw[List.take_append,hl,xW (by rw[hl];exact hm),List.take_take,Hc (by omega),List.drop_take]
theorem cpz{dT sT el:TypeId}{x y:Operand}{sz m b c k n' dl dc c2:Nat}{dp sp:Option Addr}{xs ys:List Value}{L':List As}(h:SH B w L)(mr:At L (bS sz (.slice sp m c2) m ys))(ht:P.underlying dT=some (.slice el))(hs:(P.info? el).map (·.size)=some sz)
  (hx:ev n e x=some (.slice dp dl dc)) (hy:ev n e y=some (.slice sp m c2)) (up:xO L L' (aV el sz (.slice (some ⟨b,0,none⟩) n' c) n' xs) (aV el sz (.slice (some ⟨b,0,none⟩) n' c) n' (Z0 xs (k*sz) ys)))
  (hdp:0<m->dp=some ⟨b,k*sz,none⟩) (hml:m<=dl) (hk:k+m<=n') (h1:∀u∈ys,Value.oneCell' u=true):
  F P n e ⟨d,.call ⟨.builtin .copy,#[x,y],#[dT,sT]⟩,ty,ps,af,g⟩ w λv w'=>v=.int .i64 m/\SH B w' L':=by
 cases hq:P.info? el with
 |none=>rw[hq]at hs;cases hs
 |some inf=>
  rw[hq]at hs
  have hz:inf.size=sz:=by simpa using hs
  obtain⟨_,_,hA⟩:=h.at_ mr
  have hyl:=hA.1.1
  by_cases h0:m=0
  ·subst h0
   have hy0:ys=[]:=Z2 (by rw[hyl];omega)
   subst hy0
   have Hw:=XP (P:=P) w dT sT ty el inf dp sp dl dc 0 c2 ht hq (Nat.zero_min _)
   refine⟨.int .i64 (0:Nat),w,.inl λa ha=>?_,rfl,?_⟩
   ·have e1:=ha.eval hx
    have e2:=ha.eval hy
    simp only[execOp,resolve,invoke,builtin,List.map_toArray,KP,List.map_nil,e1,e2,Sem.run_bind,Sem.run_pure,Result.andThen_ok,Hw]
    rfl
   ·have e:Z0 xs (k*sz) []=xs:=by unfold Z0;simp
    rw[e]at up
    exact h.step up λO R hA'=>⟨O,R,hA',Kp.refl _ _,λk hk=>.inl hk,λk hk=>.inr (.inl hk)⟩
  ·have hd:=hdp (by omega)
   subst hd
   rcases hA.1.2 with⟨h2,h3⟩|⟨b3,o3,cap,h2,hb,h3,h4,h5⟩
   ·omega
   ·injection h2 with h2 h6 h7
    subst h2 h7
    obtain⟨m0,m1,m2,_⟩:=up.ix
    have hm:At L (aV el sz (.slice (some ⟨b,0,none⟩) n' c) n' xs):=by
     have:∀{L L':List As} {A A':As},xO L L' A A'->At L A:=λu=>by
      induction u with
      |z=>exact .z
      |s _ ih=>exact .s ih
     exact this up
    obtain⟨_,_,hO⟩:=h.at_ hm
    rcases hO.1.2 with⟨h2,_⟩|⟨g',cap,cur,h2,hgb,hg,hc,aQx,KX,htk⟩
    ·cases h2
    ·injection h2 with h2 h6 h7
     injection h2 with h2
     injection h2 with h2 h8
     subst h2 h7
     have hxl:=hO.1.1
     have hmul:k*sz+ys.length<=n'*sz:=by rw[hyl,<- Nat.add_mul];exact NI _ hk
     have aFk:n'*sz<=cur.size:=by rw[KX];exact NI _ hc
     have Hw:=VA (P:=P) w dT sT ty el inf sz b (k*sz) m dl dc c2 ⟨b3,o3,none⟩ cur el ys ht hq hz hg hyl (by omega) hml (λj v hj=>by rw[pI];exact h5 j v hj) h1
     refine⟨.int .i64 m,w.setRow b (cur.toList.take (k*sz)++ys++cur.toList.drop (k*sz+ys.length)).toArray,.inl λa ha=>?_,rfl,?_⟩
     ·have e1:=ha.eval hx
      have e2:=ha.eval hy
      simp only[execOp,resolve,invoke,builtin,List.map_toArray,KP,List.map_nil,e1,e2,Sem.run_bind,Sem.run_pure,Result.andThen_ok,Hw]
      rfl
     ·refine h.step up λO R hA'=>⟨O,R,⟨⟨by rw[Z4 _ _ _ (by rw[hxl];exact hmul)];exact hxl,.inr ⟨b,c,(cur.toList.take (k*sz)++ys++cur.toList.drop (k*sz+ys.length)).toArray,rfl,hgb,setRow_heap w b cur _ el _ hg,hc,aQx,?_,?_⟩⟩,hA'.2⟩,⟨⟨rfl,rfl,rfl⟩,by simp[World.setRow],λk hk xL=>setRow_other w b k _ (λe=>xL ((hA'.2.1 k).2 (by rw[e];rfl)))⟩,λk hk=>.inl hk,λk hk=>.inr (.inl hk)⟩
      ·simp;omega
      ·exact w8 htk (by omega) (by simp;omega)
theorem aJf{b c k sz:Nat}(h:k≠c):tl (some ⟨b,0,none⟩) c k sz=some ⟨b,k*sz,none⟩:=by
 unfold tl;rw[if_neg (λe=>h e.symm)];simp[Addr.add];intro e;exact e.symm
theorem Nr{α:Type}{enc:α->List Value}{sz:Nat}(he:∀x,(enc x).length=sz)(xs ys:List α)(k:Nat):Z0 (xs.flatMap enc) (k*sz) (ys.flatMap enc)=(xs.take k++ys++xs.drop (k+ys.length)).flatMap enc:=by
 unfold Z0
 rw[List.flatMap_append,List.flatMap_append,<- tR he,zZ he,<- Nat.add_mul,<- Td he]
theorem sox{t el:TypeId}{x y:Operand}{b c m i o sz:Nat}{q:IntKind}{a:Int}{xs:List Value}(h:SH B w L)(hT:(P.info? t).map (·.size)=some 1)(hx:ev n e x=some (.pointer (some ⟨b,0+i*sz+o,none⟩)))(hy:ev n e y=some (.int q a))(hj:i*sz+o<m*sz)
  (up:xO L L' (aV el sz (.slice (some ⟨b,0,none⟩) m c) m xs) (aV el sz (.slice (some ⟨b,0,none⟩) m c) m (xs.set (i*sz+o) (.int q a)))):F P n e ⟨d,.store t x y,ty,ps,af,g⟩ w λ_ w'=>SH B w' L':=by
 rw[wS]at hx
 generalize i*sz+o=j at hx hj up
 obtain⟨mm,m0,m1,_⟩:=up.ix
 have Eh:w.ownsRow 0 el sz (.slice (some ⟨b,0,none⟩) m c) m xs:=by obtain⟨_,O,R,hp,_⟩:=h;exact(hp mm _ m1).1
 obtain⟨o1,o2⟩:=Eh.stored j (.int q a)
 refine⟨undef,w.setCell ⟨b,j,none⟩ (.int q a),.inr ⟨λf hf=>?_,rfl⟩,Qj h up o2 o1 λk hk=>.inl hk⟩
 have hc:=World.ownsRow.cellAt Eh j hj
 have hfz:=World.ownsRow.frozenAt Eh j
 rw[fV (by rw[Eh.1];exact hj)]at hc
 cases hq:P.info? t with
 |none=>rw[hq]at hT;cases hT
 |some i=>
  rw[hq]at hT
  have h4:i.size=1:=by simpa using hT
  have h5:(⟨b,j,none⟩:Addr).add 0=⟨b,j,none⟩:=rfl
  simp[execOp,hf.eval hx,hf.eval hy,Instr.storeAt,Instr.sureAddr,storeVar,sizeOf,typeInfo,hq,h4,Value.cells,storeCells,store,Sem.run,h5,hc,hfz]
end Go.E
end
section
namespace Go.Q9
open Go.Proofs.Tryz
open Go.RowKit Go.E Go.Ct
attribute [local irreducible] gA wpS
structure Wkq where
 ps:Option Addr:=none
 cs:Nat:=0
 pw:Option Addr:=none
 cw:Nat:=0
end Go.Q9
end
