/- Parts of a proof: Q2, Qd. -/
import Derived.Test.YtnhdmcipglnkfaaGreatW34
set_option linter.unusedVariables false
set_option linter.unusedSimpArgs false
set_option maxRecDepth 100000
set_option maxHeartbeats 4000000
section
namespace Go.Q9
open Go.Proofs.Tryz
open Go.RowKit Go.E Go.Ct
attribute [local irreducible] gA wpS Go.E.X XS C kV lL fin Y U F Ca kU bl rb aV bS ex ce pu sK gK bK zK
variable{B w:World}{L:List As}
theorem fJ(f:Bool)(v:Nat)(h:SH B w (L)):
  Calls prog 190 #[↑f,.int .u64 (v:Int)] w λe w'=>e=.returned (.agg (Bn (Ct.dN f v)).toArray)/\SH B w' L:=by
 refine cN func190 ntmps190 h λw h=>?_
 refine jA h λb1 w h=>?_
 exact rr (cD rfl rfl (h.b a0) Row.h)<|⟨rfl,h.drop⟩
theorem uO(xb mb:Nat)(x:Ct.X)(c:Ct.Call)(f:Bool)(v:Nat)(h:SH B w (XA xb mb (Ct.X.of c x)::L)):
  Calls prog 215 #[↑xb,↑f,.int .u64 (v:Int)] w λe w'=>e=.returned (.bool (Ct.cB c f v))/\SH B w' (XA xb mb (Ct.X.of c x)::L):=by
 refine cN func215 ntmps215 h λw h=>?_
 refine st (ld (v:=.int .i64 c.bF) One.h rfl (h.xc a0 λ_=>rfl))<|go h λw h=>?_
 refine qc h (λdF w h=>?_) λdF w h=>?_
 refine rz ?_
 refine⟨?_,h⟩
 unfold Ct.cB;simp[Ix,dF]
 refine qc h (λeB w h=>?_) λeB w h=>?_
 refine rz ?_
 refine⟨?_,h⟩
 unfold Ct.cB;simp[Ix,dF,eB]
 refine qc h (λfF w h=>?_) λfF w h=>?_
 refine qg h (λwE w h=>?_) λwE w h=>?_
 refine st (ld (v:=.int .u64 (c.expect:Int)) One.h rfl (h.xc a0 λ_=>rfl))<|go h λw h=>?_
 refine rz ?_
 refine⟨?_,h⟩
 unfold Ct.cB;simp[Ix,dF,eB,fF,wE]
 refine rz ?_
 refine⟨?_,h⟩
 unfold Ct.cB;simp[Ix,dF,eB,fF,wE]
 refine rz ?_
 refine⟨?_,h⟩
 unfold Ct.cB;simp[Ix,dF,eB,fF]
theorem iQ(p:Value)(ok f:Bool)(v:Nat)(h:SH B w (L)):
  Calls prog 217 #[p,↑ok,↑f,.int .u64 (v:Int)] w λe w'=>e=.returned (.tuple #[.agg (Bn (Ct.dL f v)).toArray,.int .i64 (bif ok then 1 else 0)])/\SH B w' L:=by
 refine cN func217 ntmps217 h λw h=>?_
 refine jA h λb1 w h=>?_
 refine bQ (fJ _ _ h.to) λw h=>?_
 refine jA h λb2 w h=>?_
 refine qc h (λcJ w h=>?_) λcJ w h=>?_
 have eB:ok=false:=(gZ _).mp cJ
 refine go h λw h=>?_
 refine rr (dS rfl rfl (h.b a1) Row.h rfl) ?_
 exact⟨by rw[show ok=false by simpa using cJ];rfl,h.drop.drop⟩
 have dM:ok=true:=(hU _).mp cJ
 refine go h λw h=>?_
 refine rr (dS rfl rfl (h.b a1) Row.h rfl) ?_
 exact⟨by rw[show ok=true by simpa using cJ];rfl,h.drop.drop⟩
theorem m5(xb mb:Nat)(x:Ct.X)(c:Ct.Call)(F:Nat)(h:SH B w (XA xb mb (Ct.X.of c x)::L))(k:Ct.Ok 60 (Ct.X.of c x))(hx:(Ct.X.of c x).left<=F)(hF:F<=1000000000000)(hm:c.aI<18446744073709551616)(vE:c.key.size<=9223372036854775807):
  Calls prog 151 #[↑xb] w λe w'=>∃y v,Ct.bC (Ct.Bf c F) (Ct.X.of c x)=Ct.out y v/\e=.returned (.agg (Bn v).toArray)/\SH B w' (XA xb mb y::L)/\Ct.Ok 60 y:=by
 have hh:=Ct.eS c.key c.aI
 have hlen:=k.len
 refine cN func151 ntmps151 h λw h=>?_
 refine sf (al h Wb)<|?_
 rintro _ w ⟨b1,rfl,h⟩
 refine xe<|nx<|?_
 refine sm (λe w=>∃b2:Nat,Sub 114 e (.c 0 ↑xb (.c 2 ↑b1 (.c 3 ↑b2 (.c 4 (.int .u64 ((Ct.aE c.key c.aI:Nat):Int)) .n))))/\SH B w (bl b2 (dV c.aF) 35::bl b1 ([.int .i64 0,↑false,.int .u64 0,.string .empty,.int .i64 0,.int .i64 0,.int .i64 0,↑false]) 49::XA xb mb (Ct.X.of c x)::L)) ?_ ?_
 refine drB (F:=[XA xb mb (Ct.X.of c x)]) [1,3,5,7,9,11,13,15,17,19,21,23,25,27,29] 15 16 [32,34,36] [30,34,36] (by kernel_rfl) h (λw h=>(hC (h.at_ a1) hN)) λw h=>go h λw h=>?_
 refine tk (λW H=>kB (cs:=dV c.aF) rfl (H.xr 2 a0 λ_=>rfl) Row.h)<|go h λw h=>?_
 refine tk (λW H=>ld (v:=.string c.key) One.h rfl (H.xc a0 λ_=>rfl))<|go h λw h=>?_
 refine tk (λW H=>ld (v:=.int .u64 (c.aI:Int)) One.h rfl (H.xc a0 λ_=>rfl))<|go h λw h=>?_
 refine W3 ?_ ?_
 refine cs (ca eF rfl) ((sX c.key c.aI _ (by omega) (by omega)).mono ?_)
 rintro _ _ ⟨rfl,rfl⟩
 refine⟨_,rfl,(hC (h.at_ a1) hN),?_⟩
 refine go h λw h=>?_
 refine jB h λb2 w h=>?_
 exact⟨b2,⟨rfl,rfl,rfl,rfl,trivial⟩,h⟩
 refine jB h λb3 w h=>?_
 refine cs (ca eF rfl) ((sX c.key c.aI _ (by omega) (by omega)).mono ?_)
 rintro _ _ ⟨rfl,rfl⟩
 refine⟨_,rfl,(hC (h.at_ a2) hN),?_⟩
 refine ff (so h rfl rfl rfl Kc rfl (.r (.r .d)) u0)<|?_
 rintro _ w h
 refine⟨(hC (h.at_ a2) hN),?_⟩
 refine ef (sg rfl) ((hC (h.at_ a2) hN))<|xz<|nx<|?_
 refine go h λw h=>?_
 exact⟨b3,⟨rfl,rfl,rfl,rfl,trivial⟩,h⟩
 rintro e w ⟨b2,hE,h⟩
 refine C.sub hE ?_
 clear hE e
 refine go h λw h=>?_
 have kb4:=k
 refine eI (zV _ _ _ _ h.to (k.less (by omega))) λy5 v6 q7 w h k=>?_
 obtain⟨z8,rfl⟩:=Ct.uG q7
 have lq7:=Ct.uA q7
 have aQq:=Ct.Ev kb4 (by omega) q7
 refine go h λw h=>?_
 refine lp (α:=Ct.X×Nat×Int×Int) (λρ=>(.c 0 ↑xb (.c 2 ↑b1 (.c 3 ↑b2 (.c 4 (.int .u64 ((Ct.aE c.key c.aI:Nat):Int)) (.c 5 (.int .i64 ρ.2.2.1) (.c 6 (.int .i64 ρ.2.2.2) .n))))))) (λρ w=>SH B w (XA xb mb (Ct.X.of c ρ.1)::bl b2 (dV c.aF) 35::bl b1 ([.int .i64 0,↑false,.int .u64 0,.string .empty,.int .i64 0,.int .i64 0,.int .i64 0,↑false]) 49::L)/\(Ct.bC (Ct.Bf c F) (Ct.X.of c x)=Ct.bC (Ct.FT c.aF c.key (Ct.aE c.key c.aI) ρ.2.1 ρ.2.2.1 ρ.2.2.2) (Ct.X.of c ρ.1))/\(Ct.Ok 60 (Ct.X.of c ρ.1))/\((Ct.X.of c ρ.1).e.aD=true\/(Ct.X.of c ρ.1).left<ρ.2.1)/\(0<=ρ.2.2.2/\ρ.2.2.2+(ρ.2.1:Int)<=(F:Int))) (λρ=>ρ.2.1) (z8,F,v6,0) ⟨rfl,rfl,rfl,rfl,rfl,rfl,trivial⟩ ⟨h,(Ct.rB q7<|rfl),k,(aQq.imp id λh=>by have:=h.2;(try dsimp only);omega),⟨by(try dsimp only);omega,by(try dsimp only);omega⟩⟩ ?_
 rintro⟨y,n,i,l⟩ w ⟨h,hq,k,hn,hl⟩
 dsimp only at *
 refine go h λw h=>?_
 refine st (ld (v:=.bool (Ct.X.of c y).e.aD) One.h rfl (h.xc a0 λ_=>rfl))<|go h λw h=>?_
 refine qc h (λwE w h=>?_) λwE w h=>?_
 have dG:(Ct.X.of c y).e.aD=false:=(gZ _).mp wE
 refine go h λw h=>?_
 obtain⟨n,rfl⟩:∃k,n=k+1:=⟨n-1,by have:=hn.resolve_left (by rw[dG];decide);omega⟩
 replace hn:=hn.resolve_left (by rw[dG];decide)
 refine go h λw h=>?_
 have aRm:=k
 refine eI (mR _ _ _ _ _ h.to (k.less (by omega))) λy12 YS QD w h k=>?_
 obtain⟨YI,rfl⟩:=Ct.uG QD
 have aZh:=Ct.uA QD
 have aKo:=Ct.Ao aRm QD
 refine go h λw h=>?_
 refine cS (aQ _ _ _ _ h.to k.eY) λp16 w h=>?_
 have f17:=k.qJ YS
 have bF0:=k.len
 refine go h λw h=>?_
 refine jA h λb18 w h=>?_
 refine qc h (λiM w h=>?_) λiM w h=>?_
 have YK:=eq_of_beq iM
 refine go h λw h=>?_
 refine fD [1,3,5,7,9,11,13,15] (by kernel_rfl) h (.c r0 (.c r1 .n)) λw h=>go h λw h=>?_
 refine tk (λW H=>ld (v:=.string c.key) One.h rfl (H.xc a1 λ_=>rfl))<|go h λw h=>?_
 refine qc h (λnX w h=>?_) λnX w h=>?_
 refine bQ (fJ _ _ h.to) λw h=>?_
 exact rr (cD rfl rfl (h.b a4) Row.h)<|⟨_,Ct.dN true ((Ct.X.of c YI).node YS).value,hq.trans<|Ct.rB QD<|Ct.rN<|Ct.rT iM<|Ct.rT nX<|Ct.rR,rfl,h.to,k⟩
 refine bQ (fJ _ _ h.to) λw h=>?_
 exact rr (cD rfl rfl (h.b a4) Row.h)<|⟨_,Ct.dN false 0,hq.trans<|Ct.rB QD<|Ct.rN<|Ct.rT iM<|Ct.rF nX<|Ct.rR,rfl,h.to,k⟩
 have L5:=bM iM
 refine go h λw h=>?_
 refine qc h (λfP w h=>?_) λfP w h=>?_
 have aAn:=eq_of_beq fP
 refine go h λw h=>?_
 have h:=h.fr (.c r1 .n)
 have h:=SH.se (l:=[bE ((Ct.X.of c YI).node YS) p16,cP ((Ct.X.of c YI).node YS) p16]) h
 have KW:=(Ct.iW (((Ct.Node.Fit.nf f17 (by omega))).v6 (eq_of_beq fP))).pJ (eq_of_beq fP)
 have hpl:=((Ct.Node.Fit.nf f17 (by omega))).pr
 refine fD [1,3,5,7,9,11,13,14,17,19,21,22,24] (by kernel_rfl) h (.c r2 (.c r2 .n)) λw h=>go h λw h=>?_
 refine tk (λW H=>ld (v:=.string c.key) One.h rfl (H.xc a1 λ_=>rfl))<|go h λw h=>?_
 refine qB (Bb _ _ _ _ h.to KW (by omega)) λw h=>?_
 refine bQ (fJ _ _ h.to) λw h=>?_
 exact rr (cD rfl rfl (h.b a5) Row.h)<|⟨_,Ct.dN (Ct.bN ((Ct.X.of c YI).node YS).aH c.key).2 (Ct.bN ((Ct.X.of c YI).node YS).aH c.key).1,hq.trans<|Ct.rB QD<|Ct.rN<|Ct.rF iM<|Ct.rT fP<|Ct.rR,rfl,h.to,k⟩
 have YV:=bM fP
 refine go h λw h=>?_
 refine fD [1,3,5,6,8,11,13,15,16,18] (by kernel_rfl) h (.c r0 .n) λw h=>go h λw h=>?_
 refine cs (ca eF rfl) ((iV (Ct.aE c.key c.aI) l _ (by omega)).mono ?_)
 rintro _ _ ⟨rfl,rfl⟩
 refine⟨_,rfl,h.hs (.c r0 .n),?_⟩
 refine go h λw h=>?_
 refine qB (iO _ _ _ _ _ _ h.to (Ct.Node.Fit.nf f17 (by omega))) λw h=>?_
 refine st (ld (v:=.bool (Ct.X.of c YI).e.aD) One.h rfl (h.xc a2 λ_=>rfl))<|go h λw h=>?_
 refine qg h (λkQ w h=>?_) λkQ w h=>?_
 refine bQ (fJ _ _ h.to) λw h=>?_
 exact rr (cD rfl rfl (h.b a4) Row.h)<|⟨_,Ct.dN false 0,hq.trans<|Ct.rB QD<|Ct.rN<|Ct.rF iM<|Ct.rF fP<|Ct.rS kQ,rfl,h.to,(k.stop kQ)⟩
 refine qc h (λMj w h=>?_) λMj w h=>?_
 have M8:(Ct.aB ((Ct.X.of c YI).node YS) (Ct.slice (Ct.aE c.key c.aI) l)).2=false:=(gZ _).mp Mj
 refine go h λw h=>?_
 refine bQ (fJ _ _ h.to) λw h=>?_
 exact rr (cD rfl rfl (h.b a4) Row.h)<|⟨_,Ct.dN false 0,hq.trans<|Ct.rB QD<|Ct.rN<|Ct.rF iM<|Ct.rF fP<|Ct.US M8<|Ct.rR,rfl,h.to,k⟩
 have CV:(Ct.aB ((Ct.X.of c YI).node YS) (Ct.slice (Ct.aE c.key c.aI) l)).2=true:=(hU _).mp Mj
 refine go h λw h=>?_
 refine cS (aQ _ _ _ _ h.to k.eY) λp30 w h=>?_
 have f31:=k.qJ (Ct.aB ((Ct.X.of c YI).node YS) (Ct.slice (Ct.aE c.key c.aI) l)).1
 have aYo:=k.len
 refine go h λw h=>?_
 refine jA h λb32 w h=>?_
 refine qc h (λVt w h=>?_) λVt w h=>?_
 have aYr:=eq_of_beq Vt
 refine go h λw h=>?_
 refine fD [1,3,5,7,9,11,13,15] (by kernel_rfl) h (.c r0 (.c r1 .n)) λw h=>go h λw h=>?_
 refine tk (λW H=>ld (v:=.string c.key) One.h rfl (H.xc a1 λ_=>rfl))<|go h λw h=>?_
 refine qc h (λCO w h=>?_) λCO w h=>?_
 refine bQ (fJ _ _ h.to) λw h=>?_
 exact rr (cD rfl rfl (h.b a6) Row.h)<|⟨_,Ct.dN true ((Ct.X.of c YI).node (Ct.aB ((Ct.X.of c YI).node YS) (Ct.slice (Ct.aE c.key c.aI) l)).1).value,hq.trans<|Ct.rB QD<|Ct.rN<|Ct.rF iM<|Ct.rF fP<|Ct.Nn CV<|Ct.rN<|Ct.rT Vt<|Ct.rT CO<|Ct.rR,rfl,h.to,k⟩
 refine bQ (fJ _ _ h.to) λw h=>?_
 exact rr (cD rfl rfl (h.b a6) Row.h)<|⟨_,Ct.dN false 0,hq.trans<|Ct.rB QD<|Ct.rN<|Ct.rF iM<|Ct.rF fP<|Ct.Nn CV<|Ct.rN<|Ct.rT Vt<|Ct.rF CO<|Ct.rR,rfl,h.to,k⟩
 have bFa:=bM Vt
 refine go h λw h=>?_
 refine st (ba (l+1))<|go h λw h=>?_
 exact⟨(YI,n,(Ct.aB ((Ct.X.of c YI).node YS) (Ct.slice (Ct.aE c.key c.aI) l)).1,l+1),⟨rfl,rfl,rfl,rfl,rfl,rfl,trivial⟩,⟨h.to,(hq.trans<|Ct.rB QD<|Ct.rN<|Ct.rF iM<|Ct.rF fP<|Ct.Nn CV<|Ct.rN<|Ct.rF Vt<|rfl),k,(.inr (by have:=(aKo.resolve_left (by rw[kQ];decide)).2;(try dsimp only);omega)),⟨by(try dsimp only);omega,by(try dsimp only);omega⟩⟩,by(try dsimp only);omega⟩
 have KF:(Ct.X.of c y).e.aD=true:=(hU _).mp wE
 refine go h λw h=>?_
 exact rr (cD rfl rfl (h.b a2) Row.h)<|⟨_,{},hq.trans<|Ct.rS KF,rfl,h.to,(k.stop KF)⟩
end Go.Q9
end
section
namespace Go.Ct
def bV(x:Node)(at_:Int)(h:Nat)(key:ByteArray)(v:Nat)(first:Int):Nat×List (Node×Int):=
 if 11<=aJ x.hash h then(11,[({kind:=6,hash:=h,aH:=gE ⟨x.key,x.value⟩ ⟨key,v⟩},0)])
 else(aJ x.hash h,[({kind:=4,hash:=h,key:=key,value:=v},0),(iA (slice x.hash (aJ x.hash h)) at_ (slice h (aJ x.hash h)) first,0)])
theorem Mg(x:Node)(at_:Int)(h:Nat)(key:ByteArray)(v:Nat)(level gen first:Int):
  bU x at_ h key v level gen first=gI h gen first (bV x at_ h key v first).1 (((bV x at_ h key v first).1:Int)-level).toNat (bV x at_ h key v first).2:=by
 unfold bU bV;dsimp only;split<;>rfl
theorem Kt(h:Nat)(g f:Int):∀(j:Nat) (c:Int) (l:List (Node×Int)),gI h g f c (j+1) l=gI h g f c j l++[({kind:=2,gen:=g},f+(gI h g f c j l).length -1),({kind:=3,aC:=Bm.cR 0 (slice h (c-j-1)),aA:=[f+(gI h g f c j l).length -1+1]},0)]
 |0,c,l=>by simp[gI]
 |j+1,c,l=>by
  rw[show gI h g f c (j+1+1) l=gI h g f (c-1) (j+1) _ from rfl,Kt h g f j (c-1)]
  rw[show gI h g f c (j+1) l=gI h g f (c-1) j _ from rfl]
  rw[show c-((j+1:Nat):Int)-1=c-1-(j:Int)-1 by omega]
theorem Xu(h k:Nat):aJ h k<=11:=by have:=(nD h k 11 0).1;unfold aJ;omega
theorem Vn(x:Node)(at_:Int)(h:Nat)(key:ByteArray)(v:Nat)(first:Int):(bV x at_ h key v first).2.length<=2:=by
 unfold bV;split
 ·exact Nat.le_succ _
 ·exact aW _
theorem BK(x:Node)(at_:Int)(h:Nat)(key:ByteArray)(v:Nat)(first:Int):(bV x at_ h key v first).1<=11:=by
 unfold bV;split
 ·exact aW _
 ·exact Xu _ _
theorem DQ{x:Node}{at_:Int}{h:Nat}{key:ByteArray}{v:Nat}{level gen first:Int}{z:X}(hs:z.e.aD=false)(hf:first=if z.e.m<z.e.made.length then z.e.made.getD z.e.m 0 else(z.s.aG.length:Int)+3)(hm:z.e.m<=z.e.made.length):
  bC (rM x at_ h key v level gen) z=bC (iX (bU x at_ h key v level gen first) 0) z:=by
 have key':∀(n:Node) (i:Int),∃y,dE n i z=(y,some first):=λn i=>by
  unfold dE;rw[if_neg (by rw[hs];decide)]
  split
  ·rename_i h1
   rw[if_neg (by omega)]at hf
   exact⟨_,by rw[hf];rfl⟩
  ·rename_i h1
   rw[if_pos (by omega)]at hf
   exact⟨_,by rw[hf]⟩
 have hh:=yS x at_ h key v level gen 0 first
 cases h0:bU x at_ h key v level gen 0 with
 |nil=>have:=uT x at_ h key v level gen 0;rw[h0]at this;simp at this
 |cons n l=>
  cases h1:bU x at_ h key v level gen first with
  |nil=>have:=uT x at_ h key v level gen first;rw[h1]at this;simp at this
  |cons n' l'=>
   rw[h0,h1]at hh
   obtain rfl:n=n':=by simpa using hh
   have e:rM x at_ h key v level gen=.alloc n.1 n.2 λf=>iX (bU x at_ h key v level gen f).tail f:=by unfold rM;rw[h0]
   rw[e]
   obtain⟨y,hy⟩:=key' n.1 n.2
   show kS (dE n.1 n.2 z) _=kS (dE n.1 n.2 z) _
   rw[hy]
   show bC (iX (bU x at_ h key v level gen first).tail first) y=bC (iX l' first) y
   rw[h1];rfl
theorem Lc{l:List (Node×Int)}{k:Nat}(hk:k<l.length)(r:Int):iX (l.drop k) r=.alloc (l.getD k ({},0)).1 (l.getD k ({},0)).2 λr=>iX (l.drop (k+1)) r:=by
 rw[UM hk,cK,fV hk];rfl
theorem A2{α β γ:Type}{f:α->γ}{g:β->γ}{l:List α}{m:List β}(h:l.map f=m.map g){i:Nat}(a:α)(b:β)(hi:i<m.length):f (l.getD i a)=g (m.getD i b):=by
 have h1:l.length=m.length:=by have:=congrArg List.length h;simpa using this
 have h2:=congrArg (λz=>z[i]?) h
 simp only[AG,fV hi,fV (show i<l.length by omega),Ze,Bs]at h2
 rw[cK,cK,fV hi,fV (show i<l.length by omega)];exact h2
theorem mF{α:Type}{l:List α}{i:Nat}(a:α)(hi:i<l.length):l.getD i a∈l:=by
 rw[cK,fV hi];exact uY hi
theorem i2{l:List (Node×Int)}{i:Nat}(hi:i<l.length):(l.map Prod.snd).getD i 0=(l.getD i ({},0)).2:=by
 rw[cK,cK,AG,fV hi];rfl
end Go.Ct
namespace Go.E
open Go.Q9 Go.RowKit
variable{B w:World}{L:List As}
theorem SH.aOe{b mb:Nat}{x:Ct.X}(h:SH B w L)(m:At L (XA b mb x)):∃p c,w.cell? ⟨mb,0,none⟩=some (.slice p (2+x.s.aG.length) c):=by
 obtain⟨O,R,hA⟩:=h.at_ m
 obtain⟨O1,R1,q,h1⟩:=DR hA (i:=1) rfl
 obtain⟨O2,R2,h2⟩:=DR h1 (i:=0) rfl
 obtain⟨O3,R3,h3⟩:=DR h1 (i:=1) rfl
 have hl:=iI h2.1
 exact⟨q.pn,q.cn,by rw[<- hl];simp[World.cell?,h3.1]⟩
theorem SH.kX{b mb:Nat}{x:Ct.X}{o:Nat}{v:Value}(h:SH B w L)(m:At L (XA b mb x))(hv:∀q,(Bl mb x.e q)[o]?=some v):∃O R,(ce b o v).p w O R:=⟨λ_=>False,λk=>k=b,h.xc m hv,λ_ h=>h,λ_=>Iff.rfl⟩
theorem vI{b o:Nat}{v0 v1:Value}(h0:w.cell? ⟨b,o,none⟩=some v0)(h1:w.cell? ⟨b,o+1,none⟩=some v1):∀j v,[v0,v1][j]?=some v->w.cell? ⟨b,o+j,none⟩=some v:=λj v hj=>by
 match j with
 |0=>simp at hj;subst hj;exact h0
 |1=>simp at hj;subst hj;exact h1
 |j+2=>simp at hj
theorem SH.aF1(h:SH B w L):SH B w (bH []::L):=
 h.new (Kp.refl _ _) (O:=λ_=>False) (R:=λ_=>False) ⟨λ_ h=>h,λ_ hz=>absurd hz List.not_mem_nil,λ_ h=>h.elim⟩ (λ_ h=>h.elim) (λ_ h=>h.elim)
theorem SH.aCz{zs:List (Ct.Node×Lq)}{n:Ct.Node}{q:Lq}(h:SH B w (aL n q::bH zs::L)):SH B w (bH (zs++[(n,q)])::L):=
 SH.VM (SH.se (l:=[bE n q,cP n q]) h)
theorem SH.m8{zs:List (Ct.Node×Lq)}{n n':Ct.Node}{q q':Lq}(h:SH B w (aL n q::aL n' q'::bH zs::L)):SH B w (bH (zs++[(n,q),(n',q')])::L):=by
 have h1:=(h.fr (.c r0 (.c r1 .n))).aCz
 have h2:=(h1.fr (.c r1 (.c r0 .n))).aCz
 rw[zA]at h2
 exact h2
end Go.E
end
