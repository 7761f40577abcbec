/- Parts of a proof: Rn. -/
import Derived.Test.YtnhdmcipglnkfaaGreatW13
set_option linter.unusedVariables false
set_option linter.unusedSimpArgs false
set_option maxRecDepth 100000
set_option maxHeartbeats 4000000
section
namespace Go.Q9
open Go.Proofs.Tryz
open Go.RowKit Go.E
attribute [local irreducible] gA wpS Go.E.X XS C kV lL fin Y U F Ca kU bl rb aV bS ex ce pu sK gK bK zK
def xC(want:Ct.Acc)(x:Ct.X):Ct.X×Bool×Bool:=
 if x.e.aD=true then(x,false,false)
 else if x.e.a<x.e.eV.length then(Ct.qO x,true,false)
 else if x.e.free=0 then(Ct.vR want x,false,false)
 else({x with e:={x.e with free:=x.e.free-1}},false,true)
theorem CM{a:Ct.Acc}{x:Ct.X}(h:x.e.aD=true):xC a x=(x,false,false):=by unfold xC;rw[if_pos h]
theorem AR{a:Ct.Acc}{x:Ct.X}(h:x.e.aD=false)(h1:x.e.a<x.e.eV.length):xC a x=(Ct.qO x,true,false):=by unfold xC;rw[if_neg (by rw[h];decide),if_pos h1]
theorem BU{a:Ct.Acc}{x:Ct.X}(h:x.e.aD=false)(h1:¬x.e.a<x.e.eV.length)(h2:x.e.free=0):xC a x=(Ct.vR a x,false,false):=by unfold xC;rw[if_neg (by rw[h];decide),if_neg h1,if_pos h2]
theorem AP{a:Ct.Acc}{x:Ct.X}(h:x.e.aD=false)(h1:¬x.e.a<x.e.eV.length)(h2:x.e.free≠0):xC a x=({x with e:={x.e with free:=x.e.free-1}},false,true):=by unfold xC;rw[if_neg (by rw[h];decide),if_neg h1,if_neg h2]
variable{B w:World}{L:List As}
theorem VW(xb mb:Nat)(x:Ct.X)(r:Int)(h:SH B w (XA xb mb x::L))(hx:x.s.size<=100000000000):
  Calls prog 24 #[↑mb,↑r] w λe w'=>∃q,e=.returned (.agg (aK (x.node r) q).toArray)/\SH B w' (aL (x.node r) q::XA xb mb x::L):=by
 refine(IL mb x.s r (h.se.fr (.c r1 .n)) hx).mono ?_
 rintro e w' ⟨q,rfl,h⟩
 exact⟨q,rfl,(SH.is (l:=[exA xb mb x.e,dX mb x.s]) (h.fr (.c r2 (.c r1 .n)))).fr (.c r1 .n)⟩
theorem T8{c:Int}{x:Ct.X}(h:x.e.aD=true):Ct.eK c x=Ct.out x 0:=by unfold Ct.eK;rw[if_pos h,Ct.lM h]
theorem aA2{c:Int}{x:Ct.X}(h:x.e.aD=false)(h1:x.e.a<x.e.eV.length):Ct.eK c x=Ct.out (Ct.qO x) (x.e.eV.getD x.e.a 0):=by
 unfold Ct.eK;rw[if_neg (by rw[h];decide),if_pos h1,Ct.kO (y:=Ct.qO x) (show (Ct.qO x).e.aD=false from h)]
theorem V'{c:Int}{x:Ct.X}(h:x.e.aD=false)(h1:¬x.e.a<x.e.eV.length)(h2:x.e.free=0):Ct.eK c x=Ct.out (Ct.vR ⟨1,c,0,0⟩ x) 0:=by
 unfold Ct.eK;rw[if_neg (by rw[h];decide),if_neg h1,if_pos h2,Ct.lM rfl]
theorem Ox{l:List Int}{a:Nat}{v:Int}(h:¬a<l.length)(h2:a<=l.length):(l++[v]).getD a 0=v:=by
 have e:a=l.length:=by omega
 rw[e];simp
theorem S7{c:Int}{x:Ct.X}(h:x.e.aD=false)(h1:¬x.e.a<x.e.eV.length)(h2:x.e.free≠0)(h3:x.e.a<=x.e.eV.length):Ct.eK c x=Ct.out (Ct.mB (x.s.load c).2 (x.s.load c).1 x) ((x.e.eV++[(x.s.load c).2]).getD x.e.a 0):=by
 unfold Ct.eK;rw[if_neg (by rw[h];decide),if_neg h1,if_neg h2,Ct.kO (show (Ct.mB (x.s.load c).2 (x.s.load c).1 x).e.aD=false from h),Ox h1 h3]
theorem aD4{c a n:Int}{x:Ct.X}(h:x.e.aD=true):Ct.jT c a n x=Ct.out x false:=by unfold Ct.jT;rw[if_pos h,Ct.lM h]
theorem aE4{c a n:Int}{x:Ct.X}(h:x.e.aD=false)(h1:x.e.a<x.e.eV.length):Ct.jT c a n x=Ct.out (Ct.qO x) (x.e.eV.getD x.e.a 0==1):=by
 unfold Ct.jT;rw[if_neg (by rw[h];decide),if_pos h1,Ct.kO (y:=Ct.qO x) (show (Ct.qO x).e.aD=false from h)]
theorem aDz{c a n:Int}{x:Ct.X}(h:x.e.aD=false)(h1:¬x.e.a<x.e.eV.length)(h2:x.e.free=0):Ct.jT c a n x=Ct.out (Ct.vR ⟨2,c,a,n⟩ x) false:=by
 unfold Ct.jT;rw[if_neg (by rw[h];decide),if_neg h1,if_pos h2,Ct.lM rfl]
theorem aE5{c a n:Int}{x:Ct.X}(h:x.e.aD=false)(h1:¬x.e.a<x.e.eV.length)(h2:x.e.free≠0)(h3:x.e.a<=x.e.eV.length)(hb:(x.s.cH c a n).2=true):Ct.jT c a n x=Ct.out (Ct.mB 1 (x.s.cH c a n).1 x) ((x.e.eV++[1]).getD x.e.a 0==1):=by
 unfold Ct.jT;rw[if_neg (by rw[h];decide),if_neg h1,if_neg h2,hb,Ct.kO (show (Ct.mB 1 (x.s.cH c a n).1 x).e.aD=false from h),Ox h1 h3];rfl
theorem aDg{c a n:Int}{x:Ct.X}(h:x.e.aD=false)(h1:¬x.e.a<x.e.eV.length)(h2:x.e.free≠0)(h3:x.e.a<=x.e.eV.length)(hb:(x.s.cH c a n).2=false):Ct.jT c a n x=Ct.out (Ct.mB 0 (x.s.cH c a n).1 x) ((x.e.eV++[0]).getD x.e.a 0==1):=by
 unfold Ct.jT;rw[if_neg (by rw[h];decide),if_neg h1,if_neg h2,hb,Ct.kO (show (Ct.mB 0 (x.s.cH c a n).1 x).e.aD=false from h),Ox h1 h3];rfl
theorem AI{l:List Int}{a:Nat}{v:Int}(h:a=l.length):(l++[v]).getD a 0=v:=by rw[h];simp
theorem A1{n:Ct.Node}{i:Int}{x:Ct.X}(h:x.e.aD=true):Ct.dE n i x=Ct.out x 0:=by unfold Ct.dE;rw[if_pos h,Ct.lM h]
theorem i5{n:Ct.Node}{i:Int}{x:Ct.X}(h:x.e.aD=false)(hm:x.e.m=x.e.made.length):Ct.dE n i x=Ct.out {e:={x.e with made:=x.e.made++[(x.s.alloc n i).2],m:=x.e.m+1},s:=(x.s.alloc n i).1} ((x.e.made++[(x.s.alloc n i).2]).getD x.e.m 0):=by
 unfold Ct.dE;rw[if_neg (by rw[h];decide),if_pos hm,AI hm];unfold Ct.out;dsimp only;rw[if_neg (by rw[h];decide)]
theorem A8{n:Ct.Node}{i:Int}{x:Ct.X}(h:x.e.aD=false)(hm:x.e.m<x.e.made.length):Ct.dE n i x=Ct.out {x with e:={x.e with m:=x.e.m+1}} (x.e.made.getD x.e.m 0):=by
 unfold Ct.dE;rw[if_neg (by rw[h];decide),if_neg (by omega)];unfold Ct.out;dsimp only;rw[if_neg (by rw[h];decide)]
theorem Y2{i:Int}{x:Ct.X}(h:x.e.aD=true):Ct.fU i x=Ct.out x 0:=by unfold Ct.fU;rw[if_pos h,Ct.lM h]
theorem T3{i:Int}{x:Ct.X}(h:x.e.aD=false)(hm:x.e.c=x.e.cells.length):Ct.fU i x=Ct.out {e:={x.e with cells:=x.e.cells++[(x.s.aT i).2],c:=x.e.c+1},s:=(x.s.aT i).1} ((x.e.cells++[(x.s.aT i).2]).getD x.e.c 0):=by
 unfold Ct.fU;rw[if_neg (by rw[h];decide),if_pos hm,AI hm];unfold Ct.out;dsimp only;rw[if_neg (by rw[h];decide)]
theorem T7{i:Int}{x:Ct.X}(h:x.e.aD=false)(hm:x.e.c<x.e.cells.length):Ct.fU i x=Ct.out {x with e:={x.e with c:=x.e.c+1}} (x.e.cells.getD x.e.c 0):=by
 unfold Ct.fU;rw[if_neg (by rw[h];decide),if_neg (by omega)];unfold Ct.out;dsimp only;rw[if_neg (by rw[h];decide)]
theorem aEt{x:Ct.X}(h:x.e.aD=true):Ct.kN x=Ct.out x 0:=by unfold Ct.kN;rw[if_pos h,Ct.lM h]
theorem aEl{x:Ct.X}(h:x.e.aD=false)(hm:x.e.g=x.e.dU.length):Ct.kN x=Ct.out {e:={x.e with dU:=x.e.dU++[x.s.bL.2],g:=x.e.g+1},s:=x.s.bL.1} ((x.e.dU++[x.s.bL.2]).getD x.e.g 0):=by
 unfold Ct.kN;rw[if_neg (by rw[h];decide),if_pos hm,AI hm];unfold Ct.out;dsimp only;rw[if_neg (by rw[h];decide)]
theorem aEu{x:Ct.X}(h:x.e.aD=false)(hm:x.e.g<x.e.dU.length):Ct.kN x=Ct.out {x with e:={x.e with g:=x.e.g+1}} (x.e.dU.getD x.e.g 0):=by
 unfold Ct.kN;rw[if_neg (by rw[h];decide),if_neg (by omega)];unfold Ct.out;dsimp only;rw[if_neg (by rw[h];decide)]
theorem oI(xb mb:Nat)(x:Ct.X)(a:Ct.Acc)(h:SH B w (XA xb mb x::L))(hx:Ct.Ok 0 x):
  Calls prog 209 #[↑xb,.agg (aD3 a).toArray] w λe w'=>∃y o n,xC a x=(y,o,n)/\e=.returned (.tuple #[.bool o,.bool n])/\SH B w' (XA xb mb y::L):=by
 have hb:=hx.Cn
 have ZP:=hx.free
 unfold Ct.X.size Ct.cW at hb
 refine cN func209 ntmps209 h λw h=>?_
 refine jX h λb1 w h=>?_
 have h:=h.fr (.c r1 .n)
 obtain⟨⟨pg,cg,pm,cm,pq,cq,pi,ci⟩,h⟩:=h.xo
 have h:SH B w (bl xb (Bl mb x.e ⟨pg,cg,pm,cm,pq,cq,pi,ci⟩) 135::aV 44 1 (.slice pg x.e.eV.length cg) x.e.eV.length (x.e.eV.map (Value.int .i64))::aV 44 1 (.slice pm x.e.made.length cm) x.e.made.length (x.e.made.map (Value.int .i64))::aV 33 1 (.slice pq x.e.cells.length cq) x.e.cells.length (x.e.cells.map (Value.int .i64))::aV 3 1 (.slice pi x.e.dU.length ci) x.e.dU.length (x.e.dU.map (Value.int .i64))::dX mb x.s::bl b1 (aD3 a) 90::L):=h
 refine go h λw h=>?_
 refine qc h (λcO w h=>?_) λcO w h=>?_
 exact rr (iG rfl rfl rfl)<|⟨x,_,_,CM cO,rfl,SH.xi ⟨pg,cg,pm,cm,pq,cq,pi,ci⟩ (h.to)⟩
 refine fD [1,3,5,7,9,11,13,15,17,19] (by kernel_rfl) h (.c r0 .n) λw h=>go h λw h=>?_
 refine qc h (λcJ w h=>?_) λcJ w h=>?_
 have Tv:=dH cJ
 refine go h λw h=>?_
 exact rr (iG rfl rfl rfl)<|⟨Ct.qO x,_,_,AR cO (by omega),rfl,SH.xi ⟨pg,cg,pm,cm,pq,cq,pi,ci⟩ (h.to)⟩
 have Vu:=dR cJ
 refine go h λw h=>?_
 refine qc h (λdJ w h=>?_) λdJ w h=>?_
 have El:=eq_of_beq dJ
 refine go h λw h=>?_
 refine fD [1,3,5,7,9,10,13,15,16] (by kernel_rfl) h (.c r6 .n) λw h=>go h λw h=>?_
 exact rr (iG rfl rfl rfl)<|⟨Ct.vR a x,_,_,BU cO (by omega) (by omega),rfl,SH.xi ⟨pg,cg,pm,cm,pq,cq,pi,ci⟩ (h.to)⟩
 have Ua:=bM dJ
 refine go h λw h=>?_
 refine st (bs ((x.e.free-1:Nat):Int))<|go h λw h=>?_
 exact rr (iG rfl rfl rfl)<|⟨{x with e:={x.e with free:=x.e.free-1}},_,_,AP cO (by omega) (by omega),rfl,SH.xi ⟨pg,cg,pm,cm,pq,cq,pi,ci⟩ (h.to)⟩
theorem aQ(xb mb:Nat)(x:Ct.X)(r:Int)(h:SH B w (XA xb mb x::L))(hx:x.s.size<=100000000000):
  Calls prog 180 #[↑xb,↑r] w λe w'=>∃q,e=.returned (.agg (aK (x.node r) q).toArray)/\SH B w' (aL (x.node r) q::XA xb mb x::L):=by
 refine cN func180 ntmps180 h λw h=>?_
 refine jA h λb1 w h=>?_
 refine st (ld (v:=.pointer (some ⟨mb,0,none⟩)) One.h rfl (h.xc a1 λ_=>rfl))<|go h λw h=>?_
 refine cS (VW _ _ _ _ h.to (by first|exact hx.Cn|omega)) λq w h=>?_
 exact rr (cD rfl rfl (h.b a2) Row.h)<|⟨_,rfl,h.to⟩
theorem GU(xb mb:Nat)(x:Ct.X)(c:Int)(h:SH B w (XA xb mb x::L))(hx:Ct.Ok 0 x)(hs:x.e.aD=true):
  Calls prog 179 #[↑xb,↑c] w λe w'=>∃y v,Ct.eK c x=Ct.out y v/\e=.returned (.int .i64 v)/\SH B w' (XA xb mb y::L):=by
 have hb:=hx.Cn
 have QA:=hx.a
 have ZP:=hx.free
 unfold Ct.X.size Ct.cW at hb
 refine cN func179 ntmps179 h λw h=>?_
 refine lA (oI _ _ _ (⟨1,c,0,0⟩) h.to hx) λy o n q w h=>?_
 rw[CM hs]at q
 cases q
 refine go h λw h=>?_
 exact rz ⟨_,0,T8 hs,rfl,h⟩
theorem HM(xb mb:Nat)(x:Ct.X)(c:Int)(h:SH B w (XA xb mb x::L))(hx:Ct.Ok 0 x)(hs:x.e.aD=false)(ha:x.e.a<x.e.eV.length):
  Calls prog 179 #[↑xb,↑c] w λe w'=>∃y v,Ct.eK c x=Ct.out y v/\e=.returned (.int .i64 v)/\SH B w' (XA xb mb y::L):=by
 have hb:=hx.Cn
 unfold Ct.X.size Ct.cW at hb
 refine cN func179 ntmps179 h λw h=>?_
 refine lA (oI _ _ _ (⟨1,c,0,0⟩) h.to hx) λy o n q w h=>?_
 rw[AR hs ha]at q
 cases q
 refine go h λw h=>?_
 obtain⟨⟨pg,cg,pm,cm,pq,cq,pi,ci⟩,h⟩:=h.xo
 have h:SH B w (bl xb (Bl mb ({x.e with a:=x.e.a+1}) ⟨pg,cg,pm,cm,pq,cq,pi,ci⟩) 135::aV 44 1 (.slice pg x.e.eV.length cg) x.e.eV.length (x.e.eV.map (Value.int .i64))::aV 44 1 (.slice pm x.e.made.length cm) x.e.made.length (x.e.made.map (Value.int .i64))::aV 33 1 (.slice pq x.e.cells.length cq) x.e.cells.length (x.e.cells.map (Value.int .i64))::aV 3 1 (.slice pi x.e.dU.length ci) x.e.dU.length (x.e.dU.map (Value.int .i64))::dX mb x.s::L):=h
 obtain⟨b1,rfl⟩:=h.fp a1 (by omega)
 refine fD [1,3,5,7,9,11,13,15,17,19,21,22] (by kernel_rfl) h (.c r0 (.c r0 .n)) λw h=>go h λw h=>?_
 refine tk (λW H=>bs (x.e.a:Int))<|go h λw h=>?_
 exact rz ⟨_,_,aA2 hs ha,rfl,SH.xi ⟨some ⟨b1,0,none⟩,cg,pm,cm,pq,cq,pi,ci⟩ (h)⟩
theorem GG(xb mb:Nat)(x:Ct.X)(c:Int)(h:SH B w (XA xb mb x::L))(hx:Ct.Ok 0 x)(hs:x.e.aD=false)(ha:¬x.e.a<x.e.eV.length)(hf:x.e.free=0):
  Calls prog 179 #[↑xb,↑c] w λe w'=>∃y v,Ct.eK c x=Ct.out y v/\e=.returned (.int .i64 v)/\SH B w' (XA xb mb y::L):=by
 have hb:=hx.Cn
 have QA:=hx.a
 have ZP:=hx.free
 unfold Ct.X.size Ct.cW at hb
 refine cN func179 ntmps179 h λw h=>?_
 refine lA (oI _ _ _ (⟨1,c,0,0⟩) h.to hx) λy o n q w h=>?_
 rw[BU hs ha hf]at q
 cases q
 refine go h λw h=>?_
 exact rz ⟨_,0,V' hs ha hf,rfl,h⟩
theorem HJ(xb mb:Nat)(x:Ct.X)(c:Int)(h:SH B w (XA xb mb x::L))(hx:Ct.Ok 0 x)(hs:x.e.aD=false)(ha:¬x.e.a<x.e.eV.length)(hf:x.e.free≠0):
  Calls prog 179 #[↑xb,↑c] w λe w'=>∃y v,Ct.eK c x=Ct.out y v/\e=.returned (.int .i64 v)/\SH B w' (XA xb mb y::L):=by
 have hb:=hx.Cn
 have QA:=hx.a
 unfold Ct.X.size Ct.cW at hb
 refine cN func179 ntmps179 h λw h=>?_
 refine lA (oI _ _ _ (⟨1,c,0,0⟩) h.to hx) λy o n q w h=>?_
 rw[AP hs ha hf]at q
 cases q
 refine go h λw h=>?_
 obtain⟨⟨pg,cg,pm,cm,pq,cq,pi,ci⟩,h⟩:=h.xo
 have h:SH B w (bl xb (Bl mb ({x.e with free:=x.e.free-1}) ⟨pg,cg,pm,cm,pq,cq,pi,ci⟩) 135::aV 44 1 (.slice pg x.e.eV.length cg) x.e.eV.length (x.e.eV.map (Value.int .i64))::aV 44 1 (.slice pm x.e.made.length cm) x.e.made.length (x.e.made.map (Value.int .i64))::aV 33 1 (.slice pq x.e.cells.length cq) x.e.cells.length (x.e.cells.map (Value.int .i64))::aV 3 1 (.slice pi x.e.dU.length ci) x.e.dU.length (x.e.dU.map (Value.int .i64))::dX mb x.s::L):=h
 refine DD (F:=[bl xb (Bl mb ({x.e with free:=x.e.free-1}) ⟨pg,cg,pm,cm,pq,cq,pi,ci⟩) 135]) [(true,[1]),(false,[3]),(true,[5,7,9,11,13,15,17,19,21,29,31,33,35]),(false,[37]),(true,[22,24,26,39,41]),(false,[42,45,47,48])] (by kernel_rfl) h (λw h=>(hC (h.at_ a0) hN)) λw h=>go h λw h=>?_
 refine qB (G3 _ _ _ h.to (by unfold Ct.St.size;unfold Ct.St.size at hb;omega)) λw h=>?_
 refine ff (bu [.int .i64 ((x.s.load c).2)] h gB.h Ss.h rfl (by kernel_rfl) rfl (by decide) (by decide)) ?_
 rintro _ w ⟨b1,rfl,h⟩
 refine gz h λw h=>?_
 refine ff (ap h gB.h rfl Ss.h rfl (by decide) rfl rfl (λ_=>u3) (h.ro a0) (by simp[Value.oneCell']) rfl (fK _ _) (by unfold maxLen;omega) (by omega)) ?_
 rintro _ w ⟨p2,c3,rfl,h⟩
 refine gz h λw h=>?_
 obtain⟨b4,rfl⟩:=h.fp a3 (by omega)
 refine fD [1,3,5,7,9,11,13,15,17,19,21,22] (by kernel_rfl) h (.c r2 (.c r2 .n)) λw h=>go h λw h=>?_
 refine tk (λW H=>bs (x.e.a:Int))<|go h λw h=>?_
 exact rz ⟨_,_,S7 hs ha hf QA,rfl,SH.xi ⟨some ⟨b4,0,none⟩,c3,pm,cm,pq,cq,pi,ci⟩ (by unfold G7 Bl;(try unfold Ct.mB);dsimp only;rw[cV,fR];exact h.to)⟩
theorem PT(xb mb:Nat)(x:Ct.X)(c o' n':Int)(h:SH B w (XA xb mb x::L))(hx:Ct.Ok 0 x)(hs:x.e.aD=true):
  Calls prog 181 #[↑xb,↑c,↑o',↑n'] w λe w'=>∃y v,Ct.jT c o' n' x=Ct.out y v/\e=.returned (.bool v)/\SH B w' (XA xb mb y::L):=by
 have hb:=hx.Cn
 have QA:=hx.a
 have ZP:=hx.free
 unfold Ct.X.size Ct.cW at hb
 refine cN func181 ntmps181 h λw h=>?_
 refine lA (oI _ _ _ (⟨2,c,o',n'⟩) h.to hx) λy o n q w h=>?_
 rw[CM hs]at q
 cases q
 refine go h λw h=>?_
 refine fD [1,3,5,7,9,11,13,15,17,19,21,23,25,27,29,31,33,35,36] (by kernel_rfl) h .n λw h=>go h λw h=>?_
 exact rz ⟨_,false,aD4 hs,rfl,h⟩
theorem OU(xb mb:Nat)(x:Ct.X)(c o' n':Int)(h:SH B w (XA xb mb x::L))(hx:Ct.Ok 0 x)(hs:x.e.aD=false)(ha:x.e.a<x.e.eV.length):
  Calls prog 181 #[↑xb,↑c,↑o',↑n'] w λe w'=>∃y v,Ct.jT c o' n' x=Ct.out y v/\e=.returned (.bool v)/\SH B w' (XA xb mb y::L):=by
 have hb:=hx.Cn
 unfold Ct.X.size Ct.cW at hb
 refine cN func181 ntmps181 h λw h=>?_
 refine lA (oI _ _ _ (⟨2,c,o',n'⟩) h.to hx) λy o n q w h=>?_
 rw[AR hs ha]at q
 cases q
 refine go h λw h=>?_
 obtain⟨⟨pg,cg,pm,cm,pq,cq,pi,ci⟩,h⟩:=h.xo
 have h:SH B w (bl xb (Bl mb ({x.e with a:=x.e.a+1}) ⟨pg,cg,pm,cm,pq,cq,pi,ci⟩) 135::aV 44 1 (.slice pg x.e.eV.length cg) x.e.eV.length (x.e.eV.map (Value.int .i64))::aV 44 1 (.slice pm x.e.made.length cm) x.e.made.length (x.e.made.map (Value.int .i64))::aV 33 1 (.slice pq x.e.cells.length cq) x.e.cells.length (x.e.cells.map (Value.int .i64))::aV 3 1 (.slice pi x.e.dU.length ci) x.e.dU.length (x.e.dU.map (Value.int .i64))::dX mb x.s::L):=h
 obtain⟨b1,rfl⟩:=h.fp a1 (by omega)
 refine fD [1,3,5,7,9,11,13,15,17,19,21,23,25,27,29,31,33,35,36] (by kernel_rfl) h (.c r0 (.c r0 .n)) λw h=>go h λw h=>?_
 refine tk (λW H=>bs (x.e.a:Int))<|go h λw h=>?_
 exact rz ⟨_,_,aE4 hs ha,rfl,SH.xi ⟨some ⟨b1,0,none⟩,cg,pm,cm,pq,cq,pi,ci⟩ (h)⟩
theorem LF(xb mb:Nat)(x:Ct.X)(c o' n':Int)(h:SH B w (XA xb mb x::L))(hx:Ct.Ok 0 x)(hs:x.e.aD=false)(ha:¬x.e.a<x.e.eV.length)(hf:x.e.free=0):
  Calls prog 181 #[↑xb,↑c,↑o',↑n'] w λe w'=>∃y v,Ct.jT c o' n' x=Ct.out y v/\e=.returned (.bool v)/\SH B w' (XA xb mb y::L):=by
 have hb:=hx.Cn
 have QA:=hx.a
 have ZP:=hx.free
 unfold Ct.X.size Ct.cW at hb
 refine cN func181 ntmps181 h λw h=>?_
 refine lA (oI _ _ _ (⟨2,c,o',n'⟩) h.to hx) λy o n q w h=>?_
 rw[BU hs ha hf]at q
 cases q
 refine go h λw h=>?_
 refine fD [1,3,5,7,9,11,13,15,17,19,21,23,25,27,29,31,33,35,36] (by kernel_rfl) h .n λw h=>go h λw h=>?_
 exact rz ⟨_,false,aDz hs ha hf,rfl,h⟩
theorem PE(xb mb:Nat)(x:Ct.X)(c o' n':Int)(h:SH B w (XA xb mb x::L))(hx:Ct.Ok 0 x)(hs:x.e.aD=false)(ha:¬x.e.a<x.e.eV.length)(hf:x.e.free≠0):
  Calls prog 181 #[↑xb,↑c,↑o',↑n'] w λe w'=>∃y v,Ct.jT c o' n' x=Ct.out y v/\e=.returned (.bool v)/\SH B w' (XA xb mb y::L):=by
 have hb:=hx.Cn
 have QA:=hx.a
 unfold Ct.X.size Ct.cW at hb
 refine cN func181 ntmps181 h λw h=>?_
 refine lA (oI _ _ _ (⟨2,c,o',n'⟩) h.to hx) λy o n q w h=>?_
 rw[AP hs ha hf]at q
 cases q
 refine go h λw h=>?_
 obtain⟨⟨pg,cg,pm,cm,pq,cq,pi,ci⟩,h⟩:=h.xo
 have h:SH B w (bl xb (Bl mb ({x.e with free:=x.e.free-1}) ⟨pg,cg,pm,cm,pq,cq,pi,ci⟩) 135::aV 44 1 (.slice pg x.e.eV.length cg) x.e.eV.length (x.e.eV.map (Value.int .i64))::aV 44 1 (.slice pm x.e.made.length cm) x.e.made.length (x.e.made.map (Value.int .i64))::aV 33 1 (.slice pq x.e.cells.length cq) x.e.cells.length (x.e.cells.map (Value.int .i64))::aV 3 1 (.slice pi x.e.dU.length ci) x.e.dU.length (x.e.dU.map (Value.int .i64))::dX mb x.s::L):=h
 refine go h λw h=>?_
 refine bQ (D' _ _ _ _ _ h.to (by unfold Ct.St.size;unfold Ct.St.size at hb;omega)) λw h=>?_
 refine qc h (λdF w h=>?_) λdF w h=>?_
 refine DD (F:=[bl xb (Bl mb ({x.e with free:=x.e.free-1}) ⟨pg,cg,pm,cm,pq,cq,pi,ci⟩) 135]) [(true,[1]),(false,[3]),(true,[5,7,9,11,13,19,21,23,25]),(false,[27]),(true,[14,16,29,31]),(false,[32,35,37,38])] (by kernel_rfl) h (λw h=>(hC (h.at_ a1) hN)) λw h=>go h λw h=>?_
 refine ff (bu [.int .i64 1] h gB.h Ss.h rfl (by kernel_rfl) rfl (by decide) (by decide)) ?_
 rintro _ w ⟨b2,rfl,h⟩
 refine gz h λw h=>?_
 refine ff (ap h gB.h rfl Ss.h rfl (by decide) rfl rfl (λ_=>u3) (h.ro a0) (by simp[Value.oneCell']) rfl (fK _ _) (by unfold maxLen;omega) (by omega)) ?_
 rintro _ w ⟨p3,c4,rfl,h⟩
 refine gz h λw h=>?_
 obtain⟨b5,rfl⟩:=h.fp a3 (by omega)
 refine fD [1,3,5,7,9,11,13,15,17,19,21,23,25,27,29,31,33,35,36] (by kernel_rfl) h (.c r2 (.c r2 .n)) λw h=>go h λw h=>?_
 refine tk (λW H=>bs (x.e.a:Int))<|go h λw h=>?_
 exact rz ⟨_,_,aE5 hs ha hf QA dF,rfl,SH.xi ⟨some ⟨b5,0,none⟩,c4,pm,cm,pq,cq,pi,ci⟩ (by unfold G7 Bl;(try unfold Ct.mB);dsimp only;rw[cV,fR];exact h.to)⟩
 refine DD (F:=[bl xb (Bl mb ({x.e with free:=x.e.free-1}) ⟨pg,cg,pm,cm,pq,cq,pi,ci⟩) 135]) [(true,[1]),(false,[3]),(true,[5,7,9,11,13,19,21,23,25]),(false,[27]),(true,[14,16,29,31]),(false,[32,35,37,38])] (by kernel_rfl) h (λw h=>(hC (h.at_ a1) hN)) λw h=>go h λw h=>?_
 refine ff (bu [.int .i64 0] h gB.h Ss.h rfl (by kernel_rfl) rfl (by decide) (by decide)) ?_
 rintro _ w ⟨b6,rfl,h⟩
 refine gz h λw h=>?_
 refine ff (ap h gB.h rfl Ss.h rfl (by decide) rfl rfl (λ_=>u3) (h.ro a0) (by simp[Value.oneCell']) rfl (fK _ _) (by unfold maxLen;omega) (by omega)) ?_
 rintro _ w ⟨p7,c8,rfl,h⟩
 refine gz h λw h=>?_
 obtain⟨b9,rfl⟩:=h.fp a3 (by omega)
 refine fD [1,3,5,7,9,11,13,15,17,19,21,23,25,27,29,31,33,35,36] (by kernel_rfl) h (.c r2 (.c r2 .n)) λw h=>go h λw h=>?_
 refine tk (λW H=>bs (x.e.a:Int))<|go h λw h=>?_
 exact rz ⟨_,_,aDg hs ha hf QA dF,rfl,SH.xi ⟨some ⟨b9,0,none⟩,c8,pm,cm,pq,cq,pi,ci⟩ (by unfold G7 Bl;(try unfold Ct.mB);dsimp only;rw[cV,fR];exact h.to)⟩
theorem BD(xb mb:Nat)(x:Ct.X)(n:Ct.Node)(q:Lq)(i:Int)(h:SH B w (aL n q::XA xb mb x::L))(hx:Ct.Ok 0 x)(hs:x.e.aD=true)(hn:n.Fit (x.s.aG.length+1)):
  Calls prog 184 #[↑xb,.agg (aK n q).toArray,↑i] w λe w'=>∃y v,Ct.dE n i x=Ct.out y v/\e=.returned (.int .i64 v)/\SH B w' (XA xb mb y::L):=by
 have hb:=hx.Cn
 have QA:=hx.a
 have ZP:=hx.free
 unfold Ct.X.size Ct.cW at hb
 have hxm:=hx.m
 have hxc:=hx.c
 have hxg:=hx.g
 refine cN func184 ntmps184 h λw h=>?_
 refine jX h λb1 w h=>?_
 refine st (ld (v:=.bool x.e.aD) One.h rfl (h.xc a2 λ_=>rfl))<|go h λw h=>?_
 exact rz ⟨_,0,A1 hs,rfl,h.drop.drop⟩
section
attribute [local semireducible] gA wpS Go.E.X XS C kV lL fin Y U F Ca kU bl rb aV bS ex ce pu sK gK bK zK
attribute [local irreducible] gA wpS
variable{B w:World}{L:List As}
theorem BC(xb mb:Nat)(x:Ct.X)(n:Ct.Node)(q:Lq)(i:Int)(h:SH B w (aL n q::XA xb mb x::L))(hx:Ct.Ok 0 x)(hs:x.e.aD=false)(hm:x.e.m=x.e.made.length)(hn:n.Fit (x.s.aG.length+1)):
  Calls prog 184 #[↑xb,.agg (aK n q).toArray,↑i] w λe w'=>∃y v,Ct.dE n i x=Ct.out y v/\e=.returned (.int .i64 v)/\SH B w' (XA xb mb y::L):=by
 have hb:=hx.Cn
 unfold Ct.X.size Ct.cW at hb
 refine Kk (args:=[_,_,_]) func184 rfl ntmps184 rfl ?_
 refine sq<|rg<|sf (bx h rfl rfl)<|?_
 rintro _ w ⟨b1,rfl,h⟩
 refine st (sg rfl)<|xe<|nx<|sq<|sq<|rg<|st (mv rfl)<|st (nc rfl rfl)<|st (fa oL rfl)<|st (ld (v:=.bool x.e.aD) Cx rfl (h.xc a2 λ_=>rfl))<|xe<|nx<|cf rfl hs<|sk<|nx<|sq<|sq<|?_
 have h:=h.fr (.c r2 .n)
 obtain⟨⟨pg,cg,pm,cm,pq,cq,pi,ci⟩,h⟩:=h.xo
 have h:SH B w (bl xb (Bl mb x.e ⟨pg,cg,pm,cm,pq,cq,pi,ci⟩) 135::aV 44 1 (.slice pg x.e.eV.length cg) x.e.eV.length (x.e.eV.map (Value.int .i64))::aV 44 1 (.slice pm x.e.made.length cm) x.e.made.length (x.e.made.map (Value.int .i64))::aV 33 1 (.slice pq x.e.cells.length cq) x.e.cells.length (x.e.cells.map (Value.int .i64))::aV 3 1 (.slice pi x.e.dU.length ci) x.e.dU.length (x.e.dU.map (Value.int .i64))::dX mb x.s::bl b1 (aK n q) 53::aL n q::L):=h
 refine fD [1,3,5,7,9,11,13,15,17,19] (by kernel_rfl) h (.c r0 .n) λw h=>tk (λW H=>mv rfl)<|tk (λW H=>nc rfl rfl)<|tk (λW H=>fa tK rfl)<|tk (λW H=>ld (v:=.int .i64 (x.e.m:Int)) jZ rfl (H.c a0 rfl))<|tk (λW H=>mv rfl)<|tk (λW H=>nc rfl rfl)<|tk (λW H=>fa vT rfl)<|tk (λW H=>ld (v:=.slice pm x.e.made.length cm) kZ rfl (H.c a0 rfl))<|tk (λW H=>ln gN rfl rfl)<|tk (λW H=>bi rfl rfl rfl)<|xz<|nx<|ct rfl (beq_iff_eq.2 (by omega))<|DD (F:=[bl xb (Bl mb x.e ⟨pg,cg,pm,cm,pq,cq,pi,ci⟩) 135,bl b1 (aK n q) 53]) [(true,[1,3,5,7,9,11,13,15,17,19,21,22,24,26,29,31]),(false,[32])] (by kernel_rfl) h (λw h=>(hC (h.at_ a0) (hC (h.at_ a6) hN))) λw h=>sgT<|tk (λW H=>mv rfl)<|tk (λW H=>mv rfl)<|tk (λW H=>nc rfl rfl)<|tk (λW H=>fa vT rfl)<|tk (λW H=>ld (v:=.slice pm x.e.made.length cm) kZ rfl (H.c a0 rfl))<|tk (λW H=>mv rfl)<|tk (λW H=>nc rfl rfl)<|tk (λW H=>fa Gw rfl)<|tk (λW H=>ld (v:=.pointer (some ⟨mb,0,none⟩)) Ov rfl (H.c a0 rfl))<|tk (λW H=>kB rfl (eH (H.b a1)) iK)<|tk (λW H=>mv rfl)<|cs (ca eF rfl) ((Ib mb x.s n q i (h.fr (.c r7 (.c r5 .n))) (by unfold Ct.St.size;unfold Ct.St.size at hb;omega) hn.1.1 (by have:=hn.1.2.1;unfold Ct.St.size at hb;omega)).mono ?_)
 rintro _ w ⟨rfl,h⟩
 refine⟨_,rfl,(hC (h.at_ a1) (hC (h.at_ a6) hN)),?_⟩
 refine ff (bu [.int .i64 ((x.s.alloc n i).2)] h gN sD rfl (by kernel_rfl) rfl (by decide) (by decide))<|?_
 rintro _ w ⟨b2,rfl,h⟩
 refine⟨(hC (h.at_ a2) (hC (h.at_ a7) hN)),?_⟩
 refine ff (ap h gN rfl sD rfl (by decide) rfl rfl (λ_=>u4) (h.ro a0) (by simp[Value.oneCell']) rfl (fK _ _) (by unfold maxLen;omega) (by omega))<|?_
 rintro _ w ⟨p3,c4,rfl,h⟩
 refine⟨(hC (h.at_ a2) (hC (h.at_ a7) hN)),?_⟩
 refine tk (λW H=>nc rfl rfl)<|tk (λW H=>fa vT rfl)<|KR<|ff (so h rfl rfl rfl xN rfl (.s (.s (.s (.s (.s (.s (.s (.s (.s (.s (.s (.s (.s (.s (.s (.s (.s (.s (.s (.s (.s (.s (.s (.s (.s (.s (.s (.r .d)))))))))))))))))))))))))))) u2)<|?_
 rintro _ w h
 refine⟨trivial,?_⟩
 refine xz<|nx<|sq<|rg<|st (mv rfl)<|st (nc rfl rfl)<|st (fa tK rfl)<|st (ld jZ rfl (h.c a2 rfl))<|st (bw rfl rfl (iR (c:=((x.e.m+1:Nat):Int)) (by omega) (by omega) (by omega)))<|st (nc rfl rfl)<|st (fa tK rfl)<|sf (so h rfl rfl rfl Gu rfl (.s (.s (.s (.s (.s (.s (.s (.s (.s (.s (.s (.s (.s (.s (.s (.s (.s (.s (.s (.s (.s (.s (.s (.s (.s (.s (.s (.s (.s (.s (.s (.r .d)))))))))))))))))))))))))))))))) u2)<|?_
 rintro _ w h
 refine xe<|nx<|sq<|?_
 obtain⟨b5,rfl⟩:=h.fp a4 (by omega)
 refine fD [1,3,5,7,9,11,13,15,17,19,21,22] (by kernel_rfl) h (.c r2 (.c r3 .n)) λw h=>tk (λW H=>mv rfl)<|tk (λW H=>nc rfl rfl)<|tk (λW H=>fa vT rfl)<|tk (λW H=>ld kZ rfl (H.c a0 rfl))<|tk (λW H=>mv rfl)<|tk (λW H=>nc rfl rfl)<|tk (λW H=>fa tK rfl)<|tk (λW H=>ld jZ rfl (H.c a0 rfl))<|tk (λW H=>bw rfl rfl (Jb (c:=(x.e.m:Int)) (by omega) (by omega) (by omega)))<|tk (λW H=>ix (j:=x.e.m) gN uM rfl rfl (by omega))<|tk (λW H=>ld jE rfl ((H.ro a1).i (by omega)))<|ef (sg rfl) (h.hs (.c r2 (.c r3 .n)))<|xz<|nx<|rt<|?_
 refine rr (mC results184 rfl)<|⟨_,_,i5 hs hm,rfl,SH.xi ⟨pg,cg,some ⟨b5,0,none⟩,c4,pq,cq,pi,ci⟩ (by unfold G7 Bl;dsimp only;rw[cV,fR];exact((h.fr (.c r0 (.c r6 .n))).drop.drop.fr (.c r1 (.c r1 (.c r1 (.c r1 (.c r1 .n)))))))⟩
end
variable{B w:World}{L:List As}
theorem Zp(xb mb:Nat)(x:Ct.X)(n:Ct.Node)(q:Lq)(i:Int)(h:SH B w (aL n q::XA xb mb x::L))(hx:Ct.Ok 0 x)(hs:x.e.aD=false)(hm:x.e.m<x.e.made.length)(hn:n.Fit (x.s.aG.length+1)):
  Calls prog 184 #[↑xb,.agg (aK n q).toArray,↑i] w λe w'=>∃y v,Ct.dE n i x=Ct.out y v/\e=.returned (.int .i64 v)/\SH B w' (XA xb mb y::L):=by
 have hb:=hx.Cn
 unfold Ct.X.size Ct.cW at hb
 refine cN func184 ntmps184 h λw h=>?_
 refine jX h λb1 w h=>?_
 refine st (ld (v:=.bool x.e.aD) One.h rfl (h.xc a2 λ_=>rfl))<|go h λw h=>?_
 have h:=h.fr (.c r2 .n)
 obtain⟨⟨pg,cg,pm,cm,pq,cq,pi,ci⟩,h⟩:=h.xo
 have h:SH B w (bl xb (Bl mb x.e ⟨pg,cg,pm,cm,pq,cq,pi,ci⟩) 135::aV 44 1 (.slice pg x.e.eV.length cg) x.e.eV.length (x.e.eV.map (Value.int .i64))::aV 44 1 (.slice pm x.e.made.length cm) x.e.made.length (x.e.made.map (Value.int .i64))::aV 33 1 (.slice pq x.e.cells.length cq) x.e.cells.length (x.e.cells.map (Value.int .i64))::aV 3 1 (.slice pi x.e.dU.length ci) x.e.dU.length (x.e.dU.map (Value.int .i64))::dX mb x.s::bl b1 (aK n q) 53::aL n q::L):=h
 refine fD [1,3,5,7,9,11,13,15,17,19] (by kernel_rfl) h (.c r0 .n) λw h=>go h λw h=>?_
 obtain⟨b2,rfl⟩:=h.fp a2 (by omega)
 refine fD [1,3,5,7,9,11,13,15,17,19,21,22] (by kernel_rfl) h (.c r0 (.c r1 .n)) λw h=>go h λw h=>?_
 refine tk (λW H=>bs (x.e.m:Int))<|go h λw h=>?_
 exact rz ⟨_,_,A8 hs hm,rfl,SH.xi ⟨pg,cg,some ⟨b2,0,none⟩,cm,pq,cq,pi,ci⟩ (h.to)⟩
theorem GP(xb mb:Nat)(x:Ct.X)(i:Int)(h:SH B w (XA xb mb x::L))(hx:Ct.Ok 0 x)(hs:x.e.aD=true):
  Calls prog 196 #[↑xb,↑i] w λe w'=>∃y v,Ct.fU i x=Ct.out y v/\e=.returned (.int .i64 v)/\SH B w' (XA xb mb y::L):=by
 have hb:=hx.Cn
 have QA:=hx.a
 have ZP:=hx.free
 unfold Ct.X.size Ct.cW at hb
 have hxm:=hx.m
 have hxc:=hx.c
 have hxg:=hx.g
 refine cN func196 ntmps196 h λw h=>?_
 refine st (ld (v:=.bool x.e.aD) One.h rfl (h.xc a0 λ_=>rfl))<|go h λw h=>?_
 exact rz ⟨_,0,Y2 hs,rfl,h⟩
section
attribute [local semireducible] gA wpS Go.E.X XS C kV lL fin Y U F Ca kU bl rb aV bS ex ce pu sK gK bK zK
attribute [local irreducible] gA wpS
variable{B w:World}{L:List As}
theorem HR(xb mb:Nat)(x:Ct.X)(i:Int)(h:SH B w (XA xb mb x::L))(hx:Ct.Ok 0 x)(hs:x.e.aD=false)(hm:x.e.c=x.e.cells.length):
  Calls prog 196 #[↑xb,↑i] w λe w'=>∃y v,Ct.fU i x=Ct.out y v/\e=.returned (.int .i64 v)/\SH B w' (XA xb mb y::L):=by
 have hb:=hx.Cn
 have QA:=hx.a
 have ZP:=hx.free
 unfold Ct.X.size Ct.cW at hb
 have hxm:=hx.m
 have hxc:=hx.c
 have hxg:=hx.g
 refine Kk (args:=[_,_]) func196 rfl ntmps196 rfl ?_
 refine sq<|rg<|st (sg rfl)<|xe<|nx<|sq<|sq<|rg<|st (mv rfl)<|st (nc rfl rfl)<|st (fa oL rfl)<|st (ld (v:=.bool x.e.aD) Cx rfl (h.xc a0 λ_=>rfl))<|xe<|nx<|cf rfl hs<|sk<|nx<|sq<|sq<|?_
 obtain⟨⟨pg,cg,pm,cm,pq,cq,pi,ci⟩,h⟩:=h.xo
 have h:SH B w (bl xb (Bl mb x.e ⟨pg,cg,pm,cm,pq,cq,pi,ci⟩) 135::aV 44 1 (.slice pg x.e.eV.length cg) x.e.eV.length (x.e.eV.map (Value.int .i64))::aV 44 1 (.slice pm x.e.made.length cm) x.e.made.length (x.e.made.map (Value.int .i64))::aV 33 1 (.slice pq x.e.cells.length cq) x.e.cells.length (x.e.cells.map (Value.int .i64))::aV 3 1 (.slice pi x.e.dU.length ci) x.e.dU.length (x.e.dU.map (Value.int .i64))::dX mb x.s::L):=h
 refine fD [1,3,5,7,9,11,13,15,17,19] (by kernel_rfl) h (.c r0 .n) λw h=>tk (λW H=>mv rfl)<|tk (λW H=>nc rfl rfl)<|tk (λW H=>fa zW rfl)<|tk (λW H=>ld (v:=.int .i64 (x.e.c:Int)) jZ rfl (H.c a0 rfl))<|tk (λW H=>mv rfl)<|tk (λW H=>nc rfl rfl)<|tk (λW H=>fa Hp rfl)<|tk (λW H=>ld (v:=.slice pq x.e.cells.length cq) AY rfl (H.c a0 rfl))<|tk (λW H=>ln BS rfl rfl)<|tk (λW H=>bi rfl rfl rfl)<|xz<|nx<|ct rfl (beq_iff_eq.2 (by omega))<|DD (F:=[bl xb (Bl mb x.e ⟨pg,cg,pm,cm,pq,cq,pi,ci⟩) 135]) [(true,[1,3,5,7,9,11,13,15,17,19,20,22,24,27,29]),(false,[30])] (by kernel_rfl) h (λw h=>(hC (h.at_ a0) hN)) λw h=>sgT<|tk (λW H=>mv rfl)<|tk (λW H=>mv rfl)<|tk (λW H=>nc rfl rfl)<|tk (λW H=>fa Hp rfl)<|tk (λW H=>ld (v:=.slice pq x.e.cells.length cq) AY rfl (H.c a0 rfl))<|tk (λW H=>mv rfl)<|tk (λW H=>nc rfl rfl)<|tk (λW H=>fa Gw rfl)<|tk (λW H=>ld (v:=.pointer (some ⟨mb,0,none⟩)) Ov rfl (H.c a0 rfl))<|tk (λW H=>mv rfl)<|cs (ca eF rfl) ((mU mb x.s i (h.fr (.c r5 .n)) (by unfold Ct.St.size;unfold Ct.St.size at hb;omega)).mono ?_)
 rintro _ w ⟨rfl,h⟩
 refine⟨_,rfl,(hC (h.at_ a1) hN),?_⟩
 refine ff (bu [.int .i64 ((x.s.aT i).2)] h BS aC8 rfl (by kernel_rfl) rfl (by decide) (by decide))<|?_
 rintro _ w ⟨b1,rfl,h⟩
 refine⟨(hC (h.at_ a2) hN),?_⟩
 refine ff (ap h BS rfl aC8 rfl (by decide) rfl rfl (λ_=>u5) (h.ro a0) (by simp[Value.oneCell']) rfl (fK _ _) (by unfold maxLen;omega) (by omega))<|?_
 rintro _ w ⟨p2,c3,rfl,h⟩
 refine⟨(hC (h.at_ a2) hN),?_⟩
 refine tk (λW H=>nc rfl rfl)<|tk (λW H=>fa Hp rfl)<|KR<|ff (so h rfl rfl rfl aDx rfl (.s (.s (.s (.s (.s (.s (.s (.s (.s (.s (.s (.s (.s (.s (.s (.s (.s (.s (.s (.s (.s (.s (.s (.s (.s (.s (.s (.s (.r .d))))))))))))))))))))))))))))) u2)<|?_
 rintro _ w h
 refine⟨trivial,?_⟩
 refine xz<|nx<|sq<|rg<|st (mv rfl)<|st (nc rfl rfl)<|st (fa zW rfl)<|st (ld jZ rfl (h.c a2 rfl))<|st (bw rfl rfl (iR (c:=((x.e.c+1:Nat):Int)) (by omega) (by omega) (by omega)))<|st (nc rfl rfl)<|st (fa zW rfl)<|sf (so h rfl rfl rfl Gu rfl (.s (.s (.s (.s (.s (.s (.s (.s (.s (.s (.s (.s (.s (.s (.s (.s (.s (.s (.s (.s (.s (.s (.s (.s (.s (.s (.s (.s (.s (.s (.s (.s (.r .d))))))))))))))))))))))))))))))))) u2)<|?_
 rintro _ w h
 refine xe<|nx<|sq<|?_
 obtain⟨b4,rfl⟩:=h.fp a5 (by omega)
 refine fD [1,3,5,7,9,11,13,15,17,19,21,22] (by kernel_rfl) h (.c r2 (.c r4 .n)) λw h=>tk (λW H=>mv rfl)<|tk (λW H=>nc rfl rfl)<|tk (λW H=>fa Hp rfl)<|tk (λW H=>ld AY rfl (H.c a0 rfl))<|tk (λW H=>mv rfl)<|tk (λW H=>nc rfl rfl)<|tk (λW H=>fa zW rfl)<|tk (λW H=>ld jZ rfl (H.c a0 rfl))<|tk (λW H=>bw rfl rfl (Jb (c:=(x.e.c:Int)) (by omega) (by omega) (by omega)))<|tk (λW H=>ix (j:=x.e.c) BS tF rfl rfl (by omega))<|tk (λW H=>ld Ed rfl ((H.ro a1).i (by omega)))<|ef (sg rfl) (h.hs (.c r2 (.c r4 .n)))<|xz<|nx<|rt<|?_
 refine rr (mC results196 rfl)<|⟨_,_,T3 hs hm,rfl,SH.xi ⟨pg,cg,pm,cm,some ⟨b4,0,none⟩,c3,pi,ci⟩ (by unfold G7 Bl;dsimp only;rw[cV,fR];exact(h.drop.fr (.c r1 (.c r1 (.c r1 (.c r1 (.c r1 .n)))))))⟩
end
variable{B w:World}{L:List As}
theorem FY(xb mb:Nat)(x:Ct.X)(i:Int)(h:SH B w (XA xb mb x::L))(hx:Ct.Ok 0 x)(hs:x.e.aD=false)(hm:x.e.c<x.e.cells.length):
  Calls prog 196 #[↑xb,↑i] w λe w'=>∃y v,Ct.fU i x=Ct.out y v/\e=.returned (.int .i64 v)/\SH B w' (XA xb mb y::L):=by
 have hb:=hx.Cn
 have QA:=hx.a
 have ZP:=hx.free
 unfold Ct.X.size Ct.cW at hb
 have hxm:=hx.m
 have hxc:=hx.c
 have hxg:=hx.g
 refine cN func196 ntmps196 h λw h=>?_
 refine st (ld (v:=.bool x.e.aD) One.h rfl (h.xc a0 λ_=>rfl))<|go h λw h=>?_
 obtain⟨⟨pg,cg,pm,cm,pq,cq,pi,ci⟩,h⟩:=h.xo
 have h:SH B w (bl xb (Bl mb x.e ⟨pg,cg,pm,cm,pq,cq,pi,ci⟩) 135::aV 44 1 (.slice pg x.e.eV.length cg) x.e.eV.length (x.e.eV.map (Value.int .i64))::aV 44 1 (.slice pm x.e.made.length cm) x.e.made.length (x.e.made.map (Value.int .i64))::aV 33 1 (.slice pq x.e.cells.length cq) x.e.cells.length (x.e.cells.map (Value.int .i64))::aV 3 1 (.slice pi x.e.dU.length ci) x.e.dU.length (x.e.dU.map (Value.int .i64))::dX mb x.s::L):=h
 refine fD [1,3,5,7,9,11,13,15,17,19] (by kernel_rfl) h (.c r0 .n) λw h=>go h λw h=>?_
 refine go h λw h=>?_
 obtain⟨b1,rfl⟩:=h.fp a3 (by omega)
 refine fD [1,3,5,7,9,11,13,15,17,19,21,22] (by kernel_rfl) h (.c r0 (.c r2 .n)) λw h=>go h λw h=>?_
 refine tk (λW H=>bs (x.e.c:Int))<|go h λw h=>?_
 exact rz ⟨_,_,T7 hs hm,rfl,SH.xi ⟨pg,cg,pm,cm,some ⟨b1,0,none⟩,cq,pi,ci⟩ (h)⟩
theorem MX(xb mb:Nat)(x:Ct.X)(h:SH B w (XA xb mb x::L))(hx:Ct.Ok 0 x)(hs:x.e.aD=true):
  Calls prog 198 #[↑xb] w λe w'=>∃y v,Ct.kN x=Ct.out y v/\e=.returned (.int .i64 v)/\SH B w' (XA xb mb y::L):=by
 have hb:=hx.Cn
 have QA:=hx.a
 have ZP:=hx.free
 unfold Ct.X.size Ct.cW at hb
 have hxm:=hx.m
 have hxc:=hx.c
 have hxg:=hx.g
 refine cN func198 ntmps198 h λw h=>?_
 refine st (ld (v:=.bool x.e.aD) One.h rfl (h.xc a0 λ_=>rfl))<|go h λw h=>?_
 exact rz ⟨_,0,aEt hs,rfl,h⟩
section
attribute [local semireducible] gA wpS Go.E.X XS C kV lL fin Y U F Ca kU bl rb aV bS ex ce pu sK gK bK zK
attribute [local irreducible] gA wpS
variable{B w:World}{L:List As}
theorem MD(xb mb:Nat)(x:Ct.X)(h:SH B w (XA xb mb x::L))(hx:Ct.Ok 0 x)(hs:x.e.aD=false)(hm:x.e.g=x.e.dU.length):
  Calls prog 198 #[↑xb] w λe w'=>∃y v,Ct.kN x=Ct.out y v/\e=.returned (.int .i64 v)/\SH B w' (XA xb mb y::L):=by
 have hb:=hx.Cn
 have QA:=hx.a
 have ZP:=hx.free
 unfold Ct.X.size Ct.cW at hb
 have hxm:=hx.m
 have hxc:=hx.c
 have hxg:=hx.g
 refine Kk (args:=[_]) func198 rfl ntmps198 rfl ?_
 refine sq<|rg<|st (sg rfl)<|xe<|nx<|sq<|sq<|rg<|st (mv rfl)<|st (nc rfl rfl)<|st (fa oL rfl)<|st (ld (v:=.bool x.e.aD) Cx rfl (h.xc a0 λ_=>rfl))<|xe<|nx<|cf rfl hs<|sk<|nx<|sq<|sq<|?_
 obtain⟨⟨pg,cg,pm,cm,pq,cq,pi,ci⟩,h⟩:=h.xo
 have h:SH B w (bl xb (Bl mb x.e ⟨pg,cg,pm,cm,pq,cq,pi,ci⟩) 135::aV 44 1 (.slice pg x.e.eV.length cg) x.e.eV.length (x.e.eV.map (Value.int .i64))::aV 44 1 (.slice pm x.e.made.length cm) x.e.made.length (x.e.made.map (Value.int .i64))::aV 33 1 (.slice pq x.e.cells.length cq) x.e.cells.length (x.e.cells.map (Value.int .i64))::aV 3 1 (.slice pi x.e.dU.length ci) x.e.dU.length (x.e.dU.map (Value.int .i64))::dX mb x.s::L):=h
 refine fD [1,3,5,7,9,11,13,15,17,19] (by kernel_rfl) h (.c r0 .n) λw h=>tk (λW H=>mv rfl)<|tk (λW H=>nc rfl rfl)<|tk (λW H=>fa zG rfl)<|tk (λW H=>ld (v:=.int .i64 (x.e.g:Int)) jZ rfl (H.c a0 rfl))<|tk (λW H=>mv rfl)<|tk (λW H=>nc rfl rfl)<|tk (λW H=>fa Hh rfl)<|tk (λW H=>ld (v:=.slice pi x.e.dU.length ci) NG rfl (H.c a0 rfl))<|tk (λW H=>ln Wi rfl rfl)<|tk (λW H=>bi rfl rfl rfl)<|xz<|nx<|ct rfl (beq_iff_eq.2 (by omega))<|DD (F:=[bl xb (Bl mb x.e ⟨pg,cg,pm,cm,pq,cq,pi,ci⟩) 135]) [(true,[1,3,5,7,9,11,13,15,17,18,20,22,25,27]),(false,[28])] (by kernel_rfl) h (λw h=>(hC (h.at_ a0) hN)) λw h=>sgT<|tk (λW H=>mv rfl)<|tk (λW H=>mv rfl)<|tk (λW H=>nc rfl rfl)<|tk (λW H=>fa Hh rfl)<|tk (λW H=>ld (v:=.slice pi x.e.dU.length ci) NG rfl (H.c a0 rfl))<|tk (λW H=>mv rfl)<|tk (λW H=>nc rfl rfl)<|tk (λW H=>fa Gw rfl)<|tk (λW H=>ld (v:=.pointer (some ⟨mb,0,none⟩)) Ov rfl (H.c a0 rfl))<|cs (ca eF rfl) ((Sn mb x.s (h.fr (.c r5 .n)) (by unfold Ct.St.size;unfold Ct.St.size at hb;omega)).mono ?_)
 rintro _ w ⟨rfl,h⟩
 refine⟨_,rfl,(hC (h.at_ a1) hN),?_⟩
 refine ff (bu [↑x.s.bL.2] h Wi aDs rfl (by kernel_rfl) rfl (by decide) (by decide))<|?_
 rintro _ w ⟨b1,rfl,h⟩
 refine⟨(hC (h.at_ a2) hN),?_⟩
 refine ff (ap h Wi rfl aDs rfl (by decide) rfl rfl (λ_=>u6) (h.ro a0) (by simp[Value.oneCell']) rfl (fK _ _) (by unfold maxLen;omega) (by omega))<|?_
 rintro _ w ⟨p2,c3,rfl,h⟩
 refine⟨(hC (h.at_ a2) hN),?_⟩
 refine tk (λW H=>nc rfl rfl)<|tk (λW H=>fa Hh rfl)<|KR<|ff (so h rfl rfl rfl aIv rfl (.s (.s (.s (.s (.s (.s (.s (.s (.s (.s (.s (.s (.s (.s (.s (.s (.s (.s (.s (.s (.s (.s (.s (.s (.s (.s (.s (.s (.s (.r .d)))))))))))))))))))))))))))))) u2)<|?_
 rintro _ w h
 refine⟨trivial,?_⟩
 refine xz<|nx<|sq<|rg<|st (mv rfl)<|st (nc rfl rfl)<|st (fa zG rfl)<|st (ld jZ rfl (h.c a2 rfl))<|st (bw rfl rfl (iR (c:=((x.e.g+1:Nat):Int)) (by omega) (by omega) (by omega)))<|st (nc rfl rfl)<|st (fa zG rfl)<|sf (so h rfl rfl rfl Gu rfl (.s (.s (.s (.s (.s (.s (.s (.s (.s (.s (.s (.s (.s (.s (.s (.s (.s (.s (.s (.s (.s (.s (.s (.s (.s (.s (.s (.s (.s (.s (.s (.s (.s (.r .d)))))))))))))))))))))))))))))))))) u2)<|?_
 rintro _ w h
 refine xe<|nx<|sq<|?_
 obtain⟨b4,rfl⟩:=h.fp a6 (by omega)
 refine fD [1,3,5,7,9,11,13,15,17,19,21,22] (by kernel_rfl) h (.c r2 (.c r5 .n)) λw h=>tk (λW H=>mv rfl)<|tk (λW H=>nc rfl rfl)<|tk (λW H=>fa Hh rfl)<|tk (λW H=>ld NG rfl (H.c a0 rfl))<|tk (λW H=>mv rfl)<|tk (λW H=>nc rfl rfl)<|tk (λW H=>fa zG rfl)<|tk (λW H=>ld jZ rfl (H.c a0 rfl))<|tk (λW H=>bw rfl rfl (Jb (c:=(x.e.g:Int)) (by omega) (by omega) (by omega)))<|tk (λW H=>ix (j:=x.e.g) Wi Gu rfl rfl (by omega))<|tk (λW H=>ld jZ rfl ((H.ro a1).i (by omega)))<|ef (sg rfl) (h.hs (.c r2 (.c r5 .n)))<|xz<|nx<|rt<|?_
 refine rr (mC results198 rfl)<|⟨_,_,aEl hs hm,rfl,SH.xi ⟨pg,cg,pm,cm,pq,cq,some ⟨b4,0,none⟩,c3⟩ (by unfold G7 Bl;dsimp only;rw[cV,fR];exact(h.drop.fr (.c r1 (.c r1 (.c r1 (.c r1 (.c r1 .n)))))))⟩
end
variable{B w:World}{L:List As}
theorem MC(xb mb:Nat)(x:Ct.X)(h:SH B w (XA xb mb x::L))(hx:Ct.Ok 0 x)(hs:x.e.aD=false)(hm:x.e.g<x.e.dU.length):
  Calls prog 198 #[↑xb] w λe w'=>∃y v,Ct.kN x=Ct.out y v/\e=.returned (.int .i64 v)/\SH B w' (XA xb mb y::L):=by
 have hb:=hx.Cn
 have QA:=hx.a
 have ZP:=hx.free
 unfold Ct.X.size Ct.cW at hb
 have hxm:=hx.m
 have hxc:=hx.c
 have hxg:=hx.g
 refine cN func198 ntmps198 h λw h=>?_
 refine st (ld (v:=.bool x.e.aD) One.h rfl (h.xc a0 λ_=>rfl))<|go h λw h=>?_
 obtain⟨⟨pg,cg,pm,cm,pq,cq,pi,ci⟩,h⟩:=h.xo
 have h:SH B w (bl xb (Bl mb x.e ⟨pg,cg,pm,cm,pq,cq,pi,ci⟩) 135::aV 44 1 (.slice pg x.e.eV.length cg) x.e.eV.length (x.e.eV.map (Value.int .i64))::aV 44 1 (.slice pm x.e.made.length cm) x.e.made.length (x.e.made.map (Value.int .i64))::aV 33 1 (.slice pq x.e.cells.length cq) x.e.cells.length (x.e.cells.map (Value.int .i64))::aV 3 1 (.slice pi x.e.dU.length ci) x.e.dU.length (x.e.dU.map (Value.int .i64))::dX mb x.s::L):=h
 refine fD [1,3,5,7,9,11,13,15,17,19] (by kernel_rfl) h (.c r0 .n) λw h=>go h λw h=>?_
 refine go h λw h=>?_
 obtain⟨b1,rfl⟩:=h.fp a4 (by omega)
 refine fD [1,3,5,7,9,11,13,15,17,19,21,22] (by kernel_rfl) h (.c r0 (.c r3 .n)) λw h=>go h λw h=>?_
 refine tk (λW H=>bs (x.e.g:Int))<|go h λw h=>?_
 exact rz ⟨_,_,aEu hs hm,rfl,SH.xi ⟨pg,cg,pm,cm,pq,cq,some ⟨b1,0,none⟩,ci⟩ (h)⟩
end Go.Q9
end
