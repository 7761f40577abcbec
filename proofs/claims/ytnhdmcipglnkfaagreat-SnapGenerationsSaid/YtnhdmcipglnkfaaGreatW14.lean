/- Parts of a proof: Rn. -/
import Derived.Test.YtnhdmcipglnkfaaGreatW13
set_option linter.unusedVariables false
set_option linter.unusedSimpArgs false
set_option maxRecDepth 100000
set_option maxHeartbeats 4000000
section
namespace Go.Q9
open Go.Proofs.Tryz
open Go.RowKit Go.E
attribute [local irreducible] gB wpS Go.E.X XS C jU kP fin Y U F Ca jT bl rb aU bV ex ce pu sK gK bK zK
def tD(want:Ct.Acc)(x:Ct.X):Ct.X×Bool×Bool:=
 if x.e.aC=true then(x,false,false)
 else if x.e.a<x.e.eG.length then(Ct.nD x,true,false)
 else if x.e.free=0 then(Ct.rX want x,false,false)
 else({x with e:={x.e with free:=x.e.free-1}},false,true)
theorem Qz{a:Ct.Acc}{x:Ct.X}(h:x.e.aC=true):tD a x=(x,false,false):=by unfold tD;rw[if_pos h]
theorem So{a:Ct.Acc}{x:Ct.X}(h:x.e.aC=false)(h1:x.e.a<x.e.eG.length):tD a x=(Ct.nD x,true,false):=by unfold tD;rw[if_neg (by rw[h];decide),if_pos h1]
theorem Sw{a:Ct.Acc}{x:Ct.X}(h:x.e.aC=false)(h1:¬x.e.a<x.e.eG.length)(h2:x.e.free=0):tD a x=(Ct.rX a x,false,false):=by unfold tD;rw[if_neg (by rw[h];decide),if_neg h1,if_pos h2]
theorem Sl{a:Ct.Acc}{x:Ct.X}(h:x.e.aC=false)(h1:¬x.e.a<x.e.eG.length)(h2:x.e.free≠0):tD a x=({x with e:={x.e with free:=x.e.free-1}},false,true):=by unfold tD;rw[if_neg (by rw[h];decide),if_neg h1,if_neg h2]
variable{B w:World}{L:List As}
theorem JR(xb mb:Nat)(x:Ct.X)(r:Int)(h:SH B w (XA xb mb x::L))(hx:x.s.size<=100000000000):
  Calls prog 24 #[↑mb,↑r] w λe w'=>∃q,e=.returned (.agg (aL (x.node r) q).toArray)/\SH B w' (aM (x.node r) q::XA xb mb x::L):=by
 refine(OU mb x.s r (h.se.fr (.c r1 .n)) hx).mono ?_
 rintro e w' ⟨q,rfl,h⟩
 exact⟨q,rfl,(SH.is (l:=[VE xb mb x.e,cR mb x.s]) (h.fr (.c r2 (.c r1 .n)))).fr (.c r1 .n)⟩
theorem SR{c:Int}{x:Ct.X}(h:x.e.aC=true):Ct.dY c x=Ct.out x 0:=by unfold Ct.dY;rw[if_pos h,Ct.iX h]
theorem TK{c:Int}{x:Ct.X}(h:x.e.aC=false)(h1:x.e.a<x.e.eG.length):Ct.dY c x=Ct.out (Ct.nD x) (x.e.eG.getD x.e.a 0):=by
 unfold Ct.dY;rw[if_neg (by rw[h];decide),if_pos h1,Ct.iK (y:=Ct.nD x) (show (Ct.nD x).e.aC=false from h)]
theorem TV{c:Int}{x:Ct.X}(h:x.e.aC=false)(h1:¬x.e.a<x.e.eG.length)(h2:x.e.free=0):Ct.dY c x=Ct.out (Ct.rX ⟨1,c,0,0⟩ x) 0:=by
 unfold Ct.dY;rw[if_neg (by rw[h];decide),if_neg h1,if_pos h2,Ct.iX rfl]
theorem Ig{l:List Int}{a:Nat}{v:Int}(h:¬a<l.length)(h2:a<=l.length):(l++[v]).getD a 0=v:=by
 have e:a=l.length:=by omega
 rw[e];simp
theorem TS{c:Int}{x:Ct.X}(h:x.e.aC=false)(h1:¬x.e.a<x.e.eG.length)(h2:x.e.free≠0)(h3:x.e.a<=x.e.eG.length):Ct.dY c x=Ct.out (Ct.jR (x.s.load c).2 (x.s.load c).1 x) ((x.e.eG++[(x.s.load c).2]).getD x.e.a 0):=by
 unfold Ct.dY;rw[if_neg (by rw[h];decide),if_neg h1,if_neg h2,Ct.iK (show (Ct.jR (x.s.load c).2 (x.s.load c).1 x).e.aC=false from h),Ig h1 h3]
theorem XM{c a n:Int}{x:Ct.X}(h:x.e.aC=true):Ct.iB c a n x=Ct.out x false:=by unfold Ct.iB;rw[if_pos h,Ct.iX h]
theorem XE{c a n:Int}{x:Ct.X}(h:x.e.aC=false)(h1:x.e.a<x.e.eG.length):Ct.iB c a n x=Ct.out (Ct.nD x) (x.e.eG.getD x.e.a 0==1):=by
 unfold Ct.iB;rw[if_neg (by rw[h];decide),if_pos h1,Ct.iK (y:=Ct.nD x) (show (Ct.nD x).e.aC=false from h)]
theorem WH{c a n:Int}{x:Ct.X}(h:x.e.aC=false)(h1:¬x.e.a<x.e.eG.length)(h2:x.e.free=0):Ct.iB c a n x=Ct.out (Ct.rX ⟨2,c,a,n⟩ x) false:=by
 unfold Ct.iB;rw[if_neg (by rw[h];decide),if_neg h1,if_pos h2,Ct.iX rfl]
theorem WG{c a n:Int}{x:Ct.X}(h:x.e.aC=false)(h1:¬x.e.a<x.e.eG.length)(h2:x.e.free≠0)(h3:x.e.a<=x.e.eG.length)(hb:(x.s.eA c a n).2=true):Ct.iB c a n x=Ct.out (Ct.jR 1 (x.s.eA c a n).1 x) ((x.e.eG++[1]).getD x.e.a 0==1):=by
 unfold Ct.iB;rw[if_neg (by rw[h];decide),if_neg h1,if_neg h2,hb,Ct.iK (show (Ct.jR 1 (x.s.eA c a n).1 x).e.aC=false from h),Ig h1 h3];rfl
theorem VX{c a n:Int}{x:Ct.X}(h:x.e.aC=false)(h1:¬x.e.a<x.e.eG.length)(h2:x.e.free≠0)(h3:x.e.a<=x.e.eG.length)(hb:(x.s.eA c a n).2=false):Ct.iB c a n x=Ct.out (Ct.jR 0 (x.s.eA c a n).1 x) ((x.e.eG++[0]).getD x.e.a 0==1):=by
 unfold Ct.iB;rw[if_neg (by rw[h];decide),if_neg h1,if_neg h2,hb,Ct.iK (show (Ct.jR 0 (x.s.eA c a n).1 x).e.aC=false from h),Ig h1 h3];rfl
theorem Sv{l:List Int}{a:Nat}{v:Int}(h:a=l.length):(l++[v]).getD a 0=v:=by rw[h];simp
theorem OH{n:Ct.Node}{i:Int}{x:Ct.X}(h:x.e.aC=true):Ct.dB n i x=Ct.out x 0:=by unfold Ct.dB;rw[if_pos h,Ct.iX h]
theorem PY{n:Ct.Node}{i:Int}{x:Ct.X}(h:x.e.aC=false)(hm:x.e.m=x.e.made.length):Ct.dB n i x=Ct.out {e:={x.e with made:=x.e.made++[(x.s.alloc n i).2],m:=x.e.m+1},s:=(x.s.alloc n i).1} ((x.e.made++[(x.s.alloc n i).2]).getD x.e.m 0):=by
 unfold Ct.dB;rw[if_neg (by rw[h];decide),if_pos hm,Sv hm];unfold Ct.out;dsimp only;rw[if_neg (by rw[h];decide)]
theorem PU{n:Ct.Node}{i:Int}{x:Ct.X}(h:x.e.aC=false)(hm:x.e.m<x.e.made.length):Ct.dB n i x=Ct.out {x with e:={x.e with m:=x.e.m+1}} (x.e.made.getD x.e.m 0):=by
 unfold Ct.dB;rw[if_neg (by rw[h];decide),if_neg (by omega)];unfold Ct.out;dsimp only;rw[if_neg (by rw[h];decide)]
theorem RX{i:Int}{x:Ct.X}(h:x.e.aC=true):Ct.fE i x=Ct.out x 0:=by unfold Ct.fE;rw[if_pos h,Ct.iX h]
theorem RA{i:Int}{x:Ct.X}(h:x.e.aC=false)(hm:x.e.c=x.e.cells.length):Ct.fE i x=Ct.out {e:={x.e with cells:=x.e.cells++[(x.s.aV i).2],c:=x.e.c+1},s:=(x.s.aV i).1} ((x.e.cells++[(x.s.aV i).2]).getD x.e.c 0):=by
 unfold Ct.fE;rw[if_neg (by rw[h];decide),if_pos hm,Sv hm];unfold Ct.out;dsimp only;rw[if_neg (by rw[h];decide)]
theorem UI{i:Int}{x:Ct.X}(h:x.e.aC=false)(hm:x.e.c<x.e.cells.length):Ct.fE i x=Ct.out {x with e:={x.e with c:=x.e.c+1}} (x.e.cells.getD x.e.c 0):=by
 unfold Ct.fE;rw[if_neg (by rw[h];decide),if_neg (by omega)];unfold Ct.out;dsimp only;rw[if_neg (by rw[h];decide)]
theorem WO{x:Ct.X}(h:x.e.aC=true):Ct.iH x=Ct.out x 0:=by unfold Ct.iH;rw[if_pos h,Ct.iX h]
theorem XU{x:Ct.X}(h:x.e.aC=false)(hm:x.e.g=x.e.dG.length):Ct.iH x=Ct.out {e:={x.e with dG:=x.e.dG++[x.s.bS.2],g:=x.e.g+1},s:=x.s.bS.1} ((x.e.dG++[x.s.bS.2]).getD x.e.g 0):=by
 unfold Ct.iH;rw[if_neg (by rw[h];decide),if_pos hm,Sv hm];unfold Ct.out;dsimp only;rw[if_neg (by rw[h];decide)]
theorem XQ{x:Ct.X}(h:x.e.aC=false)(hm:x.e.g<x.e.dG.length):Ct.iH x=Ct.out {x with e:={x.e with g:=x.e.g+1}} (x.e.dG.getD x.e.g 0):=by
 unfold Ct.iH;rw[if_neg (by rw[h];decide),if_neg (by omega)];unfold Ct.out;dsimp only;rw[if_neg (by rw[h];decide)]
theorem lW(xb mb:Nat)(x:Ct.X)(a:Ct.Acc)(h:SH B w (XA xb mb x::L))(hx:Ct.Ok 0 x):
  Calls prog 209 #[↑xb,.agg (Dh a).toArray] w λe w'=>∃y o n,tD a x=(y,o,n)/\e=.returned (.tuple #[.bool o,.bool n])/\SH B w' (XA xb mb y::L):=by
 have hb:=hx.zP
 have hfr:=hx.free
 unfold Ct.X.size Ct.cN at hb
 refine bZ func209 ntmps209 h λw h=>?_
 refine jX h λb1 w h=>?_
 have h:=h.fr (.c r1 .n)
 obtain⟨⟨pg,cg,pm,cm,pq,cq,pi,ci⟩,h⟩:=h.xo
 have h:SH B w (bl xb (vT mb x.e ⟨pg,cg,pm,cm,pq,cq,pi,ci⟩) 135::aU 44 1 (.slice pg x.e.eG.length cg) x.e.eG.length (x.e.eG.map (Value.int .i64))::aU 44 1 (.slice pm x.e.made.length cm) x.e.made.length (x.e.made.map (Value.int .i64))::aU 33 1 (.slice pq x.e.cells.length cq) x.e.cells.length (x.e.cells.map (Value.int .i64))::aU 3 1 (.slice pi x.e.dG.length ci) x.e.dG.length (x.e.dG.map (Value.int .i64))::cR mb x.s::bl b1 (Dh a) 90::L):=h
 refine go h λw h=>?_
 refine qc h (λhd2 w h=>?_) λhd2 w h=>?_
 exact rr (gE rfl rfl rfl)<|⟨x,_,_,Qz hd2,rfl,SH.xi ⟨pg,cg,pm,cm,pq,cq,pi,ci⟩ (h.to)⟩
 refine dZ [1,3,5,7,9,11,13,15,17,19] (by kernel_rfl) h (.c r0 .n) λw h=>go h λw h=>?_
 refine qc h (λhd3 w h=>?_) λhd3 w h=>?_
 have hg4:=eC hd3
 refine go h λw h=>?_
 exact rr (gE rfl rfl rfl)<|⟨Ct.nD x,_,_,So hd2 (by omega),rfl,SH.xi ⟨pg,cg,pm,cm,pq,cq,pi,ci⟩ (h.to)⟩
 have hg5:=cW hd3
 refine go h λw h=>?_
 refine qc h (λhd6 w h=>?_) λhd6 w h=>?_
 have hg7:=eq_of_beq hd6
 refine go h λw h=>?_
 refine dZ [1,3,5,7,9,10,13,15,16] (by kernel_rfl) h (.c r6 .n) λw h=>go h λw h=>?_
 exact rr (gE rfl rfl rfl)<|⟨Ct.rX a x,_,_,Sw hd2 (by omega) (by omega),rfl,SH.xi ⟨pg,cg,pm,cm,pq,cq,pi,ci⟩ (h.to)⟩
 have hg8:=dP hd6
 refine go h λw h=>?_
 refine st (bs ((x.e.free-1:Nat):Int))<|go h λw h=>?_
 exact rr (gE rfl rfl rfl)<|⟨{x with e:={x.e with free:=x.e.free-1}},_,_,Sl hd2 (by omega) (by omega),rfl,SH.xi ⟨pg,cg,pm,cm,pq,cq,pi,ci⟩ (h.to)⟩
theorem aN(xb mb:Nat)(x:Ct.X)(r:Int)(h:SH B w (XA xb mb x::L))(hx:x.s.size<=100000000000):
  Calls prog 180 #[↑xb,↑r] w λe w'=>∃q,e=.returned (.agg (aL (x.node r) q).toArray)/\SH B w' (aM (x.node r) q::XA xb mb x::L):=by
 refine bZ func180 ntmps180 h λw h=>?_
 refine jA h λb1 w h=>?_
 refine st (ld (v:=.pointer (some ⟨mb,0,none⟩)) One.h rfl (h.xc a1 λ_=>rfl))<|go h λw h=>?_
 refine cG (JR _ _ _ _ h.to (by first|exact hx.zP|omega)) λq w h=>?_
 exact rr (bP rfl rfl (h.b a2) Row.h)<|⟨_,rfl,h.to⟩
theorem Uz(xb mb:Nat)(x:Ct.X)(c:Int)(h:SH B w (XA xb mb x::L))(hx:Ct.Ok 0 x)(hs:x.e.aC=true):
  Calls prog 179 #[↑xb,↑c] w λe w'=>∃y v,Ct.dY c x=Ct.out y v/\e=.returned (.int .i64 v)/\SH B w' (XA xb mb y::L):=by
 have hb:=hx.zP
 have hxa:=hx.a
 have hfr:=hx.free
 unfold Ct.X.size Ct.cN at hb
 refine bZ func179 ntmps179 h λw h=>?_
 refine fQ (lW _ _ _ (⟨1,c,0,0⟩) h.to hx) λy o n q w h=>?_
 rw[Qz hs]at q
 cases q
 refine go h λw h=>?_
 exact rz ⟨_,0,SR hs,rfl,h⟩
theorem Zg(xb mb:Nat)(x:Ct.X)(c:Int)(h:SH B w (XA xb mb x::L))(hx:Ct.Ok 0 x)(hs:x.e.aC=false)(ha:x.e.a<x.e.eG.length):
  Calls prog 179 #[↑xb,↑c] w λe w'=>∃y v,Ct.dY c x=Ct.out y v/\e=.returned (.int .i64 v)/\SH B w' (XA xb mb y::L):=by
 have hb:=hx.zP
 unfold Ct.X.size Ct.cN at hb
 refine bZ func179 ntmps179 h λw h=>?_
 refine fQ (lW _ _ _ (⟨1,c,0,0⟩) h.to hx) λy o n q w h=>?_
 rw[So hs ha]at q
 cases q
 refine go h λw h=>?_
 obtain⟨⟨pg,cg,pm,cm,pq,cq,pi,ci⟩,h⟩:=h.xo
 have h:SH B w (bl xb (vT mb ({x.e with a:=x.e.a+1}) ⟨pg,cg,pm,cm,pq,cq,pi,ci⟩) 135::aU 44 1 (.slice pg x.e.eG.length cg) x.e.eG.length (x.e.eG.map (Value.int .i64))::aU 44 1 (.slice pm x.e.made.length cm) x.e.made.length (x.e.made.map (Value.int .i64))::aU 33 1 (.slice pq x.e.cells.length cq) x.e.cells.length (x.e.cells.map (Value.int .i64))::aU 3 1 (.slice pi x.e.dG.length ci) x.e.dG.length (x.e.dG.map (Value.int .i64))::cR mb x.s::L):=h
 obtain⟨b1,rfl⟩:=h.fp a1 (by omega)
 refine dZ [1,3,5,7,9,11,13,15,17,19,21,22] (by kernel_rfl) h (.c r0 (.c r0 .n)) λw h=>go h λw h=>?_
 refine tk (λW H=>bs (x.e.a:Int))<|go h λw h=>?_
 exact rz ⟨_,_,TK hs ha,rfl,SH.xi ⟨some ⟨b1,0,none⟩,cg,pm,cm,pq,cq,pi,ci⟩ (h)⟩
theorem Xt(xb mb:Nat)(x:Ct.X)(c:Int)(h:SH B w (XA xb mb x::L))(hx:Ct.Ok 0 x)(hs:x.e.aC=false)(ha:¬x.e.a<x.e.eG.length)(hf:x.e.free=0):
  Calls prog 179 #[↑xb,↑c] w λe w'=>∃y v,Ct.dY c x=Ct.out y v/\e=.returned (.int .i64 v)/\SH B w' (XA xb mb y::L):=by
 have hb:=hx.zP
 have hxa:=hx.a
 have hfr:=hx.free
 unfold Ct.X.size Ct.cN at hb
 refine bZ func179 ntmps179 h λw h=>?_
 refine fQ (lW _ _ _ (⟨1,c,0,0⟩) h.to hx) λy o n q w h=>?_
 rw[Sw hs ha hf]at q
 cases q
 refine go h λw h=>?_
 exact rz ⟨_,0,TV hs ha hf,rfl,h⟩
theorem Ux(xb mb:Nat)(x:Ct.X)(c:Int)(h:SH B w (XA xb mb x::L))(hx:Ct.Ok 0 x)(hs:x.e.aC=false)(ha:¬x.e.a<x.e.eG.length)(hf:x.e.free≠0):
  Calls prog 179 #[↑xb,↑c] w λe w'=>∃y v,Ct.dY c x=Ct.out y v/\e=.returned (.int .i64 v)/\SH B w' (XA xb mb y::L):=by
 have hb:=hx.zP
 have hxa:=hx.a
 unfold Ct.X.size Ct.cN at hb
 refine bZ func179 ntmps179 h λw h=>?_
 refine fQ (lW _ _ _ (⟨1,c,0,0⟩) h.to hx) λy o n q w h=>?_
 rw[Sl hs ha hf]at q
 cases q
 refine go h λw h=>?_
 obtain⟨⟨pg,cg,pm,cm,pq,cq,pi,ci⟩,h⟩:=h.xo
 have h:SH B w (bl xb (vT mb ({x.e with free:=x.e.free-1}) ⟨pg,cg,pm,cm,pq,cq,pi,ci⟩) 135::aU 44 1 (.slice pg x.e.eG.length cg) x.e.eG.length (x.e.eG.map (Value.int .i64))::aU 44 1 (.slice pm x.e.made.length cm) x.e.made.length (x.e.made.map (Value.int .i64))::aU 33 1 (.slice pq x.e.cells.length cq) x.e.cells.length (x.e.cells.map (Value.int .i64))::aU 3 1 (.slice pi x.e.dG.length ci) x.e.dG.length (x.e.dG.map (Value.int .i64))::cR mb x.s::L):=h
 refine Uc (F:=[bl xb (vT mb ({x.e with free:=x.e.free-1}) ⟨pg,cg,pm,cm,pq,cq,pi,ci⟩) 135]) [(true,[1]),(false,[3]),(true,[5,7,9,11,13,15,17,19,21,29,31,33,35]),(false,[37]),(true,[22,24,26,39,41]),(false,[42,45,47,48])] (by kernel_rfl) h (λw h=>(hC (h.at_ a0) hN)) λw h=>go h λw h=>?_
 refine gO (PZ _ _ _ h.to (by unfold Ct.St.size;unfold Ct.St.size at hb;omega)) λw h=>?_
 refine ff (bu [.int .i64 ((x.s.load c).2)] h fR.h Ss.h rfl (by kernel_rfl) rfl (by decide) (by decide)) ?_
 rintro _ w ⟨b1,rfl,h⟩
 refine gz h λw h=>?_
 refine ff (ap h fR.h rfl Ss.h rfl (by decide) rfl rfl (λ_=>u3) (h.ro a0) (by simp[Value.oneCell']) rfl (gI _ _) (by unfold maxLen;omega) (by omega)) ?_
 rintro _ w ⟨p2,c3,rfl,h⟩
 refine gz h λw h=>?_
 obtain⟨b4,rfl⟩:=h.fp a3 (by omega)
 refine dZ [1,3,5,7,9,11,13,15,17,19,21,22] (by kernel_rfl) h (.c r2 (.c r2 .n)) λw h=>go h λw h=>?_
 refine tk (λW H=>bs (x.e.a:Int))<|go h λw h=>?_
 exact rz ⟨_,_,TS hs ha hf hxa,rfl,SH.xi ⟨some ⟨b4,0,none⟩,c3,pm,cm,pq,cq,pi,ci⟩ (by unfold OY vT;(try unfold Ct.jR);dsimp only;rw[cO,CG];exact h.to)⟩
theorem BQ(xb mb:Nat)(x:Ct.X)(c o' n':Int)(h:SH B w (XA xb mb x::L))(hx:Ct.Ok 0 x)(hs:x.e.aC=true):
  Calls prog 181 #[↑xb,↑c,↑o',↑n'] w λe w'=>∃y v,Ct.iB c o' n' x=Ct.out y v/\e=.returned (.bool v)/\SH B w' (XA xb mb y::L):=by
 have hb:=hx.zP
 have hxa:=hx.a
 have hfr:=hx.free
 unfold Ct.X.size Ct.cN at hb
 refine bZ func181 ntmps181 h λw h=>?_
 refine fQ (lW _ _ _ (⟨2,c,o',n'⟩) h.to hx) λy o n q w h=>?_
 rw[Qz hs]at q
 cases q
 refine go h λw h=>?_
 refine dZ [1,3,5,7,9,11,13,15,17,19,21,23,25,27,29,31,33,35,36] (by kernel_rfl) h .n λw h=>go h λw h=>?_
 exact rz ⟨_,false,XM hs,rfl,h⟩
theorem BT(xb mb:Nat)(x:Ct.X)(c o' n':Int)(h:SH B w (XA xb mb x::L))(hx:Ct.Ok 0 x)(hs:x.e.aC=false)(ha:x.e.a<x.e.eG.length):
  Calls prog 181 #[↑xb,↑c,↑o',↑n'] w λe w'=>∃y v,Ct.iB c o' n' x=Ct.out y v/\e=.returned (.bool v)/\SH B w' (XA xb mb y::L):=by
 have hb:=hx.zP
 unfold Ct.X.size Ct.cN at hb
 refine bZ func181 ntmps181 h λw h=>?_
 refine fQ (lW _ _ _ (⟨2,c,o',n'⟩) h.to hx) λy o n q w h=>?_
 rw[So hs ha]at q
 cases q
 refine go h λw h=>?_
 obtain⟨⟨pg,cg,pm,cm,pq,cq,pi,ci⟩,h⟩:=h.xo
 have h:SH B w (bl xb (vT mb ({x.e with a:=x.e.a+1}) ⟨pg,cg,pm,cm,pq,cq,pi,ci⟩) 135::aU 44 1 (.slice pg x.e.eG.length cg) x.e.eG.length (x.e.eG.map (Value.int .i64))::aU 44 1 (.slice pm x.e.made.length cm) x.e.made.length (x.e.made.map (Value.int .i64))::aU 33 1 (.slice pq x.e.cells.length cq) x.e.cells.length (x.e.cells.map (Value.int .i64))::aU 3 1 (.slice pi x.e.dG.length ci) x.e.dG.length (x.e.dG.map (Value.int .i64))::cR mb x.s::L):=h
 obtain⟨b1,rfl⟩:=h.fp a1 (by omega)
 refine dZ [1,3,5,7,9,11,13,15,17,19,21,23,25,27,29,31,33,35,36] (by kernel_rfl) h (.c r0 (.c r0 .n)) λw h=>go h λw h=>?_
 refine tk (λW H=>bs (x.e.a:Int))<|go h λw h=>?_
 exact rz ⟨_,_,XE hs ha,rfl,SH.xi ⟨some ⟨b1,0,none⟩,cg,pm,cm,pq,cq,pi,ci⟩ (h)⟩
theorem AX(xb mb:Nat)(x:Ct.X)(c o' n':Int)(h:SH B w (XA xb mb x::L))(hx:Ct.Ok 0 x)(hs:x.e.aC=false)(ha:¬x.e.a<x.e.eG.length)(hf:x.e.free=0):
  Calls prog 181 #[↑xb,↑c,↑o',↑n'] w λe w'=>∃y v,Ct.iB c o' n' x=Ct.out y v/\e=.returned (.bool v)/\SH B w' (XA xb mb y::L):=by
 have hb:=hx.zP
 have hxa:=hx.a
 have hfr:=hx.free
 unfold Ct.X.size Ct.cN at hb
 refine bZ func181 ntmps181 h λw h=>?_
 refine fQ (lW _ _ _ (⟨2,c,o',n'⟩) h.to hx) λy o n q w h=>?_
 rw[Sw hs ha hf]at q
 cases q
 refine go h λw h=>?_
 refine dZ [1,3,5,7,9,11,13,15,17,19,21,23,25,27,29,31,33,35,36] (by kernel_rfl) h .n λw h=>go h λw h=>?_
 exact rz ⟨_,false,WH hs ha hf,rfl,h⟩
theorem DD(xb mb:Nat)(x:Ct.X)(c o' n':Int)(h:SH B w (XA xb mb x::L))(hx:Ct.Ok 0 x)(hs:x.e.aC=false)(ha:¬x.e.a<x.e.eG.length)(hf:x.e.free≠0):
  Calls prog 181 #[↑xb,↑c,↑o',↑n'] w λe w'=>∃y v,Ct.iB c o' n' x=Ct.out y v/\e=.returned (.bool v)/\SH B w' (XA xb mb y::L):=by
 have hb:=hx.zP
 have hxa:=hx.a
 unfold Ct.X.size Ct.cN at hb
 refine bZ func181 ntmps181 h λw h=>?_
 refine fQ (lW _ _ _ (⟨2,c,o',n'⟩) h.to hx) λy o n q w h=>?_
 rw[Sl hs ha hf]at q
 cases q
 refine go h λw h=>?_
 obtain⟨⟨pg,cg,pm,cm,pq,cq,pi,ci⟩,h⟩:=h.xo
 have h:SH B w (bl xb (vT mb ({x.e with free:=x.e.free-1}) ⟨pg,cg,pm,cm,pq,cq,pi,ci⟩) 135::aU 44 1 (.slice pg x.e.eG.length cg) x.e.eG.length (x.e.eG.map (Value.int .i64))::aU 44 1 (.slice pm x.e.made.length cm) x.e.made.length (x.e.made.map (Value.int .i64))::aU 33 1 (.slice pq x.e.cells.length cq) x.e.cells.length (x.e.cells.map (Value.int .i64))::aU 3 1 (.slice pi x.e.dG.length ci) x.e.dG.length (x.e.dG.map (Value.int .i64))::cR mb x.s::L):=h
 refine go h λw h=>?_
 refine bA (QX _ _ _ _ _ h.to (by unfold Ct.St.size;unfold Ct.St.size at hb;omega)) λw h=>?_
 refine qc h (λhd1 w h=>?_) λhd1 w h=>?_
 refine Uc (F:=[bl xb (vT mb ({x.e with free:=x.e.free-1}) ⟨pg,cg,pm,cm,pq,cq,pi,ci⟩) 135]) [(true,[1]),(false,[3]),(true,[5,7,9,11,13,19,21,23,25]),(false,[27]),(true,[14,16,29,31]),(false,[32,35,37,38])] (by kernel_rfl) h (λw h=>(hC (h.at_ a1) hN)) λw h=>go h λw h=>?_
 refine ff (bu [.int .i64 1] h fR.h Ss.h rfl (by kernel_rfl) rfl (by decide) (by decide)) ?_
 rintro _ w ⟨b2,rfl,h⟩
 refine gz h λw h=>?_
 refine ff (ap h fR.h rfl Ss.h rfl (by decide) rfl rfl (λ_=>u3) (h.ro a0) (by simp[Value.oneCell']) rfl (gI _ _) (by unfold maxLen;omega) (by omega)) ?_
 rintro _ w ⟨p3,c4,rfl,h⟩
 refine gz h λw h=>?_
 obtain⟨b5,rfl⟩:=h.fp a3 (by omega)
 refine dZ [1,3,5,7,9,11,13,15,17,19,21,23,25,27,29,31,33,35,36] (by kernel_rfl) h (.c r2 (.c r2 .n)) λw h=>go h λw h=>?_
 refine tk (λW H=>bs (x.e.a:Int))<|go h λw h=>?_
 exact rz ⟨_,_,WG hs ha hf hxa hd1,rfl,SH.xi ⟨some ⟨b5,0,none⟩,c4,pm,cm,pq,cq,pi,ci⟩ (by unfold OY vT;(try unfold Ct.jR);dsimp only;rw[cO,CG];exact h.to)⟩
 refine Uc (F:=[bl xb (vT mb ({x.e with free:=x.e.free-1}) ⟨pg,cg,pm,cm,pq,cq,pi,ci⟩) 135]) [(true,[1]),(false,[3]),(true,[5,7,9,11,13,19,21,23,25]),(false,[27]),(true,[14,16,29,31]),(false,[32,35,37,38])] (by kernel_rfl) h (λw h=>(hC (h.at_ a1) hN)) λw h=>go h λw h=>?_
 refine ff (bu [.int .i64 0] h fR.h Ss.h rfl (by kernel_rfl) rfl (by decide) (by decide)) ?_
 rintro _ w ⟨b6,rfl,h⟩
 refine gz h λw h=>?_
 refine ff (ap h fR.h rfl Ss.h rfl (by decide) rfl rfl (λ_=>u3) (h.ro a0) (by simp[Value.oneCell']) rfl (gI _ _) (by unfold maxLen;omega) (by omega)) ?_
 rintro _ w ⟨p7,c8,rfl,h⟩
 refine gz h λw h=>?_
 obtain⟨b9,rfl⟩:=h.fp a3 (by omega)
 refine dZ [1,3,5,7,9,11,13,15,17,19,21,23,25,27,29,31,33,35,36] (by kernel_rfl) h (.c r2 (.c r2 .n)) λw h=>go h λw h=>?_
 refine tk (λW H=>bs (x.e.a:Int))<|go h λw h=>?_
 exact rz ⟨_,_,VX hs ha hf hxa hd1,rfl,SH.xi ⟨some ⟨b9,0,none⟩,c8,pm,cm,pq,cq,pi,ci⟩ (by unfold OY vT;(try unfold Ct.jR);dsimp only;rw[cO,CG];exact h.to)⟩
theorem Qq(xb mb:Nat)(x:Ct.X)(n:Ct.Node)(q:Lq)(i:Int)(h:SH B w (aM n q::XA xb mb x::L))(hx:Ct.Ok 0 x)(hs:x.e.aC=true)(hn:n.Fit (x.s.aG.length+1)):
  Calls prog 184 #[↑xb,.agg (aL n q).toArray,↑i] w λe w'=>∃y v,Ct.dB n i x=Ct.out y v/\e=.returned (.int .i64 v)/\SH B w' (XA xb mb y::L):=by
 have hb:=hx.zP
 have hxa:=hx.a
 have hfr:=hx.free
 unfold Ct.X.size Ct.cN at hb
 have hxm:=hx.m
 have hxc:=hx.c
 have hxg:=hx.g
 refine bZ func184 ntmps184 h λw h=>?_
 refine jX h λb1 w h=>?_
 refine st (ld (v:=.bool x.e.aC) One.h rfl (h.xc a2 λ_=>rfl))<|go h λw h=>?_
 exact rz ⟨_,0,OH hs,rfl,h.drop.drop⟩
section
attribute [local semireducible] gB wpS Go.E.X XS C jU kP fin Y U F Ca jT bl rb aU bV ex ce pu sK gK bK zK
attribute [local irreducible] gB wpS
variable{B w:World}{L:List As}
theorem Sf(xb mb:Nat)(x:Ct.X)(n:Ct.Node)(q:Lq)(i:Int)(h:SH B w (aM n q::XA xb mb x::L))(hx:Ct.Ok 0 x)(hs:x.e.aC=false)(hm:x.e.m=x.e.made.length)(hn:n.Fit (x.s.aG.length+1)):
  Calls prog 184 #[↑xb,.agg (aL n q).toArray,↑i] w λe w'=>∃y v,Ct.dB n i x=Ct.out y v/\e=.returned (.int .i64 v)/\SH B w' (XA xb mb y::L):=by
 have hb:=hx.zP
 unfold Ct.X.size Ct.cN at hb
 refine Ea (args:=[_,_,_]) func184 rfl ntmps184 rfl ?_
 refine sq<|rg<|sf (bx h rfl rfl)<|?_
 rintro _ w ⟨b1,rfl,h⟩
 refine st (sg rfl)<|xe<|nx<|sq<|sq<|rg<|st (mv rfl)<|st (nc rfl rfl)<|st (fa nB rfl)<|st (ld (v:=.bool x.e.aC) xN rfl (h.xc a2 λ_=>rfl))<|xe<|nx<|cf rfl hs<|sk<|nx<|sq<|sq<|?_
 have h:=h.fr (.c r2 .n)
 obtain⟨⟨pg,cg,pm,cm,pq,cq,pi,ci⟩,h⟩:=h.xo
 have h:SH B w (bl xb (vT mb x.e ⟨pg,cg,pm,cm,pq,cq,pi,ci⟩) 135::aU 44 1 (.slice pg x.e.eG.length cg) x.e.eG.length (x.e.eG.map (Value.int .i64))::aU 44 1 (.slice pm x.e.made.length cm) x.e.made.length (x.e.made.map (Value.int .i64))::aU 33 1 (.slice pq x.e.cells.length cq) x.e.cells.length (x.e.cells.map (Value.int .i64))::aU 3 1 (.slice pi x.e.dG.length ci) x.e.dG.length (x.e.dG.map (Value.int .i64))::cR mb x.s::bl b1 (aL n q) 53::aM n q::L):=h
 refine dZ [1,3,5,7,9,11,13,15,17,19] (by kernel_rfl) h (.c r0 .n) λw h=>tk (λW H=>mv rfl)<|tk (λW H=>nc rfl rfl)<|tk (λW H=>fa vP rfl)<|tk (λW H=>ld (v:=.int .i64 (x.e.m:Int)) jE rfl (H.c a0 rfl))<|tk (λW H=>mv rfl)<|tk (λW H=>nc rfl rfl)<|tk (λW H=>fa yL rfl)<|tk (λW H=>ld (v:=.slice pm x.e.made.length cm) pK rfl (H.c a0 rfl))<|tk (λW H=>ln jG rfl rfl)<|tk (λW H=>bi rfl rfl rfl)<|xz<|nx<|ct rfl (beq_iff_eq.2 (by omega))<|Uc (F:=[bl xb (vT mb x.e ⟨pg,cg,pm,cm,pq,cq,pi,ci⟩) 135,bl b1 (aL n q) 53]) [(true,[1,3,5,7,9,11,13,15,17,19,21,22,24,26,29,31]),(false,[32])] (by kernel_rfl) h (λw h=>(hC (h.at_ a0) (hC (h.at_ a6) hN))) λw h=>VP<|tk (λW H=>mv rfl)<|tk (λW H=>mv rfl)<|tk (λW H=>nc rfl rfl)<|tk (λW H=>fa yL rfl)<|tk (λW H=>ld (v:=.slice pm x.e.made.length cm) pK rfl (H.c a0 rfl))<|tk (λW H=>mv rfl)<|tk (λW H=>nc rfl rfl)<|tk (λW H=>fa Hh rfl)<|tk (λW H=>ld (v:=.pointer (some ⟨mb,0,none⟩)) Lv rfl (H.c a0 rfl))<|tk (λW H=>gJ rfl (dK (H.b a1)) iR)<|tk (λW H=>mv rfl)<|cs (ca eF rfl) ((Ck mb x.s n q i (h.fr (.c r7 (.c r5 .n))) (by unfold Ct.St.size;unfold Ct.St.size at hb;omega) hn.1.1 (by have:=hn.1.2.1;unfold Ct.St.size at hb;omega)).mono ?_)
 rintro _ w ⟨rfl,h⟩
 refine⟨_,rfl,(hC (h.at_ a1) (hC (h.at_ a6) hN)),?_⟩
 refine ff (bu [.int .i64 ((x.s.alloc n i).2)] h jG Ax rfl (by kernel_rfl) rfl (by decide) (by decide))<|?_
 rintro _ w ⟨b2,rfl,h⟩
 refine⟨(hC (h.at_ a2) (hC (h.at_ a7) hN)),?_⟩
 refine ff (ap h jG rfl Ax rfl (by decide) rfl rfl (λ_=>u4) (h.ro a0) (by simp[Value.oneCell']) rfl (gI _ _) (by unfold maxLen;omega) (by omega))<|?_
 rintro _ w ⟨p3,c4,rfl,h⟩
 refine⟨(hC (h.at_ a2) (hC (h.at_ a7) hN)),?_⟩
 refine tk (λW H=>nc rfl rfl)<|tk (λW H=>fa yL rfl)<|Zp<|ff (so h rfl rfl rfl AW rfl (.s (.s (.s (.s (.s (.s (.s (.s (.s (.s (.s (.s (.s (.s (.s (.s (.s (.s (.s (.s (.s (.s (.s (.s (.s (.s (.s (.r .d)))))))))))))))))))))))))))) u2)<|?_
 rintro _ w h
 refine⟨trivial,?_⟩
 refine xz<|nx<|sq<|rg<|st (mv rfl)<|st (nc rfl rfl)<|st (fa vP rfl)<|st (ld jE rfl (h.c a2 rfl))<|st (bw rfl rfl (gN (c:=((x.e.m+1:Nat):Int)) (by omega) (by omega) (by omega)))<|st (nc rfl rfl)<|st (fa vP rfl)<|sf (so h rfl rfl rfl Bf rfl (.s (.s (.s (.s (.s (.s (.s (.s (.s (.s (.s (.s (.s (.s (.s (.s (.s (.s (.s (.s (.s (.s (.s (.s (.s (.s (.s (.s (.s (.s (.s (.r .d)))))))))))))))))))))))))))))))) u2)<|?_
 rintro _ w h
 refine xe<|nx<|sq<|?_
 obtain⟨b5,rfl⟩:=h.fp a4 (by omega)
 refine dZ [1,3,5,7,9,11,13,15,17,19,21,22] (by kernel_rfl) h (.c r2 (.c r3 .n)) λw h=>tk (λW H=>mv rfl)<|tk (λW H=>nc rfl rfl)<|tk (λW H=>fa yL rfl)<|tk (λW H=>ld pK rfl (H.c a0 rfl))<|tk (λW H=>mv rfl)<|tk (λW H=>nc rfl rfl)<|tk (λW H=>fa vP rfl)<|tk (λW H=>ld jE rfl (H.c a0 rfl))<|tk (λW H=>bw rfl rfl (zW (c:=(x.e.m:Int)) (by omega) (by omega) (by omega)))<|tk (λW H=>ix (j:=x.e.m) jG Bh rfl rfl (by omega))<|tk (λW H=>ld iO rfl ((H.ro a1).i (by omega)))<|ef (sg rfl) (h.hs (.c r2 (.c r3 .n)))<|xz<|nx<|rt<|?_
 refine rr (jP results184 rfl)<|⟨_,_,PY hs hm,rfl,SH.xi ⟨pg,cg,some ⟨b5,0,none⟩,c4,pq,cq,pi,ci⟩ (by unfold OY vT;dsimp only;rw[cO,CG];exact((h.fr (.c r0 (.c r6 .n))).drop.drop.fr (.c r1 (.c r1 (.c r1 (.c r1 (.c r1 .n)))))))⟩
end
variable{B w:World}{L:List As}
theorem Rr(xb mb:Nat)(x:Ct.X)(n:Ct.Node)(q:Lq)(i:Int)(h:SH B w (aM n q::XA xb mb x::L))(hx:Ct.Ok 0 x)(hs:x.e.aC=false)(hm:x.e.m<x.e.made.length)(hn:n.Fit (x.s.aG.length+1)):
  Calls prog 184 #[↑xb,.agg (aL n q).toArray,↑i] w λe w'=>∃y v,Ct.dB n i x=Ct.out y v/\e=.returned (.int .i64 v)/\SH B w' (XA xb mb y::L):=by
 have hb:=hx.zP
 unfold Ct.X.size Ct.cN at hb
 refine bZ func184 ntmps184 h λw h=>?_
 refine jX h λb1 w h=>?_
 refine st (ld (v:=.bool x.e.aC) One.h rfl (h.xc a2 λ_=>rfl))<|go h λw h=>?_
 have h:=h.fr (.c r2 .n)
 obtain⟨⟨pg,cg,pm,cm,pq,cq,pi,ci⟩,h⟩:=h.xo
 have h:SH B w (bl xb (vT mb x.e ⟨pg,cg,pm,cm,pq,cq,pi,ci⟩) 135::aU 44 1 (.slice pg x.e.eG.length cg) x.e.eG.length (x.e.eG.map (Value.int .i64))::aU 44 1 (.slice pm x.e.made.length cm) x.e.made.length (x.e.made.map (Value.int .i64))::aU 33 1 (.slice pq x.e.cells.length cq) x.e.cells.length (x.e.cells.map (Value.int .i64))::aU 3 1 (.slice pi x.e.dG.length ci) x.e.dG.length (x.e.dG.map (Value.int .i64))::cR mb x.s::bl b1 (aL n q) 53::aM n q::L):=h
 refine dZ [1,3,5,7,9,11,13,15,17,19] (by kernel_rfl) h (.c r0 .n) λw h=>go h λw h=>?_
 obtain⟨b2,rfl⟩:=h.fp a2 (by omega)
 refine dZ [1,3,5,7,9,11,13,15,17,19,21,22] (by kernel_rfl) h (.c r0 (.c r1 .n)) λw h=>go h λw h=>?_
 refine tk (λW H=>bs (x.e.m:Int))<|go h λw h=>?_
 exact rz ⟨_,_,PU hs hm,rfl,SH.xi ⟨pg,cg,some ⟨b2,0,none⟩,cm,pq,cq,pi,ci⟩ (h.to)⟩
theorem Ue(xb mb:Nat)(x:Ct.X)(i:Int)(h:SH B w (XA xb mb x::L))(hx:Ct.Ok 0 x)(hs:x.e.aC=true):
  Calls prog 196 #[↑xb,↑i] w λe w'=>∃y v,Ct.fE i x=Ct.out y v/\e=.returned (.int .i64 v)/\SH B w' (XA xb mb y::L):=by
 have hb:=hx.zP
 have hxa:=hx.a
 have hfr:=hx.free
 unfold Ct.X.size Ct.cN at hb
 have hxm:=hx.m
 have hxc:=hx.c
 have hxg:=hx.g
 refine bZ func196 ntmps196 h λw h=>?_
 refine st (ld (v:=.bool x.e.aC) One.h rfl (h.xc a0 λ_=>rfl))<|go h λw h=>?_
 exact rz ⟨_,0,RX hs,rfl,h⟩
section
attribute [local semireducible] gB wpS Go.E.X XS C jU kP fin Y U F Ca jT bl rb aU bV ex ce pu sK gK bK zK
attribute [local irreducible] gB wpS
variable{B w:World}{L:List As}
theorem Xg(xb mb:Nat)(x:Ct.X)(i:Int)(h:SH B w (XA xb mb x::L))(hx:Ct.Ok 0 x)(hs:x.e.aC=false)(hm:x.e.c=x.e.cells.length):
  Calls prog 196 #[↑xb,↑i] w λe w'=>∃y v,Ct.fE i x=Ct.out y v/\e=.returned (.int .i64 v)/\SH B w' (XA xb mb y::L):=by
 have hb:=hx.zP
 have hxa:=hx.a
 have hfr:=hx.free
 unfold Ct.X.size Ct.cN at hb
 have hxm:=hx.m
 have hxc:=hx.c
 have hxg:=hx.g
 refine Ea (args:=[_,_]) func196 rfl ntmps196 rfl ?_
 refine sq<|rg<|st (sg rfl)<|xe<|nx<|sq<|sq<|rg<|st (mv rfl)<|st (nc rfl rfl)<|st (fa nB rfl)<|st (ld (v:=.bool x.e.aC) xN rfl (h.xc a0 λ_=>rfl))<|xe<|nx<|cf rfl hs<|sk<|nx<|sq<|sq<|?_
 obtain⟨⟨pg,cg,pm,cm,pq,cq,pi,ci⟩,h⟩:=h.xo
 have h:SH B w (bl xb (vT mb x.e ⟨pg,cg,pm,cm,pq,cq,pi,ci⟩) 135::aU 44 1 (.slice pg x.e.eG.length cg) x.e.eG.length (x.e.eG.map (Value.int .i64))::aU 44 1 (.slice pm x.e.made.length cm) x.e.made.length (x.e.made.map (Value.int .i64))::aU 33 1 (.slice pq x.e.cells.length cq) x.e.cells.length (x.e.cells.map (Value.int .i64))::aU 3 1 (.slice pi x.e.dG.length ci) x.e.dG.length (x.e.dG.map (Value.int .i64))::cR mb x.s::L):=h
 refine dZ [1,3,5,7,9,11,13,15,17,19] (by kernel_rfl) h (.c r0 .n) λw h=>tk (λW H=>mv rfl)<|tk (λW H=>nc rfl rfl)<|tk (λW H=>fa Ec rfl)<|tk (λW H=>ld (v:=.int .i64 (x.e.c:Int)) jE rfl (H.c a0 rfl))<|tk (λW H=>mv rfl)<|tk (λW H=>nc rfl rfl)<|tk (λW H=>fa Jp rfl)<|tk (λW H=>ld (v:=.slice pq x.e.cells.length cq) GA rfl (H.c a0 rfl))<|tk (λW H=>ln BP rfl rfl)<|tk (λW H=>bi rfl rfl rfl)<|xz<|nx<|ct rfl (beq_iff_eq.2 (by omega))<|Uc (F:=[bl xb (vT mb x.e ⟨pg,cg,pm,cm,pq,cq,pi,ci⟩) 135]) [(true,[1,3,5,7,9,11,13,15,17,19,20,22,24,27,29]),(false,[30])] (by kernel_rfl) h (λw h=>(hC (h.at_ a0) hN)) λw h=>VP<|tk (λW H=>mv rfl)<|tk (λW H=>mv rfl)<|tk (λW H=>nc rfl rfl)<|tk (λW H=>fa Jp rfl)<|tk (λW H=>ld (v:=.slice pq x.e.cells.length cq) GA rfl (H.c a0 rfl))<|tk (λW H=>mv rfl)<|tk (λW H=>nc rfl rfl)<|tk (λW H=>fa Hh rfl)<|tk (λW H=>ld (v:=.pointer (some ⟨mb,0,none⟩)) Lv rfl (H.c a0 rfl))<|tk (λW H=>mv rfl)<|cs (ca eF rfl) ((kE mb x.s i (h.fr (.c r5 .n)) (by unfold Ct.St.size;unfold Ct.St.size at hb;omega)).mono ?_)
 rintro _ w ⟨rfl,h⟩
 refine⟨_,rfl,(hC (h.at_ a1) hN),?_⟩
 refine ff (bu [.int .i64 ((x.s.aV i).2)] h BP V4 rfl (by kernel_rfl) rfl (by decide) (by decide))<|?_
 rintro _ w ⟨b1,rfl,h⟩
 refine⟨(hC (h.at_ a2) hN),?_⟩
 refine ff (ap h BP rfl V4 rfl (by decide) rfl rfl (λ_=>u5) (h.ro a0) (by simp[Value.oneCell']) rfl (gI _ _) (by unfold maxLen;omega) (by omega))<|?_
 rintro _ w ⟨p2,c3,rfl,h⟩
 refine⟨(hC (h.at_ a2) hN),?_⟩
 refine tk (λW H=>nc rfl rfl)<|tk (λW H=>fa Jp rfl)<|Zp<|ff (so h rfl rfl rfl X9 rfl (.s (.s (.s (.s (.s (.s (.s (.s (.s (.s (.s (.s (.s (.s (.s (.s (.s (.s (.s (.s (.s (.s (.s (.s (.s (.s (.s (.s (.r .d))))))))))))))))))))))))))))) u2)<|?_
 rintro _ w h
 refine⟨trivial,?_⟩
 refine xz<|nx<|sq<|rg<|st (mv rfl)<|st (nc rfl rfl)<|st (fa Ec rfl)<|st (ld jE rfl (h.c a2 rfl))<|st (bw rfl rfl (gN (c:=((x.e.c+1:Nat):Int)) (by omega) (by omega) (by omega)))<|st (nc rfl rfl)<|st (fa Ec rfl)<|sf (so h rfl rfl rfl Bf rfl (.s (.s (.s (.s (.s (.s (.s (.s (.s (.s (.s (.s (.s (.s (.s (.s (.s (.s (.s (.s (.s (.s (.s (.s (.s (.s (.s (.s (.s (.s (.s (.s (.r .d))))))))))))))))))))))))))))))))) u2)<|?_
 rintro _ w h
 refine xe<|nx<|sq<|?_
 obtain⟨b4,rfl⟩:=h.fp a5 (by omega)
 refine dZ [1,3,5,7,9,11,13,15,17,19,21,22] (by kernel_rfl) h (.c r2 (.c r4 .n)) λw h=>tk (λW H=>mv rfl)<|tk (λW H=>nc rfl rfl)<|tk (λW H=>fa Jp rfl)<|tk (λW H=>ld GA rfl (H.c a0 rfl))<|tk (λW H=>mv rfl)<|tk (λW H=>nc rfl rfl)<|tk (λW H=>fa Ec rfl)<|tk (λW H=>ld jE rfl (H.c a0 rfl))<|tk (λW H=>bw rfl rfl (zW (c:=(x.e.c:Int)) (by omega) (by omega) (by omega)))<|tk (λW H=>ix (j:=x.e.c) BP wI rfl rfl (by omega))<|tk (λW H=>ld Bv rfl ((H.ro a1).i (by omega)))<|ef (sg rfl) (h.hs (.c r2 (.c r4 .n)))<|xz<|nx<|rt<|?_
 refine rr (jP results196 rfl)<|⟨_,_,RA hs hm,rfl,SH.xi ⟨pg,cg,pm,cm,some ⟨b4,0,none⟩,c3,pi,ci⟩ (by unfold OY vT;dsimp only;rw[cO,CG];exact(h.drop.fr (.c r1 (.c r1 (.c r1 (.c r1 (.c r1 .n)))))))⟩
end
variable{B w:World}{L:List As}
theorem Us(xb mb:Nat)(x:Ct.X)(i:Int)(h:SH B w (XA xb mb x::L))(hx:Ct.Ok 0 x)(hs:x.e.aC=false)(hm:x.e.c<x.e.cells.length):
  Calls prog 196 #[↑xb,↑i] w λe w'=>∃y v,Ct.fE i x=Ct.out y v/\e=.returned (.int .i64 v)/\SH B w' (XA xb mb y::L):=by
 have hb:=hx.zP
 have hxa:=hx.a
 have hfr:=hx.free
 unfold Ct.X.size Ct.cN at hb
 have hxm:=hx.m
 have hxc:=hx.c
 have hxg:=hx.g
 refine bZ func196 ntmps196 h λw h=>?_
 refine st (ld (v:=.bool x.e.aC) One.h rfl (h.xc a0 λ_=>rfl))<|go h λw h=>?_
 obtain⟨⟨pg,cg,pm,cm,pq,cq,pi,ci⟩,h⟩:=h.xo
 have h:SH B w (bl xb (vT mb x.e ⟨pg,cg,pm,cm,pq,cq,pi,ci⟩) 135::aU 44 1 (.slice pg x.e.eG.length cg) x.e.eG.length (x.e.eG.map (Value.int .i64))::aU 44 1 (.slice pm x.e.made.length cm) x.e.made.length (x.e.made.map (Value.int .i64))::aU 33 1 (.slice pq x.e.cells.length cq) x.e.cells.length (x.e.cells.map (Value.int .i64))::aU 3 1 (.slice pi x.e.dG.length ci) x.e.dG.length (x.e.dG.map (Value.int .i64))::cR mb x.s::L):=h
 refine dZ [1,3,5,7,9,11,13,15,17,19] (by kernel_rfl) h (.c r0 .n) λw h=>go h λw h=>?_
 refine go h λw h=>?_
 obtain⟨b1,rfl⟩:=h.fp a3 (by omega)
 refine dZ [1,3,5,7,9,11,13,15,17,19,21,22] (by kernel_rfl) h (.c r0 (.c r2 .n)) λw h=>go h λw h=>?_
 refine tk (λW H=>bs (x.e.c:Int))<|go h λw h=>?_
 exact rz ⟨_,_,UI hs hm,rfl,SH.xi ⟨pg,cg,pm,cm,some ⟨b1,0,none⟩,cq,pi,ci⟩ (h)⟩
theorem CT(xb mb:Nat)(x:Ct.X)(h:SH B w (XA xb mb x::L))(hx:Ct.Ok 0 x)(hs:x.e.aC=true):
  Calls prog 198 #[↑xb] w λe w'=>∃y v,Ct.iH x=Ct.out y v/\e=.returned (.int .i64 v)/\SH B w' (XA xb mb y::L):=by
 have hb:=hx.zP
 have hxa:=hx.a
 have hfr:=hx.free
 unfold Ct.X.size Ct.cN at hb
 have hxm:=hx.m
 have hxc:=hx.c
 have hxg:=hx.g
 refine bZ func198 ntmps198 h λw h=>?_
 refine st (ld (v:=.bool x.e.aC) One.h rfl (h.xc a0 λ_=>rfl))<|go h λw h=>?_
 exact rz ⟨_,0,WO hs,rfl,h⟩
section
attribute [local semireducible] gB wpS Go.E.X XS C jU kP fin Y U F Ca jT bl rb aU bV ex ce pu sK gK bK zK
attribute [local irreducible] gB wpS
variable{B w:World}{L:List As}
theorem CQ(xb mb:Nat)(x:Ct.X)(h:SH B w (XA xb mb x::L))(hx:Ct.Ok 0 x)(hs:x.e.aC=false)(hm:x.e.g=x.e.dG.length):
  Calls prog 198 #[↑xb] w λe w'=>∃y v,Ct.iH x=Ct.out y v/\e=.returned (.int .i64 v)/\SH B w' (XA xb mb y::L):=by
 have hb:=hx.zP
 have hxa:=hx.a
 have hfr:=hx.free
 unfold Ct.X.size Ct.cN at hb
 have hxm:=hx.m
 have hxc:=hx.c
 have hxg:=hx.g
 refine Ea (args:=[_]) func198 rfl ntmps198 rfl ?_
 refine sq<|rg<|st (sg rfl)<|xe<|nx<|sq<|sq<|rg<|st (mv rfl)<|st (nc rfl rfl)<|st (fa nB rfl)<|st (ld (v:=.bool x.e.aC) xN rfl (h.xc a0 λ_=>rfl))<|xe<|nx<|cf rfl hs<|sk<|nx<|sq<|sq<|?_
 obtain⟨⟨pg,cg,pm,cm,pq,cq,pi,ci⟩,h⟩:=h.xo
 have h:SH B w (bl xb (vT mb x.e ⟨pg,cg,pm,cm,pq,cq,pi,ci⟩) 135::aU 44 1 (.slice pg x.e.eG.length cg) x.e.eG.length (x.e.eG.map (Value.int .i64))::aU 44 1 (.slice pm x.e.made.length cm) x.e.made.length (x.e.made.map (Value.int .i64))::aU 33 1 (.slice pq x.e.cells.length cq) x.e.cells.length (x.e.cells.map (Value.int .i64))::aU 3 1 (.slice pi x.e.dG.length ci) x.e.dG.length (x.e.dG.map (Value.int .i64))::cR mb x.s::L):=h
 refine dZ [1,3,5,7,9,11,13,15,17,19] (by kernel_rfl) h (.c r0 .n) λw h=>tk (λW H=>mv rfl)<|tk (λW H=>nc rfl rfl)<|tk (λW H=>fa Du rfl)<|tk (λW H=>ld (v:=.int .i64 (x.e.g:Int)) jE rfl (H.c a0 rfl))<|tk (λW H=>mv rfl)<|tk (λW H=>nc rfl rfl)<|tk (λW H=>fa Hp rfl)<|tk (λW H=>ld (v:=.slice pi x.e.dG.length ci) AA rfl (H.c a0 rfl))<|tk (λW H=>ln Mx rfl rfl)<|tk (λW H=>bi rfl rfl rfl)<|xz<|nx<|ct rfl (beq_iff_eq.2 (by omega))<|Uc (F:=[bl xb (vT mb x.e ⟨pg,cg,pm,cm,pq,cq,pi,ci⟩) 135]) [(true,[1,3,5,7,9,11,13,15,17,18,20,22,25,27]),(false,[28])] (by kernel_rfl) h (λw h=>(hC (h.at_ a0) hN)) λw h=>VP<|tk (λW H=>mv rfl)<|tk (λW H=>mv rfl)<|tk (λW H=>nc rfl rfl)<|tk (λW H=>fa Hp rfl)<|tk (λW H=>ld (v:=.slice pi x.e.dG.length ci) AA rfl (H.c a0 rfl))<|tk (λW H=>mv rfl)<|tk (λW H=>nc rfl rfl)<|tk (λW H=>fa Hh rfl)<|tk (λW H=>ld (v:=.pointer (some ⟨mb,0,none⟩)) Lv rfl (H.c a0 rfl))<|cs (ca eF rfl) ((Jb mb x.s (h.fr (.c r5 .n)) (by unfold Ct.St.size;unfold Ct.St.size at hb;omega)).mono ?_)
 rintro _ w ⟨rfl,h⟩
 refine⟨_,rfl,(hC (h.at_ a1) hN),?_⟩
 refine ff (bu [↑x.s.bS.2] h Mx VZ rfl (by kernel_rfl) rfl (by decide) (by decide))<|?_
 rintro _ w ⟨b1,rfl,h⟩
 refine⟨(hC (h.at_ a2) hN),?_⟩
 refine ff (ap h Mx rfl VZ rfl (by decide) rfl rfl (λ_=>u6) (h.ro a0) (by simp[Value.oneCell']) rfl (gI _ _) (by unfold maxLen;omega) (by omega))<|?_
 rintro _ w ⟨p2,c3,rfl,h⟩
 refine⟨(hC (h.at_ a2) hN),?_⟩
 refine tk (λW H=>nc rfl rfl)<|tk (λW H=>fa Hp rfl)<|Zp<|ff (so h rfl rfl rfl ZC rfl (.s (.s (.s (.s (.s (.s (.s (.s (.s (.s (.s (.s (.s (.s (.s (.s (.s (.s (.s (.s (.s (.s (.s (.s (.s (.s (.s (.s (.s (.r .d)))))))))))))))))))))))))))))) u2)<|?_
 rintro _ w h
 refine⟨trivial,?_⟩
 refine xz<|nx<|sq<|rg<|st (mv rfl)<|st (nc rfl rfl)<|st (fa Du rfl)<|st (ld jE rfl (h.c a2 rfl))<|st (bw rfl rfl (gN (c:=((x.e.g+1:Nat):Int)) (by omega) (by omega) (by omega)))<|st (nc rfl rfl)<|st (fa Du rfl)<|sf (so h rfl rfl rfl Bf rfl (.s (.s (.s (.s (.s (.s (.s (.s (.s (.s (.s (.s (.s (.s (.s (.s (.s (.s (.s (.s (.s (.s (.s (.s (.s (.s (.s (.s (.s (.s (.s (.s (.s (.r .d)))))))))))))))))))))))))))))))))) u2)<|?_
 rintro _ w h
 refine xe<|nx<|sq<|?_
 obtain⟨b4,rfl⟩:=h.fp a6 (by omega)
 refine dZ [1,3,5,7,9,11,13,15,17,19,21,22] (by kernel_rfl) h (.c r2 (.c r5 .n)) λw h=>tk (λW H=>mv rfl)<|tk (λW H=>nc rfl rfl)<|tk (λW H=>fa Hp rfl)<|tk (λW H=>ld AA rfl (H.c a0 rfl))<|tk (λW H=>mv rfl)<|tk (λW H=>nc rfl rfl)<|tk (λW H=>fa Du rfl)<|tk (λW H=>ld jE rfl (H.c a0 rfl))<|tk (λW H=>bw rfl rfl (zW (c:=(x.e.g:Int)) (by omega) (by omega) (by omega)))<|tk (λW H=>ix (j:=x.e.g) Mx Bf rfl rfl (by omega))<|tk (λW H=>ld jE rfl ((H.ro a1).i (by omega)))<|ef (sg rfl) (h.hs (.c r2 (.c r5 .n)))<|xz<|nx<|rt<|?_
 refine rr (jP results198 rfl)<|⟨_,_,XU hs hm,rfl,SH.xi ⟨pg,cg,pm,cm,pq,cq,some ⟨b4,0,none⟩,c3⟩ (by unfold OY vT;dsimp only;rw[cO,CG];exact(h.drop.fr (.c r1 (.c r1 (.c r1 (.c r1 (.c r1 .n)))))))⟩
end
variable{B w:World}{L:List As}
theorem CJ(xb mb:Nat)(x:Ct.X)(h:SH B w (XA xb mb x::L))(hx:Ct.Ok 0 x)(hs:x.e.aC=false)(hm:x.e.g<x.e.dG.length):
  Calls prog 198 #[↑xb] w λe w'=>∃y v,Ct.iH x=Ct.out y v/\e=.returned (.int .i64 v)/\SH B w' (XA xb mb y::L):=by
 have hb:=hx.zP
 have hxa:=hx.a
 have hfr:=hx.free
 unfold Ct.X.size Ct.cN at hb
 have hxm:=hx.m
 have hxc:=hx.c
 have hxg:=hx.g
 refine bZ func198 ntmps198 h λw h=>?_
 refine st (ld (v:=.bool x.e.aC) One.h rfl (h.xc a0 λ_=>rfl))<|go h λw h=>?_
 obtain⟨⟨pg,cg,pm,cm,pq,cq,pi,ci⟩,h⟩:=h.xo
 have h:SH B w (bl xb (vT mb x.e ⟨pg,cg,pm,cm,pq,cq,pi,ci⟩) 135::aU 44 1 (.slice pg x.e.eG.length cg) x.e.eG.length (x.e.eG.map (Value.int .i64))::aU 44 1 (.slice pm x.e.made.length cm) x.e.made.length (x.e.made.map (Value.int .i64))::aU 33 1 (.slice pq x.e.cells.length cq) x.e.cells.length (x.e.cells.map (Value.int .i64))::aU 3 1 (.slice pi x.e.dG.length ci) x.e.dG.length (x.e.dG.map (Value.int .i64))::cR mb x.s::L):=h
 refine dZ [1,3,5,7,9,11,13,15,17,19] (by kernel_rfl) h (.c r0 .n) λw h=>go h λw h=>?_
 refine go h λw h=>?_
 obtain⟨b1,rfl⟩:=h.fp a4 (by omega)
 refine dZ [1,3,5,7,9,11,13,15,17,19,21,22] (by kernel_rfl) h (.c r0 (.c r3 .n)) λw h=>go h λw h=>?_
 refine tk (λW H=>bs (x.e.g:Int))<|go h λw h=>?_
 exact rz ⟨_,_,XQ hs hm,rfl,SH.xi ⟨pg,cg,pm,cm,pq,cq,some ⟨b1,0,none⟩,ci⟩ (h)⟩
end Go.Q9
end
