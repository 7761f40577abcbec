/- Parts of a proof: Rm, Ryc. -/
import Derived.Test.YtnhdmcipglnkfaaGreatW12
set_option linter.unusedVariables false
set_option linter.unusedSimpArgs false
set_option maxRecDepth 100000
set_option maxHeartbeats 4000000
section
namespace Go.Q9
open Go.Proofs.Tryz
open Go.RowKit Go.E
attribute [local irreducible] gB wpS Go.E.X XS C jU kP fin Y U F Ca jT bl rb aU bV ex ce pu sK gK bK zK
theorem iC{zs:List (Ct.Node×Lq)}{s:Ct.St}(h:zs.map Prod.fst=aW s):zs.length=2+s.aG.length:=by
 have:=congrArg List.length h
 rw[PQ]at this
 rw[this];unfold aW;simp;omega
theorem Wh{s:Ct.St}{c:Int}{j:Nat}(h:c-1=(j:Int))(hj:j<s.cells.length):(s.load c).2=s.cells.getD j 0:=by
 have e:c.toNat-1=j:=by omega
 unfold Ct.St.load Ct.St.cA
 dsimp only
 rw[if_pos (by simp;omega),e]
theorem Bl{s:Ct.St}{c:Int}(h:c<1\/(s.cells.length:Int)<c):(s.load c).2=0:=by
 unfold Ct.St.load Ct.St.cA
 dsimp only
 rw[if_neg (by simp;omega)]
theorem PV{s:Ct.St}{c o:Int}(h:c<1\/(s.cells.length:Int)<c):s.xU c o=false:=by
 unfold Ct.St.xU Ct.St.cA
 rw[show (decide (1<=c)&&decide (c<=(s.cells.length:Int)))=false by simp;omega];rfl
theorem Xw{s:Ct.St}{c o:Int}{j:Nat}(h:c-1=(j:Int))(hj:j<s.cells.length):s.xU c o=(s.cells.getD j 0==o):=by
 have e:c.toNat-1=j:=by omega
 unfold Ct.St.xU Ct.St.cA
 rw[show (decide (1<=c)&&decide (c<=(s.cells.length:Int)))=true by simp;omega,e];rfl
theorem DU{s:Ct.St}{c o n:Int}(h:c<1\/(s.cells.length:Int)<c):s.eA c o n=({s with acc:=s.acc+1},false):=by
 unfold Ct.St.eA;rw[PV h];rfl
theorem LD{s:Ct.St}{c o n:Int}{j:Nat}(h:c-1=(j:Int))(hj:j<s.cells.length)(hv:s.cells.getD j 0≠o):s.eA c o n=({s with acc:=s.acc+1},false):=by
 unfold Ct.St.eA;rw[Xw h hj,beq_eq_false_iff_ne.2 hv];rfl
theorem FV{s:Ct.St}{c o n:Int}{j:Nat}(h:c-1=(j:Int))(hj:j<s.cells.length)(hv:s.cells.getD j 0=o):s.eA c o n=({s with acc:=s.acc+1,cells:=s.cells.set j n},true):=by
 have e:c.toNat-1=j:=by omega
 unfold Ct.St.eA;rw[Xw h hj,beq_iff_eq.2 hv,e];rfl
theorem GP(s:Ct.St)(n:Ct.Node)(i:Int)(h:n.kind=2):s.alloc n i=({(s.aV i).1 with aG:=(s.aV i).1.aG++[{n.bare with main:=(s.aV i).2,prev:=0,status:=0}]},(s.aG.length:Int)+3):=by
 simp[Ct.St.alloc,Ct.St.aV,h,Ct.Node.bare]
theorem Pl(s:Ct.St)(n:Ct.Node)(i:Int)(h:n.kind=3\/n.kind=5\/n.kind=6):s.alloc n i=({(s.aV i).1 with aG:=(s.aV i).1.aG++[{n.bare with main:=0,prev:=(s.aV i).2,status:=0}]},(s.aG.length:Int)+3):=by
 rcases h with h|h|h<;>simp[Ct.St.alloc,Ct.St.aV,h,Ct.Node.bare,Ct.Node.bM]
theorem GQ(s:Ct.St)(n:Ct.Node)(i:Int)(h:n.kind=8):s.alloc n i=({(s.aV i).1 with aG:=(s.aV i).1.aG++[{n.bare with main:=0,prev:=0,status:=(s.aV i).2}]},(s.aG.length:Int)+3):=by
 simp[Ct.St.alloc,Ct.St.aV,h,Ct.Node.bare,Ct.Node.bM]
theorem GN(s:Ct.St)(n:Ct.Node)(i:Int)(h:n.kind≠2/\n.kind≠3/\n.kind≠5/\n.kind≠6/\n.kind≠8):s.alloc n i=({s with aG:=s.aG++[{n.bare with main:=0,prev:=0,status:=0}]},(s.aG.length:Int)+3):=by
 obtain⟨h1,h2,h3,h4,h5⟩:=h
 simp[Ct.St.alloc,Ct.St.aV,h1,h2,h3,h4,h5,Ct.Node.bare,Ct.Node.bM]
theorem wV(s:Ct.St)(r:Int)(h:r<1\/((2+s.aG.length:Nat):Int)<r):s.node r={}:=by
 unfold Ct.St.node Ct.St.nodes;rw[if_pos h]
theorem FX{zs:List (Ct.Node×Lq)}{s:Ct.St}(h:zs.map Prod.fst=aW s){r:Int}{j:Nat}(hj:r-1=(j:Int))(hl:j<zs.length):zs.getD j ({},{})∈zs/\(zs.getD j ({},{})).1=s.node r:=by
 have e:zs.getD j ({},{})=zs[j]:=by rw[dI,fM hl];rfl
 have hz:=iC h
 rw[e]
 refine⟨wU _,?_⟩
 have h1:(zs.map Prod.fst)[j]?=some zs[j].1:=by rw[Fb,fM hl];rfl
 rw[h]at h1
 unfold Ct.St.node Ct.St.nodes
 rw[if_neg (by omega)]
 unfold aW at h1
 by_cases h2:r<=2
 ·rw[if_pos h2]
  rcases j with _|_|k
  ·simpa using h1.symm
  ·simpa using h1.symm
  ·omega
 ·rw[if_neg h2]
  rcases j with _|_|k
  ·omega
  ·omega
  ·have e2:r.toNat-3=k:=by omega
   rw[e2,dI]
   simp only[bD]at h1
   rw[h1];rfl
variable{B w:World}{L:List As}
theorem Jb(mb:Nat)(s:Ct.St)(h:SH B w (cR mb s::L))(hr:s.size<=100000000000):
  Calls prog 65 #[↑mb] w λe w'=>e=.returned ↑s.bS.2/\SH B w' (cR mb s.bS.1::L):=by
 obtain⟨⟨pn,cn,pc,cc,zs⟩,hz0,h⟩:=h.mo
 have h:SH B w (bl mb ([.slice pn zs.length cn,.slice pc s.cells.length cc,↑(s.gen:Int),↑(s.acc:Int)]) 75::aU 53 14 (.slice pn zs.length cn) zs.length (zs.flatMap cB)::aU 44 1 (.slice pc s.cells.length cc) s.cells.length (s.cells.map (Value.int .i64))::bE zs::L):=h
 have hzs:zs.map Prod.fst=aW s:=hz0
 clear hz0
 have hz:zs.length=2+s.aG.length:=iC hzs
 have hrm:s.aG.length+s.cells.length+s.gen+s.acc<=100000000000:=hr
 refine bZ func65 ntmps65 h λw h=>?_
 exact rz ⟨rfl,(SH.mi ⟨_,_,_,_,_⟩ hzs (h))⟩
theorem kE(mb:Nat)(s:Ct.St)(i:Int)(h:SH B w (cR mb s::L))(hr:s.size<=100000000000):
  Calls prog 66 #[↑mb,↑i] w λe w'=>e=.returned (.int .i64 (s.aV i).2)/\SH B w' (cR mb (s.aV i).1::L):=by
 obtain⟨⟨pn,cn,pc,cc,zs⟩,hz0,h⟩:=h.mo
 have h:SH B w (bl mb ([.slice pn zs.length cn,.slice pc s.cells.length cc,↑(s.gen:Int),↑(s.acc:Int)]) 75::aU 53 14 (.slice pn zs.length cn) zs.length (zs.flatMap cB)::aU 44 1 (.slice pc s.cells.length cc) s.cells.length (s.cells.map (Value.int .i64))::bE zs::L):=h
 have hzs:zs.map Prod.fst=aW s:=hz0
 clear hz0
 have hrm:s.aG.length+s.cells.length+s.gen+s.acc<=100000000000:=hr
 refine bZ func66 ntmps66 h λw h=>?_
 refine sf (bu [↑i] h fR.h Ss.h rfl (by kernel_rfl) rfl (by decide) (by decide)) ?_
 rintro _ w ⟨b1,rfl,h⟩
 refine go h λw h=>?_
 refine sf (ap h fR.h rfl Ss.h rfl (by decide) rfl rfl (λ_=>u3) (h.ro a0) (by simp[Value.oneCell']) rfl (gI _ _) (by unfold maxLen;omega) (by omega)) ?_
 rintro _ w ⟨p2,c3,rfl,h⟩
 refine go h λw h=>?_
 refine rz ?_
 exact⟨by simp[Ct.St.aV],SH.mi ⟨pn,cn,p2,c3,zs⟩ hzs (by unfold DX;dsimp only[Ct.St.aV];rw[cO,CG];exact h.drop)⟩
theorem PZ(mb:Nat)(s:Ct.St)(c:Int)(h:SH B w (cR mb s::L))(hr:s.size<=100000000000):
  Calls prog 210 #[↑mb,↑c] w λe w'=>e=.returned (.int .i64 (s.load c).2)/\SH B w' (cR mb (s.load c).1::L):=by
 obtain⟨⟨pn,cn,pc,cc,zs⟩,hz0,h⟩:=h.mo
 have h:SH B w (bl mb ([.slice pn zs.length cn,.slice pc s.cells.length cc,↑(s.gen:Int),↑(s.acc:Int)]) 75::aU 53 14 (.slice pn zs.length cn) zs.length (zs.flatMap cB)::aU 44 1 (.slice pc s.cells.length cc) s.cells.length (s.cells.map (Value.int .i64))::bE zs::L):=h
 have hzs:zs.map Prod.fst=aW s:=hz0
 clear hz0
 have hrm:s.aG.length+s.cells.length+s.gen+s.acc<=100000000000:=hr
 refine bZ func210 ntmps210 h λw h=>?_
 refine qg h (λhd1 w h=>?_) λhd1 w h=>?_
 have hg2:=eC hd1
 refine go h λw h=>?_
 exact rz ⟨by rw[show (s.load c).2=0 from Bl (by omega)],(SH.mi ⟨_,_,_,_,_⟩ hzs (h))⟩
 have hg3:=cW hd1
 refine go h λw h=>?_
 refine qc h (λhd4 w h=>?_) λhd4 w h=>?_
 have hg5:=eC hd4
 refine go h λw h=>?_
 exact rz ⟨by rw[show (s.load c).2=0 from Bl (by omega)],(SH.mi ⟨_,_,_,_,_⟩ hzs (h))⟩
 have hg6:=cW hd4
 refine go h λw h=>?_
 obtain⟨j,hj⟩:∃j:Nat,c-1=(j:Int):=⟨(c-1).toNat,by omega⟩
 refine st (bs (j:Int))<|go h λw h=>?_
 obtain⟨b7,rfl⟩:=h.fp a2 (by omega)
 refine go h λw h=>?_
 exact rz ⟨by rw[show (s.load c).2=s.cells.getD j 0 from Wh hj (by omega)],(SH.mi ⟨_,_,_,_,_⟩ hzs (h))⟩
theorem QX(mb:Nat)(s:Ct.St)(c o n:Int)(h:SH B w (cR mb s::L))(hr:s.size<=100000000000):
  Calls prog 211 #[↑mb,↑c,↑o,↑n] w λe w'=>e=.returned (.bool (s.eA c o n).2)/\SH B w' (cR mb (s.eA c o n).1::L):=by
 obtain⟨⟨pn,cn,pc,cc,zs⟩,hz0,h⟩:=h.mo
 have h:SH B w (bl mb ([.slice pn zs.length cn,.slice pc s.cells.length cc,↑(s.gen:Int),↑(s.acc:Int)]) 75::aU 53 14 (.slice pn zs.length cn) zs.length (zs.flatMap cB)::aU 44 1 (.slice pc s.cells.length cc) s.cells.length (s.cells.map (Value.int .i64))::bE zs::L):=h
 have hzs:zs.map Prod.fst=aW s:=hz0
 clear hz0
 have hrm:s.aG.length+s.cells.length+s.gen+s.acc<=100000000000:=hr
 refine bZ func211 ntmps211 h λw h=>?_
 refine qg h (λhd1 w h=>?_) λhd1 w h=>?_
 have hg2:=eC hd1
 refine go h λw h=>?_
 refine rz ?_
 rw[DU (by omega)];exact⟨rfl,(SH.mi ⟨_,_,_,_,_⟩ hzs (h))⟩
 have hg3:=cW hd1
 refine go h λw h=>?_
 refine qg h (λhd4 w h=>?_) λhd4 w h=>?_
 have hg5:=eC hd4
 refine go h λw h=>?_
 refine rz ?_
 rw[DU (by omega)];exact⟨rfl,(SH.mi ⟨_,_,_,_,_⟩ hzs (h))⟩
 have hg6:=cW hd4
 refine go h λw h=>?_
 obtain⟨j,hj⟩:∃j:Nat,c-1=(j:Int):=⟨(c-1).toNat,by omega⟩
 refine st (bs (j:Int))<|go h λw h=>?_
 obtain⟨b7,rfl⟩:=h.fp a2 (by omega)
 refine go h λw h=>?_
 refine qc h (λhd8 w h=>?_) λhd8 w h=>?_
 have hg9:=bne_iff_ne.1 hd8
 refine go h λw h=>?_
 refine rz ?_
 rw[LD hj (by omega) (by omega)];exact⟨rfl,(SH.mi ⟨_,_,_,_,_⟩ hzs (h))⟩
 have hg10:=eS hd8
 refine go h λw h=>?_
 refine st (bs (j:Int))<|go h λw h=>?_
 refine sf (F4 h Sz.h rfl rfl (by omega) u2) ?_
 rintro _ w h
 refine go h λw h=>?_
 refine rz ?_
 rw[FV hj (by omega) (by omega)];exact⟨rfl,SH.mi ⟨pn,cn,some ⟨b7,0,none⟩,cc,zs⟩ hzs (by unfold DX;dsimp only;rw[uZ];exact h)⟩
theorem OU(mb:Nat)(s:Ct.St)(r:Int)(h:SH B w (cR mb s::L))(hr:s.size<=100000000000):
  Calls prog 24 #[↑mb,↑r] w λe w'=>∃q,e=.returned (.agg (aL (s.node r) q).toArray)/\SH B w' (aM (s.node r) q::cR mb s::L):=by
 obtain⟨⟨pn,cn,pc,cc,zs⟩,hz0,h⟩:=h.mo
 have h:SH B w (bl mb ([.slice pn zs.length cn,.slice pc s.cells.length cc,↑(s.gen:Int),↑(s.acc:Int)]) 75::aU 53 14 (.slice pn zs.length cn) zs.length (zs.flatMap cB)::aU 44 1 (.slice pc s.cells.length cc) s.cells.length (s.cells.map (Value.int .i64))::bE zs::L):=h
 have hzs:zs.map Prod.fst=aW s:=hz0
 clear hz0
 have hz:zs.length=2+s.aG.length:=iC hzs
 have hrm:s.aG.length+s.cells.length+s.gen+s.acc<=100000000000:=hr
 refine bZ func24 ntmps24 h λw h=>?_
 refine jA h λb1 w h=>?_
 refine qg h (λhd2 w h=>?_) λhd2 w h=>?_
 have hg3:=eC hd2
 refine go h λw h=>?_
 refine rr (bP rfl rfl (h.b a0) Row.h) ?_
 rw[wV s r (by omega)];exact⟨{},rfl,SH.eE _ rfl rfl (SH.mi ⟨_,_,_,_,_⟩ hzs h.drop)⟩
 have hg4:=cW hd2
 refine go h λw h=>?_
 refine qc h (λhd5 w h=>?_) λhd5 w h=>?_
 have hg6:=eC hd5
 refine go h λw h=>?_
 refine rr (bP rfl rfl (h.b a0) Row.h) ?_
 rw[wV s r (by omega)];exact⟨{},rfl,SH.eE _ rfl rfl (SH.mi ⟨_,_,_,_,_⟩ hzs h.drop)⟩
 have hg7:=cW hd5
 refine go h λw h=>?_
 obtain⟨j,hj⟩:∃j:Nat,r-1=(j:Int):=⟨(r-1).toNat,by omega⟩
 refine st (bs (j:Int))<|go h λw h=>?_
 obtain⟨b8,rfl⟩:=h.fp a2 (by omega)
 refine go h λw h=>?_
 refine st (gJ rfl ((h.ro a2).x fN (by decide) (by omega) ({},{})) Row.h)<|go h λw h=>?_
 refine rr (bP rfl rfl (h.b a0) Row.h) ?_
 obtain⟨hm,hn⟩:=FX hzs hj (by omega)
 have h:=h.Ll a4 hm
 rw[<- hn];exact⟨_,rfl,((SH.mi ⟨_,_,_,_,_⟩ hzs ((h.fr (.c r1 .n)).drop.fr (.c r1 (.c r1 (.c r1 (.c r1 .n)))))).fr (.c r1 .n))⟩
theorem Ck(mb:Nat)(s:Ct.St)(n:Ct.Node)(q:Lq)(i:Int)(h:SH B w (aM n q::cR mb s::L))(hr:s.size<=100000000000)(hb:n.aA.length<=1000000)(hp:n.aF.length<=200000000000):
  Calls prog 64 #[↑mb,.agg (aL n q).toArray,↑i] w λe w'=>e=.returned (.int .i64 (s.alloc n i).2)/\SH B w' (cR mb (s.alloc n i).1::L):=by
 have h:=h.se
 refine Ea (args:=[_,_,_]) func64 rfl ntmps64 rfl ?_
 refine sq<|rg<|sf (bx h rfl rfl)<|?_
 rintro _ w ⟨b1,rfl,h⟩
 refine st (sg rfl)<|xe<|nx<|sq<|rg<|st (fa Eo rfl)<|sf (so h rfl rfl rfl wI rfl (.s (.s (.r .d))) u0)<|?_
 rintro _ w h
 refine st (fa xG rfl)<|sf (so h rfl rfl rfl wI rfl (.s (.s (.s (.s (.s (.s (.s (.s (.s (.r .d)))))))))) u0)<|?_
 rintro _ w h
 refine st (fa xY rfl)<|sf (so h rfl rfl rfl wI rfl (.s (.s (.s (.s (.s (.s (.s (.s (.s (.s (.s (.s (.s (.r .d)))))))))))))) u0)<|?_
 rintro _ w h
 refine xe<|nx<|?_
 refine sm (λe w=>∃s1:Ct.St,∃c2:Int,∃c9:Int,∃c13:Int,Sub 60 e (.c 0 (.pointer (some ⟨mb,0,none⟩)) (.c 4 (.pointer (some ⟨b1,0,none⟩)) .n))/\SH B w (bl b1 ([.int .i64 n.kind,.int .i64 n.gen,.int .i64 c2,.int .u64 (n.aD:Int),.slice q.pb n.aA.length q.cb,.int .u64 (n.hash:Int),.string n.key,.int .u64 (n.value:Int),.slice q.pp n.aF.length q.cp,.int .i64 c9,.int .i64 n.dC,.int .i64 n.aK,.int .i64 n.new,.int .i64 c13]) 53::bV 1 (.slice q.pb n.aA.length q.cb) n.aA.length (n.aA.map (Value.int .i64))::bV 2 (.slice q.pp n.aF.length q.cp) n.aF.length (n.aF.flatMap aR)::cR mb s1::L)/\(s.alloc n i=({s1 with aG:=s1.aG++[{n.bare with main:=c2,prev:=c9,status:=c13}]},(s.aG.length:Int)+3))/\(s1.aG=s.aG)/\(s1.size<=s.size+1)) ?_ ?_
 refine sq<|rg<|st (fa nN rfl)<|st (ld jE rfl (h.c a0 rfl))<|xe<|nx<|bk<|sq<|rg<|st (bi rfl rfl rfl)<|st (sg rfl)<|xe<|nx<|?_
 rcases dA ((n.kind:Int)==2)with hd2|hd2
 refine ct rfl hd2<|rg<|st (mv rfl)<|st (mv rfl)<|cl (ca eF rfl) ((kE mb s i (h.fr (.c r3 .n)) (by omega)).mono ?_)
 rintro _ w ⟨rfl,h⟩
 refine⟨_,rfl,?_⟩
 refine st (fa Eo rfl)<|sf (so h rfl rfl rfl wI rfl (.s (.s (.r .d))) u1)<|?_
 rintro _ w h
 refine xe<|bn<|nx<|?_
 exact⟨((s.aV i).1),(s.aV i).2,0,0,⟨rfl,rfl,trivial⟩,(h.fr (.c r1 (.c r1 (.c r1 (.c r0 .n))))),GP s n i (eq_of_beq hd2),rfl,(by simp only[Ct.St.aV,Ct.St.size,cO,CG];omega)⟩
 refine cf rfl hd2<|sq<|sq<|rg<|st (bi rfl rfl rfl)<|st (sg rfl)<|xe<|nx<|?_
 rcases dA ((n.kind:Int)==3)with hd5|hd5
 refine ct rfl hd5<|sk<|nx<|ct rfl hd5<|rg<|st (mv rfl)<|st (mv rfl)<|cl (ca eF rfl) ((kE mb s i (h.fr (.c r3 .n)) (by omega)).mono ?_)
 rintro _ w ⟨rfl,h⟩
 refine⟨_,rfl,?_⟩
 refine st (fa xG rfl)<|sf (so h rfl rfl rfl wI rfl (.s (.s (.s (.s (.s (.s (.s (.s (.s (.r .d)))))))))) u1)<|?_
 rintro _ w h
 refine xe<|bn<|nx<|?_
 exact⟨((s.aV i).1),0,(s.aV i).2,0,⟨rfl,rfl,trivial⟩,(h.fr (.c r1 (.c r1 (.c r1 (.c r0 .n))))),Pl s n i (by have:=eq_of_beq hd5;omega),rfl,(by simp only[Ct.St.aV,Ct.St.size,cO,CG];omega)⟩
 refine cf rfl hd5<|sq<|rg<|st (bi rfl rfl rfl)<|st (sg rfl)<|xe<|nx<|?_
 rcases dA ((n.kind:Int)==5)with hd8|hd8
 refine ct rfl hd8<|sk<|nx<|ct rfl hd8<|rg<|st (mv rfl)<|st (mv rfl)<|cl (ca eF rfl) ((kE mb s i (h.fr (.c r3 .n)) (by omega)).mono ?_)
 rintro _ w ⟨rfl,h⟩
 refine⟨_,rfl,?_⟩
 refine st (fa xG rfl)<|sf (so h rfl rfl rfl wI rfl (.s (.s (.s (.s (.s (.s (.s (.s (.s (.r .d)))))))))) u1)<|?_
 rintro _ w h
 refine xe<|bn<|nx<|?_
 exact⟨((s.aV i).1),0,(s.aV i).2,0,⟨rfl,rfl,trivial⟩,(h.fr (.c r1 (.c r1 (.c r1 (.c r0 .n))))),Pl s n i (by have:=eq_of_beq hd8;omega),rfl,(by simp only[Ct.St.aV,Ct.St.size,cO,CG];omega)⟩
 refine cf rfl hd8<|rg<|st (bi rfl rfl rfl)<|st (sg rfl)<|xe<|nx<|?_
 rcases dA ((n.kind:Int)==6)with hd11|hd11
 refine ct rfl hd11<|rg<|st (mv rfl)<|st (mv rfl)<|cl (ca eF rfl) ((kE mb s i (h.fr (.c r3 .n)) (by omega)).mono ?_)
 rintro _ w ⟨rfl,h⟩
 refine⟨_,rfl,?_⟩
 refine st (fa xG rfl)<|sf (so h rfl rfl rfl wI rfl (.s (.s (.s (.s (.s (.s (.s (.s (.s (.r .d)))))))))) u1)<|?_
 rintro _ w h
 refine xe<|bn<|nx<|?_
 exact⟨((s.aV i).1),0,(s.aV i).2,0,⟨rfl,rfl,trivial⟩,(h.fr (.c r1 (.c r1 (.c r1 (.c r0 .n))))),Pl s n i (by have:=eq_of_beq hd11;omega),rfl,(by simp only[Ct.St.aV,Ct.St.size,cO,CG];omega)⟩
 refine cf rfl hd11<|sq<|rg<|st (bi rfl rfl rfl)<|st (sg rfl)<|xe<|nx<|?_
 rcases dA ((n.kind:Int)==8)with hd14|hd14
 refine ct rfl hd14<|rg<|st (mv rfl)<|st (mv rfl)<|cl (ca eF rfl) ((kE mb s i (h.fr (.c r3 .n)) (by omega)).mono ?_)
 rintro _ w ⟨rfl,h⟩
 refine⟨_,rfl,?_⟩
 refine st (fa xY rfl)<|sf (so h rfl rfl rfl wI rfl (.s (.s (.s (.s (.s (.s (.s (.s (.s (.s (.s (.s (.s (.r .d)))))))))))))) u1)<|?_
 rintro _ w h
 refine xe<|bn<|nx<|?_
 exact⟨((s.aV i).1),0,0,(s.aV i).2,⟨rfl,rfl,trivial⟩,(h.fr (.c r1 (.c r1 (.c r1 (.c r0 .n))))),GQ s n i (eq_of_beq hd14),rfl,(by simp only[Ct.St.aV,Ct.St.size,cO,CG];omega)⟩
 refine cf rfl hd14<|sk<|bn<|nx<|?_
 exact⟨s,0,0,0,⟨rfl,rfl,trivial⟩,h,GN s n i (by have h0:=dP hd2;have h1:=dP hd5;have h2:=dP hd8;have h3:=dP hd11;have h4:=dP hd14;omega),rfl,(by omega)⟩
 rintro e w ⟨s1,c2,c9,c13,hE,h,ha,hs1,hr1⟩
 refine C.sub hE ?_
 refine sq<|rg<|sf (bu [] h jG Ax rfl (by kernel_rfl) rfl (by decide) (by decide))<|?_
 rintro _ w ⟨b17,rfl,h⟩
 refine st (fa nL rfl)<|st (ld pK rfl (h.c a1 rfl))<|sf (XN h a2 a0 jG rfl Ax rfl (by decide) rfl rfl (λ_=>u0) (oZ _) (xE _) (Xb _) (by unfold maxLen;omega) (by omega))<|?_
 rintro _ w ⟨p18,c19,rfl,h⟩
 refine st (fa nL rfl)<|sf (so h rfl rfl rfl AW rfl (.s (.s (.s (.s (.r .d))))) u1)<|?_
 rintro _ w h
 refine xe<|nx<|sq<|?_
 refine rg<|sf (bu [] h Bi LN rfl (by kernel_rfl) rfl (by decide) (by decide))<|?_
 rintro _ w ⟨b20,rfl,h⟩
 refine st (fa qD rfl)<|st (ld qV rfl (h.c a2 rfl))<|sf (XN h a4 a0 Bi rfl LN rfl (by decide) rfl rfl (λ_=>u0) (lU eU _) (xE _) (Xb _) (by unfold maxLen;omega) (by omega))<|?_
 rintro _ w ⟨p21,c22,rfl,h⟩
 refine st (fa qD rfl)<|sf (so h rfl rfl rfl VU rfl (.s (.s (.s (.s (.s (.s (.s (.s (.r .d))))))))) u2)<|?_
 rintro _ w h
 refine xe<|nx<|sq<|?_
 have hrm:s1.aG.length+s1.cells.length+s1.gen+s1.acc<=100000000001:=lK hr1 (by omega)
 have h:=h.fr (.c r5 .n)
 obtain⟨⟨pn,cn,pc,cc,zs⟩,hz0,h⟩:=h.mo
 have h:SH B w (bl mb ([.slice pn zs.length cn,.slice pc s1.cells.length cc,↑(s1.gen:Int),↑(s1.acc:Int)]) 75::aU 53 14 (.slice pn zs.length cn) zs.length (zs.flatMap cB)::aU 44 1 (.slice pc s1.cells.length cc) s1.cells.length (s1.cells.map (Value.int .i64))::bE zs::aU 120 2 (.slice p21 n.aF.length c22) n.aF.length (n.aF.flatMap aR)::aU 44 1 (.slice p18 n.aA.length c19) n.aA.length (n.aA.map (Value.int .i64))::bl b1 ([↑n.kind,↑n.gen,↑c2,.int .u64 (n.aD:Int),.slice p18 n.aA.length c19,.int .u64 (n.hash:Int),↑n.key,.int .u64 (n.value:Int),.slice p21 n.aF.length c22,↑c9,↑n.dC,↑n.aK,↑n.new,↑c13]) 53::bV 1 (.slice q.pb n.aA.length q.cb) n.aA.length (n.aA.map (Value.int .i64))::bV 2 (.slice q.pp n.aF.length q.cp) n.aF.length (n.aF.flatMap aR)::L):=h
 have hzs:zs.map Prod.fst=aW s1:=hz0
 clear hz0
 have hz:zs.length=2+s1.aG.length:=iC hzs
 refine drZ (F:=[bl mb ([.slice pn zs.length cn,.slice pc s1.cells.length cc,↑(s1.gen:Int),↑(s1.acc:Int)]) 75,bl b1 ([↑n.kind,↑n.gen,↑c2,.int .u64 (n.aD:Int),.slice p18 n.aA.length c19,.int .u64 (n.hash:Int),↑n.key,.int .u64 (n.value:Int),.slice p21 n.aF.length c22,↑c9,↑n.dC,↑n.aK,↑n.new,↑c13]) 53]) [1,3,5,7,9,11,13,14,16,18,20,23] 12 (by kernel_rfl) h (λw h=>(hC (h.at_ a0) (hC (h.at_ a6) hN))) λw h=>tk (λW H=>mv rfl)<|tk (λW H=>mv rfl)<|tk (λW H=>nc rfl rfl)<|tk (λW H=>fa Pu rfl)<|tk (λW H=>fa tO rfl)<|tk (λW H=>ld fZ rfl (H.c a0 rfl))<|tk (λW H=>gJ rfl (dK (H.b a1)) iR)<|ff (bu [↑n.kind,↑n.gen,↑c2,.int .u64 (n.aD:Int),.slice p18 n.aA.length c19,.int .u64 (n.hash:Int),↑n.key,.int .u64 (n.value:Int),.slice p21 n.aF.length c22,↑c9,↑n.dC,↑n.aK,↑n.new,↑c13] h tE SV rfl (by kernel_rfl) rfl (by decide) (by decide))<|?_
 rintro _ w ⟨b23,rfl,h⟩
 refine⟨(hC (h.at_ a1) (hC (h.at_ a7) hN)),?_⟩
 refine ff (ap h tE rfl SV rfl (by decide) rfl rfl (λ_=>u2) (h.ro a0) (by simp[Value.oneCell']) rfl (fW (enc:=cB) _ ({n.bare with main:=c2,prev:=c9,status:=c13},⟨p18,c19,p21,c22⟩)) (by unfold maxLen;omega) (by omega))<|?_
 rintro _ w ⟨p24,c25,rfl,h⟩
 refine⟨(hC (h.at_ a1) (hC (h.at_ a7) hN)),?_⟩
 refine ef (nc rfl rfl) ((hC (h.at_ a1) (hC (h.at_ a7) hN)))<|ef (fa Pu rfl) ((hC (h.at_ a1) (hC (h.at_ a7) hN)))<|tk (λW H=>fa tO rfl)<|xzZ<|sf (so h rfl rfl rfl nW rfl (.r .d) u1)<|?_
 rintro _ w h
 refine xe<|nx<|sq<|rg<|st (mv rfl)<|st (nc rfl rfl)<|st (fa Pu rfl)<|st (fa tO rfl)<|st (ld fZ rfl (h.c a1 rfl))<|st (ln tE rfl rfl)<|st (sg rfl)<|xe<|nx<|rt<|?_
 refine rr (jP results64 rfl)<|?_
 rw[ha]
 have h:=(((h.fr (.c r0 (.c r6 (.c r6 (.c r6 .n))))).drop.drop.drop.drop.fr (.c r5 (.c r4 (.c r3 (.c r0 (.c r0 (.c r0 .n)))))))).fz.fr (.c r1 .n)
 have h:=h.fz.fr (.c r1 .n)
 have h:=SH.HU (n:={n.bare with main:=c2,prev:=c9,status:=c13}) (q:=⟨p18,c19,p21,c22⟩) h
 refine⟨?_,SH.mi ⟨p24,c25,pc,cc,zs++[({n.bare with main:=c2,prev:=c9,status:=c13},⟨p18,c19,p21,c22⟩)]⟩ ?_ ?_⟩
 rw[hz,hs1];congr 2;omega
 rw[An,hzs];rfl
 unfold DX;dsimp only;rw[cO,CG];exact h.fr (.c r1 (.c r1 (.c r1 (.c r0 .n))))
end Go.Q9
end
section
namespace Go.Q9
open Go.Proofs.Tryz
open Go.E
theorem Hh:fo prog 135 0=some 0:=by kernel_rfl
theorem ZA:fo prog 135 10=some 34:=by kernel_rfl
theorem nB:fo prog 135 11=some 35:=by kernel_rfl
theorem yL:fo prog 135 3=some 27:=by kernel_rfl
theorem Jp:fo prog 135 4=some 28:=by kernel_rfl
theorem Hp:fo prog 135 5=some 29:=by kernel_rfl
theorem L9:fo prog 135 6=some 30:=by kernel_rfl
theorem vP:fo prog 135 7=some 31:=by kernel_rfl
theorem Ec:fo prog 135 8=some 32:=by kernel_rfl
theorem Du:fo prog 135 9=some 33:=by kernel_rfl
theorem GA:tA prog 133=true:=by kernel_rfl
theorem AA:tA prog 22=true:=by kernel_rfl
theorem Lv:tA prog 27=true:=by kernel_rfl
theorem Bv:tA prog 33=true:=by kernel_rfl
theorem xN:tA prog 4=true:=by kernel_rfl
theorem BP:prog.underlying 133=some (.slice 33):=by kernel_rfl
theorem Mx:prog.underlying 22=some (.slice 3):=by kernel_rfl
theorem VZ:mR prog 3=some (.int .i64 0,1,8):=by kernel_rfl
theorem V4:mR prog 33=some (.int .i64 0,1,8):=by kernel_rfl
theorem X9:(prog.info? 133).map (·.size)=some 1:=by kernel_rfl
theorem ZC:(prog.info? 22).map (·.size)=some 1:=by kernel_rfl
theorem AU:(prog.info? 4).map (·.size)=some 1:=by kernel_rfl
end Go.Q9
end
