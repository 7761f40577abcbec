/- Parts of a proof: Rb, Ryb, Rm, Ryc. -/
import Derived.Test.YtlijgnlhkcbgpaaGreatDoorW11
set_option linter.unusedVariables false
set_option linter.unusedSimpArgs false
set_option maxRecDepth 100000
set_option maxHeartbeats 4000000
section
namespace Go.Q9
open Go.Proofs.Tryz
open Go.RowKit Go.E
variable{B w:World}{L:List As}
def cU(t:Ct.bC):List Value:=[↑t.root,↑t.readOnly]
def XA(b mb:Nat)(x:Ct.X):As:=se [VE b mb x.e,cR mb x.s]
theorem Xa{l:List As}{O R:Nat->Prop}(h:(se l).p w O R){i:Nat}{A:As}(hi:l[i]?=some A):∃O R,A.p w O R:=by
 obtain⟨Os,Rs,h1,_⟩:=h
 exact⟨_,_,h1 i A hi⟩
theorem TN{b mb:Nat}{x:Ct.X}{O R:Nat->Prop}(h:(XA b mb x).p w O R):∃q,w.heap[b]?=some (.cells (vT mb x.e q).toArray 77 (0,0)):=by
 obtain⟨O1,R1,q,h1⟩:=Xa h (i:=0) rfl
 obtain⟨O2,R2,h2⟩:=Xa h1 (i:=0) rfl
 exact⟨q,h2.1⟩
end Go.Q9
namespace Go.E
open Go.Q9 Go.RowKit
variable{B w:World}{L:List As}
theorem SH.xc{b mb:Nat}{x:Ct.X}{o:Nat}{v:Value}(h:SH B w L)(m:At L (XA b mb x))(hv:∀q,(vT mb x.e q)[o]?=some v):w.cell? ⟨b,o,none⟩=some v:=by
 obtain⟨O,R,hA⟩:=h.at_ m
 obtain⟨q,h0⟩:=TN hA
 simp[World.cell?,h0,hv q]
theorem Hs.xc{F:List As}{b mb:Nat}{x:Ct.X}{o:Nat}{v:Value}(h:Hs F w)(m:At F (XA b mb x))(hv:∀q,(vT mb x.e q)[o]?=some v):w.cell? ⟨b,o,none⟩=some v:=by
 obtain⟨O,R,hA⟩:=h _ m
 obtain⟨q,h0⟩:=TN hA
 simp[World.cell?,h0,hv q]
theorem SH.xr{b mb:Nat}{x:Ct.X}(o:Nat){cs:List Value}(h:SH B w L)(m:At L (XA b mb x))(hv:∀q,((vT mb x.e q).drop o).take cs.length=cs):∀j v,cs[j]?=some v->w.cell? ⟨b,o+j,none⟩=some v:=by
 obtain⟨O,R,hA⟩:=h.at_ m
 obtain⟨q,h0⟩:=TN hA
 exact eP h0 o (hv q)
theorem Hs.xr{F:List As}{b mb:Nat}{x:Ct.X}(o:Nat){cs:List Value}(h:Hs F w)(m:At F (XA b mb x))(hv:∀q,((vT mb x.e q).drop o).take cs.length=cs):∀j v,cs[j]?=some v->w.cell? ⟨b,o+j,none⟩=some v:=by
 obtain⟨O,R,hA⟩:=h _ m
 obtain⟨q,h0⟩:=TN hA
 exact eP h0 o (hv q)
theorem SH.xo{b mb:Nat}{x:Ct.X}(h:SH B w (XA b mb x::L)):∃q,SH B w (OY b mb x.e q++cR mb x.s::L):=by
 have h:=h.se
 obtain⟨q,h⟩:=SH.ex (f:=λq=>Go.E.se (OY b mb x.e q)) h
 exact⟨q,h.se⟩
theorem SH.xi{b mb:Nat}{e:Ct.Ex}{s:Ct.St}(q:o7)(h:SH B w (OY b mb e q++cR mb s::L)):SH B w (XA b mb ⟨e,s⟩::L):=
 SH.is (l:=[VE b mb e,cR mb s]) (SH.dU (f:=λq=>Go.E.se (OY b mb e q)) q (SH.is h))
theorem SH.mo{b:Nat}{s:Ct.St}(h:SH B w (cR b s::L)):∃q:Mq,q.zs.map Prod.fst=aW s/\SH B w (HM b s q++L):=by
 obtain⟨q,h⟩:=SH.ex (f:=λq:Mq=>Go.E.se (Go.E.pu (q.zs.map Prod.fst=aW s)::HM b s q)) h
 have h:=h.se
 exact⟨q,h.pu⟩
theorem SH.mi{b:Nat}{s:Ct.St}(q:Mq)(hq:q.zs.map Prod.fst=aW s)(h:SH B w (HM b s q++L)):SH B w (cR b s::L):=
 SH.dU (f:=λq:Mq=>Go.E.se (Go.E.pu (q.zs.map Prod.fst=aW s)::HM b s q)) q (SH.is (l:=Go.E.pu (q.zs.map Prod.fst=aW s)::HM b s q) (SH.ip hq h))
theorem SH.eE(n:Ct.Node)(hb:n.aA=[])(hp:n.aF=[])(h:SH B w L):SH B w (aM n {}::L):=by
 refine SH.is (l:=[aY n {},cH n {}]) ?_
 unfold aY cH
 rw[hb,hp]
 exact SH.GZ 1 (SH.GZ 2 h)
end Go.E
end
section
namespace Go.Q9
open Go.Proofs.Tryz
open Go.E
theorem Ek:KY prog 112=some ([.int .i64 0,.int .i64 0,.int .i64 0,.int .u64 0,.slice none 0 0,.int .u64 0,.string .empty,.int .u64 0,.slice none 0 0,.int .i64 0,.int .i64 0,.int .i64 0,.int .i64 0,.int .i64 0],[(0,1),(1,1),(2,1),(3,1),(4,1),(5,1),(6,1),(7,1),(8,1),(9,1),(10,1),(11,1),(12,1),(13,1)]):=by kernel_rfl
theorem Uq:fo prog 67 0=some 0:=by kernel_rfl
theorem Mk:fo prog 69 0=some 0:=by kernel_rfl
theorem nO:fo prog 112 0=some 0:=by kernel_rfl
theorem vS:fo prog 112 13=some 13:=by kernel_rfl
theorem Bi:fo prog 112 2=some 2:=by kernel_rfl
theorem kF:fo prog 112 4=some 4:=by kernel_rfl
theorem oP:fo prog 112 8=some 8:=by kernel_rfl
theorem tU:fo prog 112 9=some 9:=by kernel_rfl
theorem jE:tA prog 3=true:=by kernel_rfl
theorem fS:tA prog 45=true:=by kernel_rfl
theorem nL:tA prog 40=true:=by kernel_rfl
theorem GI:tA prog 64=true:=by kernel_rfl
theorem Jq:tA prog 65=true:=by kernel_rfl
theorem iI:xA prog 112=some 14:=by kernel_rfl
theorem oW:prog.underlying 40=some (.slice 146):=by kernel_rfl
theorem Iu:prog.underlying 64=some (.slice 112):=by kernel_rfl
theorem vC:prog.underlying 65=some (.slice 45):=by kernel_rfl
theorem Pz:mR prog 146=some (.agg [.string .empty,.int .u64 0].toArray,2,24):=by kernel_rfl
theorem Fq:mR prog 45=some (.int .i64 0,1,8):=by kernel_rfl
theorem JI:mR prog 112=some (.agg [.int .i64 0,.int .i64 0,.int .i64 0,.int .u64 0,.slice none 0 0,.int .u64 0,.string .empty,.int .u64 0,.slice none 0 0,.int .i64 0,.int .i64 0,.int .i64 0,.int .i64 0,.int .i64 0].toArray,14,152):=by kernel_rfl
theorem Bf:(prog.info? 3).map (·.size)=some 1:=by kernel_rfl
theorem wS:(prog.info? 24).map (·.size)=some 1:=by kernel_rfl
theorem vD:(prog.info? 45).map (·.size)=some 1:=by kernel_rfl
theorem AG:(prog.info? 40).map (·.size)=some 1:=by kernel_rfl
theorem aAm:(prog.info? 64).map (·.size)=some 1:=by kernel_rfl
theorem VI:(prog.info? 65).map (·.size)=some 1:=by kernel_rfl
theorem uT:(prog.info? 112).map (·.size)=some 14:=by kernel_rfl
theorem Ji:zc prog 112=some [.int .i64 0,.int .i64 0,.int .i64 0,.int .u64 0,.slice none 0 0,.int .u64 0,.string .empty,.int .u64 0,.slice none 0 0,.int .i64 0,.int .i64 0,.int .i64 0,.int .i64 0,.int .i64 0]:=by kernel_rfl
end Go.Q9
end
section
namespace Go.Q9
open Go.Proofs.Tryz
open Go.RowKit Go.E
attribute [local irreducible] gB wpS Go.E.X XS C jU kP fin Y U F Ca jT bl rb aU bV ex ce pu sK gK bK zK
theorem iC{zs:List (Ct.Node×Lq)}{s:Ct.St}(h:zs.map Prod.fst=aW s):zs.length=2+s.aG.length:=by
 have:=congrArg List.length h
 rw[mI]at this
 rw[this];unfold aW;simp;omega
theorem Kq{s:Ct.St}{c:Int}{j:Nat}(h:c-1=(j:Int))(hj:j<s.cells.length):(s.load c).2=s.cells.getD j 0:=by
 have e:c.toNat-1=j:=by omega
 unfold Ct.St.load Ct.St.cA
 dsimp only
 rw[if_pos (by simp;omega),e]
theorem Bl{s:Ct.St}{c:Int}(h:c<1\/(s.cells.length:Int)<c):(s.load c).2=0:=by
 unfold Ct.St.load Ct.St.cA
 dsimp only
 rw[if_neg (by simp;omega)]
theorem PV{s:Ct.St}{c o:Int}(h:c<1\/(s.cells.length:Int)<c):s.xU c o=false:=by
 unfold Ct.St.xU Ct.St.cA
 rw[show (decide (1<=c)&&decide (c<=(s.cells.length:Int)))=false by simp;omega];rfl
theorem Xw{s:Ct.St}{c o:Int}{j:Nat}(h:c-1=(j:Int))(hj:j<s.cells.length):s.xU c o=(s.cells.getD j 0==o):=by
 have e:c.toNat-1=j:=by omega
 unfold Ct.St.xU Ct.St.cA
 rw[show (decide (1<=c)&&decide (c<=(s.cells.length:Int)))=true by simp;omega,e];rfl
theorem DU{s:Ct.St}{c o n:Int}(h:c<1\/(s.cells.length:Int)<c):s.eA c o n=({s with acc:=s.acc+1},false):=by
 unfold Ct.St.eA;rw[PV h];rfl
theorem LD{s:Ct.St}{c o n:Int}{j:Nat}(h:c-1=(j:Int))(hj:j<s.cells.length)(hv:s.cells.getD j 0≠o):s.eA c o n=({s with acc:=s.acc+1},false):=by
 unfold Ct.St.eA;rw[Xw h hj,beq_eq_false_iff_ne.2 hv];rfl
theorem FV{s:Ct.St}{c o n:Int}{j:Nat}(h:c-1=(j:Int))(hj:j<s.cells.length)(hv:s.cells.getD j 0=o):s.eA c o n=({s with acc:=s.acc+1,cells:=s.cells.set j n},true):=by
 have e:c.toNat-1=j:=by omega
 unfold Ct.St.eA;rw[Xw h hj,beq_iff_eq.2 hv,e];rfl
theorem GP(s:Ct.St)(n:Ct.Node)(i:Int)(h:n.kind=2):s.alloc n i=({(s.aV i).1 with aG:=(s.aV i).1.aG++[{n.bare with main:=(s.aV i).2,prev:=0,status:=0}]},(s.aG.length:Int)+3):=by
 simp[Ct.St.alloc,Ct.St.aV,h,Ct.Node.bare]
theorem Gg(s:Ct.St)(n:Ct.Node)(i:Int)(h:n.kind=3\/n.kind=5\/n.kind=6):s.alloc n i=({(s.aV i).1 with aG:=(s.aV i).1.aG++[{n.bare with main:=0,prev:=(s.aV i).2,status:=0}]},(s.aG.length:Int)+3):=by
 rcases h with h|h|h<;>simp[Ct.St.alloc,Ct.St.aV,h,Ct.Node.bare,Ct.Node.bM]
theorem GQ(s:Ct.St)(n:Ct.Node)(i:Int)(h:n.kind=8):s.alloc n i=({(s.aV i).1 with aG:=(s.aV i).1.aG++[{n.bare with main:=0,prev:=0,status:=(s.aV i).2}]},(s.aG.length:Int)+3):=by
 simp[Ct.St.alloc,Ct.St.aV,h,Ct.Node.bare,Ct.Node.bM]
theorem GN(s:Ct.St)(n:Ct.Node)(i:Int)(h:n.kind≠2/\n.kind≠3/\n.kind≠5/\n.kind≠6/\n.kind≠8):s.alloc n i=({s with aG:=s.aG++[{n.bare with main:=0,prev:=0,status:=0}]},(s.aG.length:Int)+3):=by
 obtain⟨h1,h2,h3,h4,h5⟩:=h
 simp[Ct.St.alloc,Ct.St.aV,h1,h2,h3,h4,h5,Ct.Node.bare,Ct.Node.bM]
theorem wV(s:Ct.St)(r:Int)(h:r<1\/((2+s.aG.length:Nat):Int)<r):s.node r={}:=by
 unfold Ct.St.node Ct.St.nodes;rw[if_pos h]
theorem FX{zs:List (Ct.Node×Lq)}{s:Ct.St}(h:zs.map Prod.fst=aW s){r:Int}{j:Nat}(hj:r-1=(j:Int))(hl:j<zs.length):zs.getD j ({},{})∈zs/\(zs.getD j ({},{})).1=s.node r:=by
 have e:zs.getD j ({},{})=zs[j]:=by rw[eX,fM hl];rfl
 have hz:=iC h
 rw[e]
 refine⟨qR _,?_⟩
 have h1:(zs.map Prod.fst)[j]?=some zs[j].1:=by rw[Tx,fM hl];rfl
 rw[h]at h1
 unfold Ct.St.node Ct.St.nodes
 rw[if_neg (by omega)]
 unfold aW at h1
 by_cases h2:r<=2
 ·rw[if_pos h2]
  rcases j with _|_|k
  ·simpa using h1.symm
  ·simpa using h1.symm
  ·omega
 ·rw[if_neg h2]
  rcases j with _|_|k
  ·omega
  ·omega
  ·have e2:r.toNat-3=k:=by omega
   rw[e2,eX]
   simp only[Fk]at h1
   rw[h1];rfl
variable{B w:World}{L:List As}
theorem Jb(mb:Nat)(s:Ct.St)(h:SH B w (cR mb s::L))(hr:s.size<=100000000000):
  Calls prog 67 #[↑mb] w λe w'=>e=.returned ↑s.bS.2/\SH B w' (cR mb s.bS.1::L):=by
 obtain⟨⟨pn,cn,pc,cc,zs⟩,hz0,h⟩:=h.mo
 have h:SH B w (bl mb ([.slice pn zs.length cn,.slice pc s.cells.length cc,↑(s.gen:Int),↑(s.acc:Int)]) 69::aU 112 14 (.slice pn zs.length cn) zs.length (zs.flatMap cB)::aU 45 1 (.slice pc s.cells.length cc) s.cells.length (s.cells.map (Value.int .i64))::bE zs::L):=h
 have hzs:zs.map Prod.fst=aW s:=hz0
 clear hz0
 have hz:zs.length=2+s.aG.length:=iC hzs
 have hrm:s.aG.length+s.cells.length+s.gen+s.acc<=100000000000:=hr
 refine bZ func67 ntmps67 h λw h=>?_
 exact rz ⟨rfl,(SH.mi ⟨_,_,_,_,_⟩ hzs (h))⟩
theorem kE(mb:Nat)(s:Ct.St)(i:Int)(h:SH B w (cR mb s::L))(hr:s.size<=100000000000):
  Calls prog 68 #[↑mb,↑i] w λe w'=>e=.returned (.int .i64 (s.aV i).2)/\SH B w' (cR mb (s.aV i).1::L):=by
 obtain⟨⟨pn,cn,pc,cc,zs⟩,hz0,h⟩:=h.mo
 have h:SH B w (bl mb ([.slice pn zs.length cn,.slice pc s.cells.length cc,↑(s.gen:Int),↑(s.acc:Int)]) 69::aU 112 14 (.slice pn zs.length cn) zs.length (zs.flatMap cB)::aU 45 1 (.slice pc s.cells.length cc) s.cells.length (s.cells.map (Value.int .i64))::bE zs::L):=h
 have hzs:zs.map Prod.fst=aW s:=hz0
 clear hz0
 have hrm:s.aG.length+s.cells.length+s.gen+s.acc<=100000000000:=hr
 refine bZ func68 ntmps68 h λw h=>?_
 refine sf (bu [↑i] h fR.h Ss.h rfl (by kernel_rfl) rfl (by decide) (by decide)) ?_
 rintro _ w ⟨b1,rfl,h⟩
 refine go h λw h=>?_
 refine sf (ap h fR.h rfl Ss.h rfl (by decide) rfl rfl (λ_=>u3) (h.ro a0) (by simp[Value.oneCell']) rfl (kD _ _) (by unfold maxLen;omega) (by omega)) ?_
 rintro _ w ⟨p2,c3,rfl,h⟩
 refine go h λw h=>?_
 refine rz ?_
 exact⟨by simp[Ct.St.aV],SH.mi ⟨pn,cn,p2,c3,zs⟩ hzs (by unfold HM;dsimp only[Ct.St.aV];rw[cO,CG];exact h.drop)⟩
theorem PZ(mb:Nat)(s:Ct.St)(c:Int)(h:SH B w (cR mb s::L))(hr:s.size<=100000000000):
  Calls prog 153 #[↑mb,↑c] w λe w'=>e=.returned (.int .i64 (s.load c).2)/\SH B w' (cR mb (s.load c).1::L):=by
 obtain⟨⟨pn,cn,pc,cc,zs⟩,hz0,h⟩:=h.mo
 have h:SH B w (bl mb ([.slice pn zs.length cn,.slice pc s.cells.length cc,↑(s.gen:Int),↑(s.acc:Int)]) 69::aU 112 14 (.slice pn zs.length cn) zs.length (zs.flatMap cB)::aU 45 1 (.slice pc s.cells.length cc) s.cells.length (s.cells.map (Value.int .i64))::bE zs::L):=h
 have hzs:zs.map Prod.fst=aW s:=hz0
 clear hz0
 have hrm:s.aG.length+s.cells.length+s.gen+s.acc<=100000000000:=hr
 refine bZ func153 ntmps153 h λw h=>?_
 refine qg h (λhd1 w h=>?_) λhd1 w h=>?_
 have hg2:=dP hd1
 refine go h λw h=>?_
 exact rz ⟨by rw[show (s.load c).2=0 from Bl (by omega)],(SH.mi ⟨_,_,_,_,_⟩ hzs (h))⟩
 have hg3:=bI hd1
 refine go h λw h=>?_
 refine qc h (λhd4 w h=>?_) λhd4 w h=>?_
 have hg5:=dP hd4
 refine go h λw h=>?_
 exact rz ⟨by rw[show (s.load c).2=0 from Bl (by omega)],(SH.mi ⟨_,_,_,_,_⟩ hzs (h))⟩
 have hg6:=bI hd4
 refine go h λw h=>?_
 obtain⟨j,hj⟩:∃j:Nat,c-1=(j:Int):=⟨(c-1).toNat,by omega⟩
 refine st (bs (j:Int))<|go h λw h=>?_
 obtain⟨b7,rfl⟩:=h.fp a2 (by omega)
 refine go h λw h=>?_
 exact rz ⟨by rw[show (s.load c).2=s.cells.getD j 0 from Kq hj (by omega)],(SH.mi ⟨_,_,_,_,_⟩ hzs (h))⟩
theorem QX(mb:Nat)(s:Ct.St)(c o n:Int)(h:SH B w (cR mb s::L))(hr:s.size<=100000000000):
  Calls prog 155 #[↑mb,↑c,↑o,↑n] w λe w'=>e=.returned (.bool (s.eA c o n).2)/\SH B w' (cR mb (s.eA c o n).1::L):=by
 obtain⟨⟨pn,cn,pc,cc,zs⟩,hz0,h⟩:=h.mo
 have h:SH B w (bl mb ([.slice pn zs.length cn,.slice pc s.cells.length cc,↑(s.gen:Int),↑(s.acc:Int)]) 69::aU 112 14 (.slice pn zs.length cn) zs.length (zs.flatMap cB)::aU 45 1 (.slice pc s.cells.length cc) s.cells.length (s.cells.map (Value.int .i64))::bE zs::L):=h
 have hzs:zs.map Prod.fst=aW s:=hz0
 clear hz0
 have hrm:s.aG.length+s.cells.length+s.gen+s.acc<=100000000000:=hr
 refine bZ func155 ntmps155 h λw h=>?_
 refine qg h (λhd1 w h=>?_) λhd1 w h=>?_
 have hg2:=dP hd1
 refine go h λw h=>?_
 refine rz ?_
 rw[DU (by omega)];exact⟨rfl,(SH.mi ⟨_,_,_,_,_⟩ hzs (h))⟩
 have hg3:=bI hd1
 refine go h λw h=>?_
 refine qg h (λhd4 w h=>?_) λhd4 w h=>?_
 have hg5:=dP hd4
 refine go h λw h=>?_
 refine rz ?_
 rw[DU (by omega)];exact⟨rfl,(SH.mi ⟨_,_,_,_,_⟩ hzs (h))⟩
 have hg6:=bI hd4
 refine go h λw h=>?_
 obtain⟨j,hj⟩:∃j:Nat,c-1=(j:Int):=⟨(c-1).toNat,by omega⟩
 refine st (bs (j:Int))<|go h λw h=>?_
 obtain⟨b7,rfl⟩:=h.fp a2 (by omega)
 refine go h λw h=>?_
 refine qc h (λhd8 w h=>?_) λhd8 w h=>?_
 have hg9:=bne_iff_ne.1 hd8
 refine go h λw h=>?_
 refine rz ?_
 rw[LD hj (by omega) (by omega)];exact⟨rfl,(SH.mi ⟨_,_,_,_,_⟩ hzs (h))⟩
 have hg10:=eS hd8
 refine go h λw h=>?_
 refine st (bs (j:Int))<|go h λw h=>?_
 refine sf (F4 h Sz.h rfl rfl (by omega) u2) ?_
 rintro _ w h
 refine go h λw h=>?_
 refine rz ?_
 rw[FV hj (by omega) (by omega)];exact⟨rfl,SH.mi ⟨pn,cn,some ⟨b7,0,none⟩,cc,zs⟩ hzs (by unfold HM;dsimp only;rw[Fh];exact h)⟩
theorem OU(mb:Nat)(s:Ct.St)(r:Int)(h:SH B w (cR mb s::L))(hr:s.size<=100000000000):
  Calls prog 154 #[↑mb,↑r] w λe w'=>∃q,e=.returned (.agg (aL (s.node r) q).toArray)/\SH B w' (aM (s.node r) q::cR mb s::L):=by
 obtain⟨⟨pn,cn,pc,cc,zs⟩,hz0,h⟩:=h.mo
 have h:SH B w (bl mb ([.slice pn zs.length cn,.slice pc s.cells.length cc,↑(s.gen:Int),↑(s.acc:Int)]) 69::aU 112 14 (.slice pn zs.length cn) zs.length (zs.flatMap cB)::aU 45 1 (.slice pc s.cells.length cc) s.cells.length (s.cells.map (Value.int .i64))::bE zs::L):=h
 have hzs:zs.map Prod.fst=aW s:=hz0
 clear hz0
 have hz:zs.length=2+s.aG.length:=iC hzs
 have hrm:s.aG.length+s.cells.length+s.gen+s.acc<=100000000000:=hr
 refine bZ func154 ntmps154 h λw h=>?_
 refine jA h λb1 w h=>?_
 refine qg h (λhd2 w h=>?_) λhd2 w h=>?_
 have hg3:=dP hd2
 refine go h λw h=>?_
 refine rr (bP rfl rfl (h.b a0) Row.h) ?_
 rw[wV s r (by omega)];exact⟨{},rfl,SH.eE _ rfl rfl (SH.mi ⟨_,_,_,_,_⟩ hzs h.drop)⟩
 have hg4:=bI hd2
 refine go h λw h=>?_
 refine qc h (λhd5 w h=>?_) λhd5 w h=>?_
 have hg6:=dP hd5
 refine go h λw h=>?_
 refine rr (bP rfl rfl (h.b a0) Row.h) ?_
 rw[wV s r (by omega)];exact⟨{},rfl,SH.eE _ rfl rfl (SH.mi ⟨_,_,_,_,_⟩ hzs h.drop)⟩
 have hg7:=bI hd5
 refine go h λw h=>?_
 obtain⟨j,hj⟩:∃j:Nat,r-1=(j:Int):=⟨(r-1).toNat,by omega⟩
 refine st (bs (j:Int))<|go h λw h=>?_
 obtain⟨b8,rfl⟩:=h.fp a2 (by omega)
 refine go h λw h=>?_
 refine st (gJ rfl ((h.ro a2).x fN (by decide) (by omega) ({},{})) Row.h)<|go h λw h=>?_
 refine rr (bP rfl rfl (h.b a0) Row.h) ?_
 obtain⟨hm,hn⟩:=FX hzs hj (by omega)
 have h:=h.Ll a4 hm
 rw[<- hn];exact⟨_,rfl,((SH.mi ⟨_,_,_,_,_⟩ hzs ((h.fr (.c r1 .n)).drop.fr (.c r1 (.c r1 (.c r1 (.c r1 .n)))))).fr (.c r1 .n))⟩
theorem Ck(mb:Nat)(s:Ct.St)(n:Ct.Node)(q:Lq)(i:Int)(h:SH B w (aM n q::cR mb s::L))(hr:s.size<=100000000000)(hb:n.aA.length<=1000000)(hp:n.aF.length<=200000000000):
  Calls prog 66 #[↑mb,.agg (aL n q).toArray,↑i] w λe w'=>e=.returned (.int .i64 (s.alloc n i).2)/\SH B w' (cR mb (s.alloc n i).1::L):=by
 have h:=h.se
 refine Ea (args:=[_,_,_]) func66 rfl ntmps66 rfl ?_
 refine sq<|rg<|sf (bx h rfl rfl)<|?_
 rintro _ w ⟨b1,rfl,h⟩
 refine st (sg rfl)<|xe<|nx<|sq<|rg<|st (fa Bi rfl)<|sf (so h rfl rfl rfl wS rfl (.s (.s (.r .d))) u0)<|?_
 rintro _ w h
 refine st (fa tU rfl)<|sf (so h rfl rfl rfl wS rfl (.s (.s (.s (.s (.s (.s (.s (.s (.s (.r .d)))))))))) u0)<|?_
 rintro _ w h
 refine st (fa vS rfl)<|sf (so h rfl rfl rfl wS rfl (.s (.s (.s (.s (.s (.s (.s (.s (.s (.s (.s (.s (.s (.r .d)))))))))))))) u0)<|?_
 rintro _ w h
 refine xe<|nx<|?_
 refine sm (λe w=>∃s1:Ct.St,∃c2:Int,∃c9:Int,∃c13:Int,Sub 60 e (.c 0 (.pointer (some ⟨mb,0,none⟩)) (.c 4 (.pointer (some ⟨b1,0,none⟩)) .n))/\SH B w (bl b1 ([.int .i64 n.kind,.int .i64 n.gen,.int .i64 c2,.int .u64 (n.aD:Int),.slice q.pb n.aA.length q.cb,.int .u64 (n.hash:Int),.string n.key,.int .u64 (n.value:Int),.slice q.pp n.aF.length q.cp,.int .i64 c9,.int .i64 n.dC,.int .i64 n.aK,.int .i64 n.new,.int .i64 c13]) 112::bV 1 (.slice q.pb n.aA.length q.cb) n.aA.length (n.aA.map (Value.int .i64))::bV 2 (.slice q.pp n.aF.length q.cp) n.aF.length (n.aF.flatMap aR)::cR mb s1::L)/\(s.alloc n i=({s1 with aG:=s1.aG++[{n.bare with main:=c2,prev:=c9,status:=c13}]},(s.aG.length:Int)+3))/\(s1.aG=s.aG)/\(s1.size<=s.size+1)) ?_ ?_
 refine sq<|rg<|st (fa nO rfl)<|st (ld jE rfl (h.c a0 rfl))<|xe<|nx<|bk<|sq<|rg<|st (bi rfl rfl rfl)<|st (sg rfl)<|xe<|nx<|?_
 rcases mD ((n.kind:Int)==2)with hd2|hd2
 refine ct rfl hd2<|rg<|st (mv rfl)<|st (mv rfl)<|cl (ca eF rfl) ((kE mb s i (h.fr (.c r3 .n)) (by omega)).mono ?_)
 rintro _ w ⟨rfl,h⟩
 refine⟨_,rfl,?_⟩
 refine st (fa Bi rfl)<|sf (so h rfl rfl rfl wS rfl (.s (.s (.r .d))) u1)<|?_
 rintro _ w h
 refine xe<|bn<|nx<|?_
 exact⟨((s.aV i).1),(s.aV i).2,0,0,⟨rfl,rfl,trivial⟩,(h.fr (.c r1 (.c r1 (.c r1 (.c r0 .n))))),GP s n i (eq_of_beq hd2),rfl,(by simp only[Ct.St.aV,Ct.St.size,cO,CG];omega)⟩
 refine cf rfl hd2<|sq<|sq<|rg<|st (bi rfl rfl rfl)<|st (sg rfl)<|xe<|nx<|?_
 rcases mD ((n.kind:Int)==3)with hd5|hd5
 refine ct rfl hd5<|sk<|nx<|ct rfl hd5<|rg<|st (mv rfl)<|st (mv rfl)<|cl (ca eF rfl) ((kE mb s i (h.fr (.c r3 .n)) (by omega)).mono ?_)
 rintro _ w ⟨rfl,h⟩
 refine⟨_,rfl,?_⟩
 refine st (fa tU rfl)<|sf (so h rfl rfl rfl wS rfl (.s (.s (.s (.s (.s (.s (.s (.s (.s (.r .d)))))))))) u1)<|?_
 rintro _ w h
 refine xe<|bn<|nx<|?_
 exact⟨((s.aV i).1),0,(s.aV i).2,0,⟨rfl,rfl,trivial⟩,(h.fr (.c r1 (.c r1 (.c r1 (.c r0 .n))))),Gg s n i (by have:=eq_of_beq hd5;omega),rfl,(by simp only[Ct.St.aV,Ct.St.size,cO,CG];omega)⟩
 refine cf rfl hd5<|sq<|rg<|st (bi rfl rfl rfl)<|st (sg rfl)<|xe<|nx<|?_
 rcases mD ((n.kind:Int)==5)with hd8|hd8
 refine ct rfl hd8<|sk<|nx<|ct rfl hd8<|rg<|st (mv rfl)<|st (mv rfl)<|cl (ca eF rfl) ((kE mb s i (h.fr (.c r3 .n)) (by omega)).mono ?_)
 rintro _ w ⟨rfl,h⟩
 refine⟨_,rfl,?_⟩
 refine st (fa tU rfl)<|sf (so h rfl rfl rfl wS rfl (.s (.s (.s (.s (.s (.s (.s (.s (.s (.r .d)))))))))) u1)<|?_
 rintro _ w h
 refine xe<|bn<|nx<|?_
 exact⟨((s.aV i).1),0,(s.aV i).2,0,⟨rfl,rfl,trivial⟩,(h.fr (.c r1 (.c r1 (.c r1 (.c r0 .n))))),Gg s n i (by have:=eq_of_beq hd8;omega),rfl,(by simp only[Ct.St.aV,Ct.St.size,cO,CG];omega)⟩
 refine cf rfl hd8<|rg<|st (bi rfl rfl rfl)<|st (sg rfl)<|xe<|nx<|?_
 rcases mD ((n.kind:Int)==6)with hd11|hd11
 refine ct rfl hd11<|rg<|st (mv rfl)<|st (mv rfl)<|cl (ca eF rfl) ((kE mb s i (h.fr (.c r3 .n)) (by omega)).mono ?_)
 rintro _ w ⟨rfl,h⟩
 refine⟨_,rfl,?_⟩
 refine st (fa tU rfl)<|sf (so h rfl rfl rfl wS rfl (.s (.s (.s (.s (.s (.s (.s (.s (.s (.r .d)))))))))) u1)<|?_
 rintro _ w h
 refine xe<|bn<|nx<|?_
 exact⟨((s.aV i).1),0,(s.aV i).2,0,⟨rfl,rfl,trivial⟩,(h.fr (.c r1 (.c r1 (.c r1 (.c r0 .n))))),Gg s n i (by have:=eq_of_beq hd11;omega),rfl,(by simp only[Ct.St.aV,Ct.St.size,cO,CG];omega)⟩
 refine cf rfl hd11<|sq<|rg<|st (bi rfl rfl rfl)<|st (sg rfl)<|xe<|nx<|?_
 rcases mD ((n.kind:Int)==8)with hd14|hd14
 refine ct rfl hd14<|rg<|st (mv rfl)<|st (mv rfl)<|cl (ca eF rfl) ((kE mb s i (h.fr (.c r3 .n)) (by omega)).mono ?_)
 rintro _ w ⟨rfl,h⟩
 refine⟨_,rfl,?_⟩
 refine st (fa vS rfl)<|sf (so h rfl rfl rfl wS rfl (.s (.s (.s (.s (.s (.s (.s (.s (.s (.s (.s (.s (.s (.r .d)))))))))))))) u1)<|?_
 rintro _ w h
 refine xe<|bn<|nx<|?_
 exact⟨((s.aV i).1),0,0,(s.aV i).2,⟨rfl,rfl,trivial⟩,(h.fr (.c r1 (.c r1 (.c r1 (.c r0 .n))))),GQ s n i (eq_of_beq hd14),rfl,(by simp only[Ct.St.aV,Ct.St.size,cO,CG];omega)⟩
 refine cf rfl hd14<|sk<|bn<|nx<|?_
 exact⟨s,0,0,0,⟨rfl,rfl,trivial⟩,h,GN s n i (by have h0:=Pe hd2;have h1:=Pe hd5;have h2:=Pe hd8;have h3:=Pe hd11;have h4:=Pe hd14;omega),rfl,(by omega)⟩
 rintro e w ⟨s1,c2,c9,c13,hE,h,ha,hs1,hr1⟩
 refine C.sub hE ?_
 refine sq<|rg<|sf (bu [] h vC Fq rfl (by kernel_rfl) rfl (by decide) (by decide))<|?_
 rintro _ w ⟨b17,rfl,h⟩
 refine st (fa kF rfl)<|st (ld Jq rfl (h.c a1 rfl))<|sf (XN h a2 a0 vC rfl Fq rfl (by decide) rfl rfl (λ_=>u0) (oZ _) (xE _) (Xb _) (by unfold maxLen;omega) (by omega))<|?_
 rintro _ w ⟨p18,c19,rfl,h⟩
 refine st (fa kF rfl)<|sf (so h rfl rfl rfl VI rfl (.s (.s (.s (.s (.r .d))))) u1)<|?_
 rintro _ w h
 refine xe<|nx<|sq<|?_
 refine rg<|sf (bu [] h oW Pz rfl (by kernel_rfl) rfl (by decide) (by decide))<|?_
 rintro _ w ⟨b20,rfl,h⟩
 refine st (fa oP rfl)<|st (ld nL rfl (h.c a2 rfl))<|sf (XN h a4 a0 oW rfl Pz rfl (by decide) rfl rfl (λ_=>u0) (lU eU _) (xE _) (Xb _) (by unfold maxLen;omega) (by omega))<|?_
 rintro _ w ⟨p21,c22,rfl,h⟩
 refine st (fa oP rfl)<|sf (so h rfl rfl rfl AG rfl (.s (.s (.s (.s (.s (.s (.s (.s (.r .d))))))))) u2)<|?_
 rintro _ w h
 refine xe<|nx<|sq<|?_
 have hrm:s1.aG.length+s1.cells.length+s1.gen+s1.acc<=100000000001:=lK hr1 (by omega)
 have h:=h.fr (.c r5 .n)
 obtain⟨⟨pn,cn,pc,cc,zs⟩,hz0,h⟩:=h.mo
 have h:SH B w (bl mb ([.slice pn zs.length cn,.slice pc s1.cells.length cc,↑(s1.gen:Int),↑(s1.acc:Int)]) 69::aU 112 14 (.slice pn zs.length cn) zs.length (zs.flatMap cB)::aU 45 1 (.slice pc s1.cells.length cc) s1.cells.length (s1.cells.map (Value.int .i64))::bE zs::aU 146 2 (.slice p21 n.aF.length c22) n.aF.length (n.aF.flatMap aR)::aU 45 1 (.slice p18 n.aA.length c19) n.aA.length (n.aA.map (Value.int .i64))::bl b1 ([↑n.kind,↑n.gen,↑c2,.int .u64 (n.aD:Int),.slice p18 n.aA.length c19,.int .u64 (n.hash:Int),↑n.key,.int .u64 (n.value:Int),.slice p21 n.aF.length c22,↑c9,↑n.dC,↑n.aK,↑n.new,↑c13]) 112::bV 1 (.slice q.pb n.aA.length q.cb) n.aA.length (n.aA.map (Value.int .i64))::bV 2 (.slice q.pp n.aF.length q.cp) n.aF.length (n.aF.flatMap aR)::L):=h
 have hzs:zs.map Prod.fst=aW s1:=hz0
 clear hz0
 have hz:zs.length=2+s1.aG.length:=iC hzs
 refine w5 (F:=[bl mb ([.slice pn zs.length cn,.slice pc s1.cells.length cc,↑(s1.gen:Int),↑(s1.acc:Int)]) 69,bl b1 ([↑n.kind,↑n.gen,↑c2,.int .u64 (n.aD:Int),.slice p18 n.aA.length c19,.int .u64 (n.hash:Int),↑n.key,.int .u64 (n.value:Int),.slice p21 n.aF.length c22,↑c9,↑n.dC,↑n.aK,↑n.new,↑c13]) 112]) [1,3,5,7,9,11,13,14,16,18,20,23] 12 (by kernel_rfl) h (λw h=>(hC (h.at_ a0) (hC (h.at_ a6) hN))) λw h=>tk (λW H=>mv rfl)<|tk (λW H=>mv rfl)<|tk (λW H=>nc rfl rfl)<|tk (λW H=>fa Mk rfl)<|tk (λW H=>fa Uq rfl)<|tk (λW H=>ld GI rfl (H.c a0 rfl))<|tk (λW H=>gJ rfl (dK (H.b a1)) iI)<|ff (bu [↑n.kind,↑n.gen,↑c2,.int .u64 (n.aD:Int),.slice p18 n.aA.length c19,.int .u64 (n.hash:Int),↑n.key,.int .u64 (n.value:Int),.slice p21 n.aF.length c22,↑c9,↑n.dC,↑n.aK,↑n.new,↑c13] h Iu JI rfl (by kernel_rfl) rfl (by decide) (by decide))<|?_
 rintro _ w ⟨b23,rfl,h⟩
 refine⟨(hC (h.at_ a1) (hC (h.at_ a7) hN)),?_⟩
 refine ff (ap h Iu rfl JI rfl (by decide) rfl rfl (λ_=>u2) (h.ro a0) (by simp[Value.oneCell']) rfl (fW (enc:=cB) _ ({n.bare with main:=c2,prev:=c9,status:=c13},⟨p18,c19,p21,c22⟩)) (by unfold maxLen;omega) (by omega))<|?_
 rintro _ w ⟨p24,c25,rfl,h⟩
 refine⟨(hC (h.at_ a1) (hC (h.at_ a7) hN)),?_⟩
 refine ef (nc rfl rfl) ((hC (h.at_ a1) (hC (h.at_ a7) hN)))<|ef (fa Mk rfl) ((hC (h.at_ a1) (hC (h.at_ a7) hN)))<|tk (λW H=>fa Uq rfl)<|xzZ<|sf (so h rfl rfl rfl aAm rfl (.r .d) u1)<|?_
 rintro _ w h
 refine xe<|nx<|sq<|rg<|st (mv rfl)<|st (nc rfl rfl)<|st (fa Mk rfl)<|st (fa Uq rfl)<|st (ld GI rfl (h.c a1 rfl))<|st (ln Iu rfl rfl)<|st (sg rfl)<|xe<|nx<|rt<|?_
 refine rr (jP results66 rfl)<|?_
 rw[ha]
 have h:=(((h.fr (.c r0 (.c r6 (.c r6 (.c r6 .n))))).drop.drop.drop.drop.fr (.c r5 (.c r4 (.c r3 (.c r0 (.c r0 (.c r0 .n)))))))).fz.fr (.c r1 .n)
 have h:=h.fz.fr (.c r1 .n)
 have h:=SH.HU (n:={n.bare with main:=c2,prev:=c9,status:=c13}) (q:=⟨p18,c19,p21,c22⟩) h
 refine⟨?_,SH.mi ⟨p24,c25,pc,cc,zs++[({n.bare with main:=c2,prev:=c9,status:=c13},⟨p18,c19,p21,c22⟩)]⟩ ?_ ?_⟩
 rw[hz,hs1];congr 2;omega
 rw[tX,hzs];rfl
 unfold HM;dsimp only;rw[cO,CG];exact h.fr (.c r1 (.c r1 (.c r1 (.c r0 .n))))
end Go.Q9
end
section
namespace Go.Q9
open Go.Proofs.Tryz
open Go.E
theorem Vi:fo prog 77 0=some 0:=by kernel_rfl
theorem S9:fo prog 77 10=some 34:=by kernel_rfl
theorem oQ:fo prog 77 11=some 35:=by kernel_rfl
theorem Hw:fo prog 77 3=some 27:=by kernel_rfl
theorem Vu:fo prog 77 4=some 28:=by kernel_rfl
theorem Vc:fo prog 77 5=some 29:=by kernel_rfl
theorem Z0:fo prog 77 6=some 30:=by kernel_rfl
theorem Eo:fo prog 77 7=some 31:=by kernel_rfl
theorem Pu:fo prog 77 8=some 32:=by kernel_rfl
theorem Kt:fo prog 77 9=some 33:=by kernel_rfl
theorem UR:tA prog 73=true:=by kernel_rfl
theorem AA:tA prog 22=true:=by kernel_rfl
theorem Jp:tA prog 31=true:=by kernel_rfl
theorem vA:tA prog 24=true:=by kernel_rfl
theorem xN:tA prog 4=true:=by kernel_rfl
theorem YV:prog.underlying 73=some (.slice 24):=by kernel_rfl
theorem Mx:prog.underlying 22=some (.slice 3):=by kernel_rfl
theorem VZ:mR prog 3=some (.int .i64 0,1,8):=by kernel_rfl
theorem aAe:mR prog 24=some (.int .i64 0,1,8):=by kernel_rfl
theorem X2:(prog.info? 75).map (·.size)=some 4:=by kernel_rfl
theorem aCa:(prog.info? 73).map (·.size)=some 1:=by kernel_rfl
theorem ZC:(prog.info? 22).map (·.size)=some 1:=by kernel_rfl
theorem AU:(prog.info? 4).map (·.size)=some 1:=by kernel_rfl
end Go.Q9
end
