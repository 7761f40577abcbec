/- Parts of a proof: Ryd, Rye, Ryf, Ryg, Qya, Qyb, Qyc, Qyd, Qye, Qyf, Qyp, Qyg, Qyh, Qyi, Qyj, Qyk, Qyl, Qym, Qyn, Aya, Ar. -/
import Derived.Test.YtnhdmcipglnkfaaGreatW14
set_option linter.unusedVariables false
set_option linter.unusedSimpArgs false
set_option maxRecDepth 100000
set_option maxHeartbeats 4000000
section
namespace Go.Q9
open Go.Proofs.Tryz
open Go.E
theorem P0:fo prog 35 0=some 0:=by kernel_rfl
end Go.Q9
end
section
namespace Go.Q9
open Go.Proofs.Tryz
open Go.E
theorem CV:fo prog 35 1=some 1:=by kernel_rfl
theorem P5:fv prog 53 1=some (1,1,false):=by kernel_rfl
theorem xP:xA prog 35=some 2:=by kernel_rfl
end Go.Q9
end
section
namespace Go.Q9
open Go.Proofs.Tryz
open Go.E
theorem CI:KY prog 120=some ([.string .empty,.int .u64 0],[(0,1),(1,1)]):=by kernel_rfl
theorem ZL:WW prog 120=some [.s,.i .u64]:=by kernel_rfl
theorem KN:fo prog 120 0=some 0:=by kernel_rfl
theorem vV:tA prog 28=true:=by kernel_rfl
theorem uK:tA prog 9=true:=by kernel_rfl
theorem Ak:xA prog 120=some 2:=by kernel_rfl
theorem xO:(prog.info? 120).map (·.size)=some 2:=by kernel_rfl
theorem NZ:prog.underlying 9=some (.string):=by kernel_rfl
end Go.Q9
end
section
namespace Go.Q9
open Go.Proofs.Tryz
open Go.E
theorem xL:fo prog 53 1=some 1:=by kernel_rfl
theorem Ib:fo prog 53 10=some 10:=by kernel_rfl
theorem JP:fo prog 53 11=some 11:=by kernel_rfl
theorem HV:fo prog 53 12=some 12:=by kernel_rfl
theorem tM:fo prog 53 3=some 3:=by kernel_rfl
theorem P9:fo prog 53 5=some 5:=by kernel_rfl
theorem Ep:fo prog 53 6=some 6:=by kernel_rfl
theorem VV:fo prog 53 7=some 7:=by kernel_rfl
theorem RQ:(prog.info? 28).map (·.size)=some 1:=by kernel_rfl
end Go.Q9
end
section
namespace Go.Q9
open Go.Proofs.Tryz
open Go.E
end Go.Q9
end
section
namespace Go.Q9
open Go.Proofs.Tryz
open Go.E
theorem N4:KY prog 49=some ([.int .i64 0,↑false,.int .u64 0,.string .empty,.int .i64 0,.int .i64 0,.int .i64 0,↑false],[(0,1),(1,1),(2,1),(3,1),(4,1),(5,1),(6,2)]):=by kernel_rfl
theorem vI:fo prog 135 1=some 1:=by kernel_rfl
theorem Am:fo prog 60 1=some 1:=by kernel_rfl
theorem j1:fo prog 60 11=some 12:=by kernel_rfl
theorem VJ:fo prog 60 8=some 9:=by kernel_rfl
theorem vD:xA prog 49=some 8:=by kernel_rfl
theorem Ba:(prog.info? 35).map (·.size)=some 2:=by kernel_rfl
theorem oG:(prog.info? 49).map (·.size)=some 8:=by kernel_rfl
theorem n0:zc prog 35=some [.int .i64 0,↑false]:=by kernel_rfl
theorem i2:zc prog 49=some [.int .i64 0,↑false,.int .u64 0,.string .empty,.int .i64 0,.int .i64 0,.int .i64 0,↑false]:=by kernel_rfl
end Go.Q9
end
section
namespace Go.Q9
open Go.Proofs.Tryz
open Go.E
theorem VO:fo prog 60 9=some 10:=by kernel_rfl
end Go.Q9
end
section
namespace Go.Q9
open Go.Proofs.Tryz
open Go.E
end Go.Q9
end
section
namespace Go.Q9
open Go.Proofs.Tryz
open Go.E
end Go.Q9
end
section
namespace Go.Q9
open Go.Proofs.Tryz
open Go.E
theorem W1:KY prog 35=some ([.int .i64 0,↑false],[(0,1),(1,1)]):=by kernel_rfl
end Go.Q9
end
section
namespace Go.Q9
open Go.Proofs.Tryz
open Go.E
theorem d6:KY prog 211=some ([.int .i64 0,.int .i64 0],[(0,1),(1,1)]):=by kernel_rfl
theorem H':KY prog 58=some ([↑false,.slice none 0 0,.slice none 0 0],[(0,1),(1,1),(2,1)]):=by kernel_rfl
theorem JZ:fo prog 211 0=some 0:=by kernel_rfl
theorem l8:fo prog 211 1=some 1:=by kernel_rfl
theorem VR:fo prog 58 0=some 0:=by kernel_rfl
theorem xI:fo prog 58 1=some 1:=by kernel_rfl
theorem Ej:fo prog 58 2=some 2:=by kernel_rfl
theorem Tl:tA prog 56=true:=by kernel_rfl
theorem R8:xA prog 211=some 2:=by kernel_rfl
theorem lG:xA prog 58=some 3:=by kernel_rfl
theorem Bs:prog.underlying 56=some (.slice 211):=by kernel_rfl
theorem Cy:mR prog 211=some (.agg [.int .i64 0,.int .i64 0].toArray,2,16):=by kernel_rfl
theorem NX:(prog.info? 211).map (·.size)=some 2:=by kernel_rfl
theorem F8:(prog.info? 56).map (·.size)=some 1:=by kernel_rfl
theorem Bj:(prog.info? 58).map (·.size)=some 3:=by kernel_rfl
theorem QB:zc prog 120=some [.string .empty,.int .u64 0]:=by kernel_rfl
theorem W9:zc prog 211=some [.int .i64 0,.int .i64 0]:=by kernel_rfl
theorem k9:zc prog 58=some [↑false,.slice none 0 0,.slice none 0 0]:=by kernel_rfl
end Go.Q9
end
section
namespace Go.Q9
open Go.Proofs.Tryz
open Go.E
theorem XT:fo prog 135 13=some 40:=by kernel_rfl
theorem XO:fo prog 135 14=some 41:=by kernel_rfl
theorem BM:fo prog 60 0=some 0:=by kernel_rfl
theorem Aj:xA prog 60=some 25:=by kernel_rfl
theorem Di:(prog.info? 60).map (·.size)=some 25:=by kernel_rfl
theorem Hm:zc prog 60=some [.int .i64 0,.int .i64 0,↑false,.int .i64 0,.int .i64 0,.int .i64 0,.int .i64 0,.int .u64 0,.int .u64 0,.string .empty,.int .u64 0,.int .u64 0,.int .i64 0,↑false,↑false,.slice none 0 0,.slice none 0 0,.int .i64 0,↑false,.int .u64 0,.string .empty,.int .i64 0,.int .i64 0,.int .i64 0,↑false]:=by kernel_rfl
end Go.Q9
end
section
namespace Go.Q9
open Go.Proofs.Tryz
open Go.E
theorem Gc:prog.underlying 28=some (.int .u64):=by kernel_rfl
theorem Lw:prog.underlying 3=some (.int .i64):=by kernel_rfl
end Go.Q9
end
section
namespace Go.Q9
open Go.Proofs.Tryz
open Go.E
end Go.Q9
end
section
namespace Go.Q9
open Go.Proofs.Tryz
open Go.E
end Go.Q9
end
section
namespace Go.Q9
open Go.Proofs.Tryz
open Go.E
theorem Zt:KY prog 60=some ([.int .i64 0,.int .i64 0,↑false,.int .i64 0,.int .i64 0,.int .i64 0,.int .i64 0,.int .u64 0,.int .u64 0,.string .empty,.int .u64 0,.int .u64 0,.int .i64 0,↑false,↑false,.slice none 0 0,.slice none 0 0,.int .i64 0,↑false,.int .u64 0,.string .empty,.int .i64 0,.int .i64 0,.int .i64 0,↑false],[(0,1),(1,2),(3,1),(4,1),(5,1),(6,1),(7,1),(8,1),(9,1),(10,1),(11,1),(12,1),(13,1),(14,3),(17,8)]):=by kernel_rfl
theorem R9:fo prog 32 1=some 1:=by kernel_rfl
theorem xK:fo prog 32 2=some 2:=by kernel_rfl
theorem Jo:tA prog 29=true:=by kernel_rfl
theorem Mu:prog.underlying 29=some (.slice 35):=by kernel_rfl
end Go.Q9
end
section
namespace Go.Q9
open Go.Proofs.Tryz
open Go.E
theorem Af:fo prog 32 3=some 3:=by kernel_rfl
theorem nC:tA prog 30=true:=by kernel_rfl
theorem Td:prog.underlying 30=some (.slice 81):=by kernel_rfl
theorem V7:mR prog 35=some (.agg [.int .i64 0,↑false].toArray,2,16):=by kernel_rfl
theorem Z7:mR prog 81=some (.pointer none,1,8):=by kernel_rfl
theorem V2:(prog.info? 29).map (·.size)=some 1:=by kernel_rfl
theorem Vu:(prog.info? 30).map (·.size)=some 1:=by kernel_rfl
end Go.Q9
end
section
namespace Go.Q9
open Go.Proofs.Tryz
open Go.E
theorem RT:fo prog 32 0=some 0:=by kernel_rfl
end Go.Q9
end
section
namespace Go.Q9
open Go.Proofs.Tryz
open Go.E
theorem N':KY prog 32=some ([.pointer none,.int .u64 0,.slice none 0 0,.slice none 0 0],[(0,1),(1,1),(2,1),(3,1)]):=by kernel_rfl
theorem D7:tA prog 81=true:=by kernel_rfl
theorem W3:(prog.info? 81).map (·.size)=some 1:=by kernel_rfl
end Go.Q9
end
section
namespace Go.Q9
open Go.Proofs.Tryz
open Go.E
theorem KU:fo prog 105 0=some 0:=by kernel_rfl
end Go.Q9
end
section
namespace Go.Q9
open Go.Proofs.Tryz
open Go.RowKit Go.E
attribute [local irreducible] gB wpS Go.E.X XS C jU kP fin Y U F Ca jT bl rb aU bV ex ce pu sK gK bK zK gM fO dH gP nE
theorem IP(s:Ct.St){r:Int}(h:1<=r)(h2:r<=2):s.node r=Ct.gY:=by
 unfold Ct.St.node Ct.St.nodes;rw[if_neg (by omega),if_pos h2]
theorem PO{zs:List (Ct.Node×Lq)}{s:Ct.St}(h:zs.map Prod.fst=s.aG){r:Int}{j:Nat}(hj:r-2-1=(j:Int))(hl:j<zs.length):zs.getD j ({},{})∈zs/\(zs.getD j ({},{})).1=s.node r:=by
 have e:zs.getD j ({},{})=zs[j]:=by rw[dI,fM hl];rfl
 have hz:zs.length=s.aG.length:=by rw[<- h,PQ]
 rw[e]
 refine⟨wU _,?_⟩
 have h1:(zs.map Prod.fst)[j]?=some zs[j].1:=by rw[Fb,fM hl];rfl
 rw[h]at h1
 unfold Ct.St.node Ct.St.nodes
 rw[if_neg (by omega),if_neg (by omega)]
 have e2:r.toNat-3=j:=by omega
 rw[e2,dI,h1];rfl
theorem zS{L:Nat}{n:Ct.Node}(h:n.Fit L)(hL:L<=150000000000):n.aA.length<=1000000/\n.aF.length<=200000000000:=⟨h.1.1,lK h.1.2.1 (by omega)⟩
theorem Xd{n:Ct.Node}(h:n.bM=true):n.kind=3\/n.kind=5\/n.kind=6:=by unfold Ct.Node.bM at h;simpa[or_assoc]using h
theorem KH{n:Ct.Node}(h2:n.kind≠2)(hm:n.bM=false)(h8:n.kind≠8):n.kind≠2/\n.kind≠3/\n.kind≠5/\n.kind≠6/\n.kind≠8:=by
 unfold Ct.Node.bM at hm
 simp at hm
 exact⟨h2,hm.1.1,hm.1.2,hm.2,h8⟩
variable{B w:World}{L:List As}
theorem Ui(l:List Int)(p:Option Addr)(c:Nat)(h:SH B w (bV 1 (.slice p l.length c) l.length (l.map (Value.int .i64))::L))(hl:l.length<=1000000):
  Calls prog 107 #[.slice p l.length c] w λe w'=>∃p' c',e=.returned (.slice p' l.length c')/\SH B w' (bV 1 (.slice p' l.length c') l.length (l.map (Value.int .i64))::L):=by
 refine bZ func107 ntmps107 h λw h=>?_
 refine qc h (λhd1 w h=>?_) λhd1 w h=>?_
 have hg2:=eq_of_beq hd1
 refine go h λw h=>?_
 refine rz ?_
 have hl:l=[]:=List.length_eq_zero_iff.1 (by have:=eq_of_beq hd1;omega)
 exact⟨none,0,by subst hl;rfl,by subst hl;exact SH.GZ 1 h.drop⟩
 have hg3:=dP hd1
 refine go h λw h=>?_
 refine sf (mk h fR.h Ss.h rfl rfl (by omega) (by unfold maxLen;omega)) ?_
 rintro _ w ⟨b4,rfl,h⟩
 refine go h λw h=>?_
 rw[OC]at h
 refine go h λw h=>?_
 obtain⟨b5,o6,rfl⟩:=h.fq a1 (by first|omega|(rcases l with _|⟨_,_⟩<;>simp at *<;>omega))
 refine sf (J0 h a1 fR.h Sz.h rfl rfl u0 (oZ _) rfl) ?_
 rintro _ w ⟨rfl,h⟩
 refine go h λw h=>?_
 exact rz ⟨_,_,rfl,SH.fz h.to⟩
theorem HN(l:List Ct.bN)(p:Option Addr)(c:Nat)(h:SH B w (bV 2 (.slice p l.length c) l.length (l.flatMap aR)::L))(hl:l.length<=200000000000):
  Calls prog 108 #[.slice p l.length c] w λe w'=>∃p' c',e=.returned (.slice p' l.length c')/\SH B w' (bV 2 (.slice p' l.length c') l.length (l.flatMap aR)::L):=by
 refine bZ func108 ntmps108 h λw h=>?_
 refine qc h (λhd1 w h=>?_) λhd1 w h=>?_
 have hg2:=eq_of_beq hd1
 refine go h λw h=>?_
 refine rz ?_
 have hl:l=[]:=List.length_eq_zero_iff.1 (by have:=eq_of_beq hd1;omega)
 exact⟨none,0,by subst hl;rfl,by subst hl;exact SH.GZ 2 h.drop⟩
 have hg3:=dP hd1
 refine go h λw h=>?_
 refine sf (mk h fR.h Ss.h rfl rfl (by omega) (by unfold maxLen;omega)) ?_
 rintro _ w ⟨b4,rfl,h⟩
 refine go h λw h=>?_
 obtain⟨b5,o6,rfl⟩:=h.fq a1 (by first|omega|(rcases l with _|⟨_,_⟩<;>simp at *<;>omega))
 refine sf (J0 h a1 fR.h Sz.h rfl rfl u0 (lU eU _) rfl) ?_
 rintro _ w ⟨rfl,h⟩
 refine go h λw h=>?_
 exact rz ⟨_,_,rfl,SH.fz h.to⟩
theorem wP(n:Ct.Node)(q:Lq)(h:SH B w (aM n q::L))(hb:n.aA.length<=1000000)(hp:n.aF.length<=200000000000):
  Calls prog 72 #[.agg (aL n q).toArray] w λe w'=>∃q',e=.returned (.agg (aL n q').toArray)/\SH B w' (aM n q'::L):=by
 have h:=h.se
 refine bZ func72 ntmps72 h λw h=>?_
 refine jX h λb1 w h=>?_
 refine jA h λb2 w h=>?_
 refine Sd (Ui _ _ _ h.to (by omega)) λp3 c4 w h=>?_
 refine Sd (HN _ _ _ h.to (by omega)) λp5 c6 w h=>?_
 exact rr (bP rfl rfl (h.b a2) Row.h)<|⟨⟨p3,c4,p5,c6⟩,rfl,SH.is (l:=[_,_]) (h.to.fr (.c r1 (.c r0 .n)))⟩
theorem tB(n:Ct.Node)(q:Lq)(h:SH B w (L)):
  Calls prog 111 #[.agg (aL n q).toArray] w λe w'=>e=.returned ↑n.bM/\SH B w' L:=by
 refine bZ func111 ntmps111 h λw h=>?_
 refine jX h λb1 w h=>?_
 refine qc h (λhd2 w h=>?_) λhd2 w h=>?_
 have hg3:=eq_of_beq hd2
 refine go h λw h=>?_
 refine rz ?_
 have hm:n.bM=true:=by unfold Ct.Node.bM;rw[hd2];simp
 exact⟨by rw[hm],h.drop⟩
 have hg4:=dP hd2
 refine go h λw h=>?_
 refine qc h (λhd5 w h=>?_) λhd5 w h=>?_
 have hg6:=eq_of_beq hd5
 refine go h λw h=>?_
 refine rz ?_
 have hm:n.bM=true:=by unfold Ct.Node.bM;rw[hd2,hd5];simp
 exact⟨by rw[hm],h.drop⟩
 have hg7:=dP hd5
 refine go h λw h=>?_
 refine qc h (λhd8 w h=>?_) λhd8 w h=>?_
 have hg9:=eq_of_beq hd8
 refine go h λw h=>?_
 refine rz ?_
 have hm:n.bM=true:=by unfold Ct.Node.bM;rw[hd2,hd5,hd8];simp
 exact⟨by rw[hm],h.drop⟩
 have hg10:=dP hd8
 refine go h λw h=>?_
 refine rz ?_
 have hm:n.bM=false:=by unfold Ct.Node.bM;rw[hd2,hd5,hd8];rfl
 exact⟨by rw[hm],h.drop⟩
theorem Ym(ab:Nat)(s:Ct.St)(h:SH B w (wW ab s::L))(hr:s.size<=100000000000):
  Calls prog 323 #[↑ab] w λe w'=>e=.returned ↑s.bS.2/\SH B w' (wW ab s.bS.1::L):=by
 obtain⟨⟨pn,cn,pc,cc,zs⟩,hz0,h⟩:=h.ao
 have h:SH B w (bl ab ([.slice pn zs.length cn,.slice pc s.cells.length cc,↑(s.gen:Int),↑(s.acc:Int)]) 105::aU 53 14 (.slice pn zs.length cn) zs.length (zs.flatMap cB)::aU 44 1 (.slice pc s.cells.length cc) s.cells.length (s.cells.map (Value.int .i64))::bE zs::L):=h
 have hzs:zs.map Prod.fst=s.aG:=hz0
 clear hz0
 have hz:zs.length=s.aG.length:=by rw[<- hzs,PQ]
 have hrm:s.aG.length+s.cells.length+s.gen+s.acc<=100000000000:=hr
 refine bZ func323 ntmps323 h λw h=>?_
 exact rz ⟨rfl,(SH.ai ⟨_,_,_,_,_⟩ hzs h)⟩
theorem tK(ab:Nat)(s:Ct.St)(i:Int)(h:SH B w (wW ab s::L))(hr:s.size<=100000000000):
  Calls prog 322 #[↑ab,↑i] w λe w'=>e=.returned (.int .i64 (s.aV i).2)/\SH B w' (wW ab (s.aV i).1::L):=by
 obtain⟨⟨pn,cn,pc,cc,zs⟩,hz0,h⟩:=h.ao
 have h:SH B w (bl ab ([.slice pn zs.length cn,.slice pc s.cells.length cc,↑(s.gen:Int),↑(s.acc:Int)]) 105::aU 53 14 (.slice pn zs.length cn) zs.length (zs.flatMap cB)::aU 44 1 (.slice pc s.cells.length cc) s.cells.length (s.cells.map (Value.int .i64))::bE zs::L):=h
 have hzs:zs.map Prod.fst=s.aG:=hz0
 clear hz0
 have hrm:s.aG.length+s.cells.length+s.gen+s.acc<=100000000000:=hr
 refine bZ func322 ntmps322 h λw h=>?_
 refine sf (bu [↑i] h fR.h Ss.h rfl (by kernel_rfl) rfl (by decide) (by decide)) ?_
 rintro _ w ⟨b1,rfl,h⟩
 refine go h λw h=>?_
 refine sf (ap h fR.h rfl Ss.h rfl (by decide) rfl rfl (λ_=>u3) (h.ro a0) (by simp[Value.oneCell']) rfl (gI _ _) (by unfold maxLen;omega) (by omega)) ?_
 rintro _ w ⟨p2,c3,rfl,h⟩
 refine go h λw h=>?_
 refine rz ?_
 exact⟨by simp[Ct.St.aV],SH.ai ⟨pn,cn,p2,c3,zs⟩ hzs (by unfold VA;dsimp only[Ct.St.aV];rw[cO,CG];exact h.drop)⟩
theorem Xj(ab:Nat)(vn vg va:Value)(pc:Option Addr)(n cc:Nat)(c:Int)(h:SH B w (bl ab ([vn,.slice pc n cc,vg,va]) 105::L)):
  Calls prog 324 #[↑ab,↑c] w λe w'=>e=.returned (.bool (decide (1<=c)&&decide (c<=(n:Int))))/\SH B w' (bl ab ([vn,.slice pc n cc,vg,va]) 105::L):=by
 refine bZ func324 ntmps324 h λw h=>?_
 refine qg h (λhd1 w h=>?_) λhd1 w h=>?_
 ·have hg2:=eC hd1
  refine go h λw h=>?_
  refine rz ?_
  refine⟨?_,h⟩
  congr 2;simp;omega
 ·have hg3:=cW hd1
  refine go h λw h=>?_
  refine rz ?_
  refine⟨?_,h⟩
  congr 2;simp;omega
theorem yS(ab:Nat)(vc vg va:Value)(pn:Option Addr)(n cn:Nat)(h:SH B w (bl ab ([.slice pn n cn,vc,vg,va]) 105::L))(hn:n<=200000000000):
  Calls prog 47 #[↑ab] w λe w'=>e=.returned (.int .i64 ((2+n:Nat):Int))/\SH B w' (bl ab ([.slice pn n cn,vc,vg,va]) 105::L):=by
 refine bZ func47 ntmps47 h λw h=>?_
 refine st (ba ((2+n:Nat):Int))<|go h λw h=>?_
 exact rz ⟨rfl,h⟩
theorem IT(ab:Nat)(s:Ct.St)(c:Int)(h:SH B w (wW ab s::L))(hr:s.size<=100000000000):
  Calls prog 321 #[↑ab,↑c] w λe w'=>e=.returned (.int .i64 (s.load c).2)/\SH B w' (wW ab (s.load c).1::L):=by
 obtain⟨⟨pn,cn,pc,cc,zs⟩,hz0,h⟩:=h.ao
 have h:SH B w (bl ab ([.slice pn zs.length cn,.slice pc s.cells.length cc,↑(s.gen:Int),↑(s.acc:Int)]) 105::aU 53 14 (.slice pn zs.length cn) zs.length (zs.flatMap cB)::aU 44 1 (.slice pc s.cells.length cc) s.cells.length (s.cells.map (Value.int .i64))::bE zs::L):=h
 have hzs:zs.map Prod.fst=s.aG:=hz0
 clear hz0
 have hrm:s.aG.length+s.cells.length+s.gen+s.acc<=100000000000:=hr
 refine bZ func321 ntmps321 h λw h=>?_
 refine bA (Xj _ _ _ _ _ _ _ _ h.to) λw h=>?_
 refine qc h (λhd1 w h=>?_) λhd1 w h=>?_
 have hd2:=(lC _).mp hd1
 refine go h λw h=>?_
 exact rz ⟨by rw[show (s.load c).2=0 from Bl (by have:=hd2;simp at this;omega)],(SH.ai ⟨_,_,_,_,_⟩ hzs h)⟩
 have hd3:=(bI _).mp hd1
 refine go h λw h=>?_
 obtain⟨hc1,hc2⟩:1<=c/\c<=(s.cells.length:Int):=by simpa using hd3
 obtain⟨j,hj⟩:∃j:Nat,c-1=(j:Int):=⟨(c-1).toNat,by omega⟩
 refine st (bs (j:Int))<|go h λw h=>?_
 obtain⟨b4,rfl⟩:=h.fp a2 (by omega)
 refine go h λw h=>?_
 exact rz ⟨by rw[show (s.load c).2=s.cells.getD j 0 from Wh hj (by omega)],(SH.ai ⟨_,_,_,_,_⟩ hzs h)⟩
theorem PR(ab:Nat)(s:Ct.St)(c o n:Int)(h:SH B w (wW ab s::L))(hr:s.size<=100000000000):
  Calls prog 320 #[↑ab,↑c,↑o,↑n] w λe w'=>e=.returned (.bool (s.eA c o n).2)/\SH B w' (wW ab (s.eA c o n).1::L):=by
 obtain⟨⟨pn,cn,pc,cc,zs⟩,hz0,h⟩:=h.ao
 have h:SH B w (bl ab ([.slice pn zs.length cn,.slice pc s.cells.length cc,↑(s.gen:Int),↑(s.acc:Int)]) 105::aU 53 14 (.slice pn zs.length cn) zs.length (zs.flatMap cB)::aU 44 1 (.slice pc s.cells.length cc) s.cells.length (s.cells.map (Value.int .i64))::bE zs::L):=h
 have hzs:zs.map Prod.fst=s.aG:=hz0
 clear hz0
 have hrm:s.aG.length+s.cells.length+s.gen+s.acc<=100000000000:=hr
 refine bZ func320 ntmps320 h λw h=>?_
 refine bA (Xj _ _ _ _ _ _ _ _ h.to) λw h=>?_
 refine qg h (λhd1 w h=>?_) λhd1 w h=>?_
 have hd2:=(lC _).mp hd1
 refine go h λw h=>?_
 refine rz ?_
 rw[DU (by have:=hd2;simp at this;omega)];exact⟨rfl,(SH.ai ⟨_,_,_,_,_⟩ hzs h)⟩
 have hd3:=(bI _).mp hd1
 refine go h λw h=>?_
 obtain⟨hc1,hc2⟩:1<=c/\c<=(s.cells.length:Int):=by simpa using hd3
 obtain⟨j,hj⟩:∃j:Nat,c-1=(j:Int):=⟨(c-1).toNat,by omega⟩
 refine st (bs (j:Int))<|go h λw h=>?_
 obtain⟨b4,rfl⟩:=h.fp a2 (by omega)
 refine go h λw h=>?_
 refine qc h (λhd5 w h=>?_) λhd5 w h=>?_
 have hg6:=bne_iff_ne.1 hd5
 refine go h λw h=>?_
 refine rz ?_
 rw[LD hj (by omega) (by omega)];exact⟨rfl,(SH.ai ⟨_,_,_,_,_⟩ hzs h)⟩
 have hg7:=eS hd5
 refine go h λw h=>?_
 refine st (bs (j:Int))<|go h λw h=>?_
 refine sf (F4 h Sz.h rfl rfl (by omega) u2) ?_
 rintro _ w h
 refine go h λw h=>?_
 refine rz ?_
 rw[FV hj (by omega) (by omega)];exact⟨rfl,SH.ai ⟨pn,cn,some ⟨b4,0,none⟩,cc,zs⟩ hzs (by unfold VA;dsimp only;rw[uZ];exact h)⟩
theorem Ey(ab:Nat)(s:Ct.St)(r:Int)(h:SH B w (wW ab s::L))(hr:s.size<=100000000000)(hf:Ct.eK s):
  Calls prog 48 #[↑ab,↑r] w λe w'=>∃q,e=.returned (.agg (aL (s.node r) q).toArray)/\SH B w' (aM (s.node r) q::wW ab s::L):=by
 obtain⟨⟨pn,cn,pc,cc,zs⟩,hz0,h⟩:=h.ao
 have h:SH B w (bl ab ([.slice pn zs.length cn,.slice pc s.cells.length cc,↑(s.gen:Int),↑(s.acc:Int)]) 105::aU 53 14 (.slice pn zs.length cn) zs.length (zs.flatMap cB)::aU 44 1 (.slice pc s.cells.length cc) s.cells.length (s.cells.map (Value.int .i64))::bE zs::L):=h
 have hzs:zs.map Prod.fst=s.aG:=hz0
 clear hz0
 have hz:zs.length=s.aG.length:=by rw[<- hzs,PQ]
 have hrm:s.aG.length+s.cells.length+s.gen+s.acc<=100000000000:=hr
 refine bZ func48 ntmps48 h λw h=>?_
 refine jA h λb1 w h=>?_
 refine qg h (λhd2 w h=>?_) λhd2 w h=>?_
 ·have hg3:=eC hd2
  refine go h λw h=>?_
  refine rr (bP rfl rfl (h.b a0) Row.h) ?_
  rw[wV s r (by omega)];exact⟨{},rfl,SH.eE _ rfl rfl (SH.ai ⟨_,_,_,_,_⟩ hzs h.drop)⟩
 ·have hg4:=cW hd2
  refine go h λw h=>?_
  refine bA (yS _ _ _ _ _ _ _ h.to (by omega)) λw h=>?_
  refine qc h (λhd5 w h=>?_) λhd5 w h=>?_
  ·have hg6:=eC hd5
   refine go h λw h=>?_
   refine rr (bP rfl rfl (h.b a1) Row.h) ?_
   rw[wV s r (by omega)];exact⟨{},rfl,SH.eE _ rfl rfl (SH.ai ⟨_,_,_,_,_⟩ hzs (h.fr (.c r1 .n)).drop)⟩
  ·have hg7:=cW hd5
   refine go h λw h=>?_
   refine qc h (λhd8 w h=>?_) λhd8 w h=>?_
   ·have hg9:=eC hd8
    refine go h λw h=>?_
    refine rr (bP rfl rfl (h.b a1) Row.h) ?_
    rw[IP s (r:=r) (by omega) (by omega)];exact⟨{},rfl,SH.eE _ rfl rfl (SH.ai ⟨_,_,_,_,_⟩ hzs (h.fr (.c r1 .n)).drop)⟩
   ·have hg10:=cW hd8
    refine go h λw h=>?_
    refine st (bs (r-2))<|go h λw h=>?_
    obtain⟨j,hj⟩:∃j:Nat,r-2-1=(j:Int):=⟨(r-2-1).toNat,by omega⟩
    refine st (bs (j:Int))<|go h λw h=>?_
    obtain⟨b11,rfl⟩:=h.fp a2 (by omega)
    refine go h λw h=>?_
    refine st (gJ rfl ((h.ro a2).x fN (by decide) (by omega) ({},{})) Row.h)<|go h λw h=>?_
    obtain⟨hm,hn⟩:=PO hzs hj (by omega)
    have h:=h.Ll a4 hm
    have hfj:=hf.node r
    rw[<- hn]at hfj
    refine cG (wP _ _ h.to (zS hfj (by omega)).1 (zS hfj (by omega)).2) λq12 w h=>?_
    refine rr (bP rfl rfl (h.b a2) Row.h) ?_
    rw[<- hn];exact⟨_,rfl,((SH.ai ⟨_,_,_,_,_⟩ hzs ((h.fr (.c r2 .n)).drop.fr (.c r1 (.c r1 (.c r1 (.c r1 .n)))))).fr (.c r1 .n))⟩
section
attribute [local semireducible] gB wpS Go.E.X XS C jU kP fin Y U F Ca jT bl rb aU bV ex ce pu sK gK bK zK gM fO dH gP nE
attribute [local irreducible] gB wpS
variable{B w:World}{L:List As}
theorem CE(ab:Nat)(s:Ct.St)(n:Ct.Node)(q:Lq)(i:Int)(h:SH B w (aM n q::wW ab s::L))(hr:s.size<=100000000000)(hb:n.aA.length<=1000000)(hp:n.aF.length<=200000000000):
  Calls prog 319 #[↑ab,.agg (aL n q).toArray,↑i] w λe w'=>e=.returned (.int .i64 (s.alloc n i).2)/\SH B w' (wW ab (s.alloc n i).1::L):=by
 refine Ea (args:=[_,_,_]) func319 rfl ntmps319 rfl ?_
 refine sq<|rg<|sf (bx h rfl rfl)<|?_
 rintro _ w ⟨b1,rfl,h⟩
 refine st (sg rfl)<|xe<|nx<|sq<|rg<|st (gJ rfl (dK (h.b a0)) iR)<|cl (ca eF rfl) ((wP n q (h.fr (.c r1 .n)) hb hp).mono ?_)
 rintro _ w ⟨q2,rfl,h⟩
 refine⟨_,rfl,?_⟩
 refine sf (so h rfl rfl rfl qH rfl (.r (.r (.r (.r (.r (.r (.r (.r (.r (.r (.r (.r (.r (.r .d)))))))))))))) u1)<|?_
 rintro _ w h
 refine xe<|nx<|sq<|rg<|st (fa Eo rfl)<|sf (so h rfl rfl rfl wI rfl (.s (.s (.r .d))) u1)<|?_
 rintro _ w h
 refine st (fa xG rfl)<|sf (so h rfl rfl rfl wI rfl (.s (.s (.s (.s (.s (.s (.s (.s (.s (.r .d)))))))))) u1)<|?_
 rintro _ w h
 refine st (fa xY rfl)<|sf (so h rfl rfl rfl wI rfl (.s (.s (.s (.s (.s (.s (.s (.s (.s (.s (.s (.s (.s (.r .d)))))))))))))) u1)<|?_
 rintro _ w h
 refine xe<|nx<|?_
 refine sm (λe w=>∃s1:Ct.St,∃c2:Int,∃c9:Int,∃c13:Int,Sub 47 e (.c 0 (.pointer (some ⟨ab,0,none⟩)) (.c 4 (.pointer (some ⟨b1,0,none⟩)) .n))/\SH B w (bl b1 ([.int .i64 n.kind,.int .i64 n.gen,.int .i64 c2,.int .u64 (n.aD:Int),.slice q2.pb n.aA.length q2.cb,.int .u64 (n.hash:Int),.string n.key,.int .u64 (n.value:Int),.slice q2.pp n.aF.length q2.cp,.int .i64 c9,.int .i64 n.dC,.int .i64 n.aK,.int .i64 n.new,.int .i64 c13]) 53::aM n q2::wW ab s1::L)/\(s.alloc n i=({s1 with aG:=s1.aG++[{n.bare with main:=c2,prev:=c9,status:=c13}]},(s.aG.length:Int)+3))/\(s1.aG=s.aG)/\(s1.size<=s.size+1)) ?_ ?_
 ·refine bk<|sq<|rg<|st (fa nN rfl)<|st (ld jE rfl (h.c a1 rfl))<|st (bi rfl rfl rfl)<|st (sg rfl)<|xe<|nx<|?_
  rcases dA ((n.kind:Int)==2)with hd3|hd3
  ·refine ct rfl hd3<|rg<|st (mv rfl)<|st (mv rfl)<|cl (ca eF rfl) ((tK ab s i (h.fr (.c r2 .n)) (by omega)).mono ?_)
   rintro _ w ⟨rfl,h⟩
   refine⟨_,rfl,?_⟩
   refine st (fa Eo rfl)<|sf (so h rfl rfl rfl wI rfl (.s (.s (.r .d))) u2)<|?_
   rintro _ w h
   refine xe<|bn<|nx<|?_
   exact⟨(s.aV i).1,(s.aV i).2,0,0,⟨rfl,rfl,trivial⟩,(h.fr (.c r2 (.c r1 (.c r0 .n)))),GP s n i (eq_of_beq hd3),rfl,(by simp only[Ct.St.aV,Ct.St.size,cO,CG];omega)⟩
  ·refine cf rfl hd3<|sq<|rg<|st (gJ rfl (dK (h.b a1)) iR)<|cl (ca eF rfl) ((tB ({n with main:=0,prev:=0,status:=0}) q2 (h.fr .n)).mono ?_)
   rintro _ w ⟨rfl,h⟩
   refine⟨_,rfl,?_⟩
   refine st (sg rfl)<|xe<|nx<|?_
   rcases dA n.bM with hd6|hd6
   ·refine ct rfl hd6<|rg<|st (mv rfl)<|st (mv rfl)<|cl (ca eF rfl) ((tK ab s i (h.fr (.c r2 .n)) (by omega)).mono ?_)
    rintro _ w ⟨rfl,h⟩
    refine⟨_,rfl,?_⟩
    refine st (fa xG rfl)<|sf (so h rfl rfl rfl wI rfl (.s (.s (.s (.s (.s (.s (.s (.s (.s (.r .d)))))))))) u2)<|?_
    rintro _ w h
    refine xe<|bn<|nx<|?_
    exact⟨(s.aV i).1,0,(s.aV i).2,0,⟨rfl,rfl,trivial⟩,(h.fr (.c r2 (.c r1 (.c r0 .n)))),Pl s n i (Xd hd6),rfl,(by simp only[Ct.St.aV,Ct.St.size,cO,CG];omega)⟩
   ·refine cf rfl hd6<|sq<|rg<|st (fa nN rfl)<|st (ld jE rfl (h.c a1 rfl))<|st (bi rfl rfl rfl)<|st (sg rfl)<|xe<|nx<|?_
    rcases dA ((n.kind:Int)==8)with hd7|hd7
    ·refine ct rfl hd7<|rg<|st (mv rfl)<|st (mv rfl)<|cl (ca eF rfl) ((tK ab s i (h.fr (.c r2 .n)) (by omega)).mono ?_)
     rintro _ w ⟨rfl,h⟩
     refine⟨_,rfl,?_⟩
     refine st (fa xY rfl)<|sf (so h rfl rfl rfl wI rfl (.s (.s (.s (.s (.s (.s (.s (.s (.s (.s (.s (.s (.s (.r .d)))))))))))))) u2)<|?_
     rintro _ w h
     refine xe<|bn<|nx<|?_
     exact⟨(s.aV i).1,0,0,(s.aV i).2,⟨rfl,rfl,trivial⟩,(h.fr (.c r2 (.c r1 (.c r0 .n)))),GQ s n i (eq_of_beq hd7),rfl,(by simp only[Ct.St.aV,Ct.St.size,cO,CG];omega)⟩
    ·refine cf rfl hd7<|sk<|bn<|nx<|?_
     exact⟨s,0,0,0,⟨rfl,rfl,trivial⟩,(h.fr (.c r1 (.c r0 (.c r0 .n)))),GN s n i (KH (dP hd3) hd6 (dP hd7)),rfl,(by omega)⟩
 rintro e w ⟨s1,c2,c9,c13,hE,h,ha,hs1,hr1⟩
 refine C.sub hE ?_
 refine sq<|?_
 have hrm:s1.aG.length+s1.cells.length+s1.gen+s1.acc<=100000000001:=lK hr1 (by omega)
 have h:=h.fr (.c r2 .n)
 obtain⟨⟨pn,cn,pc,cc,zs⟩,hz0,h⟩:=h.ao
 have h:SH B w (bl ab ([.slice pn zs.length cn,.slice pc s1.cells.length cc,↑(s1.gen:Int),↑(s1.acc:Int)]) 105::aU 53 14 (.slice pn zs.length cn) zs.length (zs.flatMap cB)::aU 44 1 (.slice pc s1.cells.length cc) s1.cells.length (s1.cells.map (Value.int .i64))::bE zs::bl b1 ([↑n.kind,↑n.gen,↑c2,.int .u64 (n.aD:Int),.slice q2.pb n.aA.length q2.cb,.int .u64 (n.hash:Int),↑n.key,.int .u64 (n.value:Int),.slice q2.pp n.aF.length q2.cp,↑c9,↑n.dC,↑n.aK,↑n.new,↑c13]) 53::aM n q2::L):=h
 have hzs:zs.map Prod.fst=s1.aG:=hz0
 clear hz0
 have hz:zs.length=s1.aG.length:=by rw[<- hzs,PQ]
 refine Uc (F:=[bl ab ([.slice pn zs.length cn,.slice pc s1.cells.length cc,↑(s1.gen:Int),↑(s1.acc:Int)]) 105,bl b1 ([↑n.kind,↑n.gen,↑c2,.int .u64 (n.aD:Int),.slice q2.pb n.aA.length q2.cb,.int .u64 (n.hash:Int),↑n.key,.int .u64 (n.value:Int),.slice q2.pp n.aF.length q2.cp,↑c9,↑n.dC,↑n.aK,↑n.new,↑c13]) 53]) [(true,[1,3,5,7,9,11,12,14,17,19]),(false,[20])] (by kernel_rfl) h (λw h=>(hC (h.at_ a0) (hC (h.at_ a4) hN))) λw h=>VP<|tk (λW H=>mv rfl)<|tk (λW H=>mv rfl)<|tk (λW H=>nc rfl rfl)<|tk (λW H=>fa KU rfl)<|tk (λW H=>ld fZ rfl (H.c a0 rfl))<|tk (λW H=>gJ rfl (dK (H.b a1)) iR)<|ff (bu [↑n.kind,↑n.gen,↑c2,.int .u64 (n.aD:Int),.slice q2.pb n.aA.length q2.cb,.int .u64 (n.hash:Int),↑n.key,.int .u64 (n.value:Int),.slice q2.pp n.aF.length q2.cp,↑c9,↑n.dC,↑n.aK,↑n.new,↑c13] h tE SV rfl (by kernel_rfl) rfl (by decide) (by decide))<|?_
 rintro _ w ⟨b10,rfl,h⟩
 refine⟨(hC (h.at_ a1) (hC (h.at_ a5) hN)),?_⟩
 refine ff (ap h tE rfl SV rfl (by decide) rfl rfl (λ_=>u2) (h.ro a0) (by simp[Value.oneCell']) rfl (fW (enc:=cB) _ ({n.bare with main:=c2,prev:=c9,status:=c13},q2)) (by unfold maxLen;omega) (by omega))<|?_
 rintro _ w ⟨p11,c12,rfl,h⟩
 refine⟨(hC (h.at_ a1) (hC (h.at_ a5) hN)),?_⟩
 refine tk (λW H=>nc rfl rfl)<|tk (λW H=>fa KU rfl)<|Zp<|ff (so h rfl rfl rfl nW rfl (.r .d) u1)<|?_
 rintro _ w h
 refine⟨trivial,?_⟩
 refine xz<|nx<|sq<|rg<|st (mv rfl)<|cl (ca eF rfl) ((yS ab _ _ _ _ _ _ (h.fr (.c r1 .n)) (by omega)).mono ?_)
 rintro _ w ⟨rfl,h⟩
 refine⟨_,rfl,?_⟩
 refine st (sg rfl)<|xe<|nx<|rt<|?_
 refine rr (jP results319 rfl)<|?_
 rw[ha]
 have h:=(SH.se (l:=[_,_]) ((h.fr (.c r1 (.c r4 .n))).drop.drop.fr (.c r4 (.c r3 (.c r0 (.c r0 (.c r0 .n)))))))
 have h:=SH.HU (n:={n.bare with main:=c2,prev:=c9,status:=c13}) (q:=q2) h
 refine⟨?_,SH.ai ⟨p11,c12,pc,cc,zs++[({n.bare with main:=c2,prev:=c9,status:=c13},q2)]⟩ ?_ ?_⟩
 ·rw[hz,hs1];congr 2;omega
 ·rw[An,hzs];rfl
 ·unfold VA;dsimp only;rw[cO,CG];exact h.fr (.c r1 (.c r1 (.c r1 (.c r0 .n))))
end
end Go.Q9
end
