/- Parts of a proof: Ryd, Rye, Ryf, Ryg, Qya, Qyb, Qyc, Qyd, Qye, Qyf, Qyp, Qyg, Qyh, Qyi, Qyj, Qyk, Qyl, Qym, Qyn, Aya, Ar, C5. -/
import Derived.Test.YtlijgnlhkcbgpaaGreatDoorW09
import Derived.Test.YtlijgnlhkcbgpaaGreatDoorW13
set_option linter.unusedVariables false
set_option linter.unusedSimpArgs false
set_option maxRecDepth 100000
set_option maxHeartbeats 4000000
section
namespace Go.Q9
open Go.Proofs.Tryz
open Go.E
theorem HN:fo prog 26 0=some 0:=by kernel_rfl
end Go.Q9
end
section
namespace Go.Q9
open Go.Proofs.Tryz
open Go.E
theorem xW:fo prog 26 1=some 1:=by kernel_rfl
theorem oB:xA prog 26=some 2:=by kernel_rfl
end Go.Q9
end
section
namespace Go.Q9
open Go.Proofs.Tryz
open Go.E
theorem Qm:KY prog 146=some ([.string .empty,.int .u64 0],[(0,1),(1,1)]):=by kernel_rfl
theorem S2:WW prog 146=some [.s,.i .u64]:=by kernel_rfl
theorem Yx:fo prog 146 0=some 0:=by kernel_rfl
theorem U2:fo prog 146 1=some 1:=by kernel_rfl
theorem Qf:tA prog 32=true:=by kernel_rfl
theorem uK:tA prog 9=true:=by kernel_rfl
theorem vI:xA prog 146=some 2:=by kernel_rfl
theorem tO:(prog.info? 146).map (·.size)=some 2:=by kernel_rfl
theorem Qw:prog.underlying 9=some (.string):=by kernel_rfl
end Go.Q9
end
section
namespace Go.Q9
open Go.Proofs.Tryz
open Go.E
theorem NU:fo prog 112 1=some 1:=by kernel_rfl
theorem Ht:fo prog 112 10=some 10:=by kernel_rfl
theorem DT:fo prog 112 11=some 11:=by kernel_rfl
theorem DX:fo prog 112 12=some 12:=by kernel_rfl
theorem kU:fo prog 112 3=some 3:=by kernel_rfl
theorem S4:fo prog 112 5=some 5:=by kernel_rfl
theorem tS:fo prog 112 6=some 6:=by kernel_rfl
theorem Le:fo prog 112 7=some 7:=by kernel_rfl
theorem k6:(prog.info? 32).map (·.size)=some 1:=by kernel_rfl
end Go.Q9
end
section
namespace Go.Q9
open Go.Proofs.Tryz
open Go.E
end Go.Q9
end
section
namespace Go.Q9
open Go.Proofs.Tryz
open Go.E
theorem Oo:KY prog 48=some ([.int .i64 0,↑false,.int .u64 0,.string .empty,.int .i64 0,.int .i64 0,.int .i64 0,↑false],[(0,1),(1,1),(2,1),(3,1),(4,1),(5,1),(6,2)]):=by kernel_rfl
theorem Ic:fo prog 77 1=some 1:=by kernel_rfl
theorem Ec:fo prog 50 1=some 1:=by kernel_rfl
theorem W3:fo prog 50 11=some 12:=by kernel_rfl
theorem VM:fo prog 50 8=some 9:=by kernel_rfl
theorem yL:xA prog 48=some 8:=by kernel_rfl
theorem xK:(prog.info? 26).map (·.size)=some 2:=by kernel_rfl
theorem xP:(prog.info? 48).map (·.size)=some 8:=by kernel_rfl
theorem NG:zc prog 26=some [.int .i64 0,↑false]:=by kernel_rfl
theorem Ej:zc prog 48=some [.int .i64 0,↑false,.int .u64 0,.string .empty,.int .i64 0,.int .i64 0,.int .i64 0,↑false]:=by kernel_rfl
end Go.Q9
end
section
namespace Go.Q9
open Go.Proofs.Tryz
open Go.E
theorem VU:fo prog 50 9=some 10:=by kernel_rfl
end Go.Q9
end
section
namespace Go.Q9
open Go.Proofs.Tryz
open Go.E
end Go.Q9
end
section
namespace Go.Q9
open Go.Proofs.Tryz
open Go.E
end Go.Q9
end
section
namespace Go.Q9
open Go.Proofs.Tryz
open Go.E
theorem aAk:KY prog 26=some ([.int .i64 0,↑false],[(0,1),(1,1)]):=by kernel_rfl
end Go.Q9
end
section
namespace Go.Q9
open Go.Proofs.Tryz
open Go.E
theorem T3:KY prog 195=some ([.int .i64 0,.int .i64 0],[(0,1),(1,1)]):=by kernel_rfl
theorem aBv:KY prog 42=some ([↑false,.slice none 0 0,.slice none 0 0],[(0,1),(1,1),(2,1)]):=by kernel_rfl
theorem LO:fo prog 195 0=some 0:=by kernel_rfl
theorem S8:fo prog 195 1=some 1:=by kernel_rfl
theorem WU:fo prog 42 0=some 0:=by kernel_rfl
theorem xY:fo prog 42 1=some 1:=by kernel_rfl
theorem Ib:fo prog 42 2=some 2:=by kernel_rfl
theorem fZ:tA prog 39=true:=by kernel_rfl
theorem C':xA prog 195=some 2:=by kernel_rfl
theorem nC:xA prog 42=some 3:=by kernel_rfl
theorem Gi:prog.underlying 39=some (.slice 195):=by kernel_rfl
theorem Gu:mR prog 195=some (.agg [.int .i64 0,.int .i64 0].toArray,2,16):=by kernel_rfl
theorem VJ:(prog.info? 195).map (·.size)=some 2:=by kernel_rfl
theorem nW:(prog.info? 39).map (·.size)=some 1:=by kernel_rfl
theorem Fj:(prog.info? 42).map (·.size)=some 3:=by kernel_rfl
theorem JP:zc prog 146=some [.string .empty,.int .u64 0]:=by kernel_rfl
theorem aB1:zc prog 195=some [.int .i64 0,.int .i64 0]:=by kernel_rfl
theorem W8:zc prog 42=some [↑false,.slice none 0 0,.slice none 0 0]:=by kernel_rfl
end Go.Q9
end
section
namespace Go.Q9
open Go.Proofs.Tryz
open Go.E
theorem T5:fo prog 77 13=some 40:=by kernel_rfl
theorem X0:fo prog 77 14=some 41:=by kernel_rfl
theorem Fw:xA prog 50=some 25:=by kernel_rfl
theorem Gf:(prog.info? 50).map (·.size)=some 25:=by kernel_rfl
theorem Li:zc prog 50=some [.int .i64 0,.int .i64 0,↑false,.int .i64 0,.int .i64 0,.int .i64 0,.int .i64 0,.int .u64 0,.int .u64 0,.string .empty,.int .u64 0,.int .u64 0,.int .i64 0,↑false,↑false,.slice none 0 0,.slice none 0 0,.int .i64 0,↑false,.int .u64 0,.string .empty,.int .i64 0,.int .i64 0,.int .i64 0,↑false]:=by kernel_rfl
theorem S3:zc prog 75=some [.int .i64 0,.int .i64 0,.int .i64 0,.int .i64 0]:=by kernel_rfl
end Go.Q9
end
section
namespace Go.Q9
open Go.Proofs.Tryz
open Go.E
theorem Ik:prog.underlying 32=some (.int .u64):=by kernel_rfl
theorem Lw:prog.underlying 3=some (.int .i64):=by kernel_rfl
end Go.Q9
end
section
namespace Go.Q9
open Go.Proofs.Tryz
open Go.E
end Go.Q9
end
section
namespace Go.Q9
open Go.Proofs.Tryz
open Go.E
end Go.Q9
end
section
namespace Go.Q9
open Go.Proofs.Tryz
open Go.E
theorem Lv:KY prog 50=some ([.int .i64 0,.int .i64 0,↑false,.int .i64 0,.int .i64 0,.int .i64 0,.int .i64 0,.int .u64 0,.int .u64 0,.string .empty,.int .u64 0,.int .u64 0,.int .i64 0,↑false,↑false,.slice none 0 0,.slice none 0 0,.int .i64 0,↑false,.int .u64 0,.string .empty,.int .i64 0,.int .i64 0,.int .i64 0,↑false],[(0,1),(1,2),(3,1),(4,1),(5,1),(6,1),(7,1),(8,1),(9,1),(10,1),(11,1),(12,1),(13,1),(14,3),(17,8)]):=by kernel_rfl
theorem Z8:fo prog 36 1=some 1:=by kernel_rfl
theorem rP:fo prog 36 2=some 2:=by kernel_rfl
theorem Hd:tA prog 33=true:=by kernel_rfl
theorem Fp:prog.underlying 33=some (.slice 26):=by kernel_rfl
end Go.Q9
end
section
namespace Go.Q9
open Go.Proofs.Tryz
open Go.E
theorem Pl:fo prog 36 3=some 3:=by kernel_rfl
theorem HX:tA prog 34=true:=by kernel_rfl
theorem LB:prog.underlying 34=some (.slice 43):=by kernel_rfl
theorem YO:mR prog 26=some (.agg [.int .i64 0,↑false].toArray,2,16):=by kernel_rfl
theorem aBt:mR prog 43=some (.pointer none,1,8):=by kernel_rfl
theorem T4:(prog.info? 33).map (·.size)=some 1:=by kernel_rfl
theorem aCd:(prog.info? 34).map (·.size)=some 1:=by kernel_rfl
end Go.Q9
end
section
namespace Go.Q9
open Go.Proofs.Tryz
open Go.E
theorem Mz:fo prog 36 0=some 0:=by kernel_rfl
end Go.Q9
end
section
namespace Go.Q9
open Go.Proofs.Tryz
open Go.E
theorem aBz:KY prog 36=some ([.pointer none,.int .u64 0,.slice none 0 0,.slice none 0 0],[(0,1),(1,1),(2,1),(3,1)]):=by kernel_rfl
theorem aBh:tA prog 43=true:=by kernel_rfl
theorem aBx:(prog.info? 43).map (·.size)=some 1:=by kernel_rfl
end Go.Q9
end
section
namespace Go.Q9
open Go.Proofs.Tryz
open Go.E
theorem KU:fo prog 110 0=some 0:=by kernel_rfl
end Go.Q9
end
section
namespace Go.Q9
open Go.Proofs.Tryz
open Go.RowKit Go.E
attribute [local irreducible] gB wpS Go.E.X XS C jU kP fin Y U F Ca jT bl rb aU bV ex ce pu sK gK bK zK gM fO dH gP nE
theorem IP(s:Ct.St){r:Int}(h:1<=r)(h2:r<=2):s.node r=Ct.gY:=by
 unfold Ct.St.node Ct.St.nodes;rw[if_neg (by omega),if_pos h2]
theorem PO{zs:List (Ct.Node×Lq)}{s:Ct.St}(h:zs.map Prod.fst=s.aG){r:Int}{j:Nat}(hj:r-2-1=(j:Int))(hl:j<zs.length):zs.getD j ({},{})∈zs/\(zs.getD j ({},{})).1=s.node r:=by
 have e:zs.getD j ({},{})=zs[j]:=by rw[eX,fM hl];rfl
 have hz:zs.length=s.aG.length:=by rw[<- h,mI]
 rw[e]
 refine⟨qR _,?_⟩
 have h1:(zs.map Prod.fst)[j]?=some zs[j].1:=by rw[Tx,fM hl];rfl
 rw[h]at h1
 unfold Ct.St.node Ct.St.nodes
 rw[if_neg (by omega),if_neg (by omega)]
 have e2:r.toNat-3=j:=by omega
 rw[e2,eX,h1];rfl
theorem zS{L:Nat}{n:Ct.Node}(h:n.Fit L)(hL:L<=150000000000):n.aA.length<=1000000/\n.aF.length<=200000000000:=⟨h.1.1,lK h.1.2.1 (by omega)⟩
theorem Xd{n:Ct.Node}(h:n.bM=true):n.kind=3\/n.kind=5\/n.kind=6:=by unfold Ct.Node.bM at h;simpa[or_assoc]using h
theorem KH{n:Ct.Node}(h2:n.kind≠2)(hm:n.bM=false)(h8:n.kind≠8):n.kind≠2/\n.kind≠3/\n.kind≠5/\n.kind≠6/\n.kind≠8:=by
 unfold Ct.Node.bM at hm
 simp at hm
 exact⟨h2,hm.1.1,hm.1.2,hm.2,h8⟩
variable{B w:World}{L:List As}
theorem Ui(l:List Int)(p:Option Addr)(c:Nat)(h:SH B w (bV 1 (.slice p l.length c) l.length (l.map (Value.int .i64))::L))(hl:l.length<=1000000):
  Calls prog 78 #[.slice p l.length c] w λe w'=>∃p' c',e=.returned (.slice p' l.length c')/\SH B w' (bV 1 (.slice p' l.length c') l.length (l.map (Value.int .i64))::L):=by
 refine bZ func78 ntmps78 h λw h=>?_
 refine qc h (λhd1 w h=>?_) λhd1 w h=>?_
 have hg2:=eq_of_beq hd1
 refine go h λw h=>?_
 refine rz ?_
 have hl:l=[]:=List.length_eq_zero_iff.1 (by have:=eq_of_beq hd1;omega)
 exact⟨none,0,by subst hl;rfl,by subst hl;exact SH.GZ 1 h.drop⟩
 have hg3:=Pe hd1
 refine go h λw h=>?_
 refine sf (mk h fR.h Ss.h rfl rfl (by omega) (by unfold maxLen;omega)) ?_
 rintro _ w ⟨b4,rfl,h⟩
 refine go h λw h=>?_
 rw[OC]at h
 refine go h λw h=>?_
 obtain⟨b5,o6,rfl⟩:=h.fq a1 (by first|omega|(rcases l with _|⟨_,_⟩<;>simp at *<;>omega))
 refine sf (J0 h a1 fR.h Sz.h rfl rfl u0 (oZ _) rfl) ?_
 rintro _ w ⟨rfl,h⟩
 refine go h λw h=>?_
 exact rz ⟨_,_,rfl,SH.fz h.to⟩
theorem KF(l:List Ct.bN)(p:Option Addr)(c:Nat)(h:SH B w (bV 2 (.slice p l.length c) l.length (l.flatMap aR)::L))(hl:l.length<=200000000000):
  Calls prog 79 #[.slice p l.length c] w λe w'=>∃p' c',e=.returned (.slice p' l.length c')/\SH B w' (bV 2 (.slice p' l.length c') l.length (l.flatMap aR)::L):=by
 refine bZ func79 ntmps79 h λw h=>?_
 refine qc h (λhd1 w h=>?_) λhd1 w h=>?_
 have hg2:=eq_of_beq hd1
 refine go h λw h=>?_
 refine rz ?_
 have hl:l=[]:=List.length_eq_zero_iff.1 (by have:=eq_of_beq hd1;omega)
 exact⟨none,0,by subst hl;rfl,by subst hl;exact SH.GZ 2 h.drop⟩
 have hg3:=Pe hd1
 refine go h λw h=>?_
 refine sf (mk h fR.h Ss.h rfl rfl (by omega) (by unfold maxLen;omega)) ?_
 rintro _ w ⟨b4,rfl,h⟩
 refine go h λw h=>?_
 obtain⟨b5,o6,rfl⟩:=h.fq a1 (by first|omega|(rcases l with _|⟨_,_⟩<;>simp at *<;>omega))
 refine sf (J0 h a1 fR.h Sz.h rfl rfl u0 (lU eU _) rfl) ?_
 rintro _ w ⟨rfl,h⟩
 refine go h λw h=>?_
 exact rz ⟨_,_,rfl,SH.fz h.to⟩
theorem wP(n:Ct.Node)(q:Lq)(h:SH B w (aM n q::L))(hb:n.aA.length<=1000000)(hp:n.aF.length<=200000000000):
  Calls prog 50 #[.agg (aL n q).toArray] w λe w'=>∃q',e=.returned (.agg (aL n q').toArray)/\SH B w' (aM n q'::L):=by
 have h:=h.se
 refine bZ func50 ntmps50 h λw h=>?_
 refine jX h λb1 w h=>?_
 refine jA h λb2 w h=>?_
 refine Sd (Ui _ _ _ h.to (by omega)) λp3 c4 w h=>?_
 refine Sd (KF _ _ _ h.to (by omega)) λp5 c6 w h=>?_
 exact rr (bP rfl rfl (h.b a2) Row.h)<|⟨⟨p3,c4,p5,c6⟩,rfl,SH.is (l:=[_,_]) (h.to.fr (.c r1 (.c r0 .n)))⟩
theorem tB(n:Ct.Node)(q:Lq)(h:SH B w (L)):
  Calls prog 112 #[.agg (aL n q).toArray] w λe w'=>e=.returned ↑n.bM/\SH B w' L:=by
 refine bZ func112 ntmps112 h λw h=>?_
 refine jX h λb1 w h=>?_
 refine qc h (λhd2 w h=>?_) λhd2 w h=>?_
 ·have hg3:=eq_of_beq hd2
  refine go h λw h=>?_
  refine rz ?_
  have hm:n.bM=true:=by unfold Ct.Node.bM;rw[hd2];simp
  exact⟨by rw[hm],h.drop⟩
 ·have hg4:=Pe hd2
  refine go h λw h=>?_
  refine qc h (λhd5 w h=>?_) λhd5 w h=>?_
  ·have hg6:=eq_of_beq hd5
   refine go h λw h=>?_
   refine rz ?_
   have hm:n.bM=true:=by unfold Ct.Node.bM;rw[hd2,hd5];simp
   exact⟨by rw[hm],h.drop⟩
  ·have hg7:=Pe hd5
   refine go h λw h=>?_
   refine qc h (λhd8 w h=>?_) λhd8 w h=>?_
   ·have hg9:=eq_of_beq hd8
    refine go h λw h=>?_
    refine rz ?_
    have hm:n.bM=true:=by unfold Ct.Node.bM;rw[hd2,hd5,hd8];simp
    exact⟨by rw[hm],h.drop⟩
   ·have hg10:=Pe hd8
    refine go h λw h=>?_
    refine rz ?_
    have hm:n.bM=false:=by unfold Ct.Node.bM;rw[hd2,hd5,hd8];rfl
    exact⟨by rw[hm],h.drop⟩
theorem tK(ab:Nat)(s:Ct.St)(i:Int)(h:SH B w (wW ab s::L))(hr:s.size<=100000000000):
  Calls prog 220 #[↑ab,↑i] w λe w'=>e=.returned (.int .i64 (s.aV i).2)/\SH B w' (wW ab (s.aV i).1::L):=by
 obtain⟨⟨pn,cn,pc,cc,zs⟩,hz0,h⟩:=h.ao
 have h:SH B w (bl ab ([.slice pn zs.length cn,.slice pc s.cells.length cc,↑(s.gen:Int),↑(s.acc:Int)]) 110::aU 112 14 (.slice pn zs.length cn) zs.length (zs.flatMap cB)::aU 45 1 (.slice pc s.cells.length cc) s.cells.length (s.cells.map (Value.int .i64))::bE zs::L):=h
 have hzs:zs.map Prod.fst=s.aG:=hz0
 clear hz0
 have hrm:s.aG.length+s.cells.length+s.gen+s.acc<=100000000000:=hr
 refine bZ func220 ntmps220 h λw h=>?_
 refine sf (bu [↑i] h fR.h Ss.h rfl (by kernel_rfl) rfl (by decide) (by decide)) ?_
 rintro _ w ⟨b1,rfl,h⟩
 refine go h λw h=>?_
 refine sf (ap h fR.h rfl Ss.h rfl (by decide) rfl rfl (λ_=>u3) (h.ro a0) (by simp[Value.oneCell']) rfl (kD _ _) (by unfold maxLen;omega) (by omega)) ?_
 rintro _ w ⟨p2,c3,rfl,h⟩
 refine go h λw h=>?_
 refine rz ?_
 exact⟨by simp[Ct.St.aV],SH.ai ⟨pn,cn,p2,c3,zs⟩ hzs (by unfold VA;dsimp only[Ct.St.aV];rw[cO,CG];exact h.drop)⟩
theorem Xj(ab:Nat)(vn vg va:Value)(pc:Option Addr)(n cc:Nat)(c:Int)(h:SH B w (bl ab ([vn,.slice pc n cc,vg,va]) 110::L)):
  Calls prog 221 #[↑ab,↑c] w λe w'=>e=.returned (.bool (decide (1<=c)&&decide (c<=(n:Int))))/\SH B w' (bl ab ([vn,.slice pc n cc,vg,va]) 110::L):=by
 refine bZ func221 ntmps221 h λw h=>?_
 refine qg h (λhd1 w h=>?_) λhd1 w h=>?_
 ·have hg2:=dP hd1
  refine go h λw h=>?_
  refine rz ?_
  refine⟨?_,h⟩
  congr 2;simp;omega
 ·have hg3:=bI hd1
  refine go h λw h=>?_
  refine rz ?_
  refine⟨?_,h⟩
  congr 2;simp;omega
theorem yS(ab:Nat)(vc vg va:Value)(pn:Option Addr)(n cn:Nat)(h:SH B w (bl ab ([.slice pn n cn,vc,vg,va]) 110::L))(hn:n<=200000000000):
  Calls prog 58 #[↑ab] w λe w'=>e=.returned (.int .i64 ((2+n:Nat):Int))/\SH B w' (bl ab ([.slice pn n cn,vc,vg,va]) 110::L):=by
 refine bZ func58 ntmps58 h λw h=>?_
 refine st (ba ((2+n:Nat):Int))<|go h λw h=>?_
 exact rz ⟨rfl,h⟩
theorem IT(ab:Nat)(s:Ct.St)(c:Int)(h:SH B w (wW ab s::L))(hr:s.size<=100000000000):
  Calls prog 218 #[↑ab,↑c] w λe w'=>e=.returned (.int .i64 (s.load c).2)/\SH B w' (wW ab (s.load c).1::L):=by
 obtain⟨⟨pn,cn,pc,cc,zs⟩,hz0,h⟩:=h.ao
 have h:SH B w (bl ab ([.slice pn zs.length cn,.slice pc s.cells.length cc,↑(s.gen:Int),↑(s.acc:Int)]) 110::aU 112 14 (.slice pn zs.length cn) zs.length (zs.flatMap cB)::aU 45 1 (.slice pc s.cells.length cc) s.cells.length (s.cells.map (Value.int .i64))::bE zs::L):=h
 have hzs:zs.map Prod.fst=s.aG:=hz0
 clear hz0
 have hrm:s.aG.length+s.cells.length+s.gen+s.acc<=100000000000:=hr
 refine bZ func218 ntmps218 h λw h=>?_
 refine bA (Xj _ _ _ _ _ _ _ _ h.to) λw h=>?_
 refine qc h (λhd1 w h=>?_) λhd1 w h=>?_
 have hd2:=(lC _).mp hd1
 refine go h λw h=>?_
 exact rz ⟨by rw[show (s.load c).2=0 from Bl (by have:=hd2;simp at this;omega)],(SH.ai ⟨_,_,_,_,_⟩ hzs h)⟩
 have hd3:=(AD _).mp hd1
 refine go h λw h=>?_
 obtain⟨hc1,hc2⟩:1<=c/\c<=(s.cells.length:Int):=by simpa using hd3
 obtain⟨j,hj⟩:∃j:Nat,c-1=(j:Int):=⟨(c-1).toNat,by omega⟩
 refine st (bs (j:Int))<|go h λw h=>?_
 obtain⟨b4,rfl⟩:=h.fp a2 (by omega)
 refine go h λw h=>?_
 exact rz ⟨by rw[show (s.load c).2=s.cells.getD j 0 from Kq hj (by omega)],(SH.ai ⟨_,_,_,_,_⟩ hzs h)⟩
theorem PR(ab:Nat)(s:Ct.St)(c o n:Int)(h:SH B w (wW ab s::L))(hr:s.size<=100000000000):
  Calls prog 217 #[↑ab,↑c,↑o,↑n] w λe w'=>e=.returned (.bool (s.eA c o n).2)/\SH B w' (wW ab (s.eA c o n).1::L):=by
 obtain⟨⟨pn,cn,pc,cc,zs⟩,hz0,h⟩:=h.ao
 have h:SH B w (bl ab ([.slice pn zs.length cn,.slice pc s.cells.length cc,↑(s.gen:Int),↑(s.acc:Int)]) 110::aU 112 14 (.slice pn zs.length cn) zs.length (zs.flatMap cB)::aU 45 1 (.slice pc s.cells.length cc) s.cells.length (s.cells.map (Value.int .i64))::bE zs::L):=h
 have hzs:zs.map Prod.fst=s.aG:=hz0
 clear hz0
 have hrm:s.aG.length+s.cells.length+s.gen+s.acc<=100000000000:=hr
 refine bZ func217 ntmps217 h λw h=>?_
 refine bA (Xj _ _ _ _ _ _ _ _ h.to) λw h=>?_
 refine qg h (λhd1 w h=>?_) λhd1 w h=>?_
 have hd2:=(lC _).mp hd1
 refine go h λw h=>?_
 refine rz ?_
 rw[DU (by have:=hd2;simp at this;omega)];exact⟨rfl,(SH.ai ⟨_,_,_,_,_⟩ hzs h)⟩
 have hd3:=(AD _).mp hd1
 refine go h λw h=>?_
 obtain⟨hc1,hc2⟩:1<=c/\c<=(s.cells.length:Int):=by simpa using hd3
 obtain⟨j,hj⟩:∃j:Nat,c-1=(j:Int):=⟨(c-1).toNat,by omega⟩
 refine st (bs (j:Int))<|go h λw h=>?_
 obtain⟨b4,rfl⟩:=h.fp a2 (by omega)
 refine go h λw h=>?_
 refine qc h (λhd5 w h=>?_) λhd5 w h=>?_
 have hg6:=bne_iff_ne.1 hd5
 refine go h λw h=>?_
 refine rz ?_
 rw[LD hj (by omega) (by omega)];exact⟨rfl,(SH.ai ⟨_,_,_,_,_⟩ hzs h)⟩
 have hg7:=eS hd5
 refine go h λw h=>?_
 refine st (bs (j:Int))<|go h λw h=>?_
 refine sf (F4 h Sz.h rfl rfl (by omega) u2) ?_
 rintro _ w h
 refine go h λw h=>?_
 refine rz ?_
 rw[FV hj (by omega) (by omega)];exact⟨rfl,SH.ai ⟨pn,cn,some ⟨b4,0,none⟩,cc,zs⟩ hzs (by unfold VA;dsimp only;rw[Fh];exact h)⟩
theorem Ry(ab:Nat)(s:Ct.St)(r:Int)(h:SH B w (wW ab s::L))(hr:s.size<=100000000000)(hf:Ct.eK s):
  Calls prog 59 #[↑ab,↑r] w λe w'=>∃q,e=.returned (.agg (aL (s.node r) q).toArray)/\SH B w' (aM (s.node r) q::wW ab s::L):=by
 obtain⟨⟨pn,cn,pc,cc,zs⟩,hz0,h⟩:=h.ao
 have h:SH B w (bl ab ([.slice pn zs.length cn,.slice pc s.cells.length cc,↑(s.gen:Int),↑(s.acc:Int)]) 110::aU 112 14 (.slice pn zs.length cn) zs.length (zs.flatMap cB)::aU 45 1 (.slice pc s.cells.length cc) s.cells.length (s.cells.map (Value.int .i64))::bE zs::L):=h
 have hzs:zs.map Prod.fst=s.aG:=hz0
 clear hz0
 have hz:zs.length=s.aG.length:=by rw[<- hzs,mI]
 have hrm:s.aG.length+s.cells.length+s.gen+s.acc<=100000000000:=hr
 refine bZ func59 ntmps59 h λw h=>?_
 refine jA h λb1 w h=>?_
 refine qg h (λhd2 w h=>?_) λhd2 w h=>?_
 ·have hg3:=dP hd2
  refine go h λw h=>?_
  refine rr (bP rfl rfl (h.b a0) Row.h) ?_
  rw[wV s r (by omega)];exact⟨{},rfl,SH.eE _ rfl rfl (SH.ai ⟨_,_,_,_,_⟩ hzs h.drop)⟩
 ·have hg4:=bI hd2
  refine go h λw h=>?_
  refine bA (yS _ _ _ _ _ _ _ h.to (by omega)) λw h=>?_
  refine qc h (λhd5 w h=>?_) λhd5 w h=>?_
  ·have hg6:=dP hd5
   refine go h λw h=>?_
   refine rr (bP rfl rfl (h.b a1) Row.h) ?_
   rw[wV s r (by omega)];exact⟨{},rfl,SH.eE _ rfl rfl (SH.ai ⟨_,_,_,_,_⟩ hzs (h.fr (.c r1 .n)).drop)⟩
  ·have hg7:=bI hd5
   refine go h λw h=>?_
   refine qc h (λhd8 w h=>?_) λhd8 w h=>?_
   ·have hg9:=dP hd8
    refine go h λw h=>?_
    refine rr (bP rfl rfl (h.b a1) Row.h) ?_
    rw[IP s (r:=r) (by omega) (by omega)];exact⟨{},rfl,SH.eE _ rfl rfl (SH.ai ⟨_,_,_,_,_⟩ hzs (h.fr (.c r1 .n)).drop)⟩
   ·have hg10:=bI hd8
    refine go h λw h=>?_
    refine st (bs (r-2))<|go h λw h=>?_
    obtain⟨j,hj⟩:∃j:Nat,r-2-1=(j:Int):=⟨(r-2-1).toNat,by omega⟩
    refine st (bs (j:Int))<|go h λw h=>?_
    obtain⟨b11,rfl⟩:=h.fp a2 (by omega)
    refine go h λw h=>?_
    refine st (gJ rfl ((h.ro a2).x fN (by decide) (by omega) ({},{})) Row.h)<|go h λw h=>?_
    obtain⟨hm,hn⟩:=PO hzs hj (by omega)
    have h:=h.Ll a4 hm
    have hfj:=hf.node r
    rw[<- hn]at hfj
    refine cG (wP _ _ h.to (zS hfj (by omega)).1 (zS hfj (by omega)).2) λq12 w h=>?_
    refine rr (bP rfl rfl (h.b a2) Row.h) ?_
    rw[<- hn];exact⟨_,rfl,((SH.ai ⟨_,_,_,_,_⟩ hzs ((h.fr (.c r2 .n)).drop.fr (.c r1 (.c r1 (.c r1 (.c r1 .n)))))).fr (.c r1 .n))⟩
section
attribute [local semireducible] gB wpS Go.E.X XS C jU kP fin Y U F Ca jT bl rb aU bV ex ce pu sK gK bK zK gM fO dH gP nE
attribute [local irreducible] gB wpS
variable{B w:World}{L:List As}
theorem CE(ab:Nat)(s:Ct.St)(n:Ct.Node)(q:Lq)(i:Int)(h:SH B w (aM n q::wW ab s::L))(hr:s.size<=100000000000)(hb:n.aA.length<=1000000)(hp:n.aF.length<=200000000000):
  Calls prog 216 #[↑ab,.agg (aL n q).toArray,↑i] w λe w'=>e=.returned (.int .i64 (s.alloc n i).2)/\SH B w' (wW ab (s.alloc n i).1::L):=by
 refine Ea (args:=[_,_,_]) func216 rfl ntmps216 rfl ?_
 refine sq<|rg<|sf (bx h rfl rfl)<|?_
 rintro _ w ⟨b1,rfl,h⟩
 refine st (sg rfl)<|xe<|nx<|sq<|rg<|st (gJ rfl (dK (h.b a0)) iI)<|cl (ca eF rfl) ((wP n q (h.fr (.c r1 .n)) hb hp).mono ?_)
 rintro _ w ⟨q2,rfl,h⟩
 refine⟨_,rfl,?_⟩
 refine sf (so h rfl rfl rfl uT rfl (.r (.r (.r (.r (.r (.r (.r (.r (.r (.r (.r (.r (.r (.r .d)))))))))))))) u1)<|?_
 rintro _ w h
 refine xe<|nx<|sq<|rg<|st (fa Bi rfl)<|sf (so h rfl rfl rfl wS rfl (.s (.s (.r .d))) u1)<|?_
 rintro _ w h
 refine st (fa tU rfl)<|sf (so h rfl rfl rfl wS rfl (.s (.s (.s (.s (.s (.s (.s (.s (.s (.r .d)))))))))) u1)<|?_
 rintro _ w h
 refine st (fa vS rfl)<|sf (so h rfl rfl rfl wS rfl (.s (.s (.s (.s (.s (.s (.s (.s (.s (.s (.s (.s (.s (.r .d)))))))))))))) u1)<|?_
 rintro _ w h
 refine xe<|nx<|?_
 refine sm (λe w=>∃s1:Ct.St,∃c2:Int,∃c9:Int,∃c13:Int,Sub 47 e (.c 0 (.pointer (some ⟨ab,0,none⟩)) (.c 4 (.pointer (some ⟨b1,0,none⟩)) .n))/\SH B w (bl b1 ([.int .i64 n.kind,.int .i64 n.gen,.int .i64 c2,.int .u64 (n.aD:Int),.slice q2.pb n.aA.length q2.cb,.int .u64 (n.hash:Int),.string n.key,.int .u64 (n.value:Int),.slice q2.pp n.aF.length q2.cp,.int .i64 c9,.int .i64 n.dC,.int .i64 n.aK,.int .i64 n.new,.int .i64 c13]) 112::aM n q2::wW ab s1::L)/\(s.alloc n i=({s1 with aG:=s1.aG++[{n.bare with main:=c2,prev:=c9,status:=c13}]},(s.aG.length:Int)+3))/\(s1.aG=s.aG)/\(s1.size<=s.size+1)) ?_ ?_
 ·refine bk<|sq<|rg<|st (fa nO rfl)<|st (ld jE rfl (h.c a1 rfl))<|st (bi rfl rfl rfl)<|st (sg rfl)<|xe<|nx<|?_
  rcases mD ((n.kind:Int)==2)with hd3|hd3
  ·refine ct rfl hd3<|rg<|st (mv rfl)<|st (mv rfl)<|cl (ca eF rfl) ((tK ab s i (h.fr (.c r2 .n)) (by omega)).mono ?_)
   rintro _ w ⟨rfl,h⟩
   refine⟨_,rfl,?_⟩
   refine st (fa Bi rfl)<|sf (so h rfl rfl rfl wS rfl (.s (.s (.r .d))) u2)<|?_
   rintro _ w h
   refine xe<|bn<|nx<|?_
   exact⟨(s.aV i).1,(s.aV i).2,0,0,⟨rfl,rfl,trivial⟩,(h.fr (.c r2 (.c r1 (.c r0 .n)))),GP s n i (eq_of_beq hd3),rfl,(by simp only[Ct.St.aV,Ct.St.size,cO,CG];omega)⟩
  ·refine cf rfl hd3<|sq<|rg<|st (gJ rfl (dK (h.b a1)) iI)<|cl (ca eF rfl) ((tB ({n with main:=0,prev:=0,status:=0}) q2 (h.fr .n)).mono ?_)
   rintro _ w ⟨rfl,h⟩
   refine⟨_,rfl,?_⟩
   refine st (sg rfl)<|xe<|nx<|?_
   rcases mD n.bM with hd6|hd6
   ·refine ct rfl hd6<|rg<|st (mv rfl)<|st (mv rfl)<|cl (ca eF rfl) ((tK ab s i (h.fr (.c r2 .n)) (by omega)).mono ?_)
    rintro _ w ⟨rfl,h⟩
    refine⟨_,rfl,?_⟩
    refine st (fa tU rfl)<|sf (so h rfl rfl rfl wS rfl (.s (.s (.s (.s (.s (.s (.s (.s (.s (.r .d)))))))))) u2)<|?_
    rintro _ w h
    refine xe<|bn<|nx<|?_
    exact⟨(s.aV i).1,0,(s.aV i).2,0,⟨rfl,rfl,trivial⟩,(h.fr (.c r2 (.c r1 (.c r0 .n)))),Gg s n i (Xd hd6),rfl,(by simp only[Ct.St.aV,Ct.St.size,cO,CG];omega)⟩
   ·refine cf rfl hd6<|sq<|rg<|st (fa nO rfl)<|st (ld jE rfl (h.c a1 rfl))<|st (bi rfl rfl rfl)<|st (sg rfl)<|xe<|nx<|?_
    rcases mD ((n.kind:Int)==8)with hd7|hd7
    ·refine ct rfl hd7<|rg<|st (mv rfl)<|st (mv rfl)<|cl (ca eF rfl) ((tK ab s i (h.fr (.c r2 .n)) (by omega)).mono ?_)
     rintro _ w ⟨rfl,h⟩
     refine⟨_,rfl,?_⟩
     refine st (fa vS rfl)<|sf (so h rfl rfl rfl wS rfl (.s (.s (.s (.s (.s (.s (.s (.s (.s (.s (.s (.s (.s (.r .d)))))))))))))) u2)<|?_
     rintro _ w h
     refine xe<|bn<|nx<|?_
     exact⟨(s.aV i).1,0,0,(s.aV i).2,⟨rfl,rfl,trivial⟩,(h.fr (.c r2 (.c r1 (.c r0 .n)))),GQ s n i (eq_of_beq hd7),rfl,(by simp only[Ct.St.aV,Ct.St.size,cO,CG];omega)⟩
    ·refine cf rfl hd7<|sk<|bn<|nx<|?_
     exact⟨s,0,0,0,⟨rfl,rfl,trivial⟩,(h.fr (.c r1 (.c r0 (.c r0 .n)))),GN s n i (KH (Pe hd3) hd6 (Pe hd7)),rfl,(by omega)⟩
 rintro e w ⟨s1,c2,c9,c13,hE,h,ha,hs1,hr1⟩
 refine C.sub hE ?_
 refine sq<|?_
 have hrm:s1.aG.length+s1.cells.length+s1.gen+s1.acc<=100000000001:=lK hr1 (by omega)
 have h:=h.fr (.c r2 .n)
 obtain⟨⟨pn,cn,pc,cc,zs⟩,hz0,h⟩:=h.ao
 have h:SH B w (bl ab ([.slice pn zs.length cn,.slice pc s1.cells.length cc,↑(s1.gen:Int),↑(s1.acc:Int)]) 110::aU 112 14 (.slice pn zs.length cn) zs.length (zs.flatMap cB)::aU 45 1 (.slice pc s1.cells.length cc) s1.cells.length (s1.cells.map (Value.int .i64))::bE zs::bl b1 ([↑n.kind,↑n.gen,↑c2,.int .u64 (n.aD:Int),.slice q2.pb n.aA.length q2.cb,.int .u64 (n.hash:Int),↑n.key,.int .u64 (n.value:Int),.slice q2.pp n.aF.length q2.cp,↑c9,↑n.dC,↑n.aK,↑n.new,↑c13]) 112::aM n q2::L):=h
 have hzs:zs.map Prod.fst=s1.aG:=hz0
 clear hz0
 have hz:zs.length=s1.aG.length:=by rw[<- hzs,mI]
 refine Uc (F:=[bl ab ([.slice pn zs.length cn,.slice pc s1.cells.length cc,↑(s1.gen:Int),↑(s1.acc:Int)]) 110,bl b1 ([↑n.kind,↑n.gen,↑c2,.int .u64 (n.aD:Int),.slice q2.pb n.aA.length q2.cb,.int .u64 (n.hash:Int),↑n.key,.int .u64 (n.value:Int),.slice q2.pp n.aF.length q2.cp,↑c9,↑n.dC,↑n.aK,↑n.new,↑c13]) 112]) [(true,[1,3,5,7,9,11,12,14,17,19]),(false,[20])] (by kernel_rfl) h (λw h=>(hC (h.at_ a0) (hC (h.at_ a4) hN))) λw h=>VP<|tk (λW H=>mv rfl)<|tk (λW H=>mv rfl)<|tk (λW H=>nc rfl rfl)<|tk (λW H=>fa KU rfl)<|tk (λW H=>ld GI rfl (H.c a0 rfl))<|tk (λW H=>gJ rfl (dK (H.b a1)) iI)<|ff (bu [↑n.kind,↑n.gen,↑c2,.int .u64 (n.aD:Int),.slice q2.pb n.aA.length q2.cb,.int .u64 (n.hash:Int),↑n.key,.int .u64 (n.value:Int),.slice q2.pp n.aF.length q2.cp,↑c9,↑n.dC,↑n.aK,↑n.new,↑c13] h Iu JI rfl (by kernel_rfl) rfl (by decide) (by decide))<|?_
 rintro _ w ⟨b10,rfl,h⟩
 refine⟨(hC (h.at_ a1) (hC (h.at_ a5) hN)),?_⟩
 refine ff (ap h Iu rfl JI rfl (by decide) rfl rfl (λ_=>u2) (h.ro a0) (by simp[Value.oneCell']) rfl (fW (enc:=cB) _ ({n.bare with main:=c2,prev:=c9,status:=c13},q2)) (by unfold maxLen;omega) (by omega))<|?_
 rintro _ w ⟨p11,c12,rfl,h⟩
 refine⟨(hC (h.at_ a1) (hC (h.at_ a5) hN)),?_⟩
 refine tk (λW H=>nc rfl rfl)<|tk (λW H=>fa KU rfl)<|Zp<|ff (so h rfl rfl rfl aAm rfl (.r .d) u1)<|?_
 rintro _ w h
 refine⟨trivial,?_⟩
 refine xz<|nx<|sq<|rg<|st (mv rfl)<|cl (ca eF rfl) ((yS ab _ _ _ _ _ _ (h.fr (.c r1 .n)) (by omega)).mono ?_)
 rintro _ w ⟨rfl,h⟩
 refine⟨_,rfl,?_⟩
 refine st (sg rfl)<|xe<|nx<|rt<|?_
 refine rr (jP results216 rfl)<|?_
 rw[ha]
 have h:=(SH.se (l:=[_,_]) ((h.fr (.c r1 (.c r4 .n))).drop.drop.fr (.c r4 (.c r3 (.c r0 (.c r0 (.c r0 .n)))))))
 have h:=SH.HU (n:={n.bare with main:=c2,prev:=c9,status:=c13}) (q:=q2) h
 refine⟨?_,SH.ai ⟨p11,c12,pc,cc,zs++[({n.bare with main:=c2,prev:=c9,status:=c13},q2)]⟩ ?_ ?_⟩
 ·rw[hz,hs1];congr 2;omega
 ·rw[tX,hzs];rfl
 ·unfold VA;dsimp only;rw[cO,CG];exact h.fr (.c r1 (.c r1 (.c r1 (.c r0 .n))))
end
end Go.Q9
end
section
namespace Go.E
open Go.RowKit
variable{B w:World}{L:List As}{P:Program}{n:Nat}{K:iG}{e:Tm}{ops:Array Oper}{l:List Oper}
variable{d:Option Tmp}{ty:TypeId}{ps:String}{af:Array Edge}
theorem lE(v:Fv):v.val.cells=[v.val].toArray:=by cases v<;>rfl
theorem PM{x:Operand}{v:Fv}{az:Array Operand}{ats:Array TypeId}{vs:List Value}(hx:ev n e x=some v.val)(ha:pU n e az.toList=some vs)
  (k:jK P v vs w λy w'=>∃u,y=.returned u/\X P n ops l K (Tm.put e d u) w'):X P n ops (⟨d,.call ⟨.value x,az,ats⟩,ty,ps,af,none⟩::l) K e w:=by
 obtain⟨f,ff,fc,rfl,en,hc⟩:=k
 exact cl (w4 en hx ha) hc
end Go.E
namespace Go.Q9
open Go.Proofs.Tryz
open Go.RowKit Go.E
variable{B w w':World}{L:List As}{α β:Type}{S:dN}{F:β->Cc->As}{n m j:Nat}{args:α->List Value}{k:α->Ct.I β}{v:Fv}{s:Ct.St}
def qI(_:Unit):List Value:=[]
theorem eR{i:Nat}(hm:m<=n)(hj:i<=j)(h:SH B w (gP S F n i args k v::L)):SH B w (gP S F m j args k v::L):=h.imp λO R=>By (yG hm) λ_ h=>h.less hj
theorem mA(h:SH B w (gP S F n j args k v::S.a s::L))(hs:Ct.Rm j s)(a:α):jK prog v (args a) w (CP S F n B (k a) s L):=SH.QU h hs a
theorem YZ(l:List As)(h:SH B w (l++L))(hc:∀(B w:World) (L:List As) (s:Ct.St) (a:α),SH B w (l++S.a s::L)->Ct.Rm j s->jK prog v (args a) w (CP S F n B (k a) s L)):SH B w (gP S F n j args k v::L):=SH.H8 l h hc
theorem Nt(l:List As)(h:SH B w (l++L))(hc:∀m,m<n->∀(B w:World) (L:List As) (s:Ct.St) (a:α),SH B w (l++S.a s::L)->Ct.Rm 100 s->jK prog v (args a) w (CP S F m B (k a) s L)):SH B w (VW prog S.a (Ct.Rm 100) F args k v n::L):=SH.J9 l h hc
def rD{α β:Type}(S:dN)(F:β->Cc->As):Nat->Nat->(α->List Value)->(α->Ct.I β)->Fv->As
 |0,_,_,_,_=>MT
 |n+1,j,args,k,v=>gP S F n j args k v
theorem Me(l:List As)(h:SH B w (l++L))(hc:∀m,m<n->∀(B w:World) (L:List As) (s:Ct.St) (a:α),SH B w (l++S.a s::L)->Ct.Rm j s->jK prog v (args a) w (CP S F m B (k a) s L)):SH B w (rD S F n j args k v::L):=by
 cases n with
 |zero=>exact(SH.is h).imp λ_ _ h=>Be h
 |succ m=>exact YZ l h (hc m (Nat.lt_succ_self m))
theorem sB(hm:m<n)(h:SH B w (rD S F n j args k v::L)):SH B w (gP S F m j args k v::L):=by
 cases n with
 |zero=>omega
 |succ n=>exact eR (Nat.le_of_lt_succ hm) (bD _) h
theorem Rj{i:Nat}(hj:i<=j)(h:SH B w (gP S F n i args k v::L)):SH B w (rD S F n j args k v::L):=by
 cases n with
 |zero=>exact h.imp λ_ _ h=>Be h
 |succ m=>exact eR (Nat.le_succ m) hj h
theorem k7(hj:j<=100)(h:SH B w (rD S F n j args k v::L)):SH B w (VW prog S.a (Ct.Rm 100) F args k v n::L):=by
 cases n with
 |zero=>exact h
 |succ m=>exact eR (bD m) hj h
theorem kL{a:Int}{k:Int->Ct.I β}(h:SH B w (VW prog S.a (Ct.Rm 100) F dQ k v n::L)):SH B w (nE S F n (.load a k) (tR a v)::L):=SH.K7 h
theorem kC{a o x:Int}{k:Bool->Ct.I β}(h:SH B w (VW prog S.a (Ct.Rm 100) F dV k v n::L)):SH B w (nE S F n (.eA a o x k) (Fg a o x v)::L):=SH.N6 h
theorem fI{t t':Ct.I β}{s':Ct.St}{c:Cc}(hq:t.head s=(s',t'))(h:SH B w' (nE S F n t' c::S.a s'::L)):CP S F n B t s L (.returned (.agg (zQ c).toArray)) w':=⟨s',t',c,hq,rfl,h⟩
def dW(r:Ct.Result)(c:Cc):As:=pu (c=EY r)
theorem cK(S:dN)(s:Ct.St)(r:Int)(h:SH B w (S.a s::L))(hs:Ct.Rm j s):
  Calls prog 59 #[↑S.ab,↑r] w λe w'=>∃q,e=.returned (.agg (aL (s.node r) q).toArray)/\SH B w' (aM (s.node r) q::S.a s::L):=by
 refine(Ry S.ab s r h.so hs.zP hs.fit).mono ?_
 rintro e w' ⟨q,rfl,h⟩
 exact⟨q,rfl,(SH.si (h.fr (.c r1 (.c r1 .n)))).fr (.c r1 .n)⟩
theorem cQ(S:dN)(s:Ct.St)(n:Ct.Node)(q:Lq)(i:Int)(h:SH B w (aM n q::S.a s::L))(hs:Ct.Rm j s)(hf:n.Fit (s.aG.length+1)):
  Calls prog 216 #[↑S.ab,.agg (aL n q).toArray,↑i] w λe w'=>e=.returned (.int .i64 (s.alloc n i).2)/\SH B w' (S.a (s.alloc n i).1::L):=by
 have hb:=zS hf (by have:=hs.zP;unfold Ct.St.size at this;omega)
 refine(CE S.ab s n q i ((SH.so (h.fr (.c r1 .n))).fr (.c r2 (.c r0 .n))) hs.zP hb.1 hb.2).mono ?_
 rintro e w' ⟨rfl,h⟩
 exact⟨rfl,SH.si h⟩
theorem JQ(S:dN)(s:Ct.St)(c:Int)(h:SH B w (S.a s::L))(hs:Ct.Rm j s):
  Calls prog 218 #[↑S.ab,↑c] w λe w'=>e=.returned (.int .i64 (s.load c).2)/\SH B w' (S.a (s.load c).1::L):=by
 refine(IT S.ab s c h.so hs.zP).mono ?_
 rintro e w' ⟨rfl,h⟩
 exact⟨rfl,SH.si h⟩
theorem NE(S:dN)(s:Ct.St)(c o n:Int)(h:SH B w (S.a s::L))(hs:Ct.Rm j s):
  Calls prog 217 #[↑S.ab,↑c,↑o,↑n] w λe w'=>e=.returned (.bool (s.eA c o n).2)/\SH B w' (S.a (s.eA c o n).1::L):=by
 refine(PR S.ab s c o n h.so hs.zP).mono ?_
 rintro e w' ⟨rfl,h⟩
 exact⟨rfl,SH.si h⟩
theorem SY{s:Ct.St}(h:Ct.Rm (j+1) s)(c:Int):Ct.Rm j (s.load c).1:=⟨h.fit,by have:=h.room;have:=(Ct.St.Cp s c).1;omega⟩
theorem YS{s:Ct.St}(h:Ct.Rm (j+1) s)(c o n:Int):Ct.Rm j (s.eA c o n).1:=⟨(by unfold Ct.eK;rw[(Ct.St.Bu s c o n).2];exact h.fit),by have:=h.room;have:=(Ct.St.Bu s c o n).1;omega⟩
end Go.Q9
end
