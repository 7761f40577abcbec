/- Parts of a proof: Ryd, Rye, Ryf, Ryg, Qya, Qyb, Qyc, Qyd, Qye, Qyf, Qyp, Qyg, Qyh, Qyi, Qyj, Qyk, Qyl, Qym, Qyn, Aya, Ar. -/
import Derived.Test.YthhcpkikpammmaaGreatW14
set_option linter.unusedVariables false
set_option linter.unusedSimpArgs false
set_option maxRecDepth 100000
set_option maxHeartbeats 4000000
section
namespace Go.Q9
open Go.Proofs.Tryz
open Go.E
theorem XC:fo prog 35 0=some 0:=by kernel_rfl
theorem U4:fv prog 68 0=some (0,1,false):=by kernel_rfl
end Go.Q9
end
section
namespace Go.Q9
open Go.Proofs.Tryz
open Go.E
theorem IA:fo prog 35 1=some 1:=by kernel_rfl
theorem W6:fv prog 68 1=some (1,1,false):=by kernel_rfl
theorem V1:fv prog 68 2=some (2,1,false):=by kernel_rfl
theorem X5:fv prog 68 9=some (9,1,false):=by kernel_rfl
theorem oG:xA prog 35=some 2:=by kernel_rfl
end Go.Q9
end
section
namespace Go.Q9
open Go.Proofs.Tryz
open Go.E
theorem Iu:KY prog 168=some ([.string .empty,.int .u64 0],[(0,1),(1,1)]):=by kernel_rfl
theorem T4:WW prog 168=some [.s,.i .u64]:=by kernel_rfl
theorem LQ:fo prog 168 0=some 0:=by kernel_rfl
theorem oQ:tA prog 28=true:=by kernel_rfl
theorem uK:tA prog 9=true:=by kernel_rfl
theorem Di:xA prog 168=some 2:=by kernel_rfl
theorem xY:(prog.info? 168).map (·.size)=some 2:=by kernel_rfl
theorem UR:prog.underlying 9=some (.string):=by kernel_rfl
end Go.Q9
end
section
namespace Go.Q9
open Go.Proofs.Tryz
open Go.E
theorem ZF:fo prog 68 1=some 1:=by kernel_rfl
theorem Kt:fo prog 68 10=some 10:=by kernel_rfl
theorem LO:fo prog 68 11=some 11:=by kernel_rfl
theorem ME:fo prog 68 12=some 12:=by kernel_rfl
theorem tM:fo prog 68 3=some 3:=by kernel_rfl
theorem X6:fo prog 68 5=some 5:=by kernel_rfl
theorem vC:fo prog 68 6=some 6:=by kernel_rfl
theorem Jv:fo prog 68 7=some 7:=by kernel_rfl
theorem YO:(prog.info? 28).map (·.size)=some 1:=by kernel_rfl
end Go.Q9
end
section
namespace Go.Q9
open Go.Proofs.Tryz
open Go.E
end Go.Q9
end
section
namespace Go.Q9
open Go.Proofs.Tryz
open Go.E
theorem O8:KY prog 43=some ([.int .i64 0,↑false,.int .u64 0,.string .empty,.int .i64 0,.int .i64 0,.int .i64 0,↑false],[(0,1),(1,1),(2,1),(3,1),(4,1),(5,1),(6,2)]):=by kernel_rfl
theorem vV:fo prog 131 1=some 1:=by kernel_rfl
theorem nR:fo prog 45 1=some 1:=by kernel_rfl
theorem N3:fo prog 45 11=some 12:=by kernel_rfl
theorem d6:fo prog 45 8=some 9:=by kernel_rfl
theorem wI:xA prog 43=some 8:=by kernel_rfl
theorem Hp:(prog.info? 35).map (·.size)=some 2:=by kernel_rfl
theorem oW:(prog.info? 43).map (·.size)=some 8:=by kernel_rfl
theorem Y7:zc prog 35=some [.int .i64 0,↑false]:=by kernel_rfl
theorem P7:zc prog 43=some [.int .i64 0,↑false,.int .u64 0,.string .empty,.int .i64 0,.int .i64 0,.int .i64 0,↑false]:=by kernel_rfl
end Go.Q9
end
section
namespace Go.Q9
open Go.Proofs.Tryz
open Go.E
theorem YF:fo prog 45 9=some 10:=by kernel_rfl
end Go.Q9
end
section
namespace Go.Q9
open Go.Proofs.Tryz
open Go.E
end Go.Q9
end
section
namespace Go.Q9
open Go.Proofs.Tryz
open Go.E
end Go.Q9
end
section
namespace Go.Q9
open Go.Proofs.Tryz
open Go.E
theorem Y5:KY prog 35=some ([.int .i64 0,↑false],[(0,1),(1,1)]):=by kernel_rfl
end Go.Q9
end
section
namespace Go.Q9
open Go.Proofs.Tryz
open Go.E
theorem N4:KY prog 222=some ([.int .i64 0,.int .i64 0],[(0,1),(1,1)]):=by kernel_rfl
theorem aAm:KY prog 40=some ([↑false,.slice none 0 0,.slice none 0 0],[(0,1),(1,1),(2,1)]):=by kernel_rfl
theorem MX:fo prog 222 0=some 0:=by kernel_rfl
theorem P5:fo prog 222 1=some 1:=by kernel_rfl
theorem YP:fo prog 40 0=some 0:=by kernel_rfl
theorem xW:fo prog 40 1=some 1:=by kernel_rfl
theorem Gu:fo prog 40 2=some 2:=by kernel_rfl
theorem Xv:tA prog 37=true:=by kernel_rfl
theorem X7:xA prog 222=some 2:=by kernel_rfl
theorem mG:xA prog 40=some 3:=by kernel_rfl
theorem Fq:prog.underlying 37=some (.slice 222):=by kernel_rfl
theorem Ej:mR prog 222=some (.agg [.int .i64 0,.int .i64 0].toArray,2,16):=by kernel_rfl
theorem UX:(prog.info? 222).map (·.size)=some 2:=by kernel_rfl
theorem P9:(prog.info? 37).map (·.size)=some 1:=by kernel_rfl
theorem Du:(prog.info? 40).map (·.size)=some 3:=by kernel_rfl
theorem RV:zc prog 168=some [.string .empty,.int .u64 0]:=by kernel_rfl
theorem aA7:zc prog 222=some [.int .i64 0,.int .i64 0]:=by kernel_rfl
theorem P3:zc prog 40=some [↑false,.slice none 0 0,.slice none 0 0]:=by kernel_rfl
end Go.Q9
end
section
namespace Go.Q9
open Go.Proofs.Tryz
open Go.E
theorem i9:fo prog 131 13=some 40:=by kernel_rfl
theorem s8:fo prog 131 14=some 41:=by kernel_rfl
theorem Mz:fo prog 45 0=some 0:=by kernel_rfl
theorem vP:xA prog 45=some 25:=by kernel_rfl
theorem xI:(prog.info? 45).map (·.size)=some 25:=by kernel_rfl
theorem Eb:zc prog 45=some [.int .i64 0,.int .i64 0,↑false,.int .i64 0,.int .i64 0,.int .i64 0,.int .i64 0,.int .u64 0,.int .u64 0,.string .empty,.int .u64 0,.int .u64 0,.int .i64 0,↑false,↑false,.slice none 0 0,.slice none 0 0,.int .i64 0,↑false,.int .u64 0,.string .empty,.int .i64 0,.int .i64 0,.int .i64 0,↑false]:=by kernel_rfl
end Go.Q9
end
section
namespace Go.Q9
open Go.Proofs.Tryz
open Go.E
theorem Hm:prog.underlying 28=some (.int .u64):=by kernel_rfl
theorem Lw:prog.underlying 3=some (.int .i64):=by kernel_rfl
end Go.Q9
end
section
namespace Go.Q9
open Go.Proofs.Tryz
open Go.E
end Go.Q9
end
section
namespace Go.Q9
open Go.Proofs.Tryz
open Go.E
end Go.Q9
end
section
namespace Go.Q9
open Go.Proofs.Tryz
open Go.E
theorem DT:KY prog 45=some ([.int .i64 0,.int .i64 0,↑false,.int .i64 0,.int .i64 0,.int .i64 0,.int .i64 0,.int .u64 0,.int .u64 0,.string .empty,.int .u64 0,.int .u64 0,.int .i64 0,↑false,↑false,.slice none 0 0,.slice none 0 0,.int .i64 0,↑false,.int .u64 0,.string .empty,.int .i64 0,.int .i64 0,.int .i64 0,↑false],[(0,1),(1,2),(3,1),(4,1),(5,1),(6,1),(7,1),(8,1),(9,1),(10,1),(11,1),(12,1),(13,1),(14,3),(17,8)]):=by kernel_rfl
theorem V3:fo prog 32 1=some 1:=by kernel_rfl
theorem Bh:fo prog 32 2=some 2:=by kernel_rfl
theorem Jo:tA prog 29=true:=by kernel_rfl
theorem Yi:prog.underlying 29=some (.slice 35):=by kernel_rfl
end Go.Q9
end
section
namespace Go.Q9
open Go.Proofs.Tryz
open Go.E
theorem Oq:fo prog 32 3=some 3:=by kernel_rfl
theorem nC:tA prog 30=true:=by kernel_rfl
theorem LS:prog.underlying 30=some (.slice 77):=by kernel_rfl
theorem Z9:mR prog 35=some (.agg [.int .i64 0,↑false].toArray,2,16):=by kernel_rfl
theorem aAq:mR prog 77=some (.pointer none,1,8):=by kernel_rfl
theorem Z5:(prog.info? 29).map (·.size)=some 1:=by kernel_rfl
theorem Vu:(prog.info? 30).map (·.size)=some 1:=by kernel_rfl
end Go.Q9
end
section
namespace Go.Q9
open Go.Proofs.Tryz
open Go.E
theorem tE:fo prog 32 0=some 0:=by kernel_rfl
end Go.Q9
end
section
namespace Go.Q9
open Go.Proofs.Tryz
open Go.E
theorem aAo:KY prog 32=some ([.pointer none,.int .u64 0,.slice none 0 0,.slice none 0 0],[(0,1),(1,1),(2,1),(3,1)]):=by kernel_rfl
theorem T':tA prog 77=true:=by kernel_rfl
theorem aAd:(prog.info? 77).map (·.size)=some 1:=by kernel_rfl
end Go.Q9
end
section
namespace Go.Q9
open Go.Proofs.Tryz
open Go.E
theorem LB:fo prog 107 0=some 0:=by kernel_rfl
theorem S6:fo prog 107 1=some 1:=by kernel_rfl
theorem S4:fo prog 107 3=some 3:=by kernel_rfl
end Go.Q9
end
section
namespace Go.Q9
open Go.Proofs.Tryz
open Go.RowKit Go.E
attribute [local irreducible] gB wpS Go.E.X XS C jU kP fin Y U F Ca jT bl rb aU bV ex ce pu sK gK bK zK gM fO dH gP nE
theorem IP(s:Ct.St){r:Int}(h:1<=r)(h2:r<=2):s.node r=Ct.gY:=by
 unfold Ct.St.node Ct.St.nodes;rw[if_neg (by omega),if_pos h2]
theorem PO{zs:List (Ct.Node×Lq)}{s:Ct.St}(h:zs.map Prod.fst=s.aG){r:Int}{j:Nat}(hj:r-2-1=(j:Int))(hl:j<zs.length):zs.getD j ({},{})∈zs/\(zs.getD j ({},{})).1=s.node r:=by
 have e:zs.getD j ({},{})=zs[j]:=by rw[Xe,DI hl];rfl
 have hz:zs.length=s.aG.length:=by rw[<- h,zE]
 rw[e]
 refine⟨RD _,?_⟩
 have h1:(zs.map Prod.fst)[j]?=some zs[j].1:=by rw[dI,DI hl];rfl
 rw[h]at h1
 unfold Ct.St.node Ct.St.nodes
 rw[if_neg (by omega),if_neg (by omega)]
 have e2:r.toNat-3=j:=by omega
 rw[e2,Xe,h1];rfl
theorem zS{L:Nat}{n:Ct.Node}(h:n.Fit L)(hL:L<=150000000000):n.aA.length<=1000000/\n.aF.length<=200000000000:=⟨h.1.1,DM h.1.2.1 (by omega)⟩
theorem Xd{n:Ct.Node}(h:n.bM=true):n.kind=3\/n.kind=5\/n.kind=6:=by unfold Ct.Node.bM at h;simpa[or_assoc]using h
theorem KH{n:Ct.Node}(h2:n.kind≠2)(hm:n.bM=false)(h8:n.kind≠8):n.kind≠2/\n.kind≠3/\n.kind≠5/\n.kind≠6/\n.kind≠8:=by
 unfold Ct.Node.bM at hm
 simp at hm
 exact⟨h2,hm.1.1,hm.1.2,hm.2,h8⟩
variable{B w:World}{L:List As}
theorem Ui(l:List Int)(p:Option Addr)(c:Nat)(h:SH B w (bV 1 (.slice p l.length c) l.length (l.map (Value.int .i64))::L))(hl:l.length<=1000000):
  Calls prog 111 #[.slice p l.length c] w λe w'=>∃p' c',e=.returned (.slice p' l.length c')/\SH B w' (bV 1 (.slice p' l.length c') l.length (l.map (Value.int .i64))::L):=by
 refine bZ func111 ntmps111 h λw h=>?_
 refine qc h (λhd1 w h=>?_) λhd1 w h=>?_
 have hg2:=eq_of_beq hd1
 refine go h λw h=>?_
 refine rz ?_
 have hl:l=[]:=List.length_eq_zero_iff.1 (by have:=eq_of_beq hd1;omega)
 exact⟨none,0,by subst hl;rfl,by subst hl;exact SH.GZ 1 h.drop⟩
 have hg3:=AD hd1
 refine go h λw h=>?_
 refine sf (mk h fR.h Ss.h rfl rfl (by omega) (by unfold maxLen;omega)) ?_
 rintro _ w ⟨b4,rfl,h⟩
 refine go h λw h=>?_
 rw[OC]at h
 refine go h λw h=>?_
 obtain⟨b5,o6,rfl⟩:=h.fq a1 (by first|omega|(rcases l with _|⟨_,_⟩<;>simp at *<;>omega))
 refine sf (J0 h a1 fR.h Sz.h rfl rfl u0 (oZ _) rfl) ?_
 rintro _ w ⟨rfl,h⟩
 refine go h λw h=>?_
 exact rz ⟨_,_,rfl,SH.fz h.to⟩
theorem QI(l:List Ct.bN)(p:Option Addr)(c:Nat)(h:SH B w (bV 2 (.slice p l.length c) l.length (l.flatMap aR)::L))(hl:l.length<=200000000000):
  Calls prog 112 #[.slice p l.length c] w λe w'=>∃p' c',e=.returned (.slice p' l.length c')/\SH B w' (bV 2 (.slice p' l.length c') l.length (l.flatMap aR)::L):=by
 refine bZ func112 ntmps112 h λw h=>?_
 refine qc h (λhd1 w h=>?_) λhd1 w h=>?_
 have hg2:=eq_of_beq hd1
 refine go h λw h=>?_
 refine rz ?_
 have hl:l=[]:=List.length_eq_zero_iff.1 (by have:=eq_of_beq hd1;omega)
 exact⟨none,0,by subst hl;rfl,by subst hl;exact SH.GZ 2 h.drop⟩
 have hg3:=AD hd1
 refine go h λw h=>?_
 refine sf (mk h fR.h Ss.h rfl rfl (by omega) (by unfold maxLen;omega)) ?_
 rintro _ w ⟨b4,rfl,h⟩
 refine go h λw h=>?_
 obtain⟨b5,o6,rfl⟩:=h.fq a1 (by first|omega|(rcases l with _|⟨_,_⟩<;>simp at *<;>omega))
 refine sf (J0 h a1 fR.h Sz.h rfl rfl u0 (lU eU _) rfl) ?_
 rintro _ w ⟨rfl,h⟩
 refine go h λw h=>?_
 exact rz ⟨_,_,rfl,SH.fz h.to⟩
theorem wP(n:Ct.Node)(q:Lq)(h:SH B w (aM n q::L))(hb:n.aA.length<=1000000)(hp:n.aF.length<=200000000000):
  Calls prog 69 #[.agg (aL n q).toArray] w λe w'=>∃q',e=.returned (.agg (aL n q').toArray)/\SH B w' (aM n q'::L):=by
 have h:=h.se
 refine bZ func69 ntmps69 h λw h=>?_
 refine jX h λb1 w h=>?_
 refine jA h λb2 w h=>?_
 refine Sd (Ui _ _ _ h.to (by omega)) λp3 c4 w h=>?_
 refine Sd (QI _ _ _ h.to (by omega)) λp5 c6 w h=>?_
 exact rr (bP rfl rfl (h.b a2) Row.h)<|⟨⟨p3,c4,p5,c6⟩,rfl,SH.is (l:=[_,_]) (h.to.fr (.c r1 (.c r0 .n)))⟩
theorem tB(n:Ct.Node)(q:Lq)(h:SH B w (L)):
  Calls prog 130 #[.agg (aL n q).toArray] w λe w'=>e=.returned ↑n.bM/\SH B w' L:=by
 refine bZ func130 ntmps130 h λw h=>?_
 refine jX h λb1 w h=>?_
 refine qc h (λhd2 w h=>?_) λhd2 w h=>?_
 have hg3:=eq_of_beq hd2
 refine go h λw h=>?_
 refine rz ?_
 have hm:n.bM=true:=by unfold Ct.Node.bM;rw[hd2];simp
 exact⟨by rw[hm],h.drop⟩
 have hg4:=AD hd2
 refine go h λw h=>?_
 refine qc h (λhd5 w h=>?_) λhd5 w h=>?_
 have hg6:=eq_of_beq hd5
 refine go h λw h=>?_
 refine rz ?_
 have hm:n.bM=true:=by unfold Ct.Node.bM;rw[hd2,hd5];simp
 exact⟨by rw[hm],h.drop⟩
 have hg7:=AD hd5
 refine go h λw h=>?_
 refine qc h (λhd8 w h=>?_) λhd8 w h=>?_
 have hg9:=eq_of_beq hd8
 refine go h λw h=>?_
 refine rz ?_
 have hm:n.bM=true:=by unfold Ct.Node.bM;rw[hd2,hd5,hd8];simp
 exact⟨by rw[hm],h.drop⟩
 have hg10:=AD hd8
 refine go h λw h=>?_
 refine rz ?_
 have hm:n.bM=false:=by unfold Ct.Node.bM;rw[hd2,hd5,hd8];rfl
 exact⟨by rw[hm],h.drop⟩
theorem Ym(ab:Nat)(s:Ct.St)(h:SH B w (wW ab s::L))(hr:s.size<=100000000000):
  Calls prog 335 #[↑ab] w λe w'=>e=.returned ↑s.bS.2/\SH B w' (wW ab s.bS.1::L):=by
 obtain⟨⟨pn,cn,pc,cc,zs⟩,hz0,h⟩:=h.ao
 have h:SH B w (bl ab ([.slice pn zs.length cn,.slice pc s.cells.length cc,↑(s.gen:Int),↑(s.acc:Int)]) 107::aU 68 14 (.slice pn zs.length cn) zs.length (zs.flatMap cB)::aU 36 1 (.slice pc s.cells.length cc) s.cells.length (s.cells.map (Value.int .i64))::bE zs::L):=h
 have hzs:zs.map Prod.fst=s.aG:=hz0
 clear hz0
 have hz:zs.length=s.aG.length:=by rw[<- hzs,zE]
 have hrm:s.aG.length+s.cells.length+s.gen+s.acc<=100000000000:=hr
 refine bZ func335 ntmps335 h λw h=>?_
 exact rz ⟨rfl,(SH.ai ⟨_,_,_,_,_⟩ hzs h)⟩
theorem tK(ab:Nat)(s:Ct.St)(i:Int)(h:SH B w (wW ab s::L))(hr:s.size<=100000000000):
  Calls prog 334 #[↑ab,↑i] w λe w'=>e=.returned (.int .i64 (s.aV i).2)/\SH B w' (wW ab (s.aV i).1::L):=by
 obtain⟨⟨pn,cn,pc,cc,zs⟩,hz0,h⟩:=h.ao
 have h:SH B w (bl ab ([.slice pn zs.length cn,.slice pc s.cells.length cc,↑(s.gen:Int),↑(s.acc:Int)]) 107::aU 68 14 (.slice pn zs.length cn) zs.length (zs.flatMap cB)::aU 36 1 (.slice pc s.cells.length cc) s.cells.length (s.cells.map (Value.int .i64))::bE zs::L):=h
 have hzs:zs.map Prod.fst=s.aG:=hz0
 clear hz0
 have hrm:s.aG.length+s.cells.length+s.gen+s.acc<=100000000000:=hr
 refine bZ func334 ntmps334 h λw h=>?_
 refine sf (bu [↑i] h fR.h Ss.h rfl (by kernel_rfl) rfl (by decide) (by decide)) ?_
 rintro _ w ⟨b1,rfl,h⟩
 refine go h λw h=>?_
 refine sf (ap h fR.h rfl Ss.h rfl (by decide) rfl rfl (λ_=>u3) (h.ro a0) (by simp[Value.oneCell']) rfl (fD _ _) (by unfold maxLen;omega) (by omega)) ?_
 rintro _ w ⟨p2,c3,rfl,h⟩
 refine go h λw h=>?_
 refine rz ?_
 exact⟨by simp[Ct.St.aV],SH.ai ⟨pn,cn,p2,c3,zs⟩ hzs (by unfold VA;dsimp only[Ct.St.aV];rw[Xb,dP];exact h.drop)⟩
theorem Xj(ab:Nat)(vn vg va:Value)(pc:Option Addr)(n cc:Nat)(c:Int)(h:SH B w (bl ab ([vn,.slice pc n cc,vg,va]) 107::L)):
  Calls prog 336 #[↑ab,↑c] w λe w'=>e=.returned (.bool (decide (1<=c)&&decide (c<=(n:Int))))/\SH B w' (bl ab ([vn,.slice pc n cc,vg,va]) 107::L):=by
 refine bZ func336 ntmps336 h λw h=>?_
 refine qg h (λhd1 w h=>?_) λhd1 w h=>?_
 ·have hg2:=bI hd1
  refine go h λw h=>?_
  refine rz ?_
  refine⟨?_,h⟩
  congr 2;simp;omega
 ·have hg3:=mD hd1
  refine go h λw h=>?_
  refine rz ?_
  refine⟨?_,h⟩
  congr 2;simp;omega
theorem yS(ab:Nat)(vc vg va:Value)(pn:Option Addr)(n cn:Nat)(h:SH B w (bl ab ([.slice pn n cn,vc,vg,va]) 107::L))(hn:n<=200000000000):
  Calls prog 40 #[↑ab] w λe w'=>e=.returned (.int .i64 ((2+n:Nat):Int))/\SH B w' (bl ab ([.slice pn n cn,vc,vg,va]) 107::L):=by
 refine bZ func40 ntmps40 h λw h=>?_
 refine st (ba ((2+n:Nat):Int))<|go h λw h=>?_
 exact rz ⟨rfl,h⟩
theorem IT(ab:Nat)(s:Ct.St)(c:Int)(h:SH B w (wW ab s::L))(hr:s.size<=100000000000):
  Calls prog 333 #[↑ab,↑c] w λe w'=>e=.returned (.int .i64 (s.load c).2)/\SH B w' (wW ab (s.load c).1::L):=by
 obtain⟨⟨pn,cn,pc,cc,zs⟩,hz0,h⟩:=h.ao
 have h:SH B w (bl ab ([.slice pn zs.length cn,.slice pc s.cells.length cc,↑(s.gen:Int),↑(s.acc:Int)]) 107::aU 68 14 (.slice pn zs.length cn) zs.length (zs.flatMap cB)::aU 36 1 (.slice pc s.cells.length cc) s.cells.length (s.cells.map (Value.int .i64))::bE zs::L):=h
 have hzs:zs.map Prod.fst=s.aG:=hz0
 clear hz0
 have hrm:s.aG.length+s.cells.length+s.gen+s.acc<=100000000000:=hr
 refine bZ func333 ntmps333 h λw h=>?_
 refine bA (Xj _ _ _ _ _ _ _ _ h.to) λw h=>?_
 refine qc h (λhd1 w h=>?_) λhd1 w h=>?_
 have hd2:=(pJ _).mp hd1
 refine go h λw h=>?_
 exact rz ⟨by rw[show (s.load c).2=0 from Bl (by have:=hd2;simp at this;omega)],(SH.ai ⟨_,_,_,_,_⟩ hzs h)⟩
 have hd3:=(Co _).mp hd1
 refine go h λw h=>?_
 obtain⟨hc1,hc2⟩:1<=c/\c<=(s.cells.length:Int):=by simpa using hd3
 obtain⟨j,hj⟩:∃j:Nat,c-1=(j:Int):=⟨(c-1).toNat,by omega⟩
 refine st (bs (j:Int))<|go h λw h=>?_
 obtain⟨b4,rfl⟩:=h.fp a2 (by omega)
 refine go h λw h=>?_
 exact rz ⟨by rw[show (s.load c).2=s.cells.getD j 0 from Kq hj (by omega)],(SH.ai ⟨_,_,_,_,_⟩ hzs h)⟩
theorem PR(ab:Nat)(s:Ct.St)(c o n:Int)(h:SH B w (wW ab s::L))(hr:s.size<=100000000000):
  Calls prog 332 #[↑ab,↑c,↑o,↑n] w λe w'=>e=.returned (.bool (s.eA c o n).2)/\SH B w' (wW ab (s.eA c o n).1::L):=by
 obtain⟨⟨pn,cn,pc,cc,zs⟩,hz0,h⟩:=h.ao
 have h:SH B w (bl ab ([.slice pn zs.length cn,.slice pc s.cells.length cc,↑(s.gen:Int),↑(s.acc:Int)]) 107::aU 68 14 (.slice pn zs.length cn) zs.length (zs.flatMap cB)::aU 36 1 (.slice pc s.cells.length cc) s.cells.length (s.cells.map (Value.int .i64))::bE zs::L):=h
 have hzs:zs.map Prod.fst=s.aG:=hz0
 clear hz0
 have hrm:s.aG.length+s.cells.length+s.gen+s.acc<=100000000000:=hr
 refine bZ func332 ntmps332 h λw h=>?_
 refine bA (Xj _ _ _ _ _ _ _ _ h.to) λw h=>?_
 refine qg h (λhd1 w h=>?_) λhd1 w h=>?_
 have hd2:=(pJ _).mp hd1
 refine go h λw h=>?_
 refine rz ?_
 rw[DU (by have:=hd2;simp at this;omega)];exact⟨rfl,(SH.ai ⟨_,_,_,_,_⟩ hzs h)⟩
 have hd3:=(Co _).mp hd1
 refine go h λw h=>?_
 obtain⟨hc1,hc2⟩:1<=c/\c<=(s.cells.length:Int):=by simpa using hd3
 obtain⟨j,hj⟩:∃j:Nat,c-1=(j:Int):=⟨(c-1).toNat,by omega⟩
 refine st (bs (j:Int))<|go h λw h=>?_
 obtain⟨b4,rfl⟩:=h.fp a2 (by omega)
 refine go h λw h=>?_
 refine qc h (λhd5 w h=>?_) λhd5 w h=>?_
 have hg6:=bne_iff_ne.1 hd5
 refine go h λw h=>?_
 refine rz ?_
 rw[LD hj (by omega) (by omega)];exact⟨rfl,(SH.ai ⟨_,_,_,_,_⟩ hzs h)⟩
 have hg7:=eS hd5
 refine go h λw h=>?_
 refine st (bs (j:Int))<|go h λw h=>?_
 refine sf (F4 h Sz.h rfl rfl (by omega) u2) ?_
 rintro _ w h
 refine go h λw h=>?_
 refine rz ?_
 rw[FV hj (by omega) (by omega)];exact⟨rfl,SH.ai ⟨pn,cn,some ⟨b4,0,none⟩,cc,zs⟩ hzs (by unfold VA;dsimp only;rw[yM];exact h)⟩
theorem Gf(ab:Nat)(s:Ct.St)(r:Int)(h:SH B w (wW ab s::L))(hr:s.size<=100000000000)(hf:Ct.eK s):
  Calls prog 53 #[↑ab,↑r] w λe w'=>∃q,e=.returned (.agg (aL (s.node r) q).toArray)/\SH B w' (aM (s.node r) q::wW ab s::L):=by
 obtain⟨⟨pn,cn,pc,cc,zs⟩,hz0,h⟩:=h.ao
 have h:SH B w (bl ab ([.slice pn zs.length cn,.slice pc s.cells.length cc,↑(s.gen:Int),↑(s.acc:Int)]) 107::aU 68 14 (.slice pn zs.length cn) zs.length (zs.flatMap cB)::aU 36 1 (.slice pc s.cells.length cc) s.cells.length (s.cells.map (Value.int .i64))::bE zs::L):=h
 have hzs:zs.map Prod.fst=s.aG:=hz0
 clear hz0
 have hz:zs.length=s.aG.length:=by rw[<- hzs,zE]
 have hrm:s.aG.length+s.cells.length+s.gen+s.acc<=100000000000:=hr
 refine bZ func53 ntmps53 h λw h=>?_
 refine jA h λb1 w h=>?_
 refine qg h (λhd2 w h=>?_) λhd2 w h=>?_
 ·have hg3:=bI hd2
  refine go h λw h=>?_
  refine rr (bP rfl rfl (h.b a0) Row.h) ?_
  rw[wV s r (by omega)];exact⟨{},rfl,SH.eE _ rfl rfl (SH.ai ⟨_,_,_,_,_⟩ hzs h.drop)⟩
 ·have hg4:=mD hd2
  refine go h λw h=>?_
  refine bA (yS _ _ _ _ _ _ _ h.to (by omega)) λw h=>?_
  refine qc h (λhd5 w h=>?_) λhd5 w h=>?_
  ·have hg6:=bI hd5
   refine go h λw h=>?_
   refine rr (bP rfl rfl (h.b a1) Row.h) ?_
   rw[wV s r (by omega)];exact⟨{},rfl,SH.eE _ rfl rfl (SH.ai ⟨_,_,_,_,_⟩ hzs (h.fr (.c r1 .n)).drop)⟩
  ·have hg7:=mD hd5
   refine go h λw h=>?_
   refine qc h (λhd8 w h=>?_) λhd8 w h=>?_
   ·have hg9:=bI hd8
    refine go h λw h=>?_
    refine rr (bP rfl rfl (h.b a1) Row.h) ?_
    rw[IP s (r:=r) (by omega) (by omega)];exact⟨{},rfl,SH.eE _ rfl rfl (SH.ai ⟨_,_,_,_,_⟩ hzs (h.fr (.c r1 .n)).drop)⟩
   ·have hg10:=mD hd8
    refine go h λw h=>?_
    refine st (bs (r-2))<|go h λw h=>?_
    obtain⟨j,hj⟩:∃j:Nat,r-2-1=(j:Int):=⟨(r-2-1).toNat,by omega⟩
    refine st (bs (j:Int))<|go h λw h=>?_
    obtain⟨b11,rfl⟩:=h.fp a2 (by omega)
    refine go h λw h=>?_
    refine st (gJ rfl ((h.ro a2).x fN (by decide) (by omega) ({},{})) Row.h)<|go h λw h=>?_
    obtain⟨hm,hn⟩:=PO hzs hj (by omega)
    have h:=h.Ll a4 hm
    have hfj:=hf.node r
    rw[<- hn]at hfj
    refine cG (wP _ _ h.to (zS hfj (by omega)).1 (zS hfj (by omega)).2) λq12 w h=>?_
    refine rr (bP rfl rfl (h.b a2) Row.h) ?_
    rw[<- hn];exact⟨_,rfl,((SH.ai ⟨_,_,_,_,_⟩ hzs ((h.fr (.c r2 .n)).drop.fr (.c r1 (.c r1 (.c r1 (.c r1 .n)))))).fr (.c r1 .n))⟩
section
attribute [local semireducible] gB wpS Go.E.X XS C jU kP fin Y U F Ca jT bl rb aU bV ex ce pu sK gK bK zK gM fO dH gP nE
attribute [local irreducible] gB wpS
variable{B w:World}{L:List As}
theorem CE(ab:Nat)(s:Ct.St)(n:Ct.Node)(q:Lq)(i:Int)(h:SH B w (aM n q::wW ab s::L))(hr:s.size<=100000000000)(hb:n.aA.length<=1000000)(hp:n.aF.length<=200000000000):
  Calls prog 331 #[↑ab,.agg (aL n q).toArray,↑i] w λe w'=>e=.returned (.int .i64 (s.alloc n i).2)/\SH B w' (wW ab (s.alloc n i).1::L):=by
 refine Ea (args:=[_,_,_]) func331 rfl ntmps331 rfl ?_
 refine sq<|rg<|sf (bx h rfl rfl)<|?_
 rintro _ w ⟨b1,rfl,h⟩
 refine st (sg rfl)<|xe<|nx<|sq<|rg<|st (gJ rfl (dK (h.b a0)) NX)<|cl (ca eF rfl) ((wP n q (h.fr (.c r1 .n)) hb hp).mono ?_)
 rintro _ w ⟨q2,rfl,h⟩
 refine⟨_,rfl,?_⟩
 refine sf (so h rfl rfl rfl xP rfl (.r (.r (.r (.r (.r (.r (.r (.r (.r (.r (.r (.r (.r (.r .d)))))))))))))) u1)<|?_
 rintro _ w h
 refine xe<|nx<|sq<|rg<|st (fa Gi rfl)<|sf (so h rfl rfl rfl wU rfl (.s (.s (.r .d))) u1)<|?_
 rintro _ w h
 refine st (fa xM rfl)<|sf (so h rfl rfl rfl wU rfl (.s (.s (.s (.s (.s (.s (.s (.s (.s (.r .d)))))))))) u1)<|?_
 rintro _ w h
 refine st (fa Af rfl)<|sf (so h rfl rfl rfl wU rfl (.s (.s (.s (.s (.s (.s (.s (.s (.s (.s (.s (.s (.s (.r .d)))))))))))))) u1)<|?_
 rintro _ w h
 refine xe<|nx<|?_
 refine sm (λe w=>∃s1:Ct.St,∃c2:Int,∃c9:Int,∃c13:Int,Sub 47 e (.c 0 (.pointer (some ⟨ab,0,none⟩)) (.c 4 (.pointer (some ⟨b1,0,none⟩)) .n))/\SH B w (bl b1 ([.int .i64 n.kind,.int .i64 n.gen,.int .i64 c2,.int .u64 (n.aD:Int),.slice q2.pb n.aA.length q2.cb,.int .u64 (n.hash:Int),.string n.key,.int .u64 (n.value:Int),.slice q2.pp n.aF.length q2.cp,.int .i64 c9,.int .i64 n.dC,.int .i64 n.aK,.int .i64 n.new,.int .i64 c13]) 68::aM n q2::wW ab s1::L)/\(s.alloc n i=({s1 with aG:=s1.aG++[{n.bare with main:=c2,prev:=c9,status:=c13}]},(s.aG.length:Int)+3))/\(s1.aG=s.aG)/\(s1.size<=s.size+1)) ?_ ?_
 ·refine bk<|sq<|rg<|st (fa Bv rfl)<|st (ld jE rfl (h.c a1 rfl))<|st (bi rfl rfl rfl)<|st (sg rfl)<|xe<|nx<|?_
  rcases Pe ((n.kind:Int)==2)with hd3|hd3
  ·refine ct rfl hd3<|rg<|st (mv rfl)<|st (mv rfl)<|cl (ca eF rfl) ((tK ab s i (h.fr (.c r2 .n)) (by omega)).mono ?_)
   rintro _ w ⟨rfl,h⟩
   refine⟨_,rfl,?_⟩
   refine st (fa Gi rfl)<|sf (so h rfl rfl rfl wU rfl (.s (.s (.r .d))) u2)<|?_
   rintro _ w h
   refine xe<|bn<|nx<|?_
   exact⟨(s.aV i).1,(s.aV i).2,0,0,⟨rfl,rfl,trivial⟩,(h.fr (.c r2 (.c r1 (.c r0 .n)))),GP s n i (eq_of_beq hd3),rfl,(by simp only[Ct.St.aV,Ct.St.size,Xb,dP];omega)⟩
  ·refine cf rfl hd3<|sq<|rg<|st (gJ rfl (dK (h.b a1)) NX)<|cl (ca eF rfl) ((tB ({n with main:=0,prev:=0,status:=0}) q2 (h.fr .n)).mono ?_)
   rintro _ w ⟨rfl,h⟩
   refine⟨_,rfl,?_⟩
   refine st (sg rfl)<|xe<|nx<|?_
   rcases Pe n.bM with hd6|hd6
   ·refine ct rfl hd6<|rg<|st (mv rfl)<|st (mv rfl)<|cl (ca eF rfl) ((tK ab s i (h.fr (.c r2 .n)) (by omega)).mono ?_)
    rintro _ w ⟨rfl,h⟩
    refine⟨_,rfl,?_⟩
    refine st (fa xM rfl)<|sf (so h rfl rfl rfl wU rfl (.s (.s (.s (.s (.s (.s (.s (.s (.s (.r .d)))))))))) u2)<|?_
    rintro _ w h
    refine xe<|bn<|nx<|?_
    exact⟨(s.aV i).1,0,(s.aV i).2,0,⟨rfl,rfl,trivial⟩,(h.fr (.c r2 (.c r1 (.c r0 .n)))),Gg s n i (Xd hd6),rfl,(by simp only[Ct.St.aV,Ct.St.size,Xb,dP];omega)⟩
   ·refine cf rfl hd6<|sq<|rg<|st (fa Bv rfl)<|st (ld jE rfl (h.c a1 rfl))<|st (bi rfl rfl rfl)<|st (sg rfl)<|xe<|nx<|?_
    rcases Pe ((n.kind:Int)==8)with hd7|hd7
    ·refine ct rfl hd7<|rg<|st (mv rfl)<|st (mv rfl)<|cl (ca eF rfl) ((tK ab s i (h.fr (.c r2 .n)) (by omega)).mono ?_)
     rintro _ w ⟨rfl,h⟩
     refine⟨_,rfl,?_⟩
     refine st (fa Af rfl)<|sf (so h rfl rfl rfl wU rfl (.s (.s (.s (.s (.s (.s (.s (.s (.s (.s (.s (.s (.s (.r .d)))))))))))))) u2)<|?_
     rintro _ w h
     refine xe<|bn<|nx<|?_
     exact⟨(s.aV i).1,0,0,(s.aV i).2,⟨rfl,rfl,trivial⟩,(h.fr (.c r2 (.c r1 (.c r0 .n)))),GQ s n i (eq_of_beq hd7),rfl,(by simp only[Ct.St.aV,Ct.St.size,Xb,dP];omega)⟩
    ·refine cf rfl hd7<|sk<|bn<|nx<|?_
     exact⟨s,0,0,0,⟨rfl,rfl,trivial⟩,(h.fr (.c r1 (.c r0 (.c r0 .n)))),GN s n i (KH (AD hd3) hd6 (AD hd7)),rfl,(by omega)⟩
 rintro e w ⟨s1,c2,c9,c13,hE,h,ha,hs1,hr1⟩
 refine C.sub hE ?_
 refine sq<|?_
 have hrm:s1.aG.length+s1.cells.length+s1.gen+s1.acc<=100000000001:=DM hr1 (by omega)
 have h:=h.fr (.c r2 .n)
 obtain⟨⟨pn,cn,pc,cc,zs⟩,hz0,h⟩:=h.ao
 have h:SH B w (bl ab ([.slice pn zs.length cn,.slice pc s1.cells.length cc,↑(s1.gen:Int),↑(s1.acc:Int)]) 107::aU 68 14 (.slice pn zs.length cn) zs.length (zs.flatMap cB)::aU 36 1 (.slice pc s1.cells.length cc) s1.cells.length (s1.cells.map (Value.int .i64))::bE zs::bl b1 ([↑n.kind,↑n.gen,↑c2,.int .u64 (n.aD:Int),.slice q2.pb n.aA.length q2.cb,.int .u64 (n.hash:Int),↑n.key,.int .u64 (n.value:Int),.slice q2.pp n.aF.length q2.cp,↑c9,↑n.dC,↑n.aK,↑n.new,↑c13]) 68::aM n q2::L):=h
 have hzs:zs.map Prod.fst=s1.aG:=hz0
 clear hz0
 have hz:zs.length=s1.aG.length:=by rw[<- hzs,zE]
 refine Uc (F:=[bl ab ([.slice pn zs.length cn,.slice pc s1.cells.length cc,↑(s1.gen:Int),↑(s1.acc:Int)]) 107,bl b1 ([↑n.kind,↑n.gen,↑c2,.int .u64 (n.aD:Int),.slice q2.pb n.aA.length q2.cb,.int .u64 (n.hash:Int),↑n.key,.int .u64 (n.value:Int),.slice q2.pp n.aF.length q2.cp,↑c9,↑n.dC,↑n.aK,↑n.new,↑c13]) 68]) [(true,[1,3,5,7,9,11,12,14,17,19]),(false,[20])] (by kernel_rfl) h (λw h=>(hC (h.at_ a0) (hC (h.at_ a4) hN))) λw h=>VP<|tk (λW H=>mv rfl)<|tk (λW H=>mv rfl)<|tk (λW H=>nc rfl rfl)<|tk (λW H=>fa LB rfl)<|tk (λW H=>ld Ba rfl (H.c a0 rfl))<|tk (λW H=>gJ rfl (dK (H.b a1)) NX)<|ff (bu [↑n.kind,↑n.gen,↑c2,.int .u64 (n.aD:Int),.slice q2.pb n.aA.length q2.cb,.int .u64 (n.hash:Int),↑n.key,.int .u64 (n.value:Int),.slice q2.pp n.aF.length q2.cp,↑c9,↑n.dC,↑n.aK,↑n.new,↑c13] h vI XK rfl (by kernel_rfl) rfl (by decide) (by decide))<|?_
 rintro _ w ⟨b10,rfl,h⟩
 refine⟨(hC (h.at_ a1) (hC (h.at_ a5) hN)),?_⟩
 refine ff (ap h vI rfl XK rfl (by decide) rfl rfl (λ_=>u2) (h.ro a0) (by simp[Value.oneCell']) rfl (fW (enc:=cB) _ ({n.bare with main:=c2,prev:=c9,status:=c13},q2)) (by unfold maxLen;omega) (by omega))<|?_
 rintro _ w ⟨p11,c12,rfl,h⟩
 refine⟨(hC (h.at_ a1) (hC (h.at_ a5) hN)),?_⟩
 refine tk (λW H=>nc rfl rfl)<|tk (λW H=>fa LB rfl)<|Zp<|ff (so h rfl rfl rfl Y6 rfl (.r .d) u1)<|?_
 rintro _ w h
 refine⟨trivial,?_⟩
 refine xz<|nx<|sq<|rg<|st (mv rfl)<|cl (ca eF rfl) ((yS ab _ _ _ _ _ _ (h.fr (.c r1 .n)) (by omega)).mono ?_)
 rintro _ w ⟨rfl,h⟩
 refine⟨_,rfl,?_⟩
 refine st (sg rfl)<|xe<|nx<|rt<|?_
 refine rr (jP results331 rfl)<|?_
 rw[ha]
 have h:=(SH.se (l:=[_,_]) ((h.fr (.c r1 (.c r4 .n))).drop.drop.fr (.c r4 (.c r3 (.c r0 (.c r0 (.c r0 .n)))))))
 have h:=SH.HU (n:={n.bare with main:=c2,prev:=c9,status:=c13}) (q:=q2) h
 refine⟨?_,SH.ai ⟨p11,c12,pc,cc,zs++[({n.bare with main:=c2,prev:=c9,status:=c13},q2)]⟩ ?_ ?_⟩
 ·rw[hz,hs1];congr 2;omega
 ·rw[Br,hzs];rfl
 ·unfold VA;dsimp only;rw[Xb,dP];exact h.fr (.c r1 (.c r1 (.c r1 (.c r0 .n))))
end
end Go.Q9
end
