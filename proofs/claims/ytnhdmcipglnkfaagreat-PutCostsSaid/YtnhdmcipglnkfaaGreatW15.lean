/- Parts of a proof: Ryd, Rye, Ryf, Ryg, Qya, Qyb, Qyc, Qyd, Qye, Qyf, Qyp, Qyg, Qyh, Qyi, Qyj, Qyk, Qyl, Qym, Qyn, Aya, Ar, Ro. -/
import Derived.Test.YtnhdmcipglnkfaaGreatW14
set_option linter.unusedVariables false
set_option linter.unusedSimpArgs false
set_option maxRecDepth 100000
set_option maxHeartbeats 4000000
section
namespace Go.Q9
open Go.Proofs.Tryz
open Go.E
end Go.Q9
end
section
namespace Go.Q9
open Go.Proofs.Tryz
open Go.E
theorem BQ:fo prog 35 1=some 1:=by kernel_rfl
theorem LZ:Dz prog 35=some 2:=by kernel_rfl
end Go.Q9
end
section
namespace Go.Q9
open Go.Proofs.Tryz
open Go.E
theorem f9:D8 prog 120=some ([.string .empty,.int .u64 0],[(0,1),(1,1)]):=by kernel_rfl
theorem g9:eqf prog 120=some [.s,.i .u64]:=by kernel_rfl
theorem Hq:fo prog 120 0=some 0:=by kernel_rfl
theorem B1:fo prog 120 1=some 1:=by kernel_rfl
theorem qD:wM prog 28=true:=by kernel_rfl
theorem zH:wM prog 9=true:=by kernel_rfl
theorem sO:Dz prog 120=some 2:=by kernel_rfl
theorem gR:(prog.info? 120).map (·.size)=some 2:=by kernel_rfl
theorem AE:prog.underlying 9=some (.string):=by kernel_rfl
end Go.Q9
end
section
namespace Go.Q9
open Go.Proofs.Tryz
open Go.E
theorem RB:fo prog 53 1=some 1:=by kernel_rfl
theorem Gy:fo prog 53 10=some 10:=by kernel_rfl
theorem IT:fo prog 53 11=some 11:=by kernel_rfl
theorem GH:fo prog 53 12=some 12:=by kernel_rfl
theorem pE:fo prog 53 3=some 3:=by kernel_rfl
theorem Zv:fo prog 53 5=some 5:=by kernel_rfl
theorem Fu:fo prog 53 6=some 6:=by kernel_rfl
theorem HK:(prog.info? 28).map (·.size)=some 1:=by kernel_rfl
end Go.Q9
end
section
namespace Go.Q9
open Go.Proofs.Tryz
open Go.E
end Go.Q9
end
section
namespace Go.Q9
open Go.Proofs.Tryz
open Go.E
theorem aI4:D8 prog 49=some ([.int .i64 0,↑false,.int .u64 0,.string .empty,.int .i64 0,.int .i64 0,.int .i64 0,↑false],[(0,1),(1,1),(2,1),(3,1),(4,1),(5,1),(6,2)]):=by kernel_rfl
theorem zU:fo prog 135 1=some 1:=by kernel_rfl
theorem Gh:fo prog 60 1=some 1:=by kernel_rfl
theorem B7:fo prog 60 11=some 12:=by kernel_rfl
theorem RK:fo prog 60 8=some 9:=by kernel_rfl
theorem yX:Dz prog 49=some 8:=by kernel_rfl
theorem Kc:(prog.info? 35).map (·.size)=some 2:=by kernel_rfl
theorem vZ:(prog.info? 49).map (·.size)=some 8:=by kernel_rfl
theorem aK1:zc prog 35=some [.int .i64 0,↑false]:=by kernel_rfl
theorem Wb:zc prog 49=some [.int .i64 0,↑false,.int .u64 0,.string .empty,.int .i64 0,.int .i64 0,.int .i64 0,↑false]:=by kernel_rfl
end Go.Q9
end
section
namespace Go.Q9
open Go.Proofs.Tryz
open Go.E
theorem TL:fo prog 60 9=some 10:=by kernel_rfl
end Go.Q9
end
section
namespace Go.Q9
open Go.Proofs.Tryz
open Go.E
end Go.Q9
end
section
namespace Go.Q9
open Go.Proofs.Tryz
open Go.E
end Go.Q9
end
section
namespace Go.Q9
open Go.Proofs.Tryz
open Go.E
theorem aK3:D8 prog 35=some ([.int .i64 0,↑false],[(0,1),(1,1)]):=by kernel_rfl
end Go.Q9
end
section
namespace Go.Q9
open Go.Proofs.Tryz
open Go.E
theorem OM:zc prog 120=some [.string .empty,.int .u64 0]:=by kernel_rfl
end Go.Q9
end
section
namespace Go.Q9
open Go.Proofs.Tryz
open Go.E
theorem VI:fo prog 135 13=some 40:=by kernel_rfl
theorem UK:fo prog 135 14=some 41:=by kernel_rfl
theorem AV:fo prog 60 0=some 0:=by kernel_rfl
theorem wV:Dz prog 60=some 25:=by kernel_rfl
theorem Aa:(prog.info? 60).map (·.size)=some 25:=by kernel_rfl
theorem Ft:zc prog 60=some [.int .i64 0,.int .i64 0,↑false,.int .i64 0,.int .i64 0,.int .i64 0,.int .i64 0,.int .u64 0,.int .u64 0,.string .empty,.int .u64 0,.int .u64 0,.int .i64 0,↑false,↑false,.slice none 0 0,.slice none 0 0,.int .i64 0,↑false,.int .u64 0,.string .empty,.int .i64 0,.int .i64 0,.int .i64 0,↑false]:=by kernel_rfl
end Go.Q9
end
section
namespace Go.Q9
open Go.Proofs.Tryz
open Go.E
theorem Cj:prog.underlying 28=some (.int .u64):=by kernel_rfl
theorem Uo:prog.underlying 3=some (.int .i64):=by kernel_rfl
end Go.Q9
end
section
namespace Go.Q9
open Go.Proofs.Tryz
open Go.E
end Go.Q9
end
section
namespace Go.Q9
open Go.Proofs.Tryz
open Go.E
end Go.Q9
end
section
namespace Go.Q9
open Go.Proofs.Tryz
open Go.E
theorem Xb:D8 prog 60=some ([.int .i64 0,.int .i64 0,↑false,.int .i64 0,.int .i64 0,.int .i64 0,.int .i64 0,.int .u64 0,.int .u64 0,.string .empty,.int .u64 0,.int .u64 0,.int .i64 0,↑false,↑false,.slice none 0 0,.slice none 0 0,.int .i64 0,↑false,.int .u64 0,.string .empty,.int .i64 0,.int .i64 0,.int .i64 0,↑false],[(0,1),(1,2),(3,1),(4,1),(5,1),(6,1),(7,1),(8,1),(9,1),(10,1),(11,1),(12,1),(13,1),(14,3),(17,8)]):=by kernel_rfl
theorem U':fo prog 32 1=some 1:=by kernel_rfl
theorem wZ:fo prog 32 2=some 2:=by kernel_rfl
theorem Rc:wM prog 29=true:=by kernel_rfl
theorem Qo:prog.underlying 29=some (.slice 35):=by kernel_rfl
end Go.Q9
end
section
namespace Go.Q9
open Go.Proofs.Tryz
open Go.E
theorem Hi:fo prog 32 3=some 3:=by kernel_rfl
theorem AZ:wM prog 30=true:=by kernel_rfl
theorem JA:prog.underlying 30=some (.slice 81):=by kernel_rfl
theorem aBg:sB prog 35=some (.agg [.int .i64 0,↑false].toArray,2,16):=by kernel_rfl
theorem aIq:sB prog 81=some (.pointer none,1,8):=by kernel_rfl
theorem aB1:(prog.info? 29).map (·.size)=some 1:=by kernel_rfl
theorem aId:(prog.info? 30).map (·.size)=some 1:=by kernel_rfl
end Go.Q9
end
section
namespace Go.Q9
open Go.Proofs.Tryz
open Go.E
theorem V3:fo prog 32 0=some 0:=by kernel_rfl
end Go.Q9
end
section
namespace Go.Q9
open Go.Proofs.Tryz
open Go.E
theorem aJl:D8 prog 32=some ([.pointer none,.int .u64 0,.slice none 0 0,.slice none 0 0],[(0,1),(1,1),(2,1),(3,1)]):=by kernel_rfl
theorem aEk:wM prog 81=true:=by kernel_rfl
theorem aK4:(prog.info? 81).map (·.size)=some 1:=by kernel_rfl
end Go.Q9
end
section
namespace Go.Q9
open Go.Proofs.Tryz
open Go.E
theorem FJ:fo prog 105 0=some 0:=by kernel_rfl
end Go.Q9
end
section
namespace Go.Q9
open Go.Proofs.Tryz
open Go.RowKit Go.E
attribute [local irreducible] gA wpS Go.E.X XS C kV lL fin Y U F Ca kU bl rb aV bS ex ce pu sK gK bK zK gG fE cZ gY mA
theorem YB(s:Ct.St){r:Int}(h:1<=r)(h2:r<=2):s.node r=Ct.iH:=by
 unfold Ct.St.node Ct.St.nodes;rw[if_neg (by omega),if_pos h2]
theorem k9{zs:List (Ct.Node×Lq)}{s:Ct.St}(h:zs.map Prod.fst=s.aG){r:Int}{j:Nat}(hj:r-2-1=(j:Int))(hl:j<zs.length):zs.getD j ({},{})∈zs/\(zs.getD j ({},{})).1=s.node r:=by
 have e:zs.getD j ({},{})=zs[j]:=by rw[cK,fV hl];rfl
 have hz:zs.length=s.aG.length:=by rw[<- h,vX]
 rw[e]
 refine⟨uY _,?_⟩
 have h1:(zs.map Prod.fst)[j]?=some zs[j].1:=by rw[AG,fV hl];rfl
 rw[h]at h1
 unfold Ct.St.node Ct.St.nodes
 rw[if_neg (by omega),if_neg (by omega)]
 have e2:r.toNat-3=j:=by omega
 rw[e2,cK,h1];rfl
theorem Hk{L:Nat}{n:Ct.Node}(h:n.Fit L)(hL:L<=150000000000):n.aA.length<=1000000/\n.aH.length<=200000000000:=⟨h.1.1,kR h.1.2.1 (by omega)⟩
theorem HQ{n:Ct.Node}(h:n.bG=true):n.kind=3\/n.kind=5\/n.kind=6:=by unfold Ct.Node.bG at h;simpa[or_assoc]using h
theorem WM{n:Ct.Node}(h2:n.kind≠2)(hm:n.bG=false)(h8:n.kind≠8):n.kind≠2/\n.kind≠3/\n.kind≠5/\n.kind≠6/\n.kind≠8:=by
 unfold Ct.Node.bG at hm
 simp at hm
 exact⟨h2,hm.1.1,hm.1.2,hm.2,h8⟩
variable{B w:World}{L:List As}
theorem EA(l:List Int)(p:Option Addr)(c:Nat)(h:SH B w (bS 1 (.slice p l.length c) l.length (l.map (Value.int .i64))::L))(hl:l.length<=1000000):
  Calls prog 107 #[.slice p l.length c] w λe w'=>∃p' c',e=.returned (.slice p' l.length c')/\SH B w' (bS 1 (.slice p' l.length c') l.length (l.map (Value.int .i64))::L):=by
 refine cN func107 ntmps107 h λw h=>?_
 refine qc h (λdF w h=>?_) λdF w h=>?_
 have xZ:=eq_of_beq dF
 refine go h λw h=>?_
 refine rz ?_
 have hl:l=[]:=List.length_eq_zero_iff.1 (by have:=eq_of_beq dF;omega)
 exact⟨none,0,by subst hl;rfl,by subst hl;exact SH.MT 1 h.drop⟩
 have Lt:=bM dF
 refine go h λw h=>?_
 refine sf (mk h gB.h Ss.h rfl rfl (by omega) (by unfold maxLen;omega)) ?_
 rintro _ w ⟨b4,rfl,h⟩
 refine go h λw h=>?_
 rw[Sq]at h
 refine go h λw h=>?_
 obtain⟨b5,o6,rfl⟩:=h.fq a1 (by first|omega|(rcases l with _|⟨_,_⟩<;>simp at *<;>omega))
 refine sf (cpy h a1 gB.h Sz.h rfl rfl u0 (nF _) rfl) ?_
 rintro _ w ⟨rfl,h⟩
 refine go h λw h=>?_
 exact rz ⟨_,_,rfl,SH.fz h.to⟩
theorem Kf(l:List Ct.bA)(p:Option Addr)(c:Nat)(h:SH B w (bS 2 (.slice p l.length c) l.length (l.flatMap aR)::L))(hl:l.length<=200000000000):
  Calls prog 108 #[.slice p l.length c] w λe w'=>∃p' c',e=.returned (.slice p' l.length c')/\SH B w' (bS 2 (.slice p' l.length c') l.length (l.flatMap aR)::L):=by
 refine cN func108 ntmps108 h λw h=>?_
 refine qc h (λdF w h=>?_) λdF w h=>?_
 have xZ:=eq_of_beq dF
 refine go h λw h=>?_
 refine rz ?_
 have hl:l=[]:=List.length_eq_zero_iff.1 (by have:=eq_of_beq dF;omega)
 exact⟨none,0,by subst hl;rfl,by subst hl;exact SH.MT 2 h.drop⟩
 have Lt:=bM dF
 refine go h λw h=>?_
 refine sf (mk h gB.h Ss.h rfl rfl (by omega) (by unfold maxLen;omega)) ?_
 rintro _ w ⟨b4,rfl,h⟩
 refine go h λw h=>?_
 obtain⟨b5,o6,rfl⟩:=h.fq a1 (by first|omega|(rcases l with _|⟨_,_⟩<;>simp at *<;>omega))
 refine sf (cpy h a1 gB.h Sz.h rfl rfl u0 (lN eW _) rfl) ?_
 rintro _ w ⟨rfl,h⟩
 refine go h λw h=>?_
 exact rz ⟨_,_,rfl,SH.fz h.to⟩
theorem Am(n:Ct.Node)(q:Lq)(h:SH B w (aL n q::L))(hb:n.aA.length<=1000000)(hp:n.aH.length<=200000000000):
  Calls prog 72 #[.agg (aK n q).toArray] w λe w'=>∃q',e=.returned (.agg (aK n q').toArray)/\SH B w' (aL n q'::L):=by
 have h:=h.se
 refine cN func72 ntmps72 h λw h=>?_
 refine jX h λb1 w h=>?_
 refine jA h λb2 w h=>?_
 refine Zn (EA _ _ _ h.to (by omega)) λp3 c4 w h=>?_
 refine Zn (Kf _ _ _ h.to (by omega)) λp5 c6 w h=>?_
 exact rr (cD rfl rfl (h.b a2) Row.h)<|⟨⟨p3,c4,p5,c6⟩,rfl,SH.is (l:=[_,_]) (h.to.fr (.c r1 (.c r0 .n)))⟩
theorem wR(n:Ct.Node)(q:Lq)(h:SH B w (L)):
  Calls prog 111 #[.agg (aK n q).toArray] w λe w'=>e=.returned ↑n.bG/\SH B w' L:=by
 refine cN func111 ntmps111 h λw h=>?_
 refine jX h λb1 w h=>?_
 refine qc h (λcO w h=>?_) λcO w h=>?_
 have Lt:=eq_of_beq cO
 refine go h λw h=>?_
 refine rz ?_
 have hm:n.bG=true:=by unfold Ct.Node.bG;rw[cO];simp
 exact⟨by rw[hm],h.drop⟩
 have Tv:=bM cO
 refine go h λw h=>?_
 refine qc h (λdM w h=>?_) λdM w h=>?_
 have CX:=eq_of_beq dM
 refine go h λw h=>?_
 refine rz ?_
 have hm:n.bG=true:=by unfold Ct.Node.bG;rw[cO,dM];simp
 exact⟨by rw[hm],h.drop⟩
 have El:=bM dM
 refine go h λw h=>?_
 refine qc h (λfG w h=>?_) λfG w h=>?_
 have CY:=eq_of_beq fG
 refine go h λw h=>?_
 refine rz ?_
 have hm:n.bG=true:=by unfold Ct.Node.bG;rw[cO,dM,fG];simp
 exact⟨by rw[hm],h.drop⟩
 have L7:=bM fG
 refine go h λw h=>?_
 refine rz ?_
 have hm:n.bG=false:=by unfold Ct.Node.bG;rw[cO,dM,fG];rfl
 exact⟨by rw[hm],h.drop⟩
theorem wT(ab:Nat)(s:Ct.St)(i:Int)(h:SH B w (yD ab s::L))(hr:s.size<=100000000000):
  Calls prog 322 #[↑ab,↑i] w λe w'=>e=.returned (.int .i64 (s.aT i).2)/\SH B w' (yD ab (s.aT i).1::L):=by
 obtain⟨⟨pn,cn,pc,cc,zs⟩,pN,h⟩:=h.ao
 have h:SH B w (bl ab ([.slice pn zs.length cn,.slice pc s.cells.length cc,↑(s.gen:Int),↑(s.acc:Int)]) 105::aV 53 14 (.slice pn zs.length cn) zs.length (zs.flatMap bY)::aV 44 1 (.slice pc s.cells.length cc) s.cells.length (s.cells.map (Value.int .i64))::bH zs::L):=h
 have fC:zs.map Prod.fst=s.aG:=pN
 clear pN
 have Js:s.aG.length+s.cells.length+s.gen+s.acc<=100000000000:=hr
 refine cN func322 ntmps322 h λw h=>?_
 refine sf (bu [↑i] h gB.h Ss.h rfl (by kernel_rfl) rfl (by decide) (by decide)) ?_
 rintro _ w ⟨b1,rfl,h⟩
 refine go h λw h=>?_
 refine sf (ap h gB.h rfl Ss.h rfl (by decide) rfl rfl (λ_=>u3) (h.ro a0) (by simp[Value.oneCell']) rfl (fK _ _) (by unfold maxLen;omega) (by omega)) ?_
 rintro _ w ⟨p2,c3,rfl,h⟩
 refine go h λw h=>?_
 refine rz ?_
 exact⟨by simp[Ct.St.aT],SH.ai ⟨pn,cn,p2,c3,zs⟩ fC (by unfold arL;dsimp only[Ct.St.aT];rw[cV,fR];exact h.drop)⟩
theorem EE(ab:Nat)(vn vg va:Value)(pc:Option Addr)(n cc:Nat)(c:Int)(h:SH B w (bl ab ([vn,.slice pc n cc,vg,va]) 105::L)):
  Calls prog 324 #[↑ab,↑c] w λe w'=>e=.returned (.bool (decide (1<=c)&&decide (c<=(n:Int))))/\SH B w' (bl ab ([vn,.slice pc n cc,vg,va]) 105::L):=by
 refine cN func324 ntmps324 h λw h=>?_
 refine qg h (λdF w h=>?_) λdF w h=>?_
 ·have xZ:=dH dF
  refine go h λw h=>?_
  refine rz ?_
  refine⟨?_,h⟩
  congr 2;simp;omega
 ·have Lt:=dR dF
  refine go h λw h=>?_
  refine rz ?_
  refine⟨?_,h⟩
  congr 2;simp;omega
theorem Dd(ab:Nat)(vc vg va:Value)(pn:Option Addr)(n cn:Nat)(h:SH B w (bl ab ([.slice pn n cn,vc,vg,va]) 105::L))(hn:n<=200000000000):
  Calls prog 47 #[↑ab] w λe w'=>e=.returned (.int .i64 ((2+n:Nat):Int))/\SH B w' (bl ab ([.slice pn n cn,vc,vg,va]) 105::L):=by
 refine cN func47 ntmps47 h λw h=>?_
 refine st (ba ((2+n:Nat):Int))<|go h λw h=>?_
 exact rz ⟨rfl,h⟩
theorem XD(ab:Nat)(s:Ct.St)(c:Int)(h:SH B w (yD ab s::L))(hr:s.size<=100000000000):
  Calls prog 321 #[↑ab,↑c] w λe w'=>e=.returned (.int .i64 (s.load c).2)/\SH B w' (yD ab (s.load c).1::L):=by
 obtain⟨⟨pn,cn,pc,cc,zs⟩,pN,h⟩:=h.ao
 have h:SH B w (bl ab ([.slice pn zs.length cn,.slice pc s.cells.length cc,↑(s.gen:Int),↑(s.acc:Int)]) 105::aV 53 14 (.slice pn zs.length cn) zs.length (zs.flatMap bY)::aV 44 1 (.slice pc s.cells.length cc) s.cells.length (s.cells.map (Value.int .i64))::bH zs::L):=h
 have fC:zs.map Prod.fst=s.aG:=pN
 clear pN
 have Js:s.aG.length+s.cells.length+s.gen+s.acc<=100000000000:=hr
 refine cN func321 ntmps321 h λw h=>?_
 refine bQ (EE _ _ _ _ _ _ _ _ h.to) λw h=>?_
 refine qc h (λdF w h=>?_) λdF w h=>?_
 have cO:=(gZ _).mp dF
 refine go h λw h=>?_
 exact rz ⟨by rw[show (s.load c).2=0 from Gf (by have:=cO;simp at this;omega)],(SH.ai ⟨_,_,_,_,_⟩ fC h)⟩
 have cJ:=(hU _).mp dF
 refine go h λw h=>?_
 obtain⟨hc1,Nv⟩:1<=c/\c<=(s.cells.length:Int):=by simpa using cJ
 obtain⟨j,hj⟩:∃j:Nat,c-1=(j:Int):=⟨(c-1).toNat,by omega⟩
 refine st (bs (j:Int))<|go h λw h=>?_
 obtain⟨b4,rfl⟩:=h.fp a2 (by omega)
 refine go h λw h=>?_
 exact rz ⟨by rw[show (s.load c).2=s.cells.getD j 0 from Qt hj (by omega)],(SH.ai ⟨_,_,_,_,_⟩ fC h)⟩
theorem E0(ab:Nat)(s:Ct.St)(c o n:Int)(h:SH B w (yD ab s::L))(hr:s.size<=100000000000):
  Calls prog 320 #[↑ab,↑c,↑o,↑n] w λe w'=>e=.returned (.bool (s.cH c o n).2)/\SH B w' (yD ab (s.cH c o n).1::L):=by
 obtain⟨⟨pn,cn,pc,cc,zs⟩,pN,h⟩:=h.ao
 have h:SH B w (bl ab ([.slice pn zs.length cn,.slice pc s.cells.length cc,↑(s.gen:Int),↑(s.acc:Int)]) 105::aV 53 14 (.slice pn zs.length cn) zs.length (zs.flatMap bY)::aV 44 1 (.slice pc s.cells.length cc) s.cells.length (s.cells.map (Value.int .i64))::bH zs::L):=h
 have fC:zs.map Prod.fst=s.aG:=pN
 clear pN
 have Js:s.aG.length+s.cells.length+s.gen+s.acc<=100000000000:=hr
 refine cN func320 ntmps320 h λw h=>?_
 refine bQ (EE _ _ _ _ _ _ _ _ h.to) λw h=>?_
 refine qg h (λdF w h=>?_) λdF w h=>?_
 have cO:=(gZ _).mp dF
 refine go h λw h=>?_
 refine rz ?_
 rw[PR (by have:=cO;simp at this;omega)];exact⟨rfl,(SH.ai ⟨_,_,_,_,_⟩ fC h)⟩
 have cJ:=(hU _).mp dF
 refine go h λw h=>?_
 obtain⟨hc1,Nv⟩:1<=c/\c<=(s.cells.length:Int):=by simpa using cJ
 obtain⟨j,hj⟩:∃j:Nat,c-1=(j:Int):=⟨(c-1).toNat,by omega⟩
 refine st (bs (j:Int))<|go h λw h=>?_
 obtain⟨b4,rfl⟩:=h.fp a2 (by omega)
 refine go h λw h=>?_
 refine qc h (λdM w h=>?_) λdM w h=>?_
 have CX:=bne_iff_ne.1 dM
 refine go h λw h=>?_
 refine rz ?_
 rw[F6 hj (by omega) (by omega)];exact⟨rfl,(SH.ai ⟨_,_,_,_,_⟩ fC h)⟩
 have El:=eT dM
 refine go h λw h=>?_
 refine st (bs (j:Int))<|go h λw h=>?_
 refine sf (soi h Sz.h rfl rfl (by omega) u2) ?_
 rintro _ w h
 refine go h λw h=>?_
 refine rz ?_
 rw[RA hj (by omega) (by omega)];exact⟨rfl,SH.ai ⟨pn,cn,some ⟨b4,0,none⟩,cc,zs⟩ fC (by unfold arL;dsimp only;rw[tS];exact h)⟩
theorem Ic(ab:Nat)(s:Ct.St)(r:Int)(h:SH B w (yD ab s::L))(hr:s.size<=100000000000)(hf:Ct.cL s):
  Calls prog 48 #[↑ab,↑r] w λe w'=>∃q,e=.returned (.agg (aK (s.node r) q).toArray)/\SH B w' (aL (s.node r) q::yD ab s::L):=by
 obtain⟨⟨pn,cn,pc,cc,zs⟩,pN,h⟩:=h.ao
 have h:SH B w (bl ab ([.slice pn zs.length cn,.slice pc s.cells.length cc,↑(s.gen:Int),↑(s.acc:Int)]) 105::aV 53 14 (.slice pn zs.length cn) zs.length (zs.flatMap bY)::aV 44 1 (.slice pc s.cells.length cc) s.cells.length (s.cells.map (Value.int .i64))::bH zs::L):=h
 have fC:zs.map Prod.fst=s.aG:=pN
 clear pN
 have hz:zs.length=s.aG.length:=by rw[<- fC,vX]
 have Js:s.aG.length+s.cells.length+s.gen+s.acc<=100000000000:=hr
 refine cN func48 ntmps48 h λw h=>?_
 refine jA h λb1 w h=>?_
 refine qg h (λcO w h=>?_) λcO w h=>?_
 ·have Lt:=dH cO
  refine go h λw h=>?_
  refine rr (cD rfl rfl (h.b a0) Row.h) ?_
  rw[uE s r (by omega)];exact⟨{},rfl,SH.fI _ rfl rfl (SH.ai ⟨_,_,_,_,_⟩ fC h.drop)⟩
 ·have Tv:=dR cO
  refine go h λw h=>?_
  refine bQ (Dd _ _ _ _ _ _ _ h.to (by omega)) λw h=>?_
  refine qc h (λdM w h=>?_) λdM w h=>?_
  ·have CX:=dH dM
   refine go h λw h=>?_
   refine rr (cD rfl rfl (h.b a1) Row.h) ?_
   rw[uE s r (by omega)];exact⟨{},rfl,SH.fI _ rfl rfl (SH.ai ⟨_,_,_,_,_⟩ fC (h.fr (.c r1 .n)).drop)⟩
  ·have El:=dR dM
   refine go h λw h=>?_
   refine qc h (λfG w h=>?_) λfG w h=>?_
   ·have CY:=dH fG
    refine go h λw h=>?_
    refine rr (cD rfl rfl (h.b a1) Row.h) ?_
    rw[YB s (r:=r) (by omega) (by omega)];exact⟨{},rfl,SH.fI _ rfl rfl (SH.ai ⟨_,_,_,_,_⟩ fC (h.fr (.c r1 .n)).drop)⟩
   ·have L7:=dR fG
    refine go h λw h=>?_
    refine st (bs (r-2))<|go h λw h=>?_
    obtain⟨j,hj⟩:∃j:Nat,r-2-1=(j:Int):=⟨(r-2-1).toNat,by omega⟩
    refine st (bs (j:Int))<|go h λw h=>?_
    obtain⟨Uf,rfl⟩:=h.fp a2 (by omega)
    refine go h λw h=>?_
    refine st (kB rfl ((h.ro a2).x gH (by decide) (by omega) ({},{})) Row.h)<|go h λw h=>?_
    obtain⟨hm,hn⟩:=k9 fC hj (by omega)
    have h:=h.IG a4 hm
    have hfj:=hf.node r
    rw[<- hn]at hfj
    refine cS (Am _ _ h.to (Hk hfj (by omega)).1 (Hk hfj (by omega)).2) λq12 w h=>?_
    refine rr (cD rfl rfl (h.b a2) Row.h) ?_
    rw[<- hn];exact⟨_,rfl,((SH.ai ⟨_,_,_,_,_⟩ fC ((h.fr (.c r2 .n)).drop.fr (.c r1 (.c r1 (.c r1 (.c r1 .n)))))).fr (.c r1 .n))⟩
section
attribute [local semireducible] gA wpS Go.E.X XS C kV lL fin Y U F Ca kU bl rb aV bS ex ce pu sK gK bK zK gG fE cZ gY mA
attribute [local irreducible] gA wpS
variable{B w:World}{L:List As}
theorem OY(ab:Nat)(s:Ct.St)(n:Ct.Node)(q:Lq)(i:Int)(h:SH B w (aL n q::yD ab s::L))(hr:s.size<=100000000000)(hb:n.aA.length<=1000000)(hp:n.aH.length<=200000000000):
  Calls prog 319 #[↑ab,.agg (aK n q).toArray,↑i] w λe w'=>e=.returned (.int .i64 (s.alloc n i).2)/\SH B w' (yD ab (s.alloc n i).1::L):=by
 refine Kk (args:=[_,_,_]) func319 rfl ntmps319 rfl ?_
 refine sq<|rg<|sf (bx h rfl rfl)<|?_
 rintro _ w ⟨b1,rfl,h⟩
 refine st (sg rfl)<|xe<|nx<|sq<|rg<|st (kB rfl (eH (h.b a0)) iK)<|cl (ca eF rfl) ((Am n q (h.fr (.c r1 .n)) hb hp).mono ?_)
 rintro _ w ⟨q2,rfl,h⟩
 refine⟨_,rfl,?_⟩
 refine sf (so h rfl rfl rfl xS rfl (.r (.r (.r (.r (.r (.r (.r (.r (.r (.r (.r (.r (.r (.r .d)))))))))))))) u1)<|?_
 rintro _ w h
 refine xe<|nx<|sq<|rg<|st (fa Bh rfl)<|sf (so h rfl rfl rfl tF rfl (.s (.s (.r .d))) u1)<|?_
 rintro _ w h
 refine st (fa uK rfl)<|sf (so h rfl rfl rfl tF rfl (.s (.s (.s (.s (.s (.s (.s (.s (.s (.r .d)))))))))) u1)<|?_
 rintro _ w h
 refine st (fa vN rfl)<|sf (so h rfl rfl rfl tF rfl (.s (.s (.s (.s (.s (.s (.s (.s (.s (.s (.s (.s (.s (.r .d)))))))))))))) u1)<|?_
 rintro _ w h
 refine xe<|nx<|?_
 refine sm (λe w=>∃s1:Ct.St,∃c2:Int,∃c9:Int,∃Uh:Int,Sub 47 e (.c 0 (.pointer (some ⟨ab,0,none⟩)) (.c 4 (.pointer (some ⟨b1,0,none⟩)) .n))/\SH B w (bl b1 ([.int .i64 n.kind,.int .i64 n.gen,.int .i64 c2,.int .u64 (n.aC:Int),.slice q2.pb n.aA.length q2.cb,.int .u64 (n.hash:Int),.string n.key,.int .u64 (n.value:Int),.slice q2.pp n.aH.length q2.cp,.int .i64 c9,.int .i64 n.dO,.int .i64 n.aS,.int .i64 n.new,.int .i64 Uh]) 53::aL n q2::yD ab s1::L)/\(s.alloc n i=({s1 with aG:=s1.aG++[{n.bare with main:=c2,prev:=c9,status:=Uh}]},(s.aG.length:Int)+3))/\(s1.aG=s.aG)/\(s1.size<=s.size+1)) ?_ ?_
 ·refine bk<|sq<|rg<|st (fa uH rfl)<|st (ld jZ rfl (h.c a1 rfl))<|st (bi rfl rfl rfl)<|st (sg rfl)<|xe<|nx<|?_
  rcases dQ ((n.kind:Int)==2)with cJ|cJ
  ·refine ct rfl cJ<|rg<|st (mv rfl)<|st (mv rfl)<|cl (ca eF rfl) ((wT ab s i (h.fr (.c r2 .n)) (by omega)).mono ?_)
   rintro _ w ⟨rfl,h⟩
   refine⟨_,rfl,?_⟩
   refine st (fa Bh rfl)<|sf (so h rfl rfl rfl tF rfl (.s (.s (.r .d))) u2)<|?_
   rintro _ w h
   refine xe<|bn<|nx<|?_
   exact⟨(s.aT i).1,(s.aT i).2,0,0,⟨rfl,rfl,trivial⟩,(h.fr (.c r2 (.c r1 (.c r0 .n)))),SO s n i (eq_of_beq cJ),rfl,(by simp only[Ct.St.aT,Ct.St.size,cV,fR];omega)⟩
  ·refine cf rfl cJ<|sq<|rg<|st (kB rfl (eH (h.b a1)) iK)<|cl (ca eF rfl) ((wR ({n with main:=0,prev:=0,status:=0}) q2 (h.fr .n)).mono ?_)
   rintro _ w ⟨rfl,h⟩
   refine⟨_,rfl,?_⟩
   refine st (sg rfl)<|xe<|nx<|?_
   rcases dQ n.bG with dJ|dJ
   ·refine ct rfl dJ<|rg<|st (mv rfl)<|st (mv rfl)<|cl (ca eF rfl) ((wT ab s i (h.fr (.c r2 .n)) (by omega)).mono ?_)
    rintro _ w ⟨rfl,h⟩
    refine⟨_,rfl,?_⟩
    refine st (fa uK rfl)<|sf (so h rfl rfl rfl tF rfl (.s (.s (.s (.s (.s (.s (.s (.s (.s (.r .d)))))))))) u2)<|?_
    rintro _ w h
    refine xe<|bn<|nx<|?_
    exact⟨(s.aT i).1,0,(s.aT i).2,0,⟨rfl,rfl,trivial⟩,(h.fr (.c r2 (.c r1 (.c r0 .n)))),No s n i (HQ dJ),rfl,(by simp only[Ct.St.aT,Ct.St.size,cV,fR];omega)⟩
   ·refine cf rfl dJ<|sq<|rg<|st (fa uH rfl)<|st (ld jZ rfl (h.c a1 rfl))<|st (bi rfl rfl rfl)<|st (sg rfl)<|xe<|nx<|?_
    rcases dQ ((n.kind:Int)==8)with fF|fF
    ·refine ct rfl fF<|rg<|st (mv rfl)<|st (mv rfl)<|cl (ca eF rfl) ((wT ab s i (h.fr (.c r2 .n)) (by omega)).mono ?_)
     rintro _ w ⟨rfl,h⟩
     refine⟨_,rfl,?_⟩
     refine st (fa vN rfl)<|sf (so h rfl rfl rfl tF rfl (.s (.s (.s (.s (.s (.s (.s (.s (.s (.s (.s (.s (.s (.r .d)))))))))))))) u2)<|?_
     rintro _ w h
     refine xe<|bn<|nx<|?_
     exact⟨(s.aT i).1,0,0,(s.aT i).2,⟨rfl,rfl,trivial⟩,(h.fr (.c r2 (.c r1 (.c r0 .n)))),RH s n i (eq_of_beq fF),rfl,(by simp only[Ct.St.aT,Ct.St.size,cV,fR];omega)⟩
    ·refine cf rfl fF<|sk<|bn<|nx<|?_
     exact⟨s,0,0,0,⟨rfl,rfl,trivial⟩,(h.fr (.c r1 (.c r0 (.c r0 .n)))),TN s n i (WM (bM cJ) dJ (bM fF)),rfl,(by omega)⟩
 rintro e w ⟨s1,c2,c9,Uh,hE,h,ha,hs1,Yx⟩
 refine C.sub hE ?_
 refine sq<|?_
 have Js:s1.aG.length+s1.cells.length+s1.gen+s1.acc<=100000000001:=kR Yx (by omega)
 have h:=h.fr (.c r2 .n)
 obtain⟨⟨pn,cn,pc,cc,zs⟩,pN,h⟩:=h.ao
 have h:SH B w (bl ab ([.slice pn zs.length cn,.slice pc s1.cells.length cc,↑(s1.gen:Int),↑(s1.acc:Int)]) 105::aV 53 14 (.slice pn zs.length cn) zs.length (zs.flatMap bY)::aV 44 1 (.slice pc s1.cells.length cc) s1.cells.length (s1.cells.map (Value.int .i64))::bH zs::bl b1 ([↑n.kind,↑n.gen,↑c2,.int .u64 (n.aC:Int),.slice q2.pb n.aA.length q2.cb,.int .u64 (n.hash:Int),↑n.key,.int .u64 (n.value:Int),.slice q2.pp n.aH.length q2.cp,↑c9,↑n.dO,↑n.aS,↑n.new,↑Uh]) 53::aL n q2::L):=h
 have fC:zs.map Prod.fst=s1.aG:=pN
 clear pN
 have hz:zs.length=s1.aG.length:=by rw[<- fC,vX]
 refine DD (F:=[bl ab ([.slice pn zs.length cn,.slice pc s1.cells.length cc,↑(s1.gen:Int),↑(s1.acc:Int)]) 105,bl b1 ([↑n.kind,↑n.gen,↑c2,.int .u64 (n.aC:Int),.slice q2.pb n.aA.length q2.cb,.int .u64 (n.hash:Int),↑n.key,.int .u64 (n.value:Int),.slice q2.pp n.aH.length q2.cp,↑c9,↑n.dO,↑n.aS,↑n.new,↑Uh]) 53]) [(true,[1,3,5,7,9,11,12,14,17,19]),(false,[20])] (by kernel_rfl) h (λw h=>(hC (h.at_ a0) (hC (h.at_ a4) hN))) λw h=>sgT<|tk (λW H=>mv rfl)<|tk (λW H=>mv rfl)<|tk (λW H=>nc rfl rfl)<|tk (λW H=>fa FJ rfl)<|tk (λW H=>ld BO rfl (H.c a0 rfl))<|tk (λW H=>kB rfl (eH (H.b a1)) iK)<|ff (bu [↑n.kind,↑n.gen,↑c2,.int .u64 (n.aC:Int),.slice q2.pb n.aA.length q2.cb,.int .u64 (n.hash:Int),↑n.key,.int .u64 (n.value:Int),.slice q2.pp n.aH.length q2.cp,↑c9,↑n.dO,↑n.aS,↑n.new,↑Uh] h Cs SJ rfl (by kernel_rfl) rfl (by decide) (by decide))<|?_
 rintro _ w ⟨DJ,rfl,h⟩
 refine⟨(hC (h.at_ a1) (hC (h.at_ a5) hN)),?_⟩
 refine ff (ap h Cs rfl SJ rfl (by decide) rfl rfl (λ_=>u2) (h.ro a0) (by simp[Value.oneCell']) rfl (jM (enc:=bY) _ ({n.bare with main:=c2,prev:=c9,status:=Uh},q2)) (by unfold maxLen;omega) (by omega))<|?_
 rintro _ w ⟨p11,c12,rfl,h⟩
 refine⟨(hC (h.at_ a1) (hC (h.at_ a5) hN)),?_⟩
 refine tk (λW H=>nc rfl rfl)<|tk (λW H=>fa FJ rfl)<|KR<|ff (so h rfl rfl rfl aBl rfl (.r .d) u1)<|?_
 rintro _ w h
 refine⟨trivial,?_⟩
 refine xz<|nx<|sq<|rg<|st (mv rfl)<|cl (ca eF rfl) ((Dd ab _ _ _ _ _ _ (h.fr (.c r1 .n)) (by omega)).mono ?_)
 rintro _ w ⟨rfl,h⟩
 refine⟨_,rfl,?_⟩
 refine st (sg rfl)<|xe<|nx<|rt<|?_
 refine rr (mC results319 rfl)<|?_
 rw[ha]
 have h:=(SH.se (l:=[_,_]) ((h.fr (.c r1 (.c r4 .n))).drop.drop.fr (.c r4 (.c r3 (.c r0 (.c r0 (.c r0 .n)))))))
 have h:=SH.VM (n:={n.bare with main:=c2,prev:=c9,status:=Uh}) (q:=q2) h
 refine⟨?_,SH.ai ⟨p11,c12,pc,cc,zs++[({n.bare with main:=c2,prev:=c9,status:=Uh},q2)]⟩ ?_ ?_⟩
 ·rw[hz,hs1];congr 2;omega
 ·rw[Md,fC];rfl
 ·unfold arL;dsimp only;rw[cV,fR];exact h.fr (.c r1 (.c r1 (.c r1 (.c r0 .n))))
end
end Go.Q9
end
section
namespace Go.Ct
theorem Ok.eY{j:Nat}{x:X}(h:Ok j x):x.s.size<=100000000000:=by have:=h.Cn;unfold X.size cW at this;omega
end Go.Ct
namespace Go.Q9
open Go.Proofs.Tryz
open Go.RowKit Go.E
attribute [local irreducible] gA wpS Go.E.X XS C kV lL fin Y U F Ca kU bl rb aV bS ex ce pu sK gK bK zK
variable{B w:World}{L:List As}
theorem qM(xb mb:Nat)(x:Ct.X)(c:Int)(h:SH B w (XA xb mb x::L))(k:Ct.Ok 0 x):
  Calls prog 179 #[↑xb,↑c] w λe w'=>∃y v,Ct.eK c x=Ct.out y v/\e=.returned (.int .i64 v)/\SH B w' (XA xb mb y::L)/\Ct.Ok 90 y:=by
 have key:∀{e:Ending} {w':World},(∃y v,Ct.eK c x=Ct.out y v/\e=.returned (.int .i64 v)/\SH B w' (XA xb mb y::L))->∃y v,Ct.eK c x=Ct.out y v/\e=.returned (.int .i64 v)/\SH B w' (XA xb mb y::L)/\Ct.Ok 90 y:=
  λ⟨y,v,q,e,h⟩=>⟨y,v,q,e,h,(Ct.Nk k q).1.less (by omega)⟩
 cases hs:x.e.aD with
 |true=>exact(GU xb mb x c h k hs).mono λ_ _=>key
 |false=>
  by_cases ha:x.e.a<x.e.eV.length
  ·exact(HM xb mb x c h k hs ha).mono λ_ _=>key
  ·by_cases hf:x.e.free=0
   ·exact(GG xb mb x c h k hs ha hf).mono λ_ _=>key
   ·exact(HJ xb mb x c h k hs ha hf).mono λ_ _=>key
theorem rO(xb mb:Nat)(x:Ct.X)(c o n:Int)(h:SH B w (XA xb mb x::L))(k:Ct.Ok 0 x):
  Calls prog 181 #[↑xb,↑c,↑o,↑n] w λe w'=>∃y v,Ct.jT c o n x=Ct.out y v/\e=.returned (.bool v)/\SH B w' (XA xb mb y::L)/\Ct.Ok 90 y:=by
 have key:∀{e:Ending} {w':World},(∃y v,Ct.jT c o n x=Ct.out y v/\e=.returned (.bool v)/\SH B w' (XA xb mb y::L))->∃y v,Ct.jT c o n x=Ct.out y v/\e=.returned (.bool v)/\SH B w' (XA xb mb y::L)/\Ct.Ok 90 y:=
  λ⟨y,v,q,e,h⟩=>⟨y,v,q,e,h,(Ct.PK k q).1.less (by omega)⟩
 cases hs:x.e.aD with
 |true=>exact(PT xb mb x c o n h k hs).mono λ_ _=>key
 |false=>
  by_cases ha:x.e.a<x.e.eV.length
  ·exact(OU xb mb x c o n h k hs ha).mono λ_ _=>key
  ·by_cases hf:x.e.free=0
   ·exact(LF xb mb x c o n h k hs ha hf).mono λ_ _=>key
   ·exact(PE xb mb x c o n h k hs ha hf).mono λ_ _=>key
theorem fA{j:Nat}(xb mb:Nat)(x:Ct.X)(n:Ct.Node)(p:Lq)(i:Int)(h:SH B w (aL n p::XA xb mb x::L))(k:Ct.Ok (j+1) x)(hn:n.Fit (x.s.aG.length+1)):
  Calls prog 184 #[↑xb,.agg (aK n p).toArray,↑i] w λe w'=>∃y v,Ct.dE n i x=Ct.out y v/\e=.returned (.int .i64 v)/\SH B w' (XA xb mb y::L)/\Ct.Ok j y/\x.s.aG.length<=y.s.aG.length:=by
 have key:∀{e:Ending} {w':World},(∃y v,Ct.dE n i x=Ct.out y v/\e=.returned (.int .i64 v)/\SH B w' (XA xb mb y::L))->∃y v,Ct.dE n i x=Ct.out y v/\e=.returned (.int .i64 v)/\SH B w' (XA xb mb y::L)/\Ct.Ok j y/\x.s.aG.length<=y.s.aG.length:=
  λ⟨y,v,q,e,h⟩=>⟨y,v,q,e,h,(Ct.Oe k hn q).1,(Ct.Oe k hn q).2.1⟩
 have k0:=k.less (bZ _)
 cases hs:x.e.aD with
 |true=>exact(BD xb mb x n p i h k0 hs hn).mono λ_ _=>key
 |false=>
  by_cases hm:x.e.m=x.e.made.length
  ·exact(BC xb mb x n p i h k0 hs hm hn).mono λ_ _=>key
  ·exact(Zp xb mb x n p i h k0 hs (by have:=k.m;omega) hn).mono λ_ _=>key
theorem KZ{j:Nat}(xb mb:Nat)(x:Ct.X)(i:Int)(h:SH B w (XA xb mb x::L))(k:Ct.Ok (j+1) x):
  Calls prog 196 #[↑xb,↑i] w λe w'=>∃y v,Ct.fU i x=Ct.out y v/\e=.returned (.int .i64 v)/\SH B w' (XA xb mb y::L)/\Ct.Ok j y:=by
 have key:∀{e:Ending} {w':World},(∃y v,Ct.fU i x=Ct.out y v/\e=.returned (.int .i64 v)/\SH B w' (XA xb mb y::L))->∃y v,Ct.fU i x=Ct.out y v/\e=.returned (.int .i64 v)/\SH B w' (XA xb mb y::L)/\Ct.Ok j y:=
  λ⟨y,v,q,e,h⟩=>⟨y,v,q,e,h,(Ct.RW k q).1⟩
 have k0:=k.less (bZ _)
 cases hs:x.e.aD with
 |true=>exact(GP xb mb x i h k0 hs).mono λ_ _=>key
 |false=>
  by_cases hm:x.e.c=x.e.cells.length
  ·exact(HR xb mb x i h k0 hs hm).mono λ_ _=>key
  ·exact(FY xb mb x i h k0 hs (by have:=k.c;omega)).mono λ_ _=>key
theorem l5{j:Nat}(xb mb:Nat)(x:Ct.X)(h:SH B w (XA xb mb x::L))(k:Ct.Ok (j+1) x):
  Calls prog 198 #[↑xb] w λe w'=>∃y v,Ct.kN x=Ct.out y v/\e=.returned (.int .i64 v)/\SH B w' (XA xb mb y::L)/\Ct.Ok j y:=by
 have key:∀{e:Ending} {w':World},(∃y v,Ct.kN x=Ct.out y v/\e=.returned (.int .i64 v)/\SH B w' (XA xb mb y::L))->∃y v,Ct.kN x=Ct.out y v/\e=.returned (.int .i64 v)/\SH B w' (XA xb mb y::L)/\Ct.Ok j y:=
  λ⟨y,v,q,e,h⟩=>⟨y,v,q,e,h,(Ct.B2 k q).1⟩
 have k0:=k.less (bZ _)
 cases hs:x.e.aD with
 |true=>exact(MX xb mb x h k0 hs).mono λ_ _=>key
 |false=>
  by_cases hm:x.e.g=x.e.dU.length
  ·exact(MD xb mb x h k0 hs hm).mono λ_ _=>key
  ·exact(MC xb mb x h k0 hs (by have:=k.g;omega)).mono λ_ _=>key
theorem BW(n:Ct.Node)(q:Lq)(h:SH B w (L)):
  Calls prog 140 #[.agg (aK n q).toArray] w λe w'=>e=.returned ↑n.bG/\SH B w' L:=by
 refine cN func140 ntmps140 h λw h=>?_
 refine jX h λb1 w h=>?_
 refine qg h (λcO w h=>?_) λcO w h=>?_
 have Lt:=eq_of_beq cO
 refine go h λw h=>?_
 refine rz ?_
 exact⟨by unfold Ct.Node.bG;simp[cO],h.drop⟩
 have Tv:=bM cO
 refine go h λw h=>?_
 refine qg h (λdM w h=>?_) λdM w h=>?_
 have CX:=eq_of_beq dM
 refine go h λw h=>?_
 refine rz ?_
 exact⟨by unfold Ct.Node.bG;simp[cO,dM],h.drop⟩
 have El:=bM dM
 refine go h λw h=>?_
 refine rz ?_
 exact⟨by unfold Ct.Node.bG;simp[cO,dM],h.drop⟩
theorem tE(xb mb:Nat)(x:Ct.X)(v s:Int)(h:SH B w (XA xb mb x::L)){j:Nat}(k:Ct.Ok j x):
  Calls prog 183 #[↑xb,↑v,↑s] w λe w'=>∃u,Ct.bC (Ct.Ad v s) x=Ct.out x u/\e=.returned (.int .i64 u)/\SH B w' (XA xb mb x::L):=by
 refine cN func183 ntmps183 h λw h=>?_
 refine qc h (λdF w h=>?_) λdF w h=>?_
 have xZ:=eq_of_beq dF
 refine go h λw h=>?_
 refine cS (aQ _ _ _ _ h.to k.eY) λp3 w h=>?_
 have h:=h.drop
 refine go h λw h=>?_
 exact rz ⟨_,Ct.rT dF<|Ct.rN<|Ct.rR,rfl,h⟩
 have Tv:=bM dF
 refine go h λw h=>?_
 refine cS (aQ _ _ _ _ h.to k.eY) λp5 w h=>?_
 have h:=h.drop
 refine go h λw h=>?_
 exact rz ⟨_,Ct.rF dF<|Ct.rN<|Ct.rR,rfl,h⟩
theorem J8(xb mb:Nat)(x:Ct.X)(t:Ct.aX)(h:SH B w (XA xb mb x::L))(k:Ct.Ok 30 x):
  Calls prog 208 #[↑xb,.agg (dV t).toArray] w λe w'=>∃y v,Ct.bC (Ct.TQ t) x=Ct.out y v/\e=.returned (.int .i64 v)/\SH B w' (XA xb mb y::L)/\Ct.Ok 60 y:=by
 refine cN func208 ntmps208 h λw h=>?_
 refine jX h λb1 w h=>?_
 refine eI (qM _ _ _ _ h.to (k.less (by omega))) λy2 v3 q4 w h k=>?_
 refine st (ld (v:=.bool y2.e.aD) One.h rfl (h.xc a0 λ_=>rfl))<|go h λw h=>?_
 refine qg h (λdM w h=>?_) λdM w h=>?_
 exact rz ⟨_,_,Ct.rL q4<|Ct.rS dM,rfl,h.to,(k.stop dM)⟩
 refine cS (aQ _ _ _ _ h.to k.eY) λp6 w h=>?_
 have h:=h.drop
 refine qc h (λfF w h=>?_) λfF w h=>?_
 exact rz ⟨_,_,Ct.rL q4<|Ct.rN<|Ct.rT fF<|Ct.rR,rfl,h.to,(k.less (by omega))⟩
 refine cS (aQ _ _ _ _ h.to k.eY) λp10 w h=>?_
 have h:=h.drop
 refine eI (qM _ _ _ _ h.to (k.less (by omega))) λy11 v12 Bj w h k=>?_
 refine qc h (λgD w h=>?_) λgD w h=>?_
 refine cS (aQ _ _ _ _ h.to k.eY) λp16 w h=>?_
 have h:=h.drop
 refine eI (rO _ _ _ _ _ _ h.to (k.less (by omega))) λy17 v18 Bk w h k=>?_
 refine cS (aQ _ _ _ _ h.to k.eY) λp20 w h=>?_
 have h:=h.drop
 refine eI (qM _ _ _ _ h.to (k.less (by omega))) λy21 v22 q23 w h k=>?_
 refine VX (tE _ _ _ _ _ h.to k) λv24 ZL w h=>?_
 refine eI (rO _ _ _ _ _ _ h.to (k.less (by omega))) λy26 v27 R6 w h k=>?_
 exact rz ⟨_,_,Ct.rL q4<|Ct.rN<|Ct.rF fF<|Ct.rN<|Ct.rL Bj<|Ct.rT gD<|Ct.rN<|Ct.rC Bk<|Ct.rN<|Ct.rL q23<|Ct.rB ZL<|Ct.rC R6<|Ct.rR,rfl,h.to,(k.less (by omega))⟩
 refine VX (tE _ _ _ _ _ h.to k) λv30 R7 w h=>?_
 refine eI (rO _ _ _ _ _ _ h.to (k.less (by omega))) λy32 v33 R8 w h k=>?_
 exact rz ⟨_,_,Ct.rL q4<|Ct.rN<|Ct.rF fF<|Ct.rN<|Ct.rL Bj<|Ct.rF gD<|Ct.rB R7<|Ct.rC R8<|Ct.rR,rfl,h.to,(k.less (by omega))⟩
end Go.Q9
end
