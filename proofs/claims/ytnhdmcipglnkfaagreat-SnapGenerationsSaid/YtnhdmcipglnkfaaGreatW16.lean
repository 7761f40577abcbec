/- Parts of a proof: Ro, BmFns, BmOps, Ph, Rh, BmRef, Rt. -/
import Derived.Test.YtnhdmcipglnkfaaGreatW15
import Derived.WalkKit
import Derived.WalkSpells
import Derived.WalkLawsBesides
import Derived.Laws.Bits64b
import Derived.Lib.Hide
import Derived.Deep.QuietTactic
import Derived.BigQuiet
set_option linter.unusedVariables false
set_option linter.unusedSimpArgs false
set_option maxRecDepth 100000
set_option maxHeartbeats 4000000
section
namespace Go.Ct
theorem Ok.dR{j:Nat}{x:X}(h:Ok j x):x.s.size<=100000000000:=by have:=h.zP;unfold X.size cN at this;omega
end Go.Ct
namespace Go.Q9
open Go.Proofs.Tryz
open Go.RowKit Go.E
attribute [local irreducible] gB wpS Go.E.X XS C jU kP fin Y U F Ca jT bl rb aU bV ex ce pu sK gK bK zK
variable{B w:World}{L:List As}
theorem mU(xb mb:Nat)(x:Ct.X)(c:Int)(h:SH B w (XA xb mb x::L))(k:Ct.Ok 0 x):
  Calls prog 179 #[↑xb,↑c] w λe w'=>∃y v,Ct.dY c x=Ct.out y v/\e=.returned (.int .i64 v)/\SH B w' (XA xb mb y::L)/\Ct.Ok 90 y:=by
 have key:∀{e:Ending} {w':World},(∃y v,Ct.dY c x=Ct.out y v/\e=.returned (.int .i64 v)/\SH B w' (XA xb mb y::L))->∃y v,Ct.dY c x=Ct.out y v/\e=.returned (.int .i64 v)/\SH B w' (XA xb mb y::L)/\Ct.Ok 90 y:=
  λ⟨y,v,q,e,h⟩=>⟨y,v,q,e,h,(Ct.Gm k q).1.less (by omega)⟩
 cases hs:x.e.aC with
 |true=>exact(Uz xb mb x c h k hs).mono λ_ _=>key
 |false=>
  by_cases ha:x.e.a<x.e.eG.length
  ·exact(Zg xb mb x c h k hs ha).mono λ_ _=>key
  ·by_cases hf:x.e.free=0
   ·exact(Xt xb mb x c h k hs ha hf).mono λ_ _=>key
   ·exact(Ux xb mb x c h k hs ha hf).mono λ_ _=>key
theorem nQ(xb mb:Nat)(x:Ct.X)(c o n:Int)(h:SH B w (XA xb mb x::L))(k:Ct.Ok 0 x):
  Calls prog 181 #[↑xb,↑c,↑o,↑n] w λe w'=>∃y v,Ct.iB c o n x=Ct.out y v/\e=.returned (.bool v)/\SH B w' (XA xb mb y::L)/\Ct.Ok 90 y:=by
 have key:∀{e:Ending} {w':World},(∃y v,Ct.iB c o n x=Ct.out y v/\e=.returned (.bool v)/\SH B w' (XA xb mb y::L))->∃y v,Ct.iB c o n x=Ct.out y v/\e=.returned (.bool v)/\SH B w' (XA xb mb y::L)/\Ct.Ok 90 y:=
  λ⟨y,v,q,e,h⟩=>⟨y,v,q,e,h,(Ct.DS k q).1.less (by omega)⟩
 cases hs:x.e.aC with
 |true=>exact(BQ xb mb x c o n h k hs).mono λ_ _=>key
 |false=>
  by_cases ha:x.e.a<x.e.eG.length
  ·exact(BT xb mb x c o n h k hs ha).mono λ_ _=>key
  ·by_cases hf:x.e.free=0
   ·exact(AX xb mb x c o n h k hs ha hf).mono λ_ _=>key
   ·exact(DD xb mb x c o n h k hs ha hf).mono λ_ _=>key
theorem dS{j:Nat}(xb mb:Nat)(x:Ct.X)(n:Ct.Node)(p:Lq)(i:Int)(h:SH B w (aM n p::XA xb mb x::L))(k:Ct.Ok (j+1) x)(hn:n.Fit (x.s.aG.length+1)):
  Calls prog 184 #[↑xb,.agg (aL n p).toArray,↑i] w λe w'=>∃y v,Ct.dB n i x=Ct.out y v/\e=.returned (.int .i64 v)/\SH B w' (XA xb mb y::L)/\Ct.Ok j y/\x.s.aG.length<=y.s.aG.length:=by
 have key:∀{e:Ending} {w':World},(∃y v,Ct.dB n i x=Ct.out y v/\e=.returned (.int .i64 v)/\SH B w' (XA xb mb y::L))->∃y v,Ct.dB n i x=Ct.out y v/\e=.returned (.int .i64 v)/\SH B w' (XA xb mb y::L)/\Ct.Ok j y/\x.s.aG.length<=y.s.aG.length:=
  λ⟨y,v,q,e,h⟩=>⟨y,v,q,e,h,(Ct.Kz k hn q).1,(Ct.Kz k hn q).2.1⟩
 have k0:=k.less (dF _)
 cases hs:x.e.aC with
 |true=>exact(Qq xb mb x n p i h k0 hs hn).mono λ_ _=>key
 |false=>
  by_cases hm:x.e.m=x.e.made.length
  ·exact(Sf xb mb x n p i h k0 hs hm hn).mono λ_ _=>key
  ·exact(Rr xb mb x n p i h k0 hs (by have:=k.m;omega) hn).mono λ_ _=>key
theorem AL{j:Nat}(xb mb:Nat)(x:Ct.X)(i:Int)(h:SH B w (XA xb mb x::L))(k:Ct.Ok (j+1) x):
  Calls prog 196 #[↑xb,↑i] w λe w'=>∃y v,Ct.fE i x=Ct.out y v/\e=.returned (.int .i64 v)/\SH B w' (XA xb mb y::L)/\Ct.Ok j y:=by
 have key:∀{e:Ending} {w':World},(∃y v,Ct.fE i x=Ct.out y v/\e=.returned (.int .i64 v)/\SH B w' (XA xb mb y::L))->∃y v,Ct.fE i x=Ct.out y v/\e=.returned (.int .i64 v)/\SH B w' (XA xb mb y::L)/\Ct.Ok j y:=
  λ⟨y,v,q,e,h⟩=>⟨y,v,q,e,h,(Ct.FQ k q).1⟩
 have k0:=k.less (dF _)
 cases hs:x.e.aC with
 |true=>exact(Ue xb mb x i h k0 hs).mono λ_ _=>key
 |false=>
  by_cases hm:x.e.c=x.e.cells.length
  ·exact(Xg xb mb x i h k0 hs hm).mono λ_ _=>key
  ·exact(Us xb mb x i h k0 hs (by have:=k.c;omega)).mono λ_ _=>key
theorem MG{j:Nat}(xb mb:Nat)(x:Ct.X)(h:SH B w (XA xb mb x::L))(k:Ct.Ok (j+1) x):
  Calls prog 198 #[↑xb] w λe w'=>∃y v,Ct.iH x=Ct.out y v/\e=.returned (.int .i64 v)/\SH B w' (XA xb mb y::L)/\Ct.Ok j y:=by
 have key:∀{e:Ending} {w':World},(∃y v,Ct.iH x=Ct.out y v/\e=.returned (.int .i64 v)/\SH B w' (XA xb mb y::L))->∃y v,Ct.iH x=Ct.out y v/\e=.returned (.int .i64 v)/\SH B w' (XA xb mb y::L)/\Ct.Ok j y:=
  λ⟨y,v,q,e,h⟩=>⟨y,v,q,e,h,(Ct.QL k q).1⟩
 have k0:=k.less (dF _)
 cases hs:x.e.aC with
 |true=>exact(CT xb mb x h k0 hs).mono λ_ _=>key
 |false=>
  by_cases hm:x.e.g=x.e.dG.length
  ·exact(CQ xb mb x h k0 hs hm).mono λ_ _=>key
  ·exact(CJ xb mb x h k0 hs (by have:=k.g;omega)).mono λ_ _=>key
theorem Sj(n:Ct.Node)(q:Lq)(h:SH B w (L)):
  Calls prog 140 #[.agg (aL n q).toArray] w λe w'=>e=.returned ↑n.bM/\SH B w' L:=by
 refine bZ func140 ntmps140 h λw h=>?_
 refine jX h λb1 w h=>?_
 refine qg h (λhd2 w h=>?_) λhd2 w h=>?_
 have hg3:=eq_of_beq hd2
 refine go h λw h=>?_
 refine rz ?_
 exact⟨by unfold Ct.Node.bM;simp[hd2],h.drop⟩
 have hg4:=dP hd2
 refine go h λw h=>?_
 refine qg h (λhd5 w h=>?_) λhd5 w h=>?_
 have hg6:=eq_of_beq hd5
 refine go h λw h=>?_
 refine rz ?_
 exact⟨by unfold Ct.Node.bM;simp[hd2,hd5],h.drop⟩
 have hg7:=dP hd5
 refine go h λw h=>?_
 refine rz ?_
 exact⟨by unfold Ct.Node.bM;simp[hd2,hd5],h.drop⟩
theorem pC(xb mb:Nat)(x:Ct.X)(v s:Int)(h:SH B w (XA xb mb x::L)){j:Nat}(k:Ct.Ok j x):
  Calls prog 183 #[↑xb,↑v,↑s] w λe w'=>∃u,Ct.aX (Ct.wR v s) x=Ct.out x u/\e=.returned (.int .i64 u)/\SH B w' (XA xb mb x::L):=by
 refine bZ func183 ntmps183 h λw h=>?_
 refine qc h (λhd1 w h=>?_) λhd1 w h=>?_
 have hg2:=eq_of_beq hd1
 refine go h λw h=>?_
 refine cG (aN _ _ _ _ h.to k.dR) λp3 w h=>?_
 have h:=h.drop
 refine go h λw h=>?_
 exact rz ⟨_,Ct.rT hd1<|Ct.rN<|Ct.rR,rfl,h⟩
 have hg4:=dP hd1
 refine go h λw h=>?_
 refine cG (aN _ _ _ _ h.to k.dR) λp5 w h=>?_
 have h:=h.drop
 refine go h λw h=>?_
 exact rz ⟨_,Ct.rF hd1<|Ct.rN<|Ct.rR,rfl,h⟩
theorem PW(xb mb:Nat)(x:Ct.X)(t:Ct.bC)(h:SH B w (XA xb mb x::L))(k:Ct.Ok 30 x):
  Calls prog 208 #[↑xb,.agg (cU t).toArray] w λe w'=>∃y v,Ct.aX (Ct.GS t) x=Ct.out y v/\e=.returned (.int .i64 v)/\SH B w' (XA xb mb y::L)/\Ct.Ok 60 y:=by
 refine bZ func208 ntmps208 h λw h=>?_
 refine jX h λb1 w h=>?_
 refine dE (mU _ _ _ _ h.to (k.less (by omega))) λy2 v3 q4 w h k=>?_
 refine st (ld (v:=.bool y2.e.aC) One.h rfl (h.xc a0 λ_=>rfl))<|go h λw h=>?_
 refine qg h (λhd5 w h=>?_) λhd5 w h=>?_
 exact rz ⟨_,_,Ct.rL q4<|Ct.rS hd5,rfl,h.to,(k.stop hd5)⟩
 refine cG (aN _ _ _ _ h.to k.dR) λp6 w h=>?_
 have h:=h.drop
 refine qc h (λhd7 w h=>?_) λhd7 w h=>?_
 exact rz ⟨_,_,Ct.rL q4<|Ct.rN<|Ct.rT hd7<|Ct.rR,rfl,h.to,(k.less (by omega))⟩
 refine cG (aN _ _ _ _ h.to k.dR) λp10 w h=>?_
 have h:=h.drop
 refine dE (mU _ _ _ _ h.to (k.less (by omega))) λy11 v12 q13 w h k=>?_
 refine qc h (λhd14 w h=>?_) λhd14 w h=>?_
 refine cG (aN _ _ _ _ h.to k.dR) λp16 w h=>?_
 have h:=h.drop
 refine dE (nQ _ _ _ _ _ _ h.to (k.less (by omega))) λy17 v18 q19 w h k=>?_
 refine cG (aN _ _ _ _ h.to k.dR) λp20 w h=>?_
 have h:=h.drop
 refine dE (mU _ _ _ _ h.to (k.less (by omega))) λy21 v22 q23 w h k=>?_
 refine Pv (pC _ _ _ _ _ h.to k) λv24 q25 w h=>?_
 refine dE (nQ _ _ _ _ _ _ h.to (k.less (by omega))) λy26 v27 q28 w h k=>?_
 exact rz ⟨_,_,Ct.rL q4<|Ct.rN<|Ct.rF hd7<|Ct.rN<|Ct.rL q13<|Ct.rT hd14<|Ct.rN<|Ct.rC q19<|Ct.rN<|Ct.rL q23<|Ct.rB q25<|Ct.rC q28<|Ct.rR,rfl,h.to,(k.less (by omega))⟩
 refine Pv (pC _ _ _ _ _ h.to k) λv30 q31 w h=>?_
 refine dE (nQ _ _ _ _ _ _ h.to (k.less (by omega))) λy32 v33 q34 w h k=>?_
 exact rz ⟨_,_,Ct.rL q4<|Ct.rN<|Ct.rF hd7<|Ct.rN<|Ct.rL q13<|Ct.rF hd14<|Ct.rB q31<|Ct.rC q34<|Ct.rR,rfl,h.to,(k.less (by omega))⟩
end Go.Q9
end
section
namespace Go.Q9
open Go.Proofs.Tryz
open Go.RowKit
theorem nG(a b:Nat)(ha:a<18446744073709551616)(hb:b<18446744073709551616):bits .and .u64 (a:Int) (b:Int)=((a&&&b:Nat):Int):=bits_and_u64_nat a b ha hb
theorem Jc(a:Nat)(h:a<18446744073709551616):IntKind.u64.wrap (a:Int)=(a:Int):=by rw[IntKind.wrap_u64];omega
theorem wrap_add(a b:Nat)(h:a+b<18446744073709551616):IntKind.u64.wrap ((a:Int)+(b:Int))=((a+b:Nat):Int):=by rw[IntKind.wrap_u64];omega
theorem Yr(y:Nat)(_h:y<18446744073709551616):bits .and .i64 (wrap64 (y:Int)) 127=((y%128:Nat):Int):=by
 have h1:(BitVec.ofInt 64 (wrap64 (y:Int)))=BitVec.ofNat 64 y:=by
  apply BitVec.eq_of_toNat_eq
  rw[BitVec.toNat_ofInt,BitVec.toNat_ofNat]
  unfold wrap64
  omega
 show IntKind.i64.wrap ((BitVec.ofInt 64 (wrap64 (y:Int))&&&BitVec.ofInt 64 127).toNat:Int)=_
 rw[h1]
 have h2:(BitVec.ofNat 64 y&&&BitVec.ofInt 64 127).toNat=y%128:=by
  rw[BitVec.toNat_and]
  have e:(BitVec.ofInt 64 127).toNat=2^7-1:=by decide
  rw[e,Nat.and_two_pow_sub_one_eq_mod,BitVec.toNat_ofNat]
  omega
 rw[h2]
 exact IntWalk.i64_in _ (by omega)
theorem Ky(x s1 s2 s4 y1 y2 y3 p:Nat)(w:World)
  (e1:IntKind.u64.wrap (bits .and .u64 ((x:Int)/2) 6148914691236517205+bits .and .u64 (x:Int) 6148914691236517205)=(s1:Int))
  (e2:IntKind.u64.wrap (bits .and .u64 ((s1:Int)/4) 3689348814741910323+bits .and .u64 (s1:Int) 3689348814741910323)=(s2:Int))
  (e4:bits .and .u64 (IntKind.u64.wrap ((s2:Int)/16+(s2:Int))) 1085102592571150095=(s4:Int))
  (f1:IntKind.u64.wrap ((s4:Int)+(s4:Int)/256)=(y1:Int))
  (f2:IntKind.u64.wrap ((y1:Int)+(y1:Int)/65536)=(y2:Int))
  (f3:IntKind.u64.wrap ((y2:Int)+(y2:Int)/4294967296)=(y3:Int))
  (f4:bits .and .i64 (wrap64 (y3:Int)) 127=(p:Int)):
  Calls prog 202 #[.int .u64 (x:Int)] w λe w'=>e=.returned (.int .i64 (p:Int))/\w=w':=by
 go_enter func202,ntmps202
 go_wp2
 go_ret
 exact⟨rfl,rfl⟩
theorem IL(x:Nat)(hx:x<18446744073709551616)(w:World):
  Calls prog 202 #[.int .u64 (x:Int)] w λe w'=>e=.returned (.int .i64 (Bm.pop 64 x:Nat))/\w=w':=by
 obtain⟨y1,y2,y3,h1,h2,h3,l1,l2,l3,hp⟩:=Bm.ZI x
 obtain⟨m1,m2,m4⟩:=Bm.ZM
 have b1:=Bm.GC 32 x
 have b2:=Bm.EV 16 x
 have k1:=Bm.VC 32 x
 have k2:=Bm.UO 16 x
 have k4:=Bm.UL 8 x
 simp only[Nat.reduceMul,Nat.reducePow]at b1 b2 k2 k4
 rw[m1]at k1
 rw[m2]at k2
 rw[m4]at k4
 have c1:((6148914691236517205:Nat):Int)=6148914691236517205:=rfl
 have c2:((3689348814741910323:Nat):Int)=3689348814741910323:=rfl
 have c4:((1085102592571150095:Nat):Int)=1085102592571150095:=rfl
 refine Ky x (Bm.xB 32 x) (Bm.sP 16 x) (Bm.Jx 8 x) y1 y2 y3 (Bm.pop 64 x) w ?_ ?_ ?_ ?_ ?_ ?_ ?_
 ·rw[show (x:Int)/2=((x/2:Nat):Int) by omega,<- c1,nG _ _ (by omega) (by decide),nG _ _ (by omega) (by decide),wrap_add,k1]
  rw[k1];omega
 ·rw[show ((Bm.xB 32 x:Nat):Int)/4=((Bm.xB 32 x/4:Nat):Int) by omega,<- c2,nG _ _ (by omega) (by decide),nG _ _ (by omega) (by decide),wrap_add,k2]
  rw[k2];omega
 ·rw[show ((Bm.sP 16 x:Nat):Int)/16=((Bm.sP 16 x/16:Nat):Int) by omega,<- c4,wrap_add _ _ (by omega),nG _ _ (by omega) (by decide),k4]
 ·rw[show ((Bm.Jx 8 x:Nat):Int)/256=((Bm.Jx 8 x/256:Nat):Int) by omega,wrap_add _ _ (by omega),h1]
 ·rw[show (y1:Int)/65536=((y1/65536:Nat):Int) by omega,wrap_add _ _ (by omega),h2]
 ·rw[show (y2:Int)/4294967296=((y2/4294967296:Nat):Int) by omega,wrap_add _ _ (by omega),h3]
 ·rw[Yr y3 l3,hp]
theorem De(x:Nat)(hx:x<18446744073709551616)(w:World):
  Calls prog 160 #[.int .u64 (x:Int)] w λe w'=>e=.returned (.int .i64 (Bm.pop 64 x:Nat))/\w=w':=by
 go_enter func160,ntmps160
 go_wp2_with (go_at_call 202;refine(IL x hx _).mono ?_;rintro e w' ⟨rfl,rfl⟩)
 go_ret
 exact⟨rfl,rfl⟩
end Go.Q9
end
section
namespace Go.Q9
open Go.Proofs.Tryz
open Go.RowKit
theorem sL(i:Nat)(h:i<64):2^i<18446744073709551616:=by
 have:2^i<2^64:=Nat.pow_lt_pow_right (by decide) h
 simpa using this
theorem Hz(i:Nat)(h:i<64):IntKind.u64.wrap (2^i)=((2^i:Nat):Int):=by
 have:=sL i h
 rw[show (2:Int)^i=((2^i:Nat):Int) by simp,Jc _ this]
theorem EW(b i:Nat)(hb:b<18446744073709551616):bits .and .u64 ((b:Int)/2^i) 1=(((b.testBit i).toNat:Nat):Int):=by
 have e:(b:Int)/2^i=((b/2^i:Nat):Int):=by simp
 have hl:b/2^i<18446744073709551616:=fU (Nat.div_le_self _ _) hb
 rw[e,show (1:Int)=((1:Nat):Int)from rfl,nG _ _ hl (by decide),Nat.and_one_is_mod,Bm.Oz]
end Go.Q9
end
section
namespace Go.Q9
open Go.Proofs.Tryz
open Go.RowKit
theorem lI(h k:Nat):∀j,j<=11->(∀i:Nat,i<j->Ct.slice h i=Ct.slice k i)->Ct.aJ h k=Ct.jJ h k (11-j) j
 |0,_,_=>rfl
 |j+1,hj,ha=>by
  rw[lI h k j (by omega) (λi hi=>ha i (by omega)),show 11-j=(11-(j+1))+1 by omega,Ct.jJ,if_pos (ha j (by omega))]
theorem He(l:List UInt8)(b:UInt8):Ct.Ly (l++[b])=Ct.qJ (Ct.Ly l) b:=by
 unfold Ct.Ly;rw[List.foldl_append,List.foldl_cons,List.foldl_nil]
theorem AY(h:Nat)(b:UInt8):Ct.qJ h b<18446744073709551616:=by
 unfold Ct.qJ;exact Nat.mod_lt _ (by omega)
theorem Ci(l:List UInt8):Ct.Ly l<18446744073709551616:=by
 rcases List.eq_nil_or_concat l with rfl|⟨l,b,rfl⟩
 ·unfold Ct.Ly;rw[List.foldl_nil];omega
 ·rw[List.concat_eq_append,He];exact AY _ _
theorem Xq(h:Nat)(b:UInt8)(hh:h<18446744073709551616):IntKind.u64.wrap (bits .xor .u64 (h:Int) (IntKind.u64.wrap (b.toNat:Int))*1099511628211)=(Ct.qJ h b:Nat):=by
 unfold Ct.qJ
 have hb:b.toNat<18446744073709551616:=Nat.lt_trans b.toNat_lt (by decide)
 rw[Jc _ hb,bits_xor_u64_nat _ _ hh hb,IntKind.wrap_u64]
 omega
theorem Mn(s:ByteArray)(k:Nat)(h:k<s.size):s.data.toList.take (k+1)=s.data.toList.take k++[s[k]]:=by
 rw[List.take_succ_eq_append_getElem (by simpa using h)];rfl
end Go.Q9
end
section
namespace Go.Q9
open Go.Proofs.Tryz
open Go.RowKit
theorem qZ(s:ByteArray)(w:World)(hs:s.size<=9223372036854775807):
  Calls prog 177 #[↑s] w λe w'=>e=.returned (.bool (Ct.bU s))/\w=w':=by
 go_enter func177,ntmps177
 go_wp2_with fail
 go_ret
 exact⟨by rw[show Ct.bU s=decide ((s.size:Int)<=64) by unfold Ct.bU;exact decide_eq_decide.2 (by omega)];rfl,rfl⟩
theorem SG(h n k:Nat)(hk:0<k)(hn:k<=n):h/64^(n-k)/64=h/64^(n-(k-1)):=by
 rw[Nat.div_div_eq_div_mul,<- Nat.pow_succ];congr 2;omega
theorem eH(h:Nat)(level:Int)(w:World)(hh:h<18446744073709551616):
  Calls prog 22 #[.int .u64 (h:Int),↑level] w λe w'=>e=.returned (.int .i64 (Ct.slice h level))/\w=w':=by
 by_cases h0:level<0
 ·have Hv:=Lib.hid (show Ct.slice h level=0 by unfold Ct.slice;rw[if_pos (.inl h0)])
  go_enter func22,ntmps22
  go_wp2_with fail
  go_ret
  exact⟨by rw[Hv.out];rfl,rfl⟩
 ·by_cases h1:10<level
  ·have Hv:=Lib.hid (show Ct.slice h level=0 by unfold Ct.slice;rw[if_pos (.inr (by omega))])
   go_enter func22,ntmps22
   go_wp2_with fail
   go_ret
   exact⟨by rw[Hv.out];rfl,rfl⟩
  ·obtain⟨n,rfl⟩:=BO (by omega:0<=level)
   have hn:n<11:=by omega
   have Hv:=Lib.hid (show Ct.slice h (n:Int)=((h/64^n%64:Nat):Int) by unfold Ct.slice;rw[if_neg (by omega)];simp)
   go_enter func22,ntmps22
   go_wp2_with fail
   go_loop [0,1] (λz l=>∃y k:Nat,k<=n/\l=.int .i64 (k:Int)/\z=.int .u64 (y:Int)/\y<18446744073709551616/\Hid (y=h/64^(n-k))) (λ_ l=>(intOf l).toNat)
   case atStart=>exact⟨h,n,JV _,rfl,rfl,hh,Lib.hid (by simp)⟩
   case round=>
    obtain⟨y,k,hk,rfl,rfl,hz,H⟩:=hrel
    by_cases hk0:0<k
    ·go_wp2_with fail
     go_round
     case rel=>exact⟨y/64,k-1,by omega,by rw[show ((k-1:Nat):Int)=(k:Int)-1 by omega],by rfl,by omega,Lib.hid (by rw[H.out];exact SG h n k hk0 hk)⟩
     case measure=>simp[intOf];omega
    ·obtain rfl:k=0:=by omega
     go_wp2_with fail
     go_ret
     exact⟨by rw[Hv.out,<- (show y=h/64^n by simpa using H.out)];rfl,rfl⟩
theorem pA(s:ByteArray)(m:Nat)(w:World)(hs:s.size<=9223372036854775807)(hm:m<18446744073709551616):
  Calls prog 20 #[↑s,.int .u64 (m:Int)] w λe w'=>e=.returned (.int .u64 (Ct.aH s m:Nat))/\w=w':=by
 go_enter func20,ntmps20
 go_wp2_with fail
 go_loop [5,6] (λh i=>∃k:Nat,k<=s.size/\i=.int .i64 (k:Int)/\h=.int .u64 (Ct.Ly (s.data.toList.take k):Nat)) (λ_ i=>s.size-(intOf i).toNat)
 case atStart=>exact⟨0,by omega,rfl,rfl⟩
 case round=>
  obtain⟨k,hk,rfl,rfl⟩:=hrel
  by_cases hlt:k<s.size
  ·have HS:=Lib.hid (Xq (Ct.Ly (s.data.toList.take k)) s[k] (Ci _))
   have HT:=Lib.hid (show Ct.Ly (s.data.toList.take (k+1))=_ by rw[Mn s k hlt,He])
   have hl:=Ci (s.data.toList.take k)
   generalize Ct.Ly (s.data.toList.take k)=h at *
   go_wp2_with fail
   go_round
   case rel=>exact⟨k+1,by omega,by go_num,by rw[HT.out,<- HS.out]⟩
   case measure=>simp[intOf];omega
  ·have HT:=Lib.hid (show Ct.aH s m=(Ct.Ly (s.data.toList.take k)&&&m) by unfold Ct.aH;rw[MA (by simp;omega)])
   have HB:=Lib.hid (nG _ m (Ci (s.data.toList.take k)) hm)
   generalize Ct.Ly (s.data.toList.take k)=h at *
   go_wp2_with fail
   go_ret
   exact⟨by rw[HT.out,<- HB.out];rfl,rfl⟩
theorem Xn(h k:Nat)(w:World)(hh:h<18446744073709551616)(hk:k<18446744073709551616):
  Calls prog 275 #[.int .u64 (h:Int),.int .u64 (k:Int)] w λe w'=>e=.returned (.int .i64 (Ct.aJ h k:Nat))/\w=w':=by
 go_enter func275,ntmps275
 go_wp2_with fail
 go_loop [5] (λi=>∃j:Nat,j<=11/\i=.int .i64 (j:Int)/\∀n:Nat,n<j->Ct.slice h n=Ct.slice k n) (λi=>11-(intOf i).toNat)
 case atStart=>exact⟨0,by omega,rfl,λn hn=>by omega⟩
 case round=>
  obtain⟨j,hj,rfl,hrel⟩:=hrel
  have HA:=Lib.hid hrel
  clear hrel
  by_cases hlt:j<11
  ·by_cases he:Ct.slice h j=Ct.slice k j
   ·have HE:=Lib.hid he
    have q:(Ct.slice h j==Ct.slice k j)=true:=by simp[he]
    clear he
    go_wp2_with ((with_reducible refine(eH _ _ _ (by assumption)).mono ?_);rintro e w' ⟨rfl,rfl⟩)
    go_round
    case rel=>exact⟨j+1,by omega,by go_num,λn hn=>by by_cases hnj:n=j;(subst hnj;exact HE.out);exact HA.out n (by omega)⟩
    case measure=>simp[intOf];omega
   ·have HE:=Lib.hid (show Ct.aJ h k=j by rw[lI h k j hj HA.out,show 11-j=(10-j)+1 by omega,Ct.jJ,if_neg he])
    have q:(Ct.slice h j==Ct.slice k j)=false:=by simp[he]
    clear he
    go_wp2_with ((with_reducible refine(eH _ _ _ (by assumption)).mono ?_);rintro e w' ⟨rfl,rfl⟩)
    go_ret
    exact⟨by rw[HE.out];rfl,rfl⟩
  ·obtain rfl:j=11:=by omega
   have HE:=Lib.hid (show Ct.aJ h k=11 from lI h k 11 hj HA.out)
   go_wp2_with fail
   go_ret
   exact⟨by rw[HE.out];rfl,rfl⟩
end Go.Q9
end
section
namespace Go.Q9
open Go.Proofs.Tryz
open Go.RowKit
theorem Ix(b:Nat)(i:Int)(w:World)(hb:b<18446744073709551616):
  Calls prog 141 #[.int .u64 (b:Int),↑i] w λe w'=>e=.returned (.bool (Bm.has b i))/\w=w':=by
 by_cases h0:0<=i
 ·by_cases h1:i<64
  ·obtain⟨n,rfl⟩:=BO h0
   have hk:=EW b n hb
   have hv:Bm.has b (n:Int)=((((b.testBit n).toNat:Nat):Int)==1):=by
    simp only[Bm.has,h0,h1,GY]
    cases b.testBit n<;>rfl
   have Hv:=Lib.hid hv
   have hd:decide ((n:Int)<64)=true:=by simpa using h1
   clear hv
   go_enter func141,ntmps141
   go_wp2_with fail
   go_ret
   exact⟨by rw[Hv.out];rfl,rfl⟩
  ·have hv:Bm.has b i=false:=by unfold Bm.has;simp[h1]
   have Hv:=Lib.hid hv
   have hd:decide (i<64)=false:=by simpa using h1
   clear hv
   go_enter func141,ntmps141
   go_wp2_with fail
   go_ret
   exact⟨by rw[Hv.out];rfl,rfl⟩
 ·have hv:Bm.has b i=false:=by unfold Bm.has;simp[h0]
  have Hv:=Lib.hid hv
  clear hv
  go_enter func141,ntmps141
  go_wp2_with fail
  go_ret
  exact⟨by rw[Hv.out];rfl,rfl⟩
theorem FB{b:Nat}{i:Int}{v:Bool}{w:World}(hb:b<18446744073709551616)(h:Hid (Bm.has b i=v)):
  Calls prog 141 #[.int .u64 (b:Int),↑i] w λe w'=>e=.returned ↑v/\w=w':=by
 rw[<- h.out];exact Ix b i w hb
theorem WE(i:Int):Bm.cut i<=64:=by unfold Bm.cut;split;omega;split<;>omega
theorem WB{k:Nat}{i:Int}:k<Bm.cut i↔(k:Int)<64/\(k:Int)<i:=by
 unfold Bm.cut;split;omega;split<;>omega
theorem xH(b:Nat)(i:Int)(w:World)(hb:b<18446744073709551616):
  Calls prog 174 #[.int .u64 (b:Int),↑i] w λe w'=>e=.returned (.int .i64 (Bm.aO b i:Nat))/\w=w':=by
 have hc:=WE i
 have hlt:=λk=>@WB k i
 have Hlt:=Lib.hid hlt
 have Hpos:=Lib.hid (show Bm.aO b i=Bm.pop (Bm.cut i) b from rfl)
 clear hlt
 generalize Bm.cut i=c at *
 go_enter func174,ntmps174
 go_wp2_with fail
 go_loop [5,6] (λn k=>∃j:Nat,j<=c/\k=.int .i64 j/\n=.int .i64 (Bm.pop j b:Nat)) (λ_ k=>c-(intOf k).toNat)
 case atStart=>exact⟨0,dF _,rfl,by rw[Bm.Zn];rfl⟩
 case round=>
  obtain⟨j,hj,rfl,rfl⟩:=hrel
  have hpl:=Bm.lR j b
  have hps:=Bm.cZ j b
  by_cases hjc:j<c
  ·have h12:=(Hlt.out j).1 hjc
   have h1:=h12.1
   have h2:=h12.2
   have hn:=Bm.nI b j (by omega)
   cases hbit:b.testBit j
   ·rw[hbit]at hps hn
    have Hps:=Lib.hid hps
    have Hn:=Lib.hid hn
    clear hps hn hbit h12
    go_wp2_with fail
    refine(FB hb Hn).mono ?_
    rintro e w' ⟨rfl,rfl⟩
    go_wp2_with fail
    go_round
    case rel=>exact⟨j+1,by omega,by go_num,by rw[Hps.out];rfl⟩
    case measure=>simp[intOf];omega
   ·rw[hbit]at hps hn
    have Hps:=Lib.hid hps
    have Hn:=Lib.hid hn
    clear hps hn hbit h12
    go_wp2_with fail
    refine(FB hb Hn).mono ?_
    rintro e w' ⟨rfl,rfl⟩
    go_wp2_with fail
    go_round
    case rel=>exact⟨j+1,by omega,by go_num,by rw[Hps.out];rfl⟩
    case measure=>simp[intOf];omega
  ·obtain rfl:j=c:=by omega
   have hno:¬((j:Int)<64/\(j:Int)<i):=λh=>hjc ((Hlt.out j).2 h)
   by_cases h1:(j:Int)<64
   ·have h2:¬(j:Int)<i:=λh=>hno ⟨h1,h⟩
    clear hno hps
    go_wp2_with fail
    go_ret
    exact⟨by rw[Hpos.out];rfl,rfl⟩
   ·clear hno hps
    go_wp2_with fail
    go_ret
    exact⟨by rw[Hpos.out];rfl,rfl⟩
theorem Ri{b:Nat}{i:Int}{v:Nat}{w:World}(hb:b<18446744073709551616)(h:Hid (Bm.aO b i=v)):
  Calls prog 174 #[.int .u64 (b:Int),↑i] w λe w'=>e=.returned (.int .i64 (v:Int))/\w=w':=by
 rw[<- h.out];exact xH b i w hb
theorem KO{b v:Nat}{w:World}(hb:b<18446744073709551616)(h:Hid (Bm.pop 64 b=v)):
  Calls prog 134 #[.int .u64 (b:Int)] w λe w'=>e=.returned (.int .i64 (v:Int))/\w=w':=by
 have HA:=Lib.hid (show Bm.aO b 64=v by rw[Bm.Pd];exact h.out)
 clear h
 go_enter func134,ntmps134
 go_wp2_with fail
 refine(Ri hb HA).mono ?_
 rintro e w' ⟨rfl,rfl⟩
 go_wp2_with fail
 go_ret
 exact⟨rfl,rfl⟩
theorem lT(b:Nat)(i:Int)(w:World)(hb:b<18446744073709551616):
  Calls prog 244 #[.int .u64 (b:Int),↑i] w λe w'=>e=.returned (.int .u64 (Bm.cI b i:Nat))/\w=w':=by
 by_cases h0:i<0
 ·have hv:Bm.cI b i=b:=by unfold Bm.cI;rw[if_neg (by omega)]
  have Hv:=Lib.hid hv
  clear hv
  go_enter func244,ntmps244
  go_wp2_with fail
  go_ret
  exact⟨by rw[Hv.out];rfl,rfl⟩
 ·by_cases h1:63<i
  ·have hv:Bm.cI b i=b:=by unfold Bm.cI;rw[if_neg (by omega)]
   have Hv:=Lib.hid hv
   clear hv
   go_enter func244,ntmps244
   go_wp2_with fail
   go_ret
   exact⟨by rw[Hv.out];rfl,rfl⟩
  ·have hv:Bm.cI b i=b|||2^i.toNat:=by unfold Bm.cI;rw[if_pos (by omega)]
   obtain⟨n,rfl⟩:=BO (show 0<=i by omega)
   have hn:n<64:=by omega
   have hp:=sL n hn
   rw[GY]at hv
   have Hv:=Lib.hid hv
   have hk:bits .or .u64 (b:Int) (IntKind.u64.wrap (2^n))=((b|||2^n:Nat):Int):=by
    rw[Hz n hn,bits_or_u64_nat _ _ hb hp]
   have hd:decide (63<(n:Int))=false:=by simp;omega
   clear hv hp
   go_enter func244,ntmps244
   go_wp2_with fail
   go_ret
   exact⟨by rw[Hv.out];rfl,rfl⟩
end Go.Q9
end
section
namespace Go.Ct
theorem YG{l:List bN}(hv:aQ l=true){k:Nat}(h1:1<=k)(hk:k<l.length):(Op.bytesLess (l.getD k ⟨.empty,0⟩).key.toList (l.getD (k-1) ⟨.empty,0⟩).key.toList||(l.getD k ⟨.empty,0⟩).key.toList==(l.getD (k-1) ⟨.empty,0⟩).key.toList)=false:=by
 have h:=Eh l hv (k-1) k (by omega) hk
 unfold dM iE at h
 rw[Bool.or_eq_false_iff]
 constructor
 ·cases hb:Op.bytesLess (l.getD k ⟨.empty,0⟩).key.toList (l.getD (k-1) ⟨.empty,0⟩).key.toList with
  |false=>rfl
  |true=>have:=oC _ _ _ h hb;rw[kV]at this;cases this
 ·rw[beq_eq_false_iff_ne]
  intro he
  rw[he,kV]at h;cases h
theorem Cj{l:List bN}(hs:kS l=true){k:Nat}(hk:k<l.length):decide ((((l.getD k ⟨.empty,0⟩).key.size:Nat):Int)>64)=false:=by
 have:=(jF l).1 hs (l.getD k ⟨.empty,0⟩) (by rw[dI,fM hk];exact wU hk)
 rw[decide_eq_false_iff_not];omega
theorem T4{l:List bN}{key:ByteArray}{k:Nat}(h:∀j,j<k->bR (iE l j).key key=false)(hk:((l.getD k ⟨.empty,0⟩).key.toList==key.toList)=false):∀j,j<k+1->bR (iE l j).key key=false:=λj hj=>by
 by_cases e:j=k
 ·subst e;exact hk
 ·exact h j (by omega)
theorem kM{a b:ByteArray}(h:bR a b=true):a=b:=by
 unfold bR at h
 rw[toList_data,toList_data,mQ]at h
 exact ByteArray.ext (Array.toList_inj.1 h)
theorem OR{a b:ByteArray}(h:dM a b=true):bR a b=false:=by
 cases hb:bR a b with
 |false=>rfl
 |true=>rw[kM hb,mL]at h;cases h
theorem MN{l:List bN}{key:ByteArray}{k:Nat}(hv:aQ l=true)(hk:k<l.length)(he:bR (iE l k).key key=true):aZ l key=k:=by
 have e:=kM he
 refine Ny l key k (by omega) (λm hm=>?_) (λm h1 h2=>?_)
 ·rw[<- e];exact Eh l hv m k hm hk
 ·by_cases hmk:m=k
  ·subst hmk;rw[e];exact mL _
  ·have h3:=Eh l hv k m (by omega) h2
   cases hb:dM (iE l m).key key with
   |false=>rfl
   |true=>rw[<- e]at hb;have:=kA h3 hb;rw[mL]at this;cases this
theorem KK{l:List bN}{key:ByteArray}{k:Nat}(hv:aQ l=true)(hk:k<l.length)(he:((l.getD k ⟨.empty,0⟩).key.toList==key.toList)=true):bB l key=((iE l k).value,true):=by
 have hb:=MN hv hk he
 unfold bB iZ
 rw[hb,hv,show bR (iE l k).key key=true from he]
 simp[hk]
theorem JF{l:List bN}{key:ByteArray}(h:∀j,j<l.length->bR (iE l j).key key=false):iZ l key=false:=by
 unfold iZ
 by_cases hb:aZ l key<l.length
 ·rw[h _ hb];simp
 ·simp[hb]
theorem BU{l:List bN}{key:ByteArray}(hv:aQ l=true)(h:∀j,j<l.length->bR (iE l j).key key=false):bB l key=(0,false):=by
 unfold bB;rw[JF h];simp
def cX(l:List bN)(key:ByteArray):List bN:=l.filter λq=>!bR q.key key
def kO(l:List bN)(z:bN):List bN:=l.take (aZ l z.key)++z::l.drop (aZ l z.key)
theorem zX{l:List bN}{k:Nat}(hk:k<l.length):l.take (k+1)=l.take k++[l.getD k ⟨.empty,0⟩]:=by
 rw[List.take_succ_eq_append_getElem hk,dI,fM hk];rfl
theorem A4{l:List bN}{key:ByteArray}{k:Nat}(hk:k<l.length)(h:(!((l.getD k ⟨.empty,0⟩).key.toList==key.toList))=true):(l.take k).filter (λq=>!bR q.key key)++[l.getD k ⟨.empty,0⟩]=(l.take (k+1)).filter λq=>!bR q.key key:=by
 rw[zX hk,zE]
 congr 1
 rw[mD,if_pos (show (!bR _ key)=true from h),List.filter_nil]
theorem A3{l:List bN}{key:ByteArray}{k:Nat}(hk:k<l.length)(h:(!((l.getD k ⟨.empty,0⟩).key.toList==key.toList))=false):(l.take k).filter (λq=>!bR q.key key)=(l.take (k+1)).filter λq=>!bR q.key key:=by
 rw[zX hk,zE,mD,if_neg (by rw[show (!bR (l.getD k ⟨.empty,0⟩).key key)=false from h];decide),List.filter_nil,List.append_nil]
theorem oR(l:List bN)(key:ByteArray):(cX l key).length<=l.length:=List.length_filter_le _ _
theorem TM{l:List bN}{key:ByteArray}{k:Nat}(h:∀j,j<k->dM (iE l j).key key=true)(hk:Op.bytesLess (l.getD k ⟨.empty,0⟩).key.toList key.toList=true):∀j,j<k+1->dM (iE l j).key key=true:=λj hj=>by
 by_cases e:j=k
 ·subst e;exact hk
 ·exact h j (by omega)
theorem uS:∀(l:List bN) (key:ByteArray) (k:Nat),k<=l.length->(∀j,j<k->dM (iE l j).key key=true)->(k<l.length->dM (iE l k).key key=false)->aZ l key=k
 |[],key,k,hk,_,_=>by simp at hk;subst hk;rfl
 |q::l,key,0,_,_,h2=>by
  have:=h2 (by simp)
  unfold aZ;rw[if_neg (by rw[show dM q.key key=false from this];decide)]
 |q::l,key,k+1,hk,h1,h2=>by
  have:=h1 0 (by omega)
  unfold aZ
  rw[if_pos (by rw[show dM q.key key=true from this]),uS l key k (by simpa using hk) (λj hj=>h1 (j+1) (by omega)) (λhlt=>h2 (by simpa using hlt))]
theorem Va{l:List bN}{z:bN}{k:Nat}(hk:k<=l.length)(h1:∀j,j<k->dM (iE l j).key z.key=true)(h2:k<l.length->Op.bytesLess (l.getD k ⟨.empty,0⟩).key.toList z.key.toList=false):kO l z=l.take k++z::l.drop k:=by
 unfold kO;rw[uS l z.key k hk h1 h2]
end Go.Ct
namespace Go.Ct
theorem filter_all{l:List bN}{key:ByteArray}(h:∀q∈l,bR q.key key=false):cX l key=l:=by
 unfold cX;rw[List.filter_eq_self];intro q hq;rw[h q hq];rfl
theorem KI{q:bN}{l:List bN}{key:ByteArray}(h:dM q.key key=true):iZ (q::l) key=iZ l key:=by
 unfold iZ
 have e:aZ (q::l) key=aZ l key+1:=by rw[aZ,if_pos h]
 rw[e]
 simp[iE]
theorem qP(key:ByteArray):∀l:List bN,aQ l=true->cX l key=gX l key
 |[],_=>by simp[cX,gX,iZ,aZ,aQ]
 |q::l,hv=>by
  have ih:=qP key l (zZ hv)
  have hd:=Qm hv
  unfold gX at ih ⊢
  rw[if_neg (by rw[zZ hv];decide)]at ih
  rw[if_neg (by rw[hv];decide)]
  by_cases hlt:dM q.key key=true
  ·rw[KI hlt,aZ,if_pos hlt]
   have e:cX (q::l) key=q::cX l key:=by
    unfold cX;rw[mD,if_pos (by rw[OR hlt];rfl)]
   rw[e,ih]
   split<;>simp
  ·have hlt':dM q.key key=false:=by simpa using hlt
   have e0:aZ (q::l) key=0:=by rw[aZ,if_neg hlt]
   have hr:∀r∈l,bR r.key key=false:=λr hr=>by
    have h1:=hd r hr
    cases hb:bR r.key key with
    |false=>rfl
    |true=>rw[kM hb]at h1;rw[h1]at hlt';cases hlt'
   rw[e0]
   have e2:iZ (q::l) key=bR q.key key:=by unfold iZ;rw[e0];simp[iE]
   rw[e2]
   cases he:bR q.key key with
   |true=>
    rw[if_pos rfl]
    show cX (q::l) key=_
    have:cX (q::l) key=cX l key:=by unfold cX;rw[mD,if_neg (by rw[he];decide)]
    rw[this,filter_all hr];simp
   |false=>
    rw[if_neg (by decide)]
    exact filter_all λr hr'=>by
     rcases List.mem_cons.1 hr' with rfl|h
     ·exact he
     ·exact hr r h
theorem Uj{l:List bN}{key:ByteArray}(hv:aQ l=true):aZ (gX l key) key=aZ l key:=by
 unfold gX
 rw[if_neg (by rw[hv];decide)]
 by_cases hp:iZ l key=true
 ·rw[if_pos hp]
  have hp':=hp
  unfold iZ at hp'
  simp only[Qb,Ft]at hp'
  obtain⟨h1,h2⟩:=hp'
  refine uS _ key _ (by simp;omega) (λj hj=>?_) (λhlt=>?_)
  ·have:iE (l.take (aZ l key)++l.drop (aZ l key+1)) j=iE l j:=by
    unfold iE;rw[dI,dI,xD (by simp;omega),Yv,if_pos hj]
   rw[this];exact wG l key j hj
  ·simp only[cO,jI,Xs]at hlt
   have:iE (l.take (aZ l key)++l.drop (aZ l key+1)) (aZ l key)=iE l (aZ l key+1):=by
    unfold iE;rw[dI,dI,tW (by rw[jI];omega),KQ,jI]
    rw[show aZ l key+1+(aZ l key-min (aZ l key) l.length)=aZ l key+1 by omega]
   rw[this]
   have h3:=Eh l hv (aZ l key) (aZ l key+1) (by omega) (by omega)
   rw[kM h2]at h3
   cases hb:dM (iE l (aZ l key+1)).key key with
   |false=>rfl
   |true=>have:=kA h3 hb;rw[mL]at this;cases this
 ·rw[if_neg hp]
theorem TG{l:List bN}(key:ByteArray)(v:Nat)(hv:aQ l=true):mC l key v=kO (cX l key) ⟨key,v⟩:=by
 rw[qP key l hv]
 unfold kO
 dsimp only
 rw[Uj hv]
 unfold mC gX
 simp only[hv,Bool.true_eq_false,↓reduceIte]
 by_cases hp:iZ l key=true
 ·rw[if_pos hp,if_pos hp]
  have hp':=hp
  unfold iZ at hp'
  simp only[Qb,Ft]at hp'
  obtain⟨h1,h2⟩:=hp'
  have e1:(l.take (aZ l key)++l.drop (aZ l key+1)).take (aZ l key)=l.take (aZ l key):=by
   rw[List.take_append_of_le_length (by simp;omega),MA (by rw[jI];omega)]
  have e2:(l.take (aZ l key)++l.drop (aZ l key+1)).drop (aZ l key)=l.drop (aZ l key+1):=by
   rw[List.drop_append_of_le_length (by simp;omega),List.drop_of_length_le (by rw[jI];omega)];rfl
  rw[e1,e2,kM h2]
 ·rw[if_neg hp,if_neg hp]
theorem QW(a b:bN)(h:bR a.key b.key=false):kO (cX (kO (cX [] a.key) a) b.key) b=gG a b:=by
 have e1:kO (cX [] a.key) a=[a]:=by simp[cX,kO,aZ]
 have e2:cX [a] b.key=[a]:=by unfold cX;rw[mD,if_pos (by rw[h];rfl)];rfl
 rw[e1,e2]
 unfold kO gG
 cases hb:dM a.key b.key with
 |true=>
  have:dM b.key a.key=false:=by
   cases hc:dM b.key a.key with
   |false=>rfl
   |true=>have:=kA hb hc;rw[mL]at this;cases this
  simp[aZ,hb,this]
 |false=>rw[if_pos (vN hb h)];simp[aZ,hb]
end Go.Ct
namespace Go.Ct
theorem Cf(l:List bN)(z:bN):(kO l z).length<=l.length+1:=by unfold kO;simp;omega
end Go.Ct
namespace Go.Ct
def yZ(l:List bN):List bN:=l.foldl (λout q=>kO (cX out q.key) q) []
theorem ZY{l:List bN}{k:Nat}(hk:k<l.length):kO (cX (yZ (l.take k)) (l.getD k ⟨.empty,0⟩).key) (l.getD k ⟨.empty,0⟩)=yZ (l.take (k+1)):=by
 unfold yZ;rw[zX hk,List.foldl_append];rfl
theorem Sg(l:List bN):∀k,(yZ (l.take k)).length<=k
 |0=>by simp[yZ]
 |k+1=>by
  by_cases hk:k<l.length
  ·rw[<- ZY hk]
   have:=Cf (cX (yZ (l.take k)) (l.getD k ⟨.empty,0⟩).key) (l.getD k ⟨.empty,0⟩)
   have:=oR (yZ (l.take k)) (l.getD k ⟨.empty,0⟩).key
   have:=Sg l k
   omega
  ·rw[MA (by omega)]
   have:=Sg l k
   rw[MA (by omega)]at this
   omega
theorem MW{a b:bN}(h:bR a.key b.key=false):yZ [a,b]=gG a b:=QW a b h
end Go.Ct
end
