/- Parts of a proof: BmFns, BmOps, Ph, Rh, BmRef, Rt. -/
import Derived.WalkKit
import Derived.WalkSpells
import Derived.WalkLawsBesides
import Derived.Laws.Bits64b
import Derived.Lib.Hide
import Derived.Deep.QuietTactic
import Derived.BigQuiet
import Derived.Test.YtnhdmcipglnkfaaGreatW10
set_option linter.unusedVariables false
set_option linter.unusedSimpArgs false
set_option maxRecDepth 100000
set_option maxHeartbeats 4000000
section
namespace Go.Q9
open Go.Proofs.Tryz
open Go.RowKit
theorem qZ(a b:Nat)(ha:a<18446744073709551616)(hb:b<18446744073709551616):bits .and .u64 (a:Int) (b:Int)=((a&&&b:Nat):Int):=bits_and_u64_nat a b ha hb
theorem Rr(a:Nat)(h:a<18446744073709551616):IntKind.u64.wrap (a:Int)=(a:Int):=by rw[IntKind.wrap_u64];omega
theorem wrap_add(a b:Nat)(h:a+b<18446744073709551616):IntKind.u64.wrap ((a:Int)+(b:Int))=((a+b:Nat):Int):=by rw[IntKind.wrap_u64];omega
theorem EJ(y:Nat)(_h:y<18446744073709551616):bits .and .i64 (wrap64 (y:Int)) 127=((y%128:Nat):Int):=by
 have h1:(BitVec.ofInt 64 (wrap64 (y:Int)))=BitVec.ofNat 64 y:=by
  apply BitVec.eq_of_toNat_eq
  rw[BitVec.toNat_ofInt,BitVec.toNat_ofNat]
  unfold wrap64
  omega
 show IntKind.i64.wrap ((BitVec.ofInt 64 (wrap64 (y:Int))&&&BitVec.ofInt 64 127).toNat:Int)=_
 rw[h1]
 have h2:(BitVec.ofNat 64 y&&&BitVec.ofInt 64 127).toNat=y%128:=by
  rw[BitVec.toNat_and]
  have e:(BitVec.ofInt 64 127).toNat=2^7-1:=by decide
  rw[e,Nat.and_two_pow_sub_one_eq_mod,BitVec.toNat_ofNat]
  omega
 rw[h2]
 exact IntWalk.i64_in _ (by omega)
theorem Rx(x s1 s2 s4 y1 y2 y3 p:Nat)(w:World)
  (e1:IntKind.u64.wrap (bits .and .u64 ((x:Int)/2) 6148914691236517205+bits .and .u64 (x:Int) 6148914691236517205)=(s1:Int))
  (e2:IntKind.u64.wrap (bits .and .u64 ((s1:Int)/4) 3689348814741910323+bits .and .u64 (s1:Int) 3689348814741910323)=(s2:Int))
  (e4:bits .and .u64 (IntKind.u64.wrap ((s2:Int)/16+(s2:Int))) 1085102592571150095=(s4:Int))
  (f1:IntKind.u64.wrap ((s4:Int)+(s4:Int)/256)=(y1:Int))
  (f2:IntKind.u64.wrap ((y1:Int)+(y1:Int)/65536)=(y2:Int))
  (f3:IntKind.u64.wrap ((y2:Int)+(y2:Int)/4294967296)=(y3:Int))
  (f4:bits .and .i64 (wrap64 (y3:Int)) 127=(p:Int)):
  Calls prog 202 #[.int .u64 (x:Int)] w λe w'=>e=.returned (.int .i64 (p:Int))/\w=w':=by
 go_enter func202,ntmps202
 go_wp2
 go_ret
 exact⟨rfl,rfl⟩
theorem VB(x:Nat)(hx:x<18446744073709551616)(w:World):
  Calls prog 202 #[.int .u64 (x:Int)] w λe w'=>e=.returned (.int .i64 (Bm.pop 64 x:Nat))/\w=w':=by
 obtain⟨y1,y2,y3,h1,h2,h3,l1,l2,l3,hp⟩:=Bm.aJ7 x
 obtain⟨m1,m2,m4⟩:=Bm.aIa
 have b1:=Bm.SU 32 x
 have b2:=Bm.RV 16 x
 have k1:=Bm.aBs 32 x
 have k2:=Bm.aC3 16 x
 have k4:=Bm.aB9 8 x
 simp only[Nat.reduceMul,Nat.reducePow]at b1 b2 k2 k4
 rw[m1]at k1
 rw[m2]at k2
 rw[m4]at k4
 have c1:((6148914691236517205:Nat):Int)=6148914691236517205:=rfl
 have c2:((3689348814741910323:Nat):Int)=3689348814741910323:=rfl
 have c4:((1085102592571150095:Nat):Int)=1085102592571150095:=rfl
 refine Rx x (Bm.Bq 32 x) (Bm.wU 16 x) (Bm.Si 8 x) y1 y2 y3 (Bm.pop 64 x) w ?_ ?_ ?_ ?_ ?_ ?_ ?_
 ·rw[show (x:Int)/2=((x/2:Nat):Int) by omega,<- c1,qZ _ _ (by omega) (by decide),qZ _ _ (by omega) (by decide),wrap_add,k1]
  rw[k1];omega
 ·rw[show ((Bm.Bq 32 x:Nat):Int)/4=((Bm.Bq 32 x/4:Nat):Int) by omega,<- c2,qZ _ _ (by omega) (by decide),qZ _ _ (by omega) (by decide),wrap_add,k2]
  rw[k2];omega
 ·rw[show ((Bm.wU 16 x:Nat):Int)/16=((Bm.wU 16 x/16:Nat):Int) by omega,<- c4,wrap_add _ _ (by omega),qZ _ _ (by omega) (by decide),k4]
 ·rw[show ((Bm.Si 8 x:Nat):Int)/256=((Bm.Si 8 x/256:Nat):Int) by omega,wrap_add _ _ (by omega),h1]
 ·rw[show (y1:Int)/65536=((y1/65536:Nat):Int) by omega,wrap_add _ _ (by omega),h2]
 ·rw[show (y2:Int)/4294967296=((y2/4294967296:Nat):Int) by omega,wrap_add _ _ (by omega),h3]
 ·rw[EJ y3 l3,hp]
theorem Im(x:Nat)(hx:x<18446744073709551616)(w:World):
  Calls prog 160 #[.int .u64 (x:Int)] w λe w'=>e=.returned (.int .i64 (Bm.pop 64 x:Nat))/\w=w':=by
 go_enter func160,ntmps160
 go_wp2_with (go_at_call 202;refine(VB x hx _).mono ?_;rintro e w' ⟨rfl,rfl⟩)
 go_ret
 exact⟨rfl,rfl⟩
theorem Li(i:Int)(w:World)(h0:0<=i)(h1:i<64):
  Calls prog 282 #[↑i] w λe w'=>e=.returned ↑true/\w=w':=by
 go_enter func282,ntmps282
 go_wp2
 go_ret
 exact⟨by simp,rfl⟩
theorem Sk(i:Int)(w:World)(h:i<0\/64<=i):
  Calls prog 282 #[↑i] w λe w'=>e=.returned ↑false/\w=w':=by
 rcases h with h|h
 ·go_enter func282,ntmps282
  go_wp2
  go_ret
  exact⟨rfl,rfl⟩
 ·go_enter func282,ntmps282
  go_wp2
  go_ret
  exact⟨by simp;omega,rfl⟩
end Go.Q9
end
section
namespace Go.Q9
open Go.Proofs.Tryz
open Go.RowKit
theorem xB(i:Nat)(h:i<64):2^i<18446744073709551616:=by
 have:2^i<2^64:=Nat.pow_lt_pow_right (by decide) h
 simpa using this
theorem Oi(i:Nat)(h:i<64):IntKind.u64.wrap (2^i)=((2^i:Nat):Int):=by
 have:=xB i h
 rw[show (2:Int)^i=((2^i:Nat):Int) by simp,Rr _ this]
theorem RO(b i:Nat)(hb:b<18446744073709551616):bits .and .u64 ((b:Int)/2^i) 1=(((b.testBit i).toNat:Nat):Int):=by
 have e:(b:Int)/2^i=((b/2^i:Nat):Int):=by simp
 have hl:b/2^i<18446744073709551616:=Sc (Nat.div_le_self _ _) hb
 rw[e,show (1:Int)=((1:Nat):Int)from rfl,qZ _ _ hl (by decide),Nat.and_one_is_mod,Bm.Xt]
theorem Ep(b:Nat)(i:Int)(w:World)(hb:b<18446744073709551616):
  Calls prog 256 #[.int .u64 (b:Int),↑i] w λe w'=>e=.returned (.bool (Bm.has b i))/\w=w':=by
 by_cases h:0<=i/\i<64
 ·obtain⟨h0,h1⟩:=h
  obtain⟨n,rfl⟩:=vL h0
  have hk:=RO b n hb
  have hv:Bm.has b (n:Int)=((((b.testBit n).toNat:Nat):Int)==1):=by
   simp only[Bm.has,h0,h1,Qa]
   cases b.testBit n<;>rfl
  have Hv:=Lib.hid hv
  clear hv
  go_enter func256,ntmps256
  go_wp2_with (go_at_call 282;refine(Li _ _ h0 h1).mono ?_;rintro e w' ⟨rfl,rfl⟩)
  go_ret
  exact⟨by rw[Hv.out];rfl,rfl⟩
 ·have hv:Bm.has b i=false:=by
   unfold Bm.has
   by_cases h0:0<=i
   ·have:¬i<64:=λh1=>h ⟨h0,h1⟩
    simp[this]
   ·simp[h0]
  have Hv:=Lib.hid hv
  clear hv
  go_enter func256,ntmps256
  go_wp2_with (go_at_call 282;refine(Sk _ _ (by omega)).mono ?_;rintro e w' ⟨rfl,rfl⟩)
  go_ret
  exact⟨by rw[Hv.out];rfl,rfl⟩
theorem wX(b:Nat)(i:Int)(w:World)(hb:b<18446744073709551616):
  Calls prog 257 #[.int .u64 (b:Int),↑i] w λe w'=>e=.returned (.int .i64 (Bm.aN b i:Nat))/\w=w':=by
 by_cases h0:i<=0
 ·have hv:Bm.aN b i=0:=by unfold Bm.aN Bm.cut;rw[if_pos h0];exact Bm.GI b
  have Hv:=Lib.hid hv
  clear hv
  go_enter func257,ntmps257
  go_wp2_with fail
  go_ret
  exact⟨by rw[Hv.out];rfl,rfl⟩
 ·by_cases h1:64<=i
  ·have hv:Bm.aN b i=Bm.pop 64 b:=by unfold Bm.aN Bm.cut;rw[if_neg h0,if_pos h1]
   have Hv:=Lib.hid hv
   clear hv
   go_enter func257,ntmps257
   go_wp2_with (go_at_call 160;refine(Im _ hb _).mono ?_;rintro e w' ⟨rfl,rfl⟩)
   go_ret
   exact⟨by rw[Hv.out];rfl,rfl⟩
  ·obtain⟨n,rfl⟩:=vL (show 0<=i by omega)
   have hn:n<64:=by omega
   have hp:=xB n hn
   have hpos:0<2^n:=Nat.two_pow_pos n
   have hv:Bm.aN b (n:Int)=Bm.pop 64 (b%2^n):=by
    unfold Bm.aN Bm.cut;rw[if_neg h0,if_neg h1,Bm.aAc n b (by omega),Qa]
   have Hv:=Lib.hid hv
   have hk:bits .and .u64 (b:Int) (IntKind.u64.wrap (IntKind.u64.wrap (2^n)-1))=((b%2^n:Nat):Int):=by
    rw[Oi n hn,show ((2^n:Nat):Int)-1=((2^n-1:Nat):Int) by omega,Rr _ (by omega),qZ _ _ hb (by omega),Bm.Ba]
   have hl:b%2^n<18446744073709551616:=Sc (Nat.mod_le _ _) hb
   clear hv hpos hp
   go_enter func257,ntmps257
   go_wp2_with (go_at_call 160;refine(Im _ hl _).mono ?_;rintro e w' ⟨rfl,rfl⟩)
   go_ret
   exact⟨by rw[Hv.out];rfl,rfl⟩
theorem UI(b:Nat)(i:Int)(w:World)(hb:b<18446744073709551616):
  Calls prog 287 #[.int .u64 (b:Int),↑i] w λe w'=>e=.returned (.int .u64 (Bm.cR b i:Nat))/\w=w':=by
 by_cases h:0<=i/\i<64
 ·have hv:Bm.cR b i=b|||2^i.toNat:=by unfold Bm.cR;rw[if_pos h]
  obtain⟨h0,h1⟩:=h
  obtain⟨n,rfl⟩:=vL h0
  have hn:n<64:=by omega
  have hp:=xB n hn
  rw[Qa]at hv
  have Hv:=Lib.hid hv
  have hk:bits .or .u64 (b:Int) (IntKind.u64.wrap (2^n))=((b|||2^n:Nat):Int):=by
   rw[Oi n hn,bits_or_u64_nat _ _ hb hp]
  clear hv hp
  go_enter func287,ntmps287
  go_wp2_with (go_at_call 282;refine(Li _ _ h0 h1).mono ?_;rintro e w' ⟨rfl,rfl⟩)
  go_ret
  exact⟨by rw[Hv.out];rfl,rfl⟩
 ·have hv:Bm.cR b i=b:=by unfold Bm.cR;rw[if_neg h]
  have Hv:=Lib.hid hv
  clear hv
  go_enter func287,ntmps287
  go_wp2_with (go_at_call 282;refine(Sk _ _ (by omega)).mono ?_;rintro e w' ⟨rfl,rfl⟩)
  go_ret
  exact⟨by rw[Hv.out];rfl,rfl⟩
end Go.Q9
end
section
namespace Go.Q9
open Go.Proofs.Tryz
open Go.RowKit
theorem AQ(s:ByteArray)(w:World)(hs:s.size<=9223372036854775807):
  Calls prog 95 #[↑s] w λe w'=>e=.returned (.bool (Ct.bR s))/\w=w':=by
 go_enter func95,ntmps95
 go_wp2_with fail
 go_ret
 exact⟨by rw[show Ct.bR s=decide ((s.size:Int)<=64) by unfold Ct.bR;exact decide_eq_decide.2 (by omega)];rfl,rfl⟩
theorem UY(h n:Nat)(hh:h<18446744073709551616)(hn:n<11):bits .and .u64 ((h:Int)/2^(6*n)) 63=((h/64^n%64:Nat):Int):=by
 have e:(h:Int)/2^(6*n)=((h/64^n:Nat):Int):=by
  rw[show (64:Nat)=2^6 from rfl,<- Nat.pow_mul];simp
 have hl:h/64^n<18446744073709551616:=Sc (Nat.div_le_self _ _) hh
 rw[e,show (63:Int)=((63:Nat):Int)from rfl,qZ _ _ hl (by decide)]
 congr 1
 exact Nat.and_two_pow_sub_one_eq_mod _ 6
theorem sU(h:Nat)(level:Int)(w:World)(hh:h<18446744073709551616):
  Calls prog 227 #[.int .u64 (h:Int),↑level] w λe w'=>e=.returned (.int .i64 (Ct.slice h level))/\w=w':=by
 by_cases h0:level<0
 ·have Hv:=Lib.hid (show Ct.slice h level=0 by unfold Ct.slice;rw[if_pos (.inl h0)])
  go_enter func227,ntmps227
  go_wp2_with fail
  go_ret
  exact⟨by rw[Hv.out];rfl,rfl⟩
 ·by_cases h1:11<=level
  ·have Hv:=Lib.hid (show Ct.slice h level=0 by unfold Ct.slice;rw[if_pos (.inr (by omega))])
   go_enter func227,ntmps227
   go_wp2_with fail
   go_ret
   exact⟨by rw[Hv.out];rfl,rfl⟩
  ·obtain⟨n,rfl⟩:=vL (by omega:0<=level)
   have hn:n<11:=by omega
   have Hv:=Lib.hid (show Ct.slice h (n:Int)=((h/64^n%64:Nat):Int) by unfold Ct.slice;rw[if_neg (by omega)];simp)
   have Hm:=Lib.hid (UY h n hh hn)
   go_enter func227,ntmps227
   go_wp2_with fail
   go_ret
   refine⟨?_,rfl⟩
   show Ending.returned (.int .i64 (wrap64 (bits BinOp.and IntKind.u64 ((h:Int)/2^(6*n)) 63)))=_
   rw[Hv.out,Hm.out,IntWalk.wrap64_in _ (by omega)]
theorem nV(h k:Nat):∀j,j<=11->(∀i:Nat,i<j->Ct.slice h i=Ct.slice k i)->Ct.aJ h k=Ct.lV h k (11-j) j
 |0,_,_=>rfl
 |j+1,hj,ha=>by
  rw[nV h k j (by omega) (λi hi=>ha i (by omega)),show 11-j=(11-(j+1))+1 by omega,Ct.lV,if_pos (ha j (by omega))]
theorem NP(h k:Nat)(w:World)(hh:h<18446744073709551616)(hk:k<18446744073709551616):
  Calls prog 288 #[.int .u64 (h:Int),.int .u64 (k:Int)] w λe w'=>e=.returned (.int .i64 (Ct.aJ h k:Nat))/\w=w':=by
 go_enter func288,ntmps288
 go_wp2_with fail
 go_loop [6] (λi=>∃j:Nat,j<=11/\i=.int .i64 (j:Int)/\∀n:Nat,n<j->Ct.slice h n=Ct.slice k n) (λi=>11-(intOf i).toNat)
 case atStart=>exact⟨0,by omega,rfl,λn hn=>by omega⟩
 case round=>
  obtain⟨j,hj,rfl,hrel⟩:=hrel
  have HA:=Lib.hid hrel
  clear hrel
  by_cases hlt:j<11
  ·by_cases he:Ct.slice h j=Ct.slice k j
   ·have HE:=Lib.hid he
    have q:(Ct.slice h j != Ct.slice k j)=false:=by simp[he]
    clear he
    go_wp2_with ((with_reducible refine(sU _ _ _ (by assumption)).mono ?_);rintro e w' ⟨rfl,rfl⟩)
    go_round
    case rel=>exact⟨j+1,by omega,by go_num,λn hn=>by by_cases hnj:n=j;(subst hnj;exact HE.out);exact HA.out n (by omega)⟩
    case measure=>simp[intOf];omega
   ·have HE:=Lib.hid (show Ct.aJ h k=j by rw[nV h k j hj HA.out,show 11-j=(10-j)+1 by omega,Ct.lV,if_neg he])
    have q:(Ct.slice h j != Ct.slice k j)=true:=by simp[he]
    clear he
    go_wp2_with ((with_reducible refine(sU _ _ _ (by assumption)).mono ?_);rintro e w' ⟨rfl,rfl⟩)
    go_ret
    exact⟨by rw[HE.out];rfl,rfl⟩
  ·obtain rfl:j=11:=by omega
   have HE:=Lib.hid (show Ct.aJ h k=11 from nV h k 11 hj HA.out)
   go_wp2_with fail
   go_ret
   exact⟨by rw[HE.out];rfl,rfl⟩
theorem Tf(l:List UInt8)(b:UInt8):Ct.Uu (l++[b])=Ct.uL (Ct.Uu l) b:=by
 unfold Ct.Uu;rw[List.foldl_append,List.foldl_cons,List.foldl_nil]
theorem PF(h:Nat)(b:UInt8):Ct.uL h b<18446744073709551616:=by
 unfold Ct.uL;exact Nat.mod_lt _ (by omega)
theorem Ik(l:List UInt8):Ct.Uu l<18446744073709551616:=by
 rcases List.eq_nil_or_concat l with rfl|⟨l,b,rfl⟩
 ·unfold Ct.Uu;rw[List.foldl_nil];omega
 ·rw[List.concat_eq_append,Tf];exact PF _ _
theorem JK(h:Nat)(b:UInt8)(hh:h<18446744073709551616):IntKind.u64.wrap (bits .xor .u64 (h:Int) (IntKind.u64.wrap (b.toNat:Int))*1099511628211)=(Ct.uL h b:Nat):=by
 unfold Ct.uL
 have hb:b.toNat<18446744073709551616:=Nat.lt_trans b.toNat_lt (by decide)
 rw[Rr _ hb,bits_xor_u64_nat _ _ hh hb,IntKind.wrap_u64]
 omega
theorem Xc(s:ByteArray)(k:Nat)(h:k<s.size):s.data.toList.take (k+1)=s.data.toList.take k++[s[k]]:=by
 rw[V9 (by simpa using h)];rfl
theorem FQ(s:ByteArray)(m:Nat)(w:World)(hs:s.size<=9223372036854775807)(hm:m<18446744073709551616):
  Calls prog 93 #[↑s,.int .u64 (m:Int)] w λe w'=>e=.returned (.int .u64 (Ct.aE s m:Nat))/\w=w':=by
 go_enter func93,ntmps93
 go_wp2_with fail
 go_loop [5,9] (λh i=>∃k:Nat,k<=s.size/\i=.int .i64 (k:Int)/\h=.int .u64 (Ct.Uu (s.data.toList.take k):Nat)) (λ_ i=>s.size-(intOf i).toNat)
 case atStart=>exact⟨0,by omega,rfl,rfl⟩
 case round=>
  obtain⟨k,hk,rfl,rfl⟩:=hrel
  by_cases hlt:k<s.size
  ·have HS:=Lib.hid (JK (Ct.Uu (s.data.toList.take k)) s[k] (Ik _))
   have HT:=Lib.hid (show Ct.Uu (s.data.toList.take (k+1))=_ by rw[Xc s k hlt,Tf])
   have hl:=Ik (s.data.toList.take k)
   generalize Ct.Uu (s.data.toList.take k)=h at *
   go_wp2_with fail
   go_round
   case rel=>exact⟨k+1,by omega,by go_num,by rw[HT.out,<- HS.out]⟩
   case measure=>simp[intOf];omega
  ·have HT:=Lib.hid (show Ct.aE s m=(Ct.Uu (s.data.toList.take k)&&&m) by unfold Ct.aE;rw[xW (by simp;omega)])
   have HB:=Lib.hid (qZ _ m (Ik (s.data.toList.take k)) hm)
   generalize Ct.Uu (s.data.toList.take k)=h at *
   go_wp2_with fail
   go_ret
   exact⟨by rw[HT.out,<- HB.out];rfl,rfl⟩
end Go.Q9
end
section
namespace Go.Q9
open Go.Proofs.Tryz
open Go.RowKit
theorem uV(s:ByteArray)(w:World)(hs:s.size<=9223372036854775807):
  Calls prog 177 #[↑s] w λe w'=>e=.returned (.bool (Ct.bR s))/\w=w':=by
 go_enter func177,ntmps177
 go_wp2_with fail
 go_ret
 exact⟨by rw[show Ct.bR s=decide ((s.size:Int)<=64) by unfold Ct.bR;exact decide_eq_decide.2 (by omega)];rfl,rfl⟩
theorem Z9(h n k:Nat)(hk:0<k)(hn:k<=n):h/64^(n-k)/64=h/64^(n-(k-1)):=by
 rw[Nat.div_div_eq_div_mul,<- Nat.pow_succ];congr 2;omega
theorem iV(h:Nat)(level:Int)(w:World)(hh:h<18446744073709551616):
  Calls prog 22 #[.int .u64 (h:Int),↑level] w λe w'=>e=.returned (.int .i64 (Ct.slice h level))/\w=w':=by
 by_cases h0:level<0
 ·have Hv:=Lib.hid (show Ct.slice h level=0 by unfold Ct.slice;rw[if_pos (.inl h0)])
  go_enter func22,ntmps22
  go_wp2_with fail
  go_ret
  exact⟨by rw[Hv.out];rfl,rfl⟩
 ·by_cases h1:10<level
  ·have Hv:=Lib.hid (show Ct.slice h level=0 by unfold Ct.slice;rw[if_pos (.inr (by omega))])
   go_enter func22,ntmps22
   go_wp2_with fail
   go_ret
   exact⟨by rw[Hv.out];rfl,rfl⟩
  ·obtain⟨n,rfl⟩:=vL (by omega:0<=level)
   have hn:n<11:=by omega
   have Hv:=Lib.hid (show Ct.slice h (n:Int)=((h/64^n%64:Nat):Int) by unfold Ct.slice;rw[if_neg (by omega)];simp)
   go_enter func22,ntmps22
   go_wp2_with fail
   go_loop [0,1] (λz l=>∃y k:Nat,k<=n/\l=.int .i64 (k:Int)/\z=.int .u64 (y:Int)/\y<18446744073709551616/\Hid (y=h/64^(n-k))) (λ_ l=>(intOf l).toNat)
   case atStart=>exact⟨h,n,aW _,rfl,rfl,hh,Lib.hid (by simp)⟩
   case round=>
    obtain⟨y,k,hk,rfl,rfl,hz,H⟩:=hrel
    by_cases hk0:0<k
    ·go_wp2_with fail
     go_round
     case rel=>exact⟨y/64,k-1,by omega,by rw[show ((k-1:Nat):Int)=(k:Int)-1 by omega],by rfl,by omega,Lib.hid (by rw[H.out];exact Z9 h n k hk0 hk)⟩
     case measure=>simp[intOf];omega
    ·obtain rfl:k=0:=by omega
     go_wp2_with fail
     go_ret
     exact⟨by rw[Hv.out,<- (show y=h/64^n by simpa using H.out)];rfl,rfl⟩
theorem sX(s:ByteArray)(m:Nat)(w:World)(hs:s.size<=9223372036854775807)(hm:m<18446744073709551616):
  Calls prog 20 #[↑s,.int .u64 (m:Int)] w λe w'=>e=.returned (.int .u64 (Ct.aE s m:Nat))/\w=w':=by
 go_enter func20,ntmps20
 go_wp2_with fail
 go_loop [5,6] (λh i=>∃k:Nat,k<=s.size/\i=.int .i64 (k:Int)/\h=.int .u64 (Ct.Uu (s.data.toList.take k):Nat)) (λ_ i=>s.size-(intOf i).toNat)
 case atStart=>exact⟨0,by omega,rfl,rfl⟩
 case round=>
  obtain⟨k,hk,rfl,rfl⟩:=hrel
  by_cases hlt:k<s.size
  ·have HS:=Lib.hid (JK (Ct.Uu (s.data.toList.take k)) s[k] (Ik _))
   have HT:=Lib.hid (show Ct.Uu (s.data.toList.take (k+1))=_ by rw[Xc s k hlt,Tf])
   have hl:=Ik (s.data.toList.take k)
   generalize Ct.Uu (s.data.toList.take k)=h at *
   go_wp2_with fail
   go_round
   case rel=>exact⟨k+1,by omega,by go_num,by rw[HT.out,<- HS.out]⟩
   case measure=>simp[intOf];omega
  ·have HT:=Lib.hid (show Ct.aE s m=(Ct.Uu (s.data.toList.take k)&&&m) by unfold Ct.aE;rw[xW (by simp;omega)])
   have HB:=Lib.hid (qZ _ m (Ik (s.data.toList.take k)) hm)
   generalize Ct.Uu (s.data.toList.take k)=h at *
   go_wp2_with fail
   go_ret
   exact⟨by rw[HT.out,<- HB.out];rfl,rfl⟩
theorem FV(h k:Nat)(w:World)(hh:h<18446744073709551616)(hk:k<18446744073709551616):
  Calls prog 275 #[.int .u64 (h:Int),.int .u64 (k:Int)] w λe w'=>e=.returned (.int .i64 (Ct.aJ h k:Nat))/\w=w':=by
 go_enter func275,ntmps275
 go_wp2_with fail
 go_loop [5] (λi=>∃j:Nat,j<=11/\i=.int .i64 (j:Int)/\∀n:Nat,n<j->Ct.slice h n=Ct.slice k n) (λi=>11-(intOf i).toNat)
 case atStart=>exact⟨0,by omega,rfl,λn hn=>by omega⟩
 case round=>
  obtain⟨j,hj,rfl,hrel⟩:=hrel
  have HA:=Lib.hid hrel
  clear hrel
  by_cases hlt:j<11
  ·by_cases he:Ct.slice h j=Ct.slice k j
   ·have HE:=Lib.hid he
    have q:(Ct.slice h j==Ct.slice k j)=true:=by simp[he]
    clear he
    go_wp2_with ((with_reducible refine(iV _ _ _ (by assumption)).mono ?_);rintro e w' ⟨rfl,rfl⟩)
    go_round
    case rel=>exact⟨j+1,by omega,by go_num,λn hn=>by by_cases hnj:n=j;(subst hnj;exact HE.out);exact HA.out n (by omega)⟩
    case measure=>simp[intOf];omega
   ·have HE:=Lib.hid (show Ct.aJ h k=j by rw[nV h k j hj HA.out,show 11-j=(10-j)+1 by omega,Ct.lV,if_neg he])
    have q:(Ct.slice h j==Ct.slice k j)=false:=by simp[he]
    clear he
    go_wp2_with ((with_reducible refine(iV _ _ _ (by assumption)).mono ?_);rintro e w' ⟨rfl,rfl⟩)
    go_ret
    exact⟨by rw[HE.out];rfl,rfl⟩
  ·obtain rfl:j=11:=by omega
   have HE:=Lib.hid (show Ct.aJ h k=11 from nV h k 11 hj HA.out)
   go_wp2_with fail
   go_ret
   exact⟨by rw[HE.out];rfl,rfl⟩
end Go.Q9
end
section
namespace Go.Q9
open Go.Proofs.Tryz
open Go.RowKit
theorem Rl(b:Nat)(i:Int)(w:World)(hb:b<18446744073709551616):
  Calls prog 141 #[.int .u64 (b:Int),↑i] w λe w'=>e=.returned (.bool (Bm.has b i))/\w=w':=by
 by_cases h0:0<=i
 ·by_cases h1:i<64
  ·obtain⟨n,rfl⟩:=vL h0
   have hk:=RO b n hb
   have hv:Bm.has b (n:Int)=((((b.testBit n).toNat:Nat):Int)==1):=by
    simp only[Bm.has,h0,h1,Qa]
    cases b.testBit n<;>rfl
   have Hv:=Lib.hid hv
   have hd:decide ((n:Int)<64)=true:=by simpa using h1
   clear hv
   go_enter func141,ntmps141
   go_wp2_with fail
   go_ret
   exact⟨by rw[Hv.out];rfl,rfl⟩
  ·have hv:Bm.has b i=false:=by unfold Bm.has;simp[h1]
   have Hv:=Lib.hid hv
   have hd:decide (i<64)=false:=by simpa using h1
   clear hv
   go_enter func141,ntmps141
   go_wp2_with fail
   go_ret
   exact⟨by rw[Hv.out];rfl,rfl⟩
 ·have hv:Bm.has b i=false:=by unfold Bm.has;simp[h0]
  have Hv:=Lib.hid hv
  clear hv
  go_enter func141,ntmps141
  go_wp2_with fail
  go_ret
  exact⟨by rw[Hv.out];rfl,rfl⟩
theorem TF{b:Nat}{i:Int}{v:Bool}{w:World}(hb:b<18446744073709551616)(h:Hid (Bm.has b i=v)):
  Calls prog 141 #[.int .u64 (b:Int),↑i] w λe w'=>e=.returned ↑v/\w=w':=by
 rw[<- h.out];exact Rl b i w hb
theorem aF7(i:Int):Bm.cut i<=64:=by unfold Bm.cut;split;omega;split<;>omega
theorem aDo{k:Nat}{i:Int}:k<Bm.cut i↔(k:Int)<64/\(k:Int)<i:=by
 unfold Bm.cut;split;omega;split<;>omega
theorem Cl(b:Nat)(i:Int)(w:World)(hb:b<18446744073709551616):
  Calls prog 174 #[.int .u64 (b:Int),↑i] w λe w'=>e=.returned (.int .i64 (Bm.aN b i:Nat))/\w=w':=by
 have hc:=aF7 i
 have hlt:=λk=>@aDo k i
 have Hlt:=Lib.hid hlt
 have Hpos:=Lib.hid (show Bm.aN b i=Bm.pop (Bm.cut i) b from rfl)
 clear hlt
 generalize Bm.cut i=c at *
 go_enter func174,ntmps174
 go_wp2_with fail
 go_loop [5,6] (λn k=>∃j:Nat,j<=c/\k=.int .i64 j/\n=.int .i64 (Bm.pop j b:Nat)) (λ_ k=>c-(intOf k).toNat)
 case atStart=>exact⟨0,bZ _,rfl,by rw[Bm.GI];rfl⟩
 case round=>
  obtain⟨j,hj,rfl,rfl⟩:=hrel
  have hpl:=Bm.lW j b
  have hps:=Bm.cQ j b
  by_cases hjc:j<c
  ·have h12:=(Hlt.out j).1 hjc
   have h1:=h12.1
   have h2:=h12.2
   have hn:=Bm.nY b j (by omega)
   cases hbit:b.testBit j
   ·rw[hbit]at hps hn
    have Hps:=Lib.hid hps
    have Hn:=Lib.hid hn
    clear hps hn hbit h12
    go_wp2_with fail
    refine(TF hb Hn).mono ?_
    rintro e w' ⟨rfl,rfl⟩
    go_wp2_with fail
    go_round
    case rel=>exact⟨j+1,by omega,by go_num,by rw[Hps.out];rfl⟩
    case measure=>simp[intOf];omega
   ·rw[hbit]at hps hn
    have Hps:=Lib.hid hps
    have Hn:=Lib.hid hn
    clear hps hn hbit h12
    go_wp2_with fail
    refine(TF hb Hn).mono ?_
    rintro e w' ⟨rfl,rfl⟩
    go_wp2_with fail
    go_round
    case rel=>exact⟨j+1,by omega,by go_num,by rw[Hps.out];rfl⟩
    case measure=>simp[intOf];omega
  ·obtain rfl:j=c:=by omega
   have hno:¬((j:Int)<64/\(j:Int)<i):=λh=>hjc ((Hlt.out j).2 h)
   by_cases h1:(j:Int)<64
   ·have h2:¬(j:Int)<i:=λh=>hno ⟨h1,h⟩
    clear hno hps
    go_wp2_with fail
    go_ret
    exact⟨by rw[Hpos.out];rfl,rfl⟩
   ·clear hno hps
    go_wp2_with fail
    go_ret
    exact⟨by rw[Hpos.out];rfl,rfl⟩
theorem Zk{b:Nat}{i:Int}{v:Nat}{w:World}(hb:b<18446744073709551616)(h:Hid (Bm.aN b i=v)):
  Calls prog 174 #[.int .u64 (b:Int),↑i] w λe w'=>e=.returned (.int .i64 (v:Int))/\w=w':=by
 rw[<- h.out];exact Cl b i w hb
theorem VN{b v:Nat}{w:World}(hb:b<18446744073709551616)(h:Hid (Bm.pop 64 b=v)):
  Calls prog 134 #[.int .u64 (b:Int)] w λe w'=>e=.returned (.int .i64 (v:Int))/\w=w':=by
 have HA:=Lib.hid (show Bm.aN b 64=v by rw[Bm.CJ];exact h.out)
 clear h
 go_enter func134,ntmps134
 go_wp2_with fail
 refine(Zk hb HA).mono ?_
 rintro e w' ⟨rfl,rfl⟩
 go_wp2_with fail
 go_ret
 exact⟨rfl,rfl⟩
theorem qR(b:Nat)(i:Int)(w:World)(hb:b<18446744073709551616):
  Calls prog 244 #[.int .u64 (b:Int),↑i] w λe w'=>e=.returned (.int .u64 (Bm.cR b i:Nat))/\w=w':=by
 by_cases h0:i<0
 ·have hv:Bm.cR b i=b:=by unfold Bm.cR;rw[if_neg (by omega)]
  have Hv:=Lib.hid hv
  clear hv
  go_enter func244,ntmps244
  go_wp2_with fail
  go_ret
  exact⟨by rw[Hv.out];rfl,rfl⟩
 ·by_cases h1:63<i
  ·have hv:Bm.cR b i=b:=by unfold Bm.cR;rw[if_neg (by omega)]
   have Hv:=Lib.hid hv
   clear hv
   go_enter func244,ntmps244
   go_wp2_with fail
   go_ret
   exact⟨by rw[Hv.out];rfl,rfl⟩
  ·have hv:Bm.cR b i=b|||2^i.toNat:=by unfold Bm.cR;rw[if_pos (by omega)]
   obtain⟨n,rfl⟩:=vL (show 0<=i by omega)
   have hn:n<64:=by omega
   have hp:=xB n hn
   rw[Qa]at hv
   have Hv:=Lib.hid hv
   have hk:bits .or .u64 (b:Int) (IntKind.u64.wrap (2^n))=((b|||2^n:Nat):Int):=by
    rw[Oi n hn,bits_or_u64_nat _ _ hb hp]
   have hd:decide (63<(n:Int))=false:=by simp;omega
   clear hv hp
   go_enter func244,ntmps244
   go_wp2_with fail
   go_ret
   exact⟨by rw[Hv.out];rfl,rfl⟩
end Go.Q9
end
section
namespace Go.Ct
theorem aD5{l:List bA}(hv:aU l=true){k:Nat}(h1:1<=k)(hk:k<l.length):(Op.bytesLess (l.getD k ⟨.empty,0⟩).key.toList (l.getD (k-1) ⟨.empty,0⟩).key.toList||(l.getD k ⟨.empty,0⟩).key.toList==(l.getD (k-1) ⟨.empty,0⟩).key.toList)=false:=by
 have h:=Ka l hv (k-1) k (by omega) hk
 unfold dW kA at h
 rw[Bool.or_eq_false_iff]
 constructor
 ·cases hb:Op.bytesLess (l.getD k ⟨.empty,0⟩).key.toList (l.getD (k-1) ⟨.empty,0⟩).key.toList with
  |false=>rfl
  |true=>have:=rV _ _ _ h hb;rw[nC]at this;cases this
 ·rw[beq_eq_false_iff_ne]
  intro he
  rw[he,nC]at h;cases h
theorem Jk{l:List bA}(hs:nA l=true){k:Nat}(hk:k<l.length):decide ((((l.getD k ⟨.empty,0⟩).key.size:Nat):Int)>64)=false:=by
 have:=(lO l).1 hs (l.getD k ⟨.empty,0⟩) (by rw[cK,fV hk];exact uY hk)
 rw[decide_eq_false_iff_not];omega
theorem X5{l:List bA}{key:ByteArray}{k:Nat}(h:∀j,j<k->bO (kA l j).key key=false)(hk:((l.getD k ⟨.empty,0⟩).key.toList==key.toList)=false):∀j,j<k+1->bO (kA l j).key key=false:=λj hj=>by
 by_cases e:j=k
 ·subst e;exact hk
 ·exact h j (by omega)
theorem mJ{a b:ByteArray}(h:bO a b=true):a=b:=by
 unfold bO at h
 rw[toList_data,toList_data,Ae]at h
 exact ByteArray.ext (Array.toList_inj.1 h)
theorem w4{a b:ByteArray}(h:dW a b=true):bO a b=false:=by
 cases hb:bO a b with
 |false=>rfl
 |true=>rw[mJ hb,oZ]at h;cases h
theorem I7{l:List bA}{key:ByteArray}{k:Nat}(hv:aU l=true)(hk:k<l.length)(he:bO (kA l k).key key=true):bB l key=k:=by
 have e:=mJ he
 refine Xs l key k (by omega) (λm hm=>?_) (λm h1 h2=>?_)
 ·rw[<- e];exact Ka l hv m k hm hk
 ·by_cases YQ:m=k
  ·subst YQ;rw[e];exact oZ _
  ·have h3:=Ka l hv k m (by omega) h2
   cases hb:dW (kA l m).key key with
   |false=>rfl
   |true=>rw[<- e]at hb;have:=mO h3 hb;rw[oZ]at this;cases this
theorem XI{l:List bA}{key:ByteArray}{k:Nat}(hv:aU l=true)(hk:k<l.length)(he:((l.getD k ⟨.empty,0⟩).key.toList==key.toList)=true):bN l key=((kA l k).value,true):=by
 have hb:=I7 hv hk he
 unfold bN lG
 rw[hb,hv,show bO (kA l k).key key=true from he]
 simp[hk]
theorem XX{l:List bA}{key:ByteArray}(h:∀j,j<l.length->bO (kA l j).key key=false):lG l key=false:=by
 unfold lG
 by_cases hb:bB l key<l.length
 ·rw[h _ hb];simp
 ·simp[hb]
theorem PU{l:List bA}{key:ByteArray}(hv:aU l=true)(h:∀j,j<l.length->bO (kA l j).key key=false):bN l key=(0,false):=by
 unfold bN;rw[XX h];simp
def dA(l:List bA)(key:ByteArray):List bA:=l.filter λq=>!bO q.key key
def mK(l:List bA)(z:bA):List bA:=l.take (bB l z.key)++z::l.drop (bB l z.key)
theorem Et{l:List bA}{k:Nat}(hk:k<l.length):l.take (k+1)=l.take k++[l.getD k ⟨.empty,0⟩]:=by
 rw[V9 hk,cK,fV hk];rfl
theorem aNu{l:List bA}{key:ByteArray}{k:Nat}(hk:k<l.length)(h:(!((l.getD k ⟨.empty,0⟩).key.toList==key.toList))=true):(l.take k).filter (λq=>!bO q.key key)++[l.getD k ⟨.empty,0⟩]=(l.take (k+1)).filter λq=>!bO q.key key:=by
 rw[Et hk,List.filter_append]
 congr 1
 rw[Zj,if_pos (show (!bO _ key)=true from h),List.filter_nil]
theorem aOh{l:List bA}{key:ByteArray}{k:Nat}(hk:k<l.length)(h:(!((l.getD k ⟨.empty,0⟩).key.toList==key.toList))=false):(l.take k).filter (λq=>!bO q.key key)=(l.take (k+1)).filter λq=>!bO q.key key:=by
 rw[Et hk,List.filter_append,Zj,if_neg (by rw[show (!bO (l.getD k ⟨.empty,0⟩).key key)=false from h];decide),List.filter_nil,OE]
theorem sI(l:List bA)(key:ByteArray):(dA l key).length<=l.length:=List.length_filter_le _ _
theorem U4{l:List bA}{key:ByteArray}{k:Nat}(h:∀j,j<k->dW (kA l j).key key=true)(hk:Op.bytesLess (l.getD k ⟨.empty,0⟩).key.toList key.toList=true):∀j,j<k+1->dW (kA l j).key key=true:=λj hj=>by
 by_cases e:j=k
 ·subst e;exact hk
 ·exact h j (by omega)
theorem zM:∀(l:List bA) (key:ByteArray) (k:Nat),k<=l.length->(∀j,j<k->dW (kA l j).key key=true)->(k<l.length->dW (kA l k).key key=false)->bB l key=k
 |[],key,k,hk,_,_=>by simp at hk;subst hk;rfl
 |q::l,key,0,_,_,h2=>by
  have:=h2 (by simp)
  unfold bB;rw[if_neg (by rw[show dW q.key key=false from this];decide)]
 |q::l,key,k+1,hk,h1,h2=>by
  have:=h1 0 (by omega)
  unfold bB
  rw[if_pos (by rw[show dW q.key key=true from this]),zM l key k (by simpa using hk) (λj hj=>h1 (j+1) (by omega)) (λhlt=>h2 (by simpa using hlt))]
theorem IA{l:List bA}{z:bA}{k:Nat}(hk:k<=l.length)(h1:∀j,j<k->dW (kA l j).key z.key=true)(h2:k<l.length->Op.bytesLess (l.getD k ⟨.empty,0⟩).key.toList z.key.toList=false):mK l z=l.take k++z::l.drop k:=by
 unfold mK;rw[zM l z.key k hk h1 h2]
end Go.Ct
namespace Go.Ct
theorem filter_all{l:List bA}{key:ByteArray}(h:∀q∈l,bO q.key key=false):dA l key=l:=by
 unfold dA;rw[List.filter_eq_self];intro q hq;rw[h q hq];rfl
theorem WI{q:bA}{l:List bA}{key:ByteArray}(h:dW q.key key=true):lG (q::l) key=lG l key:=by
 unfold lG
 have e:bB (q::l) key=bB l key+1:=by rw[bB,if_pos h]
 rw[e]
 simp[kA]
theorem uS(key:ByteArray):∀l:List bA,aU l=true->dA l key=jR l key
 |[],_=>by simp[dA,jR,lG,bB,aU]
 |q::l,hv=>by
  have ih:=uS key l (Gb hv)
  have hd:=Nl hv
  unfold jR at ih ⊢
  rw[if_neg (by rw[Gb hv];decide)]at ih
  rw[if_neg (by rw[hv];decide)]
  by_cases hlt:dW q.key key=true
  ·rw[WI hlt,bB,if_pos hlt]
   have e:dA (q::l) key=q::dA l key:=by
    unfold dA;rw[Zj,if_pos (by rw[w4 hlt];rfl)]
   rw[e,ih]
   split<;>simp
  ·have aKn:dW q.key key=false:=by simpa using hlt
   have e0:bB (q::l) key=0:=by rw[bB,if_neg hlt]
   have hr:∀r∈l,bO r.key key=false:=λr hr=>by
    have h1:=hd r hr
    cases hb:bO r.key key with
    |false=>rfl
    |true=>rw[mJ hb]at h1;rw[h1]at aKn;cases aKn
   rw[e0]
   have e2:lG (q::l) key=bO q.key key:=by unfold lG;rw[e0];simp[kA]
   rw[e2]
   cases he:bO q.key key with
   |true=>
    rw[if_pos rfl]
    show dA (q::l) key=_
    have:dA (q::l) key=dA l key:=by unfold dA;rw[Zj,if_neg (by rw[he];decide)]
    rw[this,filter_all hr];simp
   |false=>
    rw[if_neg (by decide)]
    exact filter_all λr N1=>by
     rcases List.mem_cons.1 N1 with rfl|h
     ·exact he
     ·exact hr r h
theorem IW{l:List bA}{key:ByteArray}(hv:aU l=true):bB (jR l key) key=bB l key:=by
 unfold jR
 rw[if_neg (by rw[hv];decide)]
 by_cases hp:lG l key=true
 ·rw[if_pos hp]
  have hp':=hp
  unfold lG at hp'
  simp only[pM,Gx]at hp'
  obtain⟨h1,h2⟩:=hp'
  refine zM _ key _ (by simp;omega) (λj hj=>?_) (λhlt=>?_)
  ·have:kA (l.take (bB l key)++l.drop (bB l key+1)) j=kA l j:=by
    unfold kA;rw[cK,cK,vS (by simp;omega),DN,if_pos hj]
   rw[this];exact Ax l key j hj
  ·simp only[cV,lI,Bp]at hlt
   have:kA (l.take (bB l key)++l.drop (bB l key+1)) (bB l key)=kA l (bB l key+1):=by
    unfold kA;rw[cK,cK,tN (by rw[lI];omega),WA,lI]
    rw[show bB l key+1+(bB l key-min (bB l key) l.length)=bB l key+1 by omega]
   rw[this]
   have h3:=Ka l hv (bB l key) (bB l key+1) (by omega) (by omega)
   rw[mJ h2]at h3
   cases hb:dW (kA l (bB l key+1)).key key with
   |false=>rfl
   |true=>have:=mO h3 hb;rw[oZ]at this;cases this
 ·rw[if_neg hp]
theorem aA9{l:List bA}(key:ByteArray)(v:Nat)(hv:aU l=true):oQ l key v=mK (dA l key) ⟨key,v⟩:=by
 rw[uS key l hv]
 unfold mK
 dsimp only
 rw[IW hv]
 unfold oQ jR
 simp only[hv,Bool.true_eq_false,↓reduceIte]
 by_cases hp:lG l key=true
 ·rw[if_pos hp,if_pos hp]
  have hp':=hp
  unfold lG at hp'
  simp only[pM,Gx]at hp'
  obtain⟨h1,h2⟩:=hp'
  have e1:(l.take (bB l key)++l.drop (bB l key+1)).take (bB l key)=l.take (bB l key):=by
   rw[List.take_append_of_le_length (by simp;omega),xW (by rw[lI];omega)]
  have e2:(l.take (bB l key)++l.drop (bB l key+1)).drop (bB l key)=l.drop (bB l key+1):=by
   rw[List.drop_append_of_le_length (by simp;omega),List.drop_of_length_le (by rw[lI];omega)];rfl
  rw[e1,e2,mJ h2]
 ·rw[if_neg hp,if_neg hp]
theorem V6(a b:bA)(h:bO a.key b.key=false):mK (dA (mK (dA [] a.key) a) b.key) b=gE a b:=by
 have e1:mK (dA [] a.key) a=[a]:=by simp[dA,mK,bB]
 have e2:dA [a] b.key=[a]:=by unfold dA;rw[Zj,if_pos (by rw[h];rfl)];rfl
 rw[e1,e2]
 unfold mK gE
 cases hb:dW a.key b.key with
 |true=>
  have:dW b.key a.key=false:=by
   cases hc:dW b.key a.key with
   |false=>rfl
   |true=>have:=mO hb hc;rw[oZ]at this;cases this
  simp[bB,hb,this]
 |false=>rw[if_pos (yQ hb h)];simp[bB,hb]
end Go.Ct
namespace Go.Ct
theorem Jm(l:List bA)(z:bA):(mK l z).length<=l.length+1:=by unfold mK;simp;omega
end Go.Ct
namespace Go.Ct
def Dv(l:List bA):List bA:=l.foldl (λout q=>mK (dA out q.key) q) []
theorem aJq{l:List bA}{k:Nat}(hk:k<l.length):mK (dA (Dv (l.take k)) (l.getD k ⟨.empty,0⟩).key) (l.getD k ⟨.empty,0⟩)=Dv (l.take (k+1)):=by
 unfold Dv;rw[Et hk,List.foldl_append];rfl
theorem CH(l:List bA):∀k,(Dv (l.take k)).length<=k
 |0=>by simp[Dv]
 |k+1=>by
  by_cases hk:k<l.length
  ·rw[<- aJq hk]
   have:=Jm (dA (Dv (l.take k)) (l.getD k ⟨.empty,0⟩).key) (l.getD k ⟨.empty,0⟩)
   have:=sI (Dv (l.take k)) (l.getD k ⟨.empty,0⟩).key
   have:=CH l k
   omega
  ·rw[xW (by omega)]
   have:=CH l k
   rw[xW (by omega)]at this
   omega
theorem B4{a b:bA}(h:bO a.key b.key=false):Dv [a,b]=gE a b:=V6 a b h
end Go.Ct
end
