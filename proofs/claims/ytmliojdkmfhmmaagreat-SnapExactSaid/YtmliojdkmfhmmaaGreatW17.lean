/- Parts of a proof: Ro, BmFns, BmOps, Ph, Rh, BmRef, Rt. -/
import Derived.Test.YtmliojdkmfhmmaaGreatW09
import Derived.Test.YtmliojdkmfhmmaaGreatW15
import Derived.Test.YtmliojdkmfhmmaaGreatW16
import Derived.Test.YtmliojdkmfhmmaaGreatProg
import Derived.Test.YtmliojdkmfhmmaaGreatW07
import Derived.WalkKit
import Derived.IntWalk
import Derived.WalkSpells
import Derived.WalkLawsBesides
import Derived.Laws.Bits64b
import Derived.Lib.TrailingZeros
import Derived.Lib.Hide
import Derived.Deep.QuietTactic
import Derived.BigQuiet
import Derived.Test.YtmliojdkmfhmmaaGreatW11
set_option linter.unusedVariables false
set_option linter.unusedSimpArgs false
set_option maxRecDepth 100000
set_option maxHeartbeats 4000000
section
namespace Go.Ct
theorem Ok.big' {j : Nat} {x : X} (h : Ok j x) : x.s.size≤100000000000:=by have:=h.big; unfold X.size roomMax at this; omega
end Go.Ct
namespace Go.Proofs.YtmliojdkmfhmmaaGreat
attribute [local irreducible] Go.E.wpL Go.E.wpS Go.E.X Go.E.XS Go.E.C Go.E.thn Go.E.blk Go.E.fin Go.E.Y Go.E.U Go.E.F Go.E.Ca Go.E.Res Go.E.bl Go.E.rb Go.E.osl Go.E.rsl Go.E.ex Go.E.ce Go.E.pu Go.E.sK Go.E.gK Go.E.bK Go.E.zK
open Go.RowKit Go.E
variable {B w : World} {L : List As}
theorem load_x (xb mb : Nat) (x : Ct.X) (c : Int) (h : SH B w (XA xb mb x::L)) (k : Ct.Ok 0 x) :
  Calls Tryz.prog 211 #[.pointer (some ⟨xb,0,none⟩),.int .i64 c] w fun e w'=>∃ y v,Ct.loadR c x=Ct.out y v∧e=.returned (.int .i64 v)∧SH B w' (XA xb mb y::L)∧Ct.Ok 90 y:=by
 have key : ∀ {e : Ending} {w' : World},(∃ y v,Ct.loadR c x=Ct.out y v∧e=.returned (.int .i64 v)∧SH B w' (XA xb mb y::L))→∃ y v,Ct.loadR c x=Ct.out y v∧e=.returned (.int .i64 v)∧SH B w' (XA xb mb y::L)∧Ct.Ok 90 y :=
  fun ⟨y,v,q,e,h⟩=>⟨y,v,q,e,h,(Ct.ok_load k q).1.less (by omega)⟩
 cases hs : x.e.stopped with
 | true=>exact (loadR_s_any xb mb x c h k hs).mono fun _ _=>key
 | false =>
  by_cases ha : x.e.a<x.e.got.length
  ·exact (loadR_o_any xb mb x c h k hs ha).mono fun _ _=>key
  ·by_cases hf : x.e.free=0
   ·exact (loadR_f_any xb mb x c h k hs ha hf).mono fun _ _=>key
   ·exact (loadR_n_any xb mb x c h k hs ha hf).mono fun _ _=>key
theorem cas_x (xb mb : Nat) (x : Ct.X) (c o n : Int) (h : SH B w (XA xb mb x::L)) (k : Ct.Ok 0 x) :
  Calls Tryz.prog 213 #[.pointer (some ⟨xb,0,none⟩),.int .i64 c,.int .i64 o,.int .i64 n] w fun e w'=>∃ y v,Ct.casR c o n x=Ct.out y v∧e=.returned (.bool v)∧SH B w' (XA xb mb y::L)∧Ct.Ok 90 y:=by
 have key : ∀ {e : Ending} {w' : World},(∃ y v,Ct.casR c o n x=Ct.out y v∧e=.returned (.bool v)∧SH B w' (XA xb mb y::L))→∃ y v,Ct.casR c o n x=Ct.out y v∧e=.returned (.bool v)∧SH B w' (XA xb mb y::L)∧Ct.Ok 90 y :=
  fun ⟨y,v,q,e,h⟩=>⟨y,v,q,e,h,(Ct.ok_cas k q).1.less (by omega)⟩
 cases hs : x.e.stopped with
 | true=>exact (casR_s_any xb mb x c o n h k hs).mono fun _ _=>key
 | false =>
  by_cases ha : x.e.a<x.e.got.length
  ·exact (casR_o_any xb mb x c o n h k hs ha).mono fun _ _=>key
  ·by_cases hf : x.e.free=0
   ·exact (casR_f_any xb mb x c o n h k hs ha hf).mono fun _ _=>key
   ·exact (casR_n_any xb mb x c o n h k hs ha hf).mono fun _ _=>key
theorem alloc_x {j : Nat} (xb mb : Nat) (x : Ct.X) (n : Ct.Node) (p : Lq) (i : Int) (h : SH B w (nodeR n p::XA xb mb x::L)) (k : Ct.Ok (j+1) x) (hn : n.Fit (x.s.added.length+1)) :
  Calls Tryz.prog 216 #[.pointer (some ⟨xb,0,none⟩),.agg (nodeC n p).toArray,.int .i64 i] w fun e w'=>∃ y v,Ct.allocR n i x=Ct.out y v∧e=.returned (.int .i64 v)∧SH B w' (XA xb mb y::L)∧Ct.Ok j y∧x.s.added.length≤y.s.added.length:=by
 have key : ∀ {e : Ending} {w' : World},(∃ y v,Ct.allocR n i x=Ct.out y v∧e=.returned (.int .i64 v)∧SH B w' (XA xb mb y::L))→∃ y v,Ct.allocR n i x=Ct.out y v∧e=.returned (.int .i64 v)∧SH B w' (XA xb mb y::L)∧Ct.Ok j y∧x.s.added.length≤y.s.added.length :=
  fun ⟨y,v,q,e,h⟩=>⟨y,v,q,e,h,(Ct.ok_alloc k hn q).1,(Ct.ok_alloc k hn q).2.1⟩
 have k0:=k.less (Nat.zero_le _)
 cases hs : x.e.stopped with
 | true=>exact (allocR_s_any xb mb x n p i h k0 hs hn).mono fun _ _=>key
 | false =>
  by_cases hm : x.e.m=x.e.made.length
  ·exact (allocR_n_any xb mb x n p i h k0 hs hm hn).mono fun _ _=>key
  ·exact (allocR_o_any xb mb x n p i h k0 hs (by have:=k.m; omega) hn).mono fun _ _=>key
theorem cell_x {j : Nat} (xb mb : Nat) (x : Ct.X) (i : Int) (h : SH B w (XA xb mb x::L)) (k : Ct.Ok (j+1) x) :
  Calls Tryz.prog 228 #[.pointer (some ⟨xb,0,none⟩),.int .i64 i] w fun e w'=>∃ y v,Ct.cellR i x=Ct.out y v∧e=.returned (.int .i64 v)∧SH B w' (XA xb mb y::L)∧Ct.Ok j y:=by
 have key : ∀ {e : Ending} {w' : World},(∃ y v,Ct.cellR i x=Ct.out y v∧e=.returned (.int .i64 v)∧SH B w' (XA xb mb y::L))→∃ y v,Ct.cellR i x=Ct.out y v∧e=.returned (.int .i64 v)∧SH B w' (XA xb mb y::L)∧Ct.Ok j y :=
  fun ⟨y,v,q,e,h⟩=>⟨y,v,q,e,h,(Ct.ok_cell k q).1⟩
 have k0:=k.less (Nat.zero_le _)
 cases hs : x.e.stopped with
 | true=>exact (cellR_s_any xb mb x i h k0 hs).mono fun _ _=>key
 | false =>
  by_cases hm : x.e.c=x.e.cells.length
  ·exact (cellR_n_any xb mb x i h k0 hs hm).mono fun _ _=>key
  ·exact (cellR_o_any xb mb x i h k0 hs (by have:=k.c; omega)).mono fun _ _=>key
theorem gen_x {j : Nat} (xb mb : Nat) (x : Ct.X) (h : SH B w (XA xb mb x::L)) (k : Ct.Ok (j+1) x) :
  Calls Tryz.prog 230 #[.pointer (some ⟨xb,0,none⟩)] w fun e w'=>∃ y v,Ct.genR x=Ct.out y v∧e=.returned (.int .i64 v)∧SH B w' (XA xb mb y::L)∧Ct.Ok j y:=by
 have key : ∀ {e : Ending} {w' : World},(∃ y v,Ct.genR x=Ct.out y v∧e=.returned (.int .i64 v)∧SH B w' (XA xb mb y::L))→∃ y v,Ct.genR x=Ct.out y v∧e=.returned (.int .i64 v)∧SH B w' (XA xb mb y::L)∧Ct.Ok j y :=
  fun ⟨y,v,q,e,h⟩=>⟨y,v,q,e,h,(Ct.ok_gen k q).1⟩
 have k0:=k.less (Nat.zero_le _)
 cases hs : x.e.stopped with
 | true=>exact (genR_s_any xb mb x h k0 hs).mono fun _ _=>key
 | false =>
  by_cases hm : x.e.g=x.e.gens.length
  ·exact (genR_n_any xb mb x h k0 hs hm).mono fun _ _=>key
  ·exact (genR_o_any xb mb x h k0 hs (by have:=k.g; omega)).mono fun _ _=>key
theorem main_y (n : Ct.Node) (q : Lq) (h : SH B w (L)) :
  Calls Tryz.prog 233 #[.agg (nodeC n q).toArray] w fun e w'=>e=.returned (.bool n.isMain)∧SH B w' L:=by
 refine bn0 Tryz.func233 Tryz.ntmps233 h fun w h=>?_
 refine jX h fun b1 w h=>?_
 refine qg h (fun hd2 w h=>?_) fun hd2 w h=>?_
 have hg3:=eq_of_beq hd2
 refine go h fun w h=>?_
 refine rz ?_
 exact ⟨by unfold Ct.Node.isMain; simp [hd2],h.drop⟩
 have hg4:=ne_of_beq_false hd2
 refine go h fun w h=>?_
 refine qg h (fun hd5 w h=>?_) fun hd5 w h=>?_
 have hg6:=eq_of_beq hd5
 refine go h fun w h=>?_
 refine rz ?_
 exact ⟨by unfold Ct.Node.isMain; simp [hd2,hd5],h.drop⟩
 have hg7:=ne_of_beq_false hd5
 refine go h fun w h=>?_
 refine rz ?_
 exact ⟨by unfold Ct.Node.isMain; simp [hd2,hd5],h.drop⟩
theorem winner_any (xb mb : Nat) (x : Ct.X) (v s : Int) (h : SH B w (XA xb mb x::L)) {j : Nat} (k : Ct.Ok j x) :
  Calls Tryz.prog 215 #[.pointer (some ⟨xb,0,none⟩),.int .i64 v,.int .i64 s] w fun e w'=>∃ u,Ct.runI (Ct.winnerI v s) x=Ct.out x u∧e=.returned (.int .i64 u)∧SH B w' (XA xb mb x::L):=by
 refine bn0 Tryz.func215 Tryz.ntmps215 h fun w h=>?_
 refine qc h (fun hd1 w h=>?_) fun hd1 w h=>?_
 have hg2:=eq_of_beq hd1
 refine go h fun w h=>?_
 refine j100 (xnode_any _ _ _ _ h.to k.big') fun p3 w h=>?_
 have h:=h.drop
 refine go h fun w h=>?_
 exact rz ⟨_,Ct.rT hd1<|Ct.rN<|Ct.rR,rfl,h⟩
 have hg4:=ne_of_beq_false hd1
 refine go h fun w h=>?_
 refine j100 (xnode_any _ _ _ _ h.to k.big') fun p5 w h=>?_
 have h:=h.drop
 refine go h fun w h=>?_
 exact rz ⟨_,Ct.rF hd1<|Ct.rN<|Ct.rR,rfl,h⟩
theorem root_any (xb mb : Nat) (x : Ct.X) (t : Ct.Trie) (h : SH B w (XA xb mb x::L)) (k : Ct.Ok 30 x) :
  Calls Tryz.prog 253 #[.pointer (some ⟨xb,0,none⟩),.agg (trieC t).toArray] w fun e w'=>∃ y v,Ct.runI (Ct.rootI t) x=Ct.out y v∧e=.returned (.int .i64 v)∧SH B w' (XA xb mb y::L)∧Ct.Ok 60 y:=by
 refine bn0 Tryz.func253 Tryz.ntmps253 h fun w h=>?_
 refine jX h fun b1 w h=>?_
 refine j211 (load_x _ _ _ _ h.to (k.less (by omega))) fun y2 v3 q4 w h k=>?_
 refine st (ld (v:=.bool y2.e.stopped) One.h rfl (h.xc a0 fun _=>rfl))<|go h fun w h=>?_
 refine qg h (fun hd5 w h=>?_) fun hd5 w h=>?_
 exact rz ⟨_,_,Ct.rL q4<|Ct.rS hd5,rfl,h.to,(k.stop hd5)⟩
 refine j100 (xnode_any _ _ _ _ h.to k.big') fun p6 w h=>?_
 have h:=h.drop
 refine go h fun w h=>?_
 refine qc h (fun hd7 w h=>?_) fun hd7 w h=>?_
 have hg8:=eq_of_beq hd7
 refine go h fun w h=>?_
 exact rz ⟨_,_,Ct.rL q4<|Ct.rN<|Ct.rT hd7<|Ct.rR,rfl,h.to,(k.less (by omega))⟩
 have hg9:=ne_of_beq_false hd7
 refine go h fun w h=>?_
 refine j100 (xnode_any _ _ _ _ h.to k.big') fun p10 w h=>?_
 have h:=h.drop
 refine go h fun w h=>?_
 refine j211 (load_x _ _ _ _ h.to (k.less (by omega))) fun y11 v12 q13 w h k=>?_
 refine qc h (fun hd14 w h=>?_) fun hd14 w h=>?_
 have hg15:=eq_of_beq hd14
 refine go h fun w h=>?_
 refine j100 (xnode_any _ _ _ _ h.to k.big') fun p16 w h=>?_
 have h:=h.drop
 refine go h fun w h=>?_
 refine j211 (cas_x _ _ _ _ _ _ h.to (k.less (by omega))) fun y17 v18 q19 w h k=>?_
 refine j100 (xnode_any _ _ _ _ h.to k.big') fun p20 w h=>?_
 have h:=h.drop
 refine go h fun w h=>?_
 refine j211 (load_x _ _ _ _ h.to (k.less (by omega))) fun y21 v22 q23 w h k=>?_
 refine j110 (winner_any _ _ _ _ _ h.to k) fun v24 q25 w h=>?_
 refine j211 (cas_x _ _ _ _ _ _ h.to (k.less (by omega))) fun y26 v27 q28 w h k=>?_
 exact rz ⟨_,_,Ct.rL q4<|Ct.rN<|Ct.rF hd7<|Ct.rN<|Ct.rL q13<|Ct.rT hd14<|Ct.rN<|Ct.rC q19<|Ct.rN<|Ct.rL q23<|Ct.rB q25<|Ct.rC q28<|Ct.rR,rfl,h.to,(k.less (by omega))⟩
 have hg29:=ne_of_beq_false hd14
 refine go h fun w h=>?_
 refine j110 (winner_any _ _ _ _ _ h.to k) fun v30 q31 w h=>?_
 refine j211 (cas_x _ _ _ _ _ _ h.to (k.less (by omega))) fun y32 v33 q34 w h k=>?_
 exact rz ⟨_,_,Ct.rL q4<|Ct.rN<|Ct.rF hd7<|Ct.rN<|Ct.rL q13<|Ct.rF hd14<|Ct.rB q31<|Ct.rC q34<|Ct.rR,rfl,h.to,(k.less (by omega))⟩
end Go.Proofs.YtmliojdkmfhmmaaGreat
end
section
namespace Go.Proofs.YtmliojdkmfhmmaaGreat
open Go.RowKit
theorem and_u64 (a b : Nat) (ha : a<18446744073709551616) (hb : b<18446744073709551616) : bits .and .u64 (a : Int) (b : Int)=((a &&& b : Nat) : Int):=bits_and_u64_nat a b ha hb
theorem wrap_nat (a : Nat) (h : a<18446744073709551616) : IntKind.u64.wrap (a : Int)=(a : Int):=by rw [IntKind.wrap_u64]; omega
theorem wrap_add (a b : Nat) (h : a+b<18446744073709551616) : IntKind.u64.wrap ((a : Int)+(b : Int))=((a+b : Nat) : Int):=by rw [IntKind.wrap_u64]; omega
theorem and_i64_127 (y : Nat) (_h : y<18446744073709551616) : bits .and .i64 (wrap64 (y : Int)) 127=((y % 128 : Nat) : Int):=by
 have h1 : (BitVec.ofInt 64 (wrap64 (y : Int)))=BitVec.ofNat 64 y:=by
  apply BitVec.eq_of_toNat_eq
  rw [BitVec.toNat_ofInt,BitVec.toNat_ofNat]
  unfold wrap64
  omega
 show IntKind.i64.wrap ((BitVec.ofInt 64 (wrap64 (y : Int)) &&& BitVec.ofInt 64 127).toNat : Int)=_
 rw [h1]
 have h2 : (BitVec.ofNat 64 y &&& BitVec.ofInt 64 127).toNat=y % 128:=by
  rw [BitVec.toNat_and]
  have e : (BitVec.ofInt 64 127).toNat=2 ^ 7 - 1:=by decide
  rw [e,Nat.and_two_pow_sub_one_eq_mod,BitVec.toNat_ofNat]
  omega
 rw [h2]
 exact IntWalk.i64_in _ (by omega)
theorem onesCount_core (x s1 s2 s4 y1 y2 y3 p : Nat) (w : World)
  (e1 : IntKind.u64.wrap (bits .and .u64 ((x : Int) / 2) 6148914691236517205+bits .and .u64 (x : Int) 6148914691236517205)=(s1 : Int))
  (e2 : IntKind.u64.wrap (bits .and .u64 ((s1 : Int) / 4) 3689348814741910323+bits .and .u64 (s1 : Int) 3689348814741910323)=(s2 : Int))
  (e4 : bits .and .u64 (IntKind.u64.wrap ((s2 : Int) / 16+(s2 : Int))) 1085102592571150095=(s4 : Int))
  (f1 : IntKind.u64.wrap ((s4 : Int)+(s4 : Int) / 256)=(y1 : Int))
  (f2 : IntKind.u64.wrap ((y1 : Int)+(y1 : Int) / 65536)=(y2 : Int))
  (f3 : IntKind.u64.wrap ((y2 : Int)+(y2 : Int) / 4294967296)=(y3 : Int))
  (f4 : bits .and .i64 (wrap64 (y3 : Int)) 127=(p : Int)) :
  Calls Tryz.prog 252 #[.int .u64 (x : Int)] w fun e w'=>e=.returned (.int .i64 (p : Int))∧w=w':=by
 go_enter Tryz.func252,Tryz.ntmps252
 go_wp2
 go_ret
 exact ⟨rfl,rfl⟩
theorem onesCount (x : Nat) (hx : x<18446744073709551616) (w : World) :
  Calls Tryz.prog 252 #[.int .u64 (x : Int)] w fun e w'=>e=.returned (.int .i64 (Bm.pop 64 x : Nat))∧w=w':=by
 obtain ⟨y1,y2,y3,h1,h2,h3,l1,l2,l3,hp⟩:=Bm.fold8 x
 obtain ⟨m1,m2,m4⟩:=Bm.masks
 have b1:=Bm.sum1_lt 32 x
 have b2:=Bm.sum2_lt 16 x
 have k1:=Bm.step1 32 x
 have k2:=Bm.step2 16 x
 have k4:=Bm.step4 8 x
 simp only [Nat.reduceMul,Nat.reducePow] at b1 b2 k2 k4
 rw [m1] at k1
 rw [m2] at k2
 rw [m4] at k4
 have c1 : ((6148914691236517205 : Nat) : Int)=6148914691236517205:=rfl
 have c2 : ((3689348814741910323 : Nat) : Int)=3689348814741910323:=rfl
 have c4 : ((1085102592571150095 : Nat) : Int)=1085102592571150095:=rfl
 refine onesCount_core x (Bm.sum1 32 x) (Bm.sum2 16 x) (Bm.sum4 8 x) y1 y2 y3 (Bm.pop 64 x) w ?_ ?_ ?_ ?_ ?_ ?_ ?_
 ·rw [show (x : Int) / 2=((x / 2 : Nat) : Int) by omega,← c1,and_u64 _ _ (by omega) (by decide),and_u64 _ _ (by omega) (by decide),wrap_add,k1]
  rw [k1]; omega
 ·rw [show ((Bm.sum1 32 x : Nat) : Int) / 4=((Bm.sum1 32 x / 4 : Nat) : Int) by omega,← c2,and_u64 _ _ (by omega) (by decide),and_u64 _ _ (by omega) (by decide),wrap_add,k2]
  rw [k2]; omega
 ·rw [show ((Bm.sum2 16 x : Nat) : Int) / 16=((Bm.sum2 16 x / 16 : Nat) : Int) by omega,← c4,wrap_add _ _ (by omega),and_u64 _ _ (by omega) (by decide),k4]
 ·rw [show ((Bm.sum4 8 x : Nat) : Int) / 256=((Bm.sum4 8 x / 256 : Nat) : Int) by omega,wrap_add _ _ (by omega),h1]
 ·rw [show (y1 : Int) / 65536=((y1 / 65536 : Nat) : Int) by omega,wrap_add _ _ (by omega),h2]
 ·rw [show (y2 : Int) / 4294967296=((y2 / 4294967296 : Nat) : Int) by omega,wrap_add _ _ (by omega),h3]
 ·rw [and_i64_127 y3 l3,hp]
theorem count_any (x : Nat) (hx : x<18446744073709551616) (w : World) :
  Calls Tryz.prog 206 #[.int .u64 (x : Int)] w fun e w'=>e=.returned (.int .i64 (Bm.pop 64 x : Nat))∧w=w':=by
 go_enter Tryz.func206,Tryz.ntmps206
 go_wp2_with (go_at_call 252; refine (onesCount x hx _).mono ?_; rintro e w' ⟨rfl,rfl⟩)
 go_ret
 exact ⟨rfl,rfl⟩
end Go.Proofs.YtmliojdkmfhmmaaGreat
end
section
namespace Go.Proofs.YtmliojdkmfhmmaaGreat
open Go.RowKit
theorem two_pow_lt (i : Nat) (h : i<64) : 2 ^ i<18446744073709551616:=by
 have : 2 ^ i<2 ^ 64:=Nat.pow_lt_pow_right (by decide) h
 simpa using this
theorem wrap_pow (i : Nat) (h : i<64) : IntKind.u64.wrap (2 ^ i)=((2 ^ i : Nat) : Int):=by
 have:=two_pow_lt i h
 rw [show (2 : Int) ^ i=((2 ^ i : Nat) : Int) by simp,wrap_nat _ this]
theorem and_one (b i : Nat) (hb : b<18446744073709551616) : bits .and .u64 ((b : Int) / 2 ^ i) 1=(((b.testBit i).toNat : Nat) : Int):=by
 have e : (b : Int) / 2 ^ i=((b / 2 ^ i : Nat) : Int):=by simp
 have hl : b / 2 ^ i<18446744073709551616:=Nat.lt_of_le_of_lt (Nat.div_le_self _ _) hb
 rw [e,show (1 : Int)=((1 : Nat) : Int) from rfl,and_u64 _ _ hl (by decide),Nat.and_one_is_mod,Bm.bit_toNat]
end Go.Proofs.YtmliojdkmfhmmaaGreat
end
section
namespace Go.Proofs.YtmliojdkmfhmmaaGreat
open Go.RowKit
theorem commonOf_from (h k : Nat) : ∀ j,j≤11→(∀ i : Nat,i<j→Ct.slice h i=Ct.slice k i)→Ct.commonOf h k=Ct.common h k (11 - j) j
 | 0,_,_=>rfl
 | j+1,hj,ha=>by
  rw [commonOf_from h k j (by omega) (fun i hi=>ha i (by omega)),show 11 - j=(11 - (j+1))+1 by omega,Ct.common,if_pos (ha j (by omega))]
theorem fnv_snoc (l : List UInt8) (b : UInt8) : Ct.fnv (l ++ [b])=Ct.fnvStep (Ct.fnv l) b:=by
 unfold Ct.fnv; rw [List.foldl_append,List.foldl_cons,List.foldl_nil]
theorem fnvStep_lt (h : Nat) (b : UInt8) : Ct.fnvStep h b<18446744073709551616:=by
 unfold Ct.fnvStep; exact Nat.mod_lt _ (by omega)
theorem fnv_lt (l : List UInt8) : Ct.fnv l<18446744073709551616:=by
 rcases List.eq_nil_or_concat l with rfl | ⟨l,b,rfl⟩
 ·unfold Ct.fnv; rw [List.foldl_nil]; omega
 ·rw [List.concat_eq_append,fnv_snoc]; exact fnvStep_lt _ _
theorem fnv_step (h : Nat) (b : UInt8) (hh : h<18446744073709551616) : IntKind.u64.wrap (bits .xor .u64 (h : Int) (IntKind.u64.wrap (b.toNat : Int)) * 1099511628211)=(Ct.fnvStep h b : Nat):=by
 unfold Ct.fnvStep
 have hb : b.toNat<18446744073709551616:=Nat.lt_trans b.toNat_lt (by decide)
 rw [wrap_nat _ hb,bits_xor_u64_nat _ _ hh hb,IntKind.wrap_u64]
 omega
theorem hash_take (s : ByteArray) (k : Nat) (h : k<s.size) : s.data.toList.take (k+1)=s.data.toList.take k ++ [s[k]]:=by
 rw [List.take_succ_eq_append_getElem (by simpa using h)]; rfl
end Go.Proofs.YtmliojdkmfhmmaaGreat
end
section
namespace Go.Proofs.YtmliojdkmfhmmaaGreat
open Go.RowKit
theorem rkeyValid_any (s : ByteArray) (w : World) (hs : s.size≤9223372036854775807) :
  Calls Tryz.prog 209 #[.string s] w fun e w'=>e=.returned (.bool (Ct.keyValid s))∧w=w':=by
 go_enter Tryz.func209,Tryz.ntmps209
 go_wp2_with fail
 go_ret
 exact ⟨by rw [show Ct.keyValid s=decide ((s.size : Int)≤64) by unfold Ct.keyValid; exact decide_eq_decide.2 (by omega)]; rfl,rfl⟩
theorem sl_step (h n k : Nat) (hk : 0<k) (hn : k≤n) : h / 64 ^ (n - k) / 64=h / 64 ^ (n - (k - 1)):=by
 rw [Nat.div_div_eq_div_mul,← Nat.pow_succ]; congr 2; omega
theorem rslice_any (h : Nat) (level : Int) (w : World) (hh : h<18446744073709551616) :
  Calls Tryz.prog 181 #[.int .u64 (h : Int),.int .i64 level] w fun e w'=>e=.returned (.int .i64 (Ct.slice h level))∧w=w':=by
 by_cases h0 : level<0
 ·have Hv:=Lib.hid (show Ct.slice h level=0 by unfold Ct.slice; rw [if_pos (.inl h0)])
  go_enter Tryz.func181,Tryz.ntmps181
  go_wp2_with fail
  go_ret
  exact ⟨by rw [Hv.out]; rfl,rfl⟩
 ·by_cases h1 : 10<level
  ·have Hv:=Lib.hid (show Ct.slice h level=0 by unfold Ct.slice; rw [if_pos (.inr (by omega))])
   go_enter Tryz.func181,Tryz.ntmps181
   go_wp2_with fail
   go_ret
   exact ⟨by rw [Hv.out]; rfl,rfl⟩
  ·obtain ⟨n,rfl⟩:=Int.eq_ofNat_of_zero_le (by omega : 0≤level)
   have hn : n<11:=by omega
   have Hv:=Lib.hid (show Ct.slice h (n : Int)=((h / 64 ^ n % 64 : Nat) : Int) by unfold Ct.slice; rw [if_neg (by omega)]; simp)
   go_enter Tryz.func181,Tryz.ntmps181
   go_wp2_with fail
   go_loop [0,1] (fun z l=>∃ y k : Nat,k≤n∧l=.int .i64 (k : Int)∧z=.int .u64 ((y : Nat) : Int)∧y<18446744073709551616∧Hid (y=h / 64 ^ (n - k))) (fun _ l=>(intOf l).toNat)
   case atStart=>exact ⟨h,n,Nat.le_refl _,rfl,rfl,hh,Lib.hid (by simp)⟩
   case round =>
    obtain ⟨y,k,hk,rfl,rfl,hz,H⟩:=hrel
    by_cases hk0 : 0<k
    ·go_wp2_with fail
     go_round
     case rel=>exact ⟨y / 64,k - 1,by omega,by rw [show ((k - 1 : Nat) : Int)=(k : Int) - 1 by omega],by rfl,by omega,Lib.hid (by rw [H.out]; exact sl_step h n k hk0 hk)⟩
     case measure=>simp [intOf]; omega
    ·obtain rfl : k=0:=by omega
     go_wp2_with fail
     go_ret
     exact ⟨by rw [Hv.out,← (show y=h / 64 ^ n by simpa using H.out)]; rfl,rfl⟩
theorem rhash_any (s : ByteArray) (m : Nat) (w : World) (hs : s.size≤9223372036854775807) (hm : m<18446744073709551616) :
  Calls Tryz.prog 117 #[.string s,.int .u64 (m : Int)] w fun e w'=>e=.returned (.int .u64 (Ct.hashOf s m : Nat))∧w=w':=by
 go_enter Tryz.func117,Tryz.ntmps117
 go_wp2_with fail
 go_loop [5,6] (fun h i=>∃ k : Nat,k≤s.size∧i=.int .i64 (k : Int)∧h=.int .u64 (Ct.fnv (s.data.toList.take k) : Nat)) (fun _ i=>s.size - (intOf i).toNat)
 case atStart=>exact ⟨0,by omega,rfl,rfl⟩
 case round =>
  obtain ⟨k,hk,rfl,rfl⟩:=hrel
  by_cases hlt : k<s.size
  ·have HS:=Lib.hid (fnv_step (Ct.fnv (s.data.toList.take k)) s[k] (fnv_lt _))
   have HT:=Lib.hid (show Ct.fnv (s.data.toList.take (k+1))=_ by rw [hash_take s k hlt,fnv_snoc])
   have hl:=fnv_lt (s.data.toList.take k)
   generalize Ct.fnv (s.data.toList.take k)=h at *
   go_wp2_with fail
   go_round
   case rel=>exact ⟨k+1,by omega,by go_num,by rw [HT.out,← HS.out]⟩
   case measure=>simp [intOf]; omega
  ·have HT:=Lib.hid (show Ct.hashOf s m=(Ct.fnv (s.data.toList.take k) &&& m) by unfold Ct.hashOf; rw [List.take_of_length_le (by simp; omega)])
   have HB:=Lib.hid (and_u64 _ m (fnv_lt (s.data.toList.take k)) hm)
   generalize Ct.fnv (s.data.toList.take k)=h at *
   go_wp2_with fail
   go_ret
   exact ⟨by rw [HT.out,← HB.out]; rfl,rfl⟩
theorem rcommon_any (h k : Nat) (w : World) (hh : h<18446744073709551616) (hk : k<18446744073709551616) :
  Calls Tryz.prog 311 #[.int .u64 (h : Int),.int .u64 (k : Int)] w fun e w'=>e=.returned (.int .i64 (Ct.commonOf h k : Nat))∧w=w':=by
 go_enter Tryz.func311,Tryz.ntmps311
 go_wp2_with fail
 go_loop [5] (fun i=>∃ j : Nat,j≤11∧i=.int .i64 (j : Int)∧∀ n : Nat,n<j→Ct.slice h n=Ct.slice k n) (fun i=>11 - (intOf i).toNat)
 case atStart=>exact ⟨0,by omega,rfl,fun n hn=>by omega⟩
 case round =>
  obtain ⟨j,hj,rfl,hrel⟩:=hrel
  have HA:=Lib.hid hrel
  clear hrel
  by_cases hlt : j<11
  ·by_cases he : Ct.slice h j=Ct.slice k j
   ·have HE:=Lib.hid he
    have q : (Ct.slice h j==Ct.slice k j)=true:=by simp [he]
    clear he
    go_wp2_with ((with_reducible refine (rslice_any _ _ _ (by assumption)).mono ?_); rintro e w' ⟨rfl,rfl⟩)
    go_round
    case rel=>exact ⟨j+1,by omega,by go_num,fun n hn=>by by_cases hnj : n=j; (subst hnj; exact HE.out); exact HA.out n (by omega)⟩
    case measure=>simp [intOf]; omega
   ·have HE:=Lib.hid (show Ct.commonOf h k=j by rw [commonOf_from h k j hj HA.out,show 11 - j=(10 - j)+1 by omega,Ct.common,if_neg he])
    have q : (Ct.slice h j==Ct.slice k j)=false:=by simp [he]
    clear he
    go_wp2_with ((with_reducible refine (rslice_any _ _ _ (by assumption)).mono ?_); rintro e w' ⟨rfl,rfl⟩)
    go_ret
    exact ⟨by rw [HE.out]; rfl,rfl⟩
  ·obtain rfl : j=11:=by omega
   have HE:=Lib.hid (show Ct.commonOf h k=11 from commonOf_from h k 11 hj HA.out)
   go_wp2_with fail
   go_ret
   exact ⟨by rw [HE.out]; rfl,rfl⟩
end Go.Proofs.YtmliojdkmfhmmaaGreat
end
section
namespace Go.Proofs.YtmliojdkmfhmmaaGreat
open Go.RowKit
theorem rhas_any (b : Nat) (i : Int) (w : World) (hb : b<18446744073709551616) :
  Calls Tryz.prog 232 #[.int .u64 (b : Int),.int .i64 i] w fun e w'=>e=.returned (.bool (Bm.has b i))∧w=w':=by
 by_cases h0 : 0≤i
 ·by_cases h1 : i<64
  ·obtain ⟨n,rfl⟩:=Int.eq_ofNat_of_zero_le h0
   have hk:=and_one b n hb
   have hv : Bm.has b (n : Int)=((((b.testBit n).toNat : Nat) : Int)==1):=by
    simp only [Bm.has,h0,h1,Int.toNat_natCast]
    cases b.testBit n <;> rfl
   have Hv:=Lib.hid hv
   have hd : decide ((n : Int)<64)=true:=by simpa using h1
   clear hv
   go_enter Tryz.func232,Tryz.ntmps232
   go_wp2_with fail
   go_ret
   exact ⟨by rw [Hv.out]; rfl,rfl⟩
  ·have hv : Bm.has b i=false:=by unfold Bm.has; simp [h1]
   have Hv:=Lib.hid hv
   have hd : decide (i<64)=false:=by simpa using h1
   clear hv
   go_enter Tryz.func232,Tryz.ntmps232
   go_wp2_with fail
   go_ret
   exact ⟨by rw [Hv.out]; rfl,rfl⟩
 ·have hv : Bm.has b i=false:=by unfold Bm.has; simp [h0]
  have Hv:=Lib.hid hv
  clear hv
  go_enter Tryz.func232,Tryz.ntmps232
  go_wp2_with fail
  go_ret
  exact ⟨by rw [Hv.out]; rfl,rfl⟩
theorem rhas_eq {b : Nat} {i : Int} {v : Bool} {w : World} (hb : b<18446744073709551616) (h : Hid (Bm.has b i=v)) :
  Calls Tryz.prog 232 #[.int .u64 (b : Int),.int .i64 i] w fun e w'=>e=.returned (.bool v)∧w=w':=by
 rw [← h.out]; exact rhas_any b i w hb
theorem cut_le (i : Int) : Bm.cut i≤64:=by unfold Bm.cut; split; omega; split <;> omega
theorem cut_lt {k : Nat} {i : Int} : k<Bm.cut i ↔ (k : Int)<64∧(k : Int)<i:=by
 unfold Bm.cut; split; omega; split <;> omega
theorem rposition_any (b : Nat) (i : Int) (w : World) (hb : b<18446744073709551616) :
  Calls Tryz.prog 240 #[.int .u64 (b : Int),.int .i64 i] w fun e w'=>e=.returned (.int .i64 (Bm.position b i : Nat))∧w=w':=by
 have hc:=cut_le i
 have hlt:=fun k=>@cut_lt k i
 have Hlt:=Lib.hid hlt
 have Hpos:=Lib.hid (show Bm.position b i=Bm.pop (Bm.cut i) b from rfl)
 clear hlt
 generalize Bm.cut i=c at *
 go_enter Tryz.func240,Tryz.ntmps240
 go_wp2_with fail
 go_loop [5,6] (fun n k=>∃ j : Nat,j≤c∧k=.int .i64 j∧n=.int .i64 (Bm.pop j b : Nat)) (fun _ k=>c - (intOf k).toNat)
 case atStart=>exact ⟨0,Nat.zero_le _,rfl,by rw [Bm.pop_none]; rfl⟩
 case round =>
  obtain ⟨j,hj,rfl,rfl⟩:=hrel
  have hpl:=Bm.pop_le j b
  have hps:=Bm.pop_testBit j b
  by_cases hjc : j<c
  ·have h12:=(Hlt.out j).1 hjc
   have h1:=h12.1
   have h2:=h12.2
   have hn:=Bm.has_nat b j (by omega)
   cases hbit : b.testBit j
   ·rw [hbit] at hps hn
    have Hps:=Lib.hid hps
    have Hn:=Lib.hid hn
    clear hps hn hbit h12
    go_wp2_with fail
    refine (rhas_eq hb Hn).mono ?_
    rintro e w' ⟨rfl,rfl⟩
    go_wp2_with fail
    go_round
    case rel=>exact ⟨j+1,by omega,by go_num,by rw [Hps.out]; rfl⟩
    case measure=>simp [intOf]; omega
   ·rw [hbit] at hps hn
    have Hps:=Lib.hid hps
    have Hn:=Lib.hid hn
    clear hps hn hbit h12
    go_wp2_with fail
    refine (rhas_eq hb Hn).mono ?_
    rintro e w' ⟨rfl,rfl⟩
    go_wp2_with fail
    go_round
    case rel=>exact ⟨j+1,by omega,by go_num,by rw [Hps.out]; rfl⟩
    case measure=>simp [intOf]; omega
  ·obtain rfl : j=c:=by omega
   have hno : ¬ ((j : Int)<64∧(j : Int)<i):=fun h=>hjc ((Hlt.out j).2 h)
   by_cases h1 : (j : Int)<64
   ·have h2 : ¬ (j : Int)<i:=fun h=>hno ⟨h1,h⟩
    clear hno hps
    go_wp2_with fail
    go_ret
    exact ⟨by rw [Hpos.out]; rfl,rfl⟩
   ·clear hno hps
    go_wp2_with fail
    go_ret
    exact ⟨by rw [Hpos.out]; rfl,rfl⟩
theorem rposition_eq {b : Nat} {i : Int} {v : Nat} {w : World} (hb : b<18446744073709551616) (h : Hid (Bm.position b i=v)) :
  Calls Tryz.prog 240 #[.int .u64 (b : Int),.int .i64 i] w fun e w'=>e=.returned (.int .i64 (v : Int))∧w=w':=by
 rw [← h.out]; exact rposition_any b i w hb
theorem rcount_eq {b v : Nat} {w : World} (hb : b<18446744073709551616) (h : Hid (Bm.pop 64 b=v)) :
  Calls Tryz.prog 191 #[.int .u64 (b : Int)] w fun e w'=>e=.returned (.int .i64 (v : Int))∧w=w':=by
 have HA:=Lib.hid (show Bm.position b 64=v by rw [Bm.position_all]; exact h.out)
 clear h
 go_enter Tryz.func191,Tryz.ntmps191
 go_wp2_with fail
 refine (rposition_eq hb HA).mono ?_
 rintro e w' ⟨rfl,rfl⟩
 go_wp2_with fail
 go_ret
 exact ⟨rfl,rfl⟩
theorem rwith_any (b : Nat) (i : Int) (w : World) (hb : b<18446744073709551616) :
  Calls Tryz.prog 285 #[.int .u64 (b : Int),.int .i64 i] w fun e w'=>e=.returned (.int .u64 (Bm.withE b i : Nat))∧w=w':=by
 by_cases h0 : i<0
 ·have hv : Bm.withE b i=b:=by unfold Bm.withE; rw [if_neg (by omega)]
  have Hv:=Lib.hid hv
  clear hv
  go_enter Tryz.func285,Tryz.ntmps285
  go_wp2_with fail
  go_ret
  exact ⟨by rw [Hv.out]; rfl,rfl⟩
 ·by_cases h1 : 63<i
  ·have hv : Bm.withE b i=b:=by unfold Bm.withE; rw [if_neg (by omega)]
   have Hv:=Lib.hid hv
   clear hv
   go_enter Tryz.func285,Tryz.ntmps285
   go_wp2_with fail
   go_ret
   exact ⟨by rw [Hv.out]; rfl,rfl⟩
  ·have hv : Bm.withE b i=b ||| 2 ^ i.toNat:=by unfold Bm.withE; rw [if_pos (by omega)]
   obtain ⟨n,rfl⟩:=Int.eq_ofNat_of_zero_le (show 0≤i by omega)
   have hn : n<64:=by omega
   have hp:=two_pow_lt n hn
   rw [Int.toNat_natCast] at hv
   have Hv:=Lib.hid hv
   have hk : bits .or .u64 (b : Int) (IntKind.u64.wrap (2 ^ n))=((b ||| 2 ^ n : Nat) : Int):=by
    rw [wrap_pow n hn,bits_or_u64_nat _ _ hb hp]
   have hd : decide (63<(n : Int))=false:=by simp; omega
   clear hv hp
   go_enter Tryz.func285,Tryz.ntmps285
   go_wp2_with fail
   go_ret
   exact ⟨by rw [Hv.out]; rfl,rfl⟩
end Go.Proofs.YtmliojdkmfhmmaaGreat
end
section
namespace Go.Ct
theorem pv_leq {l : List Pair} (hv : pairsValid l=true) {k : Nat} (h1 : 1≤k) (hk : k<l.length) : (Op.bytesLess (l.getD k ⟨.empty,0⟩).key.toList (l.getD (k - 1) ⟨.empty,0⟩).key.toList || (l.getD k ⟨.empty,0⟩).key.toList==(l.getD (k - 1) ⟨.empty,0⟩).key.toList)=false:=by
 have h:=pv_lt l hv (k - 1) k (by omega) hk
 unfold keyLt pat at h
 rw [Bool.or_eq_false_iff]
 constructor
 ·cases hb : Op.bytesLess (l.getD k ⟨.empty,0⟩).key.toList (l.getD (k - 1) ⟨.empty,0⟩).key.toList with
  | false=>rfl
  | true=>have:=bytesLess_trans _ _ _ h hb; rw [bytesLess_irrefl] at this; cases this
 ·rw [beq_eq_false_iff_ne]
  intro he
  rw [he,bytesLess_irrefl] at h; cases h
theorem key_short {l : List Pair} (hs : keysShort l=true) {k : Nat} (hk : k<l.length) : decide ((((l.getD k ⟨.empty,0⟩).key.size : Nat) : Int)>64)=false:=by
 have:=(keysShort_iff l).1 hs (l.getD k ⟨.empty,0⟩) (by rw [List.getD_eq_getElem?_getD,List.getElem?_eq_getElem hk]; exact List.getElem_mem hk)
 rw [decide_eq_false_iff_not]; omega
theorem no_snoc {l : List Pair} {key : ByteArray} {k : Nat} (h : ∀ j,j<k→keyEq (pat l j).key key=false) (hk : ((l.getD k ⟨.empty,0⟩).key.toList==key.toList)=false) : ∀ j,j<k+1→keyEq (pat l j).key key=false:=fun j hj=>by
 by_cases e : j=k
 ·subst e; exact hk
 ·exact h j (by omega)
theorem keyEq_bytes {a b : ByteArray} (h : keyEq a b=true) : a=b:=by
 unfold keyEq at h
 rw [toList_data,toList_data,beq_iff_eq] at h
 exact ByteArray.ext (Array.toList_inj.1 h)
theorem keyEq_le {a b : ByteArray} (h : keyLt a b=true) : keyEq a b=false:=by
 cases hb : keyEq a b with
 | false=>rfl
 | true=>rw [keyEq_bytes hb,keyLt_irrefl] at h; cases h
theorem below_at {l : List Pair} {key : ByteArray} {k : Nat} (hv : pairsValid l=true) (hk : k<l.length) (he : keyEq (pat l k).key key=true) : pbelow l key=k:=by
 have e:=keyEq_bytes he
 refine pbelow_eq l key k (by omega) (fun m hm=>?_) (fun m h1 h2=>?_)
 ·rw [← e]; exact pv_lt l hv m k hm hk
 ·by_cases hmk : m=k
  ·subst hmk; rw [e]; exact keyLt_irrefl _
  ·have h3:=pv_lt l hv k m (by omega) h2
   cases hb : keyLt (pat l m).key key with
   | false=>rfl
   | true=>rw [← e] at hb; have:=keyLt_trans h3 hb; rw [keyLt_irrefl] at this; cases this
theorem pfind_hit {l : List Pair} {key : ByteArray} {k : Nat} (hv : pairsValid l=true) (hk : k<l.length) (he : ((l.getD k ⟨.empty,0⟩).key.toList==key.toList)=true) : pfind l key=((pat l k).value,true):=by
 have hb:=below_at hv hk he
 unfold pfind phas
 rw [hb,hv,show keyEq (pat l k).key key=true from he]
 simp [hk]
theorem phas_none {l : List Pair} {key : ByteArray} (h : ∀ j,j<l.length→keyEq (pat l j).key key=false) : phas l key=false:=by
 unfold phas
 by_cases hb : pbelow l key<l.length
 ·rw [h _ hb]; simp
 ·simp [hb]
theorem pfind_miss {l : List Pair} {key : ByteArray} (hv : pairsValid l=true) (h : ∀ j,j<l.length→keyEq (pat l j).key key=false) : pfind l key=(0,false):=by
 unfold pfind; rw [phas_none h]; simp
def pwithout (l : List Pair) (key : ByteArray) : List Pair:=l.filter fun q=>!keyEq q.key key
def pwith (l : List Pair) (z : Pair) : List Pair:=l.take (pbelow l z.key) ++ z::l.drop (pbelow l z.key)
theorem take_pat {l : List Pair} {k : Nat} (hk : k<l.length) : l.take (k+1)=l.take k ++ [l.getD k ⟨.empty,0⟩]:=by
 rw [List.take_succ_eq_append_getElem hk,List.getD_eq_getElem?_getD,List.getElem?_eq_getElem hk]; rfl
theorem wo_T {l : List Pair} {key : ByteArray} {k : Nat} (hk : k<l.length) (h : (!((l.getD k ⟨.empty,0⟩).key.toList==key.toList))=true) : (l.take k).filter (fun q=>!keyEq q.key key) ++ [l.getD k ⟨.empty,0⟩]=(l.take (k+1)).filter fun q=>!keyEq q.key key:=by
 rw [take_pat hk,List.filter_append]
 congr 1
 rw [List.filter_cons,if_pos (show (!keyEq _ key)=true from h),List.filter_nil]
theorem wo_F {l : List Pair} {key : ByteArray} {k : Nat} (hk : k<l.length) (h : (!((l.getD k ⟨.empty,0⟩).key.toList==key.toList))=false) : (l.take k).filter (fun q=>!keyEq q.key key)=(l.take (k+1)).filter fun q=>!keyEq q.key key:=by
 rw [take_pat hk,List.filter_append,List.filter_cons,if_neg (by rw [show (!keyEq (l.getD k ⟨.empty,0⟩).key key)=false from h]; decide),List.filter_nil,List.append_nil]
theorem pwithout_len (l : List Pair) (key : ByteArray) : (pwithout l key).length≤l.length:=List.length_filter_le _ _
theorem lt_snoc {l : List Pair} {key : ByteArray} {k : Nat} (h : ∀ j,j<k→keyLt (pat l j).key key=true) (hk : Op.bytesLess (l.getD k ⟨.empty,0⟩).key.toList key.toList=true) : ∀ j,j<k+1→keyLt (pat l j).key key=true:=fun j hj=>by
 by_cases e : j=k
 ·subst e; exact hk
 ·exact h j (by omega)
theorem pbelow_stop : ∀ (l : List Pair) (key : ByteArray) (k : Nat),k≤l.length→(∀ j,j<k→keyLt (pat l j).key key=true)→(k<l.length→keyLt (pat l k).key key=false)→pbelow l key=k
 | [],key,k,hk,_,_=>by simp at hk; subst hk; rfl
 | q::l,key,0,_,_,h2=>by
  have:=h2 (by simp)
  unfold pbelow; rw [if_neg (by rw [show keyLt q.key key=false from this]; decide)]
 | q::l,key,k+1,hk,h1,h2=>by
  have:=h1 0 (by omega)
  unfold pbelow
  rw [if_pos (by rw [show keyLt q.key key=true from this]),pbelow_stop l key k (by simpa using hk) (fun j hj=>h1 (j+1) (by omega)) (fun hlt=>h2 (by simpa using hlt))]
theorem pwith_at {l : List Pair} {z : Pair} {k : Nat} (hk : k≤l.length) (h1 : ∀ j,j<k→keyLt (pat l j).key z.key=true) (h2 : k<l.length→Op.bytesLess (l.getD k ⟨.empty,0⟩).key.toList z.key.toList=false) : pwith l z=l.take k ++ z::l.drop k:=by
 unfold pwith; rw [pbelow_stop l z.key k hk h1 h2]
end Go.Ct
namespace Go.Ct
theorem filter_all {l : List Pair} {key : ByteArray} (h : ∀ q ∈ l,keyEq q.key key=false) : pwithout l key=l:=by
 unfold pwithout; rw [List.filter_eq_self]; intro q hq; rw [h q hq]; rfl
theorem phas_cons {q : Pair} {l : List Pair} {key : ByteArray} (h : keyLt q.key key=true) : phas (q::l) key=phas l key:=by
 unfold phas
 have e : pbelow (q::l) key=pbelow l key+1:=by rw [pbelow,if_pos h]
 rw [e]
 simp [pat]
theorem pwithout_drop (key : ByteArray) : ∀ l : List Pair,pairsValid l=true→pwithout l key=pdrop l key
 | [],_=>by simp [pwithout,pdrop,phas,pbelow,pairsValid]
 | q::l,hv=>by
  have ih:=pwithout_drop key l (pv_tail hv)
  have hd:=pv_head hv
  unfold pdrop at ih ⊢
  rw [if_neg (by rw [pv_tail hv]; decide)] at ih
  rw [if_neg (by rw [hv]; decide)]
  by_cases hlt : keyLt q.key key=true
  ·rw [phas_cons hlt,pbelow,if_pos hlt]
   have e : pwithout (q::l) key=q::pwithout l key:=by
    unfold pwithout; rw [List.filter_cons,if_pos (by rw [keyEq_le hlt]; rfl)]
   rw [e,ih]
   split <;> simp
  ·have hlt' : keyLt q.key key=false:=by simpa using hlt
   have e0 : pbelow (q::l) key=0:=by rw [pbelow,if_neg hlt]
   have hr : ∀ r ∈ l,keyEq r.key key=false:=fun r hr=>by
    have h1:=hd r hr
    cases hb : keyEq r.key key with
    | false=>rfl
    | true=>rw [keyEq_bytes hb] at h1; rw [h1] at hlt'; cases hlt'
   rw [e0]
   have e2 : phas (q::l) key=keyEq q.key key:=by unfold phas; rw [e0]; simp [pat]
   rw [e2]
   cases he : keyEq q.key key with
   | true =>
    rw [if_pos rfl]
    show pwithout (q::l) key=_
    have : pwithout (q::l) key=pwithout l key:=by unfold pwithout; rw [List.filter_cons,if_neg (by rw [he]; decide)]
    rw [this,filter_all hr]; simp
   | false =>
    rw [if_neg (by decide)]
    exact filter_all fun r hr'=>by
     rcases List.mem_cons.1 hr' with rfl | h
     ·exact he
     ·exact hr r h
theorem pbelow_drop {l : List Pair} {key : ByteArray} (hv : pairsValid l=true) : pbelow (pdrop l key) key=pbelow l key:=by
 unfold pdrop
 rw [if_neg (by rw [hv]; decide)]
 by_cases hp : phas l key=true
 ·rw [if_pos hp]
  have hp':=hp
  unfold phas at hp'
  simp only [Bool.and_eq_true,decide_eq_true_eq] at hp'
  obtain ⟨h1,h2⟩:=hp'
  refine pbelow_stop _ key _ (by simp; omega) (fun j hj=>?_) (fun hlt=>?_)
  ·have : pat (l.take (pbelow l key) ++ l.drop (pbelow l key+1)) j=pat l j:=by
    unfold pat; rw [List.getD_eq_getElem?_getD,List.getD_eq_getElem?_getD,List.getElem?_append_left (by simp; omega),List.getElem?_take,if_pos hj]
   rw [this]; exact pbelow_lt l key j hj
  ·simp only [List.length_append,List.length_take,List.length_drop] at hlt
   have : pat (l.take (pbelow l key) ++ l.drop (pbelow l key+1)) (pbelow l key)=pat l (pbelow l key+1):=by
    unfold pat; rw [List.getD_eq_getElem?_getD,List.getD_eq_getElem?_getD,List.getElem?_append_right (by rw [List.length_take]; omega),List.getElem?_drop,List.length_take]
    rw [show pbelow l key+1+(pbelow l key - min (pbelow l key) l.length)=pbelow l key+1 by omega]
   rw [this]
   have h3:=pv_lt l hv (pbelow l key) (pbelow l key+1) (by omega) (by omega)
   rw [keyEq_bytes h2] at h3
   cases hb : keyLt (pat l (pbelow l key+1)).key key with
   | false=>rfl
   | true=>have:=keyLt_trans h3 hb; rw [keyLt_irrefl] at this; cases this
 ·rw [if_neg hp]
theorem pput_eq {l : List Pair} (key : ByteArray) (v : Nat) (hv : pairsValid l=true) : pput l key v=pwith (pwithout l key) ⟨key,v⟩:=by
 rw [pwithout_drop key l hv]
 unfold pwith
 dsimp only
 rw [pbelow_drop hv]
 unfold pput pdrop
 simp only [hv,Bool.true_eq_false,↓reduceIte]
 by_cases hp : phas l key=true
 ·rw [if_pos hp,if_pos hp]
  have hp':=hp
  unfold phas at hp'
  simp only [Bool.and_eq_true,decide_eq_true_eq] at hp'
  obtain ⟨h1,h2⟩:=hp'
  have e1 : (l.take (pbelow l key) ++ l.drop (pbelow l key+1)).take (pbelow l key)=l.take (pbelow l key):=by
   rw [List.take_append_of_le_length (by simp; omega),List.take_of_length_le (by rw [List.length_take]; omega)]
  have e2 : (l.take (pbelow l key) ++ l.drop (pbelow l key+1)).drop (pbelow l key)=l.drop (pbelow l key+1):=by
   rw [List.drop_append_of_le_length (by simp; omega),List.drop_of_length_le (by rw [List.length_take]; omega)]; rfl
  rw [e1,e2,keyEq_bytes h2]
 ·rw [if_neg hp,if_neg hp]
theorem pof2_eq (a b : Pair) (h : keyEq a.key b.key=false) : pwith (pwithout (pwith (pwithout [] a.key) a) b.key) b=pof2 a b:=by
 have e1 : pwith (pwithout [] a.key) a=[a]:=by simp [pwithout,pwith,pbelow]
 have e2 : pwithout [a] b.key=[a]:=by unfold pwithout; rw [List.filter_cons,if_pos (by rw [h]; rfl)]; rfl
 rw [e1,e2]
 unfold pwith pof2
 cases hb : keyLt a.key b.key with
 | true =>
  have : keyLt b.key a.key=false:=by
   cases hc : keyLt b.key a.key with
   | false=>rfl
   | true=>have:=keyLt_trans hb hc; rw [keyLt_irrefl] at this; cases this
  simp [pbelow,hb,this]
 | false=>rw [if_pos (keyLt_total hb h)]; simp [pbelow,hb]
end Go.Ct
namespace Go.Ct
theorem pwith_len (l : List Pair) (z : Pair) : (pwith l z).length≤l.length+1:=by unfold pwith; simp; omega
end Go.Ct
namespace Go.Ct
def pofF (l : List Pair) : List Pair:=l.foldl (fun out q=>pwith (pwithout out q.key) q) []
theorem pofS {l : List Pair} {k : Nat} (hk : k<l.length) : pwith (pwithout (pofF (l.take k)) (l.getD k ⟨.empty,0⟩).key) (l.getD k ⟨.empty,0⟩)=pofF (l.take (k+1)):=by
 unfold pofF; rw [take_pat hk,List.foldl_append]; rfl
theorem pof_len (l : List Pair) : ∀ k,(pofF (l.take k)).length≤k
 | 0=>by simp [pofF]
 | k+1=>by
  by_cases hk : k<l.length
  ·rw [← pofS hk]
   have:=pwith_len (pwithout (pofF (l.take k)) (l.getD k ⟨.empty,0⟩).key) (l.getD k ⟨.empty,0⟩)
   have:=pwithout_len (pofF (l.take k)) (l.getD k ⟨.empty,0⟩).key
   have:=pof_len l k
   omega
  ·rw [List.take_of_length_le (by omega)]
   have:=pof_len l k
   rw [List.take_of_length_le (by omega)] at this
   omega
theorem pofF_two {a b : Pair} (h : keyEq a.key b.key=false) : pofF [a,b]=pof2 a b:=pof2_eq a b h
end Go.Ct
end
