/- Parts of a proof: Tg, Th, Ti. -/
import Derived.Test.YtmliojdkmfhmmaaGreatW38
import Derived.Test.YtmliojdkmfhmmaaGreatW16
import Derived.Test.YtmliojdkmfhmmaaGreatW09
import Derived.Test.YtmliojdkmfhmmaaGreatW26
set_option linter.unusedVariables false
set_option linter.unusedSimpArgs false
set_option maxRecDepth 100000
set_option maxHeartbeats 4000000
section
namespace Go.Proofs.YtmliojdkmfhmmaaGreat
open Go.RowKit Go.E
attribute [local irreducible] Go.E.wpL Go.E.wpS
def pxC (z : Nat × Ct.Ex) : List Value:=[.pointer (some ⟨z.1,0,none⟩)]
theorem pxC_len (z : Nat × Ct.Ex) : (pxC z).length=1:=rfl
theorem trieC_len (t : Ct.Trie) : (trieC t).length=2:=rfl
theorem wrapj {j : Nat} (h : (j : Int)<18446744073709551616) : IntKind.u64.wrap (j : Int)=j:=by rw [IntKind.wrap_u64]; omega
theorem modN {a b : Nat} (h : 0<b) : ((a : Nat) : Int).tmod ((b : Nat) : Int)=((a % b : Nat) : Int):=by rw [Int.tmod_eq_emod_of_nonneg (by omega)]; exact (Int.natCast_emod a b).symm
theorem getD_mem {α : Type} {d : α} : ∀ {l : List α} {j : Nat},j<l.length→l.getD j d ∈ l
 | x::l,0,_=>.head _
 | x::l,j+1,h=>.tail _ (getD_mem (by simpa using h))
structure Wq where
 pt : Option Addr:=none
 ct : Nat:=0
 px : Option Addr:=none
 cx : Nat:=0
def wldL (b mb mask : Nat) (ts : List Ct.Trie) (zs : List (Nat × Ct.Ex)) (q : Wq) : List As :=
 [bl b [.pointer (some ⟨mb,0,none⟩),.int .u64 ((mask : Nat) : Int),.slice q.pt ts.length q.ct,.slice q.px zs.length q.cx] 32,osl 35 2 (.slice q.pt ts.length q.ct) ts.length (ts.flatMap trieC),osl 53 1 (.slice q.px zs.length q.cx) zs.length (zs.flatMap pxC)]
def wldA (b mb mask : Nat) (ts : List Ct.Trie) (zs : List (Nat × Ct.Ex)) : As:=ex fun q : Wq=>se (wldL b mb mask ts zs q)
variable {B w : World} {L : List As}
theorem _root_.Go.E.SH.wo {b mb mask : Nat} {ts : List Ct.Trie} {zs : List (Nat × Ct.Ex)} (h : SH B w (wldA b mb mask ts zs::L)) : ∃ q,SH B w (wldL b mb mask ts zs q ++ L):=by
 obtain ⟨q,h⟩:=SH.ex (f:=fun q : Wq=>Go.E.se (wldL b mb mask ts zs q)) h
 exact ⟨q,h.se⟩
theorem _root_.Go.E.SH.wi {b mb mask : Nat} {ts : List Ct.Trie} {zs : List (Nat × Ct.Ex)} (q : Wq) (h : SH B w (wldL b mb mask ts zs q ++ L)) : SH B w (wldA b mb mask ts zs::L) :=
 SH.in_ (f:=fun q : Wq=>Go.E.se (wldL b mb mask ts zs q)) q (SH.is h)
def callW (c : Ct.Call) : List Value:=[.int .i64 c.kind,.int .i64 c.trie.root,.bool c.trie.readOnly,.int .i64 c.a,.int .i64 c.b,.int .i64 c.n,.int .i64 c.index,.int .u64 ((c.hash : Nat) : Int),.int .u64 ((c.mask : Nat) : Int),.string c.key,.int .u64 ((c.value : Nat) : Int),.int .u64 ((c.expect : Nat) : Int),.int .i64 c.policy,.bool c.only,.bool c.walk.started,.slice none 0 0,.slice none 0 0,.int .i64 c.answer.err,.bool c.answer.found,.int .u64 ((c.answer.value : Nat) : Int),.string c.answer.key,.int .i64 c.answer.count,.int .i64 c.answer.ref,.int .i64 c.answer.trie.root,.bool c.answer.trie.readOnly]
theorem wcall_any (b mb tb mask : Nat) (ts : List Ct.Trie) (zs : List (Nat × Ct.Ex)) (l : List Int) (kind : Int) (h : SH B w (wldA b mb mask ts zs::tapE tb l::L)) (ht : 0<ts.length) (hl : ts.length≤5) (hk7 : 7≤kind) (hk12 : kind≤12) (h0 : (ts.getD 0 {}).readOnly=false) :
  Calls Tryz.prog 13 #[.pointer (some ⟨b,0,none⟩),.int .i64 kind,.pointer (some ⟨tb,0,none⟩)] w fun e w'=>∃ c : Ct.Call,c.kind=kind∧c.mask=mask∧c.key.size≤8∧c.trie ∈ ts∧(c.kind=8∨c.kind=9∨c.kind=12→c.trie.readOnly=false)∧e=.returned (.agg (callW c).toArray)∧SH B w' (wldA b mb mask ts zs::tapE tb l::L):=by
 obtain ⟨⟨twp,twc,xwp,xwc⟩,h⟩:=h.wo
 have h : SH B w (bl b ([.pointer (some ⟨mb,0,none⟩),.int .u64 ((mask : Nat) : Int),.slice twp ts.length twc,.slice xwp zs.length xwc]) 32::osl 35 2 (.slice twp ts.length twc) ts.length (ts.flatMap trieC)::osl 53 1 (.slice xwp zs.length xwc) zs.length (zs.flatMap pxC)::tapE tb l::L):=h
 refine bgn (args:=[_,_,_]) Tryz.func13 rfl Tryz.ntmps13 rfl ?_
 refine sq<|rg<|sf (al h zc_45)<|?_
 rintro _ w ⟨b1,rfl,h⟩
 refine xe<|nx<|?_
 refine sm (fun e w=>∃ cb : Nat,∃ ky : ByteArray,∃ jv : Nat,∃ jx : Nat,∃ jp : Nat,∃ only : Bool,Sub 109 e (.c 0 (.pointer (some ⟨b,0,none⟩)) (.c 1 (.int .i64 kind) (.c 2 (.pointer (some ⟨tb,0,none⟩)) (.c 6 (.pointer (some ⟨b1,0,none⟩)) (.c 7 (.pointer (some ⟨cb,0,none⟩)) .n)))))∧SH B w (bl cb ([.int .i64 kind,.int .i64 0,.bool false,.int .i64 0,.int .i64 0,.int .i64 0,.int .i64 0,.int .u64 0,.int .u64 ((mask : Nat) : Int),.string ky,.int .u64 ((jv : Nat) : Int),.int .u64 ((jx : Nat) : Int),.int .i64 ((jp : Nat) : Int),.bool only,.bool false,.slice none 0 0,.slice none 0 0,.int .i64 0,.bool false,.int .u64 0,.string .empty,.int .i64 0,.int .i64 0,.int .i64 0,.bool false]) 45::bl b1 ([.int .i64 0,.int .i64 0,.bool false,.int .i64 0,.int .i64 0,.int .i64 0,.int .i64 0,.int .u64 0,.int .u64 0,.string .empty,.int .u64 0,.int .u64 0,.int .i64 0,.bool false,.bool false,.slice none 0 0,.slice none 0 0,.int .i64 0,.bool false,.int .u64 0,.string .empty,.int .i64 0,.int .i64 0,.int .i64 0,.bool false]) 45::bl b ([.pointer (some ⟨mb,0,none⟩),.int .u64 ((mask : Nat) : Int),.slice twp ts.length twc,.slice xwp zs.length xwc]) 32::osl 35 2 (.slice twp ts.length twc) ts.length (ts.flatMap trieC)::osl 53 1 (.slice xwp zs.length xwc) zs.length (zs.flatMap pxC)::tapE tb l::L)∧(ky.size≤8)) ?_ ?_
 refine drT (F:=[bl b ([.pointer (some ⟨mb,0,none⟩),.int .u64 ((mask : Nat) : Int),.slice twp ts.length twc,.slice xwp zs.length xwc]) 32]) (.op 0 true (.op 1 true (.op 2 true (.op 3 true (.op 4 true (.op 5 true (.op 7 true (.op 10 true (.op 13 true (.op 15 true (.fork 6 19 (.fork 8 19 (.op 9 true (.fork 11 19 (.op 12 true (.fork 14 19 (.fork 16 19 (.op 17 true (.op 18 true (.op 19 false (.op 20 false .stop)))) (.op 16 false (.op 17 true (.op 18 true (.op 20 false .stop))))) (.op 14 false (.op 16 false (.op 17 true (.op 18 true (.op 20 false .stop))))))) (.op 11 false (.op 12 true (.op 14 false (.op 16 false (.op 17 true (.op 18 true (.op 20 false .stop))))))))) (.op 8 false (.op 9 true (.op 11 false (.op 12 true (.op 14 false (.op 16 false (.op 17 true (.op 18 true (.op 20 false .stop)))))))))) (.op 6 false (.op 8 false (.op 9 true (.op 11 false (.op 12 true (.op 14 false (.op 16 false (.op 17 true (.op 18 true (.op 20 false .stop))))))))))))))))))))) (by kernel_rfl) h (fun w h=>(hC (h.at_ a1) hN)) fun w h=>tk (fun W H=>mv rfl)<|tk (fun W H=>mv rfl)<|tk (fun W H=>nc rfl rfl)<|tk (fun W H=>fa fo_32_1 rfl)<|tk (fun W H=>ld one_28 rfl (H.c a0 rfl))<|tk (fun W H=>mv rfl)<|tk (fun W H=>mv rfl)<|tk (fun W H=>mv rfl)<|tk (fun W H=>mv rfl)<|tk (fun W H=>mv rfl)<|xzT ?_ ?_
 refine cs (ca en_50 rfl) ((key_e tb l (h.fr (.c r4 .n))).mono ?_)
 rintro _ w ⟨ky2,hk3,rfl,h⟩
 refine ⟨_,rfl,(hC (h.at_ a2) hN),?_⟩
 refine xzT ?_ ?_
 refine cs (ca en_46 rfl) ((next_e tb l 6 (h.fr (.c r0 .n)) (by omega) (by omega)).mono ?_)
 rintro _ w ⟨j4,hj5,rfl,h⟩
 refine ⟨_,rfl,(hC (h.at_ a2) hN),?_⟩
 refine tk (fun W H=>cvw un_3 un_28 rfl (wrapj (by omega)))<|xzT ?_ ?_
 refine cs (ca en_46 rfl) ((next_e tb l 6 (h.fr (.c r0 .n)) (by omega) (by omega)).mono ?_)
 rintro _ w ⟨j6,hj7,rfl,h⟩
 refine ⟨_,rfl,(hC (h.at_ a2) hN),?_⟩
 refine tk (fun W H=>cvw un_3 un_28 rfl (wrapj (by omega)))<|xzT ?_ ?_
 refine cs (ca en_46 rfl) ((next_e tb l 4 (h.fr (.c r0 .n)) (by omega) (by omega)).mono ?_)
 rintro _ w ⟨j8,hj9,rfl,h⟩
 refine ⟨_,rfl,(hC (h.at_ a2) hN),?_⟩
 refine xzT ?_ ?_
 refine cs (ca en_46 rfl) ((next_e tb l 3 (h.fr (.c r0 .n)) (by omega) (by omega)).mono ?_)
 rintro _ w ⟨j10,hj11,rfl,h⟩
 refine ⟨_,rfl,(hC (h.at_ a2) hN),?_⟩
 refine tk (fun W H=>bi rfl rfl rfl)<|tk (fun W H=>bd [.int .i64 kind,.int .i64 0,.bool false,.int .i64 0,.int .i64 0,.int .i64 0,.int .i64 0,.int .u64 0,.int .u64 ((mask : Nat) : Int),.string ky2,.int .u64 ((j4 : Nat) : Int),.int .u64 ((j6 : Nat) : Int),.int .i64 ((j8 : Nat) : Int),.bool ((((j10 : Nat) : Int) : Int)==0),.bool false,.slice none 0 0,.slice none 0 0,.int .i64 0,.bool false,.int .u64 0,.string .empty,.int .i64 0,.int .i64 0,.int .i64 0,.bool false] bd_45 rfl (by kernel_rfl))<|ff (al h zc_45)<|?_
 rintro _ w ⟨b12,rfl,h⟩
 refine ⟨(hC (h.at_ a3) hN),?_⟩
 refine ff (so h rfl rfl rfl sz_45 rfl (.r (.r (.r (.r (.r (.r (.r (.r (.r (.r (.r (.r (.r (.r (.r (.r (.r (.r (.r (.r (.r (.r (.r (.r (.r .d))))))))))))))))))))))))) u0)<|?_
 rintro _ w h
 refine ⟨(hC (h.at_ a3) hN),?_⟩
 refine xzS rfl<|nx<|?_
 exact ⟨b12,ky2,j4,j6,j8,((((j10 : Nat) : Int) : Int)==0),⟨rfl,rfl,rfl,rfl,rfl,trivial⟩,(h.fr (.c r0 (.c r1 (.c r1 (.c r1 (.c r1 (.c r0 .n))))))),hk3⟩
 refine ff (al h zc_45)<|?_
 rintro _ w ⟨b13,rfl,h⟩
 refine ⟨(hC (h.at_ a3) hN),?_⟩
 refine cs (ca en_46 rfl) ((next_e tb l 3 (h.fr (.c r1 .n)) (by omega) (by omega)).mono ?_)
 rintro _ w ⟨j14,hj15,rfl,h⟩
 refine ⟨_,rfl,(hC (h.at_ a3) hN),?_⟩
 refine tk (fun W H=>bi rfl rfl rfl)<|tk (fun W H=>bd [.int .i64 kind,.int .i64 0,.bool false,.int .i64 0,.int .i64 0,.int .i64 0,.int .i64 0,.int .u64 0,.int .u64 ((mask : Nat) : Int),.string ky2,.int .u64 ((j4 : Nat) : Int),.int .u64 ((j6 : Nat) : Int),.int .i64 ((j8 : Nat) : Int),.bool ((((j14 : Nat) : Int) : Int)==0),.bool false,.slice none 0 0,.slice none 0 0,.int .i64 0,.bool false,.int .u64 0,.string .empty,.int .i64 0,.int .i64 0,.int .i64 0,.bool false] bd_45 rfl (by kernel_rfl))<|ff (so h rfl rfl rfl sz_45 rfl (.r (.r (.r (.r (.r (.r (.r (.r (.r (.r (.r (.r (.r (.r (.r (.r (.r (.r (.r (.r (.r (.r (.r (.r (.r .d))))))))))))))))))))))))) u1)<|?_
 rintro _ w h
 refine ⟨(hC (h.at_ a3) hN),?_⟩
 refine xzS rfl<|nx<|?_
 exact ⟨b13,ky2,j4,j6,j8,((((j14 : Nat) : Int) : Int)==0),⟨rfl,rfl,rfl,rfl,rfl,trivial⟩,(h.fr (.c r1 (.c r1 (.c r1 (.c r1 (.c r1 (.c r0 .n))))))),hk3⟩
 refine ff (al h zc_45)<|?_
 rintro _ w ⟨b16,rfl,h⟩
 refine ⟨(hC (h.at_ a3) hN),?_⟩
 refine cs (ca en_46 rfl) ((next_e tb l 4 (h.fr (.c r1 .n)) (by omega) (by omega)).mono ?_)
 rintro _ w ⟨j17,hj18,rfl,h⟩
 refine ⟨_,rfl,(hC (h.at_ a3) hN),?_⟩
 refine cs (ca en_46 rfl) ((next_e tb l 3 (h.fr (.c r0 .n)) (by omega) (by omega)).mono ?_)
 rintro _ w ⟨j19,hj20,rfl,h⟩
 refine ⟨_,rfl,(hC (h.at_ a3) hN),?_⟩
 refine tk (fun W H=>bi rfl rfl rfl)<|tk (fun W H=>bd [.int .i64 kind,.int .i64 0,.bool false,.int .i64 0,.int .i64 0,.int .i64 0,.int .i64 0,.int .u64 0,.int .u64 ((mask : Nat) : Int),.string ky2,.int .u64 ((j4 : Nat) : Int),.int .u64 ((j6 : Nat) : Int),.int .i64 ((j17 : Nat) : Int),.bool ((((j19 : Nat) : Int) : Int)==0),.bool false,.slice none 0 0,.slice none 0 0,.int .i64 0,.bool false,.int .u64 0,.string .empty,.int .i64 0,.int .i64 0,.int .i64 0,.bool false] bd_45 rfl (by kernel_rfl))<|ff (so h rfl rfl rfl sz_45 rfl (.r (.r (.r (.r (.r (.r (.r (.r (.r (.r (.r (.r (.r (.r (.r (.r (.r (.r (.r (.r (.r (.r (.r (.r (.r .d))))))))))))))))))))))))) u1)<|?_
 rintro _ w h
 refine ⟨(hC (h.at_ a3) hN),?_⟩
 refine xzS rfl<|nx<|?_
 exact ⟨b16,ky2,j4,j6,j17,((((j19 : Nat) : Int) : Int)==0),⟨rfl,rfl,rfl,rfl,rfl,trivial⟩,(h.fr (.c r1 (.c r1 (.c r1 (.c r1 (.c r1 (.c r0 .n))))))),hk3⟩
 refine ff (al h zc_45)<|?_
 rintro _ w ⟨b21,rfl,h⟩
 refine ⟨(hC (h.at_ a3) hN),?_⟩
 refine cs (ca en_46 rfl) ((next_e tb l 6 (h.fr (.c r1 .n)) (by omega) (by omega)).mono ?_)
 rintro _ w ⟨j22,hj23,rfl,h⟩
 refine ⟨_,rfl,(hC (h.at_ a3) hN),?_⟩
 refine tk (fun W H=>cvw un_3 un_28 rfl (wrapj (by omega)))<|cs (ca en_46 rfl) ((next_e tb l 4 (h.fr (.c r0 .n)) (by omega) (by omega)).mono ?_)
 rintro _ w ⟨j24,hj25,rfl,h⟩
 refine ⟨_,rfl,(hC (h.at_ a3) hN),?_⟩
 refine cs (ca en_46 rfl) ((next_e tb l 3 (h.fr (.c r0 .n)) (by omega) (by omega)).mono ?_)
 rintro _ w ⟨j26,hj27,rfl,h⟩
 refine ⟨_,rfl,(hC (h.at_ a3) hN),?_⟩
 refine tk (fun W H=>bi rfl rfl rfl)<|tk (fun W H=>bd [.int .i64 kind,.int .i64 0,.bool false,.int .i64 0,.int .i64 0,.int .i64 0,.int .i64 0,.int .u64 0,.int .u64 ((mask : Nat) : Int),.string ky2,.int .u64 ((j4 : Nat) : Int),.int .u64 ((j22 : Nat) : Int),.int .i64 ((j24 : Nat) : Int),.bool ((((j26 : Nat) : Int) : Int)==0),.bool false,.slice none 0 0,.slice none 0 0,.int .i64 0,.bool false,.int .u64 0,.string .empty,.int .i64 0,.int .i64 0,.int .i64 0,.bool false] bd_45 rfl (by kernel_rfl))<|ff (so h rfl rfl rfl sz_45 rfl (.r (.r (.r (.r (.r (.r (.r (.r (.r (.r (.r (.r (.r (.r (.r (.r (.r (.r (.r (.r (.r (.r (.r (.r (.r .d))))))))))))))))))))))))) u1)<|?_
 rintro _ w h
 refine ⟨(hC (h.at_ a3) hN),?_⟩
 refine xzS rfl<|nx<|?_
 exact ⟨b21,ky2,j4,j22,j24,((((j26 : Nat) : Int) : Int)==0),⟨rfl,rfl,rfl,rfl,rfl,trivial⟩,(h.fr (.c r1 (.c r1 (.c r1 (.c r1 (.c r1 (.c r0 .n))))))),hk3⟩
 refine ff (al h zc_45)<|?_
 rintro _ w ⟨b28,rfl,h⟩
 refine ⟨(hC (h.at_ a3) hN),?_⟩
 refine cs (ca en_46 rfl) ((next_e tb l 6 (h.fr (.c r1 .n)) (by omega) (by omega)).mono ?_)
 rintro _ w ⟨j29,hj30,rfl,h⟩
 refine ⟨_,rfl,(hC (h.at_ a3) hN),?_⟩
 refine tk (fun W H=>cvw un_3 un_28 rfl (wrapj (by omega)))<|cs (ca en_46 rfl) ((next_e tb l 6 (h.fr (.c r0 .n)) (by omega) (by omega)).mono ?_)
 rintro _ w ⟨j31,hj32,rfl,h⟩
 refine ⟨_,rfl,(hC (h.at_ a3) hN),?_⟩
 refine tk (fun W H=>cvw un_3 un_28 rfl (wrapj (by omega)))<|cs (ca en_46 rfl) ((next_e tb l 4 (h.fr (.c r0 .n)) (by omega) (by omega)).mono ?_)
 rintro _ w ⟨j33,hj34,rfl,h⟩
 refine ⟨_,rfl,(hC (h.at_ a3) hN),?_⟩
 refine cs (ca en_46 rfl) ((next_e tb l 3 (h.fr (.c r0 .n)) (by omega) (by omega)).mono ?_)
 rintro _ w ⟨j35,hj36,rfl,h⟩
 refine ⟨_,rfl,(hC (h.at_ a3) hN),?_⟩
 refine tk (fun W H=>bi rfl rfl rfl)<|tk (fun W H=>bd [.int .i64 kind,.int .i64 0,.bool false,.int .i64 0,.int .i64 0,.int .i64 0,.int .i64 0,.int .u64 0,.int .u64 ((mask : Nat) : Int),.string ky2,.int .u64 ((j29 : Nat) : Int),.int .u64 ((j31 : Nat) : Int),.int .i64 ((j33 : Nat) : Int),.bool ((((j35 : Nat) : Int) : Int)==0),.bool false,.slice none 0 0,.slice none 0 0,.int .i64 0,.bool false,.int .u64 0,.string .empty,.int .i64 0,.int .i64 0,.int .i64 0,.bool false] bd_45 rfl (by kernel_rfl))<|ff (so h rfl rfl rfl sz_45 rfl (.r (.r (.r (.r (.r (.r (.r (.r (.r (.r (.r (.r (.r (.r (.r (.r (.r (.r (.r (.r (.r (.r (.r (.r (.r .d))))))))))))))))))))))))) u1)<|?_
 rintro _ w h
 refine ⟨(hC (h.at_ a3) hN),?_⟩
 refine xzS rfl<|nx<|?_
 exact ⟨b28,ky2,j29,j31,j33,((((j35 : Nat) : Int) : Int)==0),⟨rfl,rfl,rfl,rfl,rfl,trivial⟩,(h.fr (.c r1 (.c r1 (.c r1 (.c r1 (.c r1 (.c r0 .n))))))),hk3⟩
 refine ff (al h zc_45)<|?_
 rintro _ w ⟨b37,rfl,h⟩
 refine ⟨(hC (h.at_ a2) hN),?_⟩
 refine cs (ca en_50 rfl) ((key_e tb l (h.fr (.c r5 .n))).mono ?_)
 rintro _ w ⟨ky38,hk39,rfl,h⟩
 refine ⟨_,rfl,(hC (h.at_ a3) hN),?_⟩
 refine cs (ca en_46 rfl) ((next_e tb l 6 (h.fr (.c r0 .n)) (by omega) (by omega)).mono ?_)
 rintro _ w ⟨j40,hj41,rfl,h⟩
 refine ⟨_,rfl,(hC (h.at_ a3) hN),?_⟩
 refine tk (fun W H=>cvw un_3 un_28 rfl (wrapj (by omega)))<|cs (ca en_46 rfl) ((next_e tb l 6 (h.fr (.c r0 .n)) (by omega) (by omega)).mono ?_)
 rintro _ w ⟨j42,hj43,rfl,h⟩
 refine ⟨_,rfl,(hC (h.at_ a3) hN),?_⟩
 refine tk (fun W H=>cvw un_3 un_28 rfl (wrapj (by omega)))<|cs (ca en_46 rfl) ((next_e tb l 4 (h.fr (.c r0 .n)) (by omega) (by omega)).mono ?_)
 rintro _ w ⟨j44,hj45,rfl,h⟩
 refine ⟨_,rfl,(hC (h.at_ a3) hN),?_⟩
 refine cs (ca en_46 rfl) ((next_e tb l 3 (h.fr (.c r0 .n)) (by omega) (by omega)).mono ?_)
 rintro _ w ⟨j46,hj47,rfl,h⟩
 refine ⟨_,rfl,(hC (h.at_ a3) hN),?_⟩
 refine tk (fun W H=>bi rfl rfl rfl)<|tk (fun W H=>bd [.int .i64 kind,.int .i64 0,.bool false,.int .i64 0,.int .i64 0,.int .i64 0,.int .i64 0,.int .u64 0,.int .u64 ((mask : Nat) : Int),.string ky38,.int .u64 ((j40 : Nat) : Int),.int .u64 ((j42 : Nat) : Int),.int .i64 ((j44 : Nat) : Int),.bool ((((j46 : Nat) : Int) : Int)==0),.bool false,.slice none 0 0,.slice none 0 0,.int .i64 0,.bool false,.int .u64 0,.string .empty,.int .i64 0,.int .i64 0,.int .i64 0,.bool false] bd_45 rfl (by kernel_rfl))<|ff (so h rfl rfl rfl sz_45 rfl (.r (.r (.r (.r (.r (.r (.r (.r (.r (.r (.r (.r (.r (.r (.r (.r (.r (.r (.r (.r (.r (.r (.r (.r (.r .d))))))))))))))))))))))))) u1)<|?_
 rintro _ w h
 refine ⟨(hC (h.at_ a3) hN),?_⟩
 refine xzS rfl<|nx<|?_
 exact ⟨b37,ky38,j40,j42,j44,((((j46 : Nat) : Int) : Int)==0),⟨rfl,rfl,rfl,rfl,rfl,trivial⟩,(h.fr (.c r1 (.c r1 (.c r1 (.c r1 (.c r1 (.c r0 .n))))))),hk39⟩
 rintro e w ⟨cb,ky,jv,jx,jp,only,hE,h,hkc⟩
 refine C.sub hE ?_
 clear hE e
 refine sq<|rg<|st (mv rfl)<|st (bi rfl rfl rfl)<|st (mv rfl)<|gT rfl rfl (beq_eq_false_iff_ne.2 (by omega))<|st (mv rfl)<|gT rfl rfl (beq_eq_false_iff_ne.2 (by omega))<|st (bi rfl rfl rfl)<|st (pF rfl (beq_eq_false_iff_ne.2 (by omega)) rfl)<|st (sg rfl)<|xe<|nx<|?_
 refine sm (fun e w=>∃ wr : Bool,Sub 109 e (.c 0 (.pointer (some ⟨b,0,none⟩)) (.c 2 (.pointer (some ⟨tb,0,none⟩)) (.c 6 (.pointer (some ⟨b1,0,none⟩)) (.c 7 (.pointer (some ⟨cb,0,none⟩)) (.c 8 (.bool ((kind : Int)==13)) (.c 9 (.bool wr) .n))))))∧SH B w (bl cb ([.int .i64 kind,.int .i64 0,.bool false,.int .i64 0,.int .i64 0,.int .i64 0,.int .i64 0,.int .u64 0,.int .u64 ((mask : Nat) : Int),.string ky,.int .u64 ((jv : Nat) : Int),.int .u64 ((jx : Nat) : Int),.int .i64 ((jp : Nat) : Int),.bool only,.bool false,.slice none 0 0,.slice none 0 0,.int .i64 0,.bool false,.int .u64 0,.string .empty,.int .i64 0,.int .i64 0,.int .i64 0,.bool false]) 45::bl b1 ([.int .i64 0,.int .i64 0,.bool false,.int .i64 0,.int .i64 0,.int .i64 0,.int .i64 0,.int .u64 0,.int .u64 0,.string .empty,.int .u64 0,.int .u64 0,.int .i64 0,.bool false,.bool false,.slice none 0 0,.slice none 0 0,.int .i64 0,.bool false,.int .u64 0,.string .empty,.int .i64 0,.int .i64 0,.int .i64 0,.bool false]) 45::bl b ([.pointer (some ⟨mb,0,none⟩),.int .u64 ((mask : Nat) : Int),.slice twp ts.length twc,.slice xwp zs.length xwc]) 32::osl 35 2 (.slice twp ts.length twc) ts.length (ts.flatMap trieC)::osl 53 1 (.slice xwp zs.length xwc) zs.length (zs.flatMap pxC)::tapE tb l::L)∧(wr=false→¬ (kind=8∨kind=9∨kind=12))) ?_ ?_
 refine rg<|st (mv rfl)<|st (bi rfl rfl rfl)<|st (mv rfl)<|?_
 rcases Bool.eq_false_or_eq_true ((kind : Int)==8) with hd48 | hd48
 have hg49:=eq_of_beq hd48
 refine gF rfl rfl hd48<|gF rfl rfl hd48<|st (pT rfl hd48 rfl)<|st (mv rfl)<|gF rfl rfl rfl<|gF rfl rfl rfl<|st (pT rfl rfl rfl)<|st (mv rfl)<|gF rfl rfl rfl<|gF rfl rfl rfl<|st (pT rfl rfl rfl)<|st (sg rfl)<|xe<|nx<|?_
 exact ⟨true,⟨rfl,rfl,rfl,rfl,rfl,rfl,trivial⟩,h,(fun hz=>Bool.noConfusion hz)⟩
 have hg50:=ne_of_beq_false hd48
 refine gT rfl rfl hd48<|st (mv rfl)<|gT rfl rfl hd48<|st (bi rfl rfl rfl)<|st (pF rfl hd48 rfl)<|st (mv rfl)<|?_
 rcases Bool.eq_false_or_eq_true ((kind : Int)==9) with hd51 | hd51
 have hg52:=eq_of_beq hd51
 refine gF rfl rfl hd51<|gF rfl rfl hd51<|st (pT rfl hd51 rfl)<|st (mv rfl)<|gF rfl rfl rfl<|gF rfl rfl rfl<|st (pT rfl rfl rfl)<|st (sg rfl)<|xe<|nx<|?_
 exact ⟨true,⟨rfl,rfl,rfl,rfl,rfl,rfl,trivial⟩,h,(fun hz=>Bool.noConfusion hz)⟩
 have hg53:=ne_of_beq_false hd51
 refine gT rfl rfl hd51<|st (mv rfl)<|gT rfl rfl hd51<|st (bi rfl rfl rfl)<|st (pF rfl hd51 rfl)<|st (mv rfl)<|?_
 rcases Bool.eq_false_or_eq_true ((kind : Int)==12) with hd54 | hd54
 have hg55:=eq_of_beq hd54
 refine gF rfl rfl hd54<|gF rfl rfl hd54<|st (pT rfl hd54 rfl)<|st (sg rfl)<|xe<|nx<|?_
 exact ⟨true,⟨rfl,rfl,rfl,rfl,rfl,rfl,trivial⟩,h,(fun hz=>Bool.noConfusion hz)⟩
 have hg56:=ne_of_beq_false hd54
 refine gT rfl rfl hd54<|st (mv rfl)<|gT rfl rfl hd54<|st (bi rfl rfl rfl)<|st (pF rfl hd54 rfl)<|st (sg rfl)<|xe<|nx<|?_
 exact ⟨((kind : Int)==4),⟨rfl,rfl,rfl,rfl,rfl,rfl,trivial⟩,h,(fun _ hc=>by have hhd48:=ne_of_beq_false hd48; have hhd51:=ne_of_beq_false hd51; have hhd54:=ne_of_beq_false hd54; omega)⟩
 rintro e w ⟨wr,hE,h,hwr⟩
 refine C.sub hE ?_
 clear hE e
 refine sq<|rg<|st (mv rfl)<|st (mv rfl)<|st (nc rfl rfl)<|st (fa fo_32_2 rfl)<|st (ld one_29 rfl (h.c a2 rfl))<|st (ln sl_29 rfl rfl)<|cl (ca en_46 rfl) ((next_e tb l ((ts.length : Nat) : Int) (h.fr (.c r5 .n)) (by omega) (by omega)).mono ?_)
 rintro _ w ⟨j57,hj58,rfl,h⟩
 refine ⟨_,rfl,?_⟩
 refine st (sg rfl)<|xe<|nx<|sq<|sq<|rg<|st (sg rfl)<|xe<|nx<|bk<|?_
 refine lp (α:=Nat × Ct.Trie) (fun ρ=>(.c 0 (.pointer (some ⟨b,0,none⟩)) (.c 6 (.pointer (some ⟨b1,0,none⟩)) (.c 7 (.pointer (some ⟨cb,0,none⟩)) (.c 8 (.bool ((kind : Int)==13)) (.c 9 (.bool wr) (.c 10 (.int .i64 ((j57 : Nat) : Int)) (.c 11 (.int .i64 ((ρ.1 : Nat) : Int)) .n)))))))) (fun ρ w=>SH B w (bl cb ([.int .i64 kind,.int .i64 ρ.2.root,.bool ρ.2.readOnly,.int .i64 0,.int .i64 0,.int .i64 0,.int .i64 0,.int .u64 0,.int .u64 ((mask : Nat) : Int),.string ky,.int .u64 ((jv : Nat) : Int),.int .u64 ((jx : Nat) : Int),.int .i64 ((jp : Nat) : Int),.bool only,.bool false,.slice none 0 0,.slice none 0 0,.int .i64 0,.bool false,.int .u64 0,.string .empty,.int .i64 0,.int .i64 0,.int .i64 0,.bool false]) 45::tapE tb l::bl b1 ([.int .i64 0,.int .i64 0,.bool false,.int .i64 0,.int .i64 0,.int .i64 0,.int .i64 0,.int .u64 0,.int .u64 0,.string .empty,.int .u64 0,.int .u64 0,.int .i64 0,.bool false,.bool false,.slice none 0 0,.slice none 0 0,.int .i64 0,.bool false,.int .u64 0,.string .empty,.int .i64 0,.int .i64 0,.int .i64 0,.bool false]) 45::bl b ([.pointer (some ⟨mb,0,none⟩),.int .u64 ((mask : Nat) : Int),.slice twp ts.length twc,.slice xwp zs.length xwc]) 32::osl 35 2 (.slice twp ts.length twc) ts.length (ts.flatMap trieC)::osl 53 1 (.slice xwp zs.length xwc) zs.length (zs.flatMap pxC)::L)∧(ρ.1≤ts.length)) (fun ρ=>ts.length - ρ.1) (0,({} : Ct.Trie)) ⟨rfl,rfl,rfl,rfl,rfl,rfl,rfl,trivial⟩ ⟨(h.fr (.c r1 (.c r0 (.c r0 (.c r0 (.c r0 (.c r0 .n))))))),(Nat.zero_le _)⟩ ?_
 rintro ⟨i,trx⟩ w ⟨h,hi⟩
 dsimp only at *
 refine sq<|sq<|rg<|st (mv rfl)<|st (mv rfl)<|st (nc rfl rfl)<|st (fa fo_32_2 rfl)<|st (ld one_29 rfl (h.c a3 rfl))<|st (ln sl_29 rfl rfl)<|st (bi rfl rfl rfl)<|xe<|nx<|?_
 rcases Bool.eq_false_or_eq_true (decide ((((i : Nat) : Int) : Int)<((ts.length : Nat) : Int))) with hd59 | hd59
 have hg60:=of_decide_eq_true hd59
 refine ct rfl hd59<|sk<|nx<|sq<|bk<|sq<|?_
 have hmod:=Nat.mod_lt (j57+i) ht
 obtain ⟨b61,rfl⟩:=h.fp a4 (by omega)
 refine drH [1,3,5,7,9,11,13,15,17,19,21,23,25,27,29,31,32] (by kernel_rfl) h (.c r3 (.c r3 .n)) fun w h=>tk (fun W H=>mv rfl)<|tk (fun W H=>nc rfl rfl)<|tk (fun W H=>fa fo_32_2 rfl)<|tk (fun W H=>ld one_29 rfl (H.c a0 rfl))<|tk (fun W H=>mv rfl)<|tk (fun W H=>mv rfl)<|tk (fun W H=>bw rfl rfl (wadd (c:=((j57+i : Nat) : Int)) (by omega) (by omega) (by omega)))<|tk (fun W H=>mv rfl)<|tk (fun W H=>nc rfl rfl)<|tk (fun W H=>fa fo_32_2 rfl)<|tk (fun W H=>ld one_29 rfl (H.c a0 rfl))<|tk (fun W H=>ln sl_29 rfl rfl)<|tk (fun W H=>brw rfl rfl (by omega) (modN (by omega)))<|tk (fun W H=>ix (j:=(j57+i) % ts.length) sl_29 sz_35 rfl rfl (by omega))<|tk (fun W H=>ldr rfl ((H.ro a1).x trieC_len (by decide) (by omega) {}) row_35)<|tk (fun W H=>fa fo_45_1 rfl)<|ff (so h rfl rfl rfl sz_35 rfl (.s (.r (.r .d))) u0)<|?_
 rintro _ w h
 refine ⟨h.hs (.c r3 (.c r3 .n)),?_⟩
 refine xz<|nx<|sq<|rg<|st (fa fo_45_1 rfl)<|st (fa fo_35_1 rfl)<|st (ld one_4 rfl (h.c a0 rfl))<|st (mv rfl)<|?_
 rcases Bool.eq_false_or_eq_true (ts.getD ((j57+i) % ts.length) {}).readOnly with hd62 | hd62
 refine gT rfl rfl hd62<|st (mv rfl)<|gT rfl rfl hd62<|st (nt rfl)<|st (pT rfl hd62 rfl)<|st (mv rfl)<|?_
 rcases Bool.eq_false_or_eq_true (!wr) with hd63 | hd63
 have hd64 : wr=false:=by simpa using hd63
 refine gF rfl rfl hd63<|gF rfl rfl hd63<|gF rfl rfl hd63<|gF rfl rfl hd63<|gF rfl rfl hd63<|gU rfl rfl<|gU rfl rfl<|gF rfl rfl hd63<|st (pT rfl hd63 rfl)<|xe<|nx<|cT rfl<|sq<|rg<|st (ldr rfl (rows_all (h.b a0)) row_45)<|sf (so h rfl rfl rfl sz_45 rfl (.r (.r (.r (.r (.r (.r (.r (.r (.r (.r (.r (.r (.r (.r (.r (.r (.r (.r (.r (.r (.r (.r (.r (.r (.r .d))))))))))))))))))))))))) u2)<|?_
 rintro _ w h
 refine xe<|nx<|rt<|bt<|tr<|tr<|bt<|tr<|?_
 refine rr (resC Tryz.results13 rfl (h.b a2) row_45)<|?_
 refine ⟨({ kind:=kind,trie:=(ts.getD ((j57+i) % ts.length) {}),mask:=mask,key:=ky,value:=jv,expect:=jx,policy:=jp,only:=only } : Ct.Call),rfl,rfl,hkc,?_,?_,rfl,(by have h:=((h.fr (.c r0 (.c r1 .n))).drop.drop.fr (.c r1 (.c r1 (.c r1 (.c r0 .n))))); exact SH.wi ⟨some ⟨b61,0,none⟩,twc,xwp,xwc⟩ h)⟩
 exact getD_mem (Nat.mod_lt _ ht)
 exact fun hc=>absurd hc (hwr (by simpa using hd64))
 have hd65 : wr=true:=by simpa using hd63
 refine gT rfl rfl hd63<|st (fa fo_45_1 rfl)<|gT rfl rfl hd63<|st (fa fo_35_1 rfl)<|gT rfl rfl hd63<|st (ld one_4 rfl (h.c a0 rfl))<|gT rfl rfl hd63<|st (nt rfl)<|gT rfl rfl hd63<|st (mv rfl)<|gF rfl rfl (notT hd62)<|gF rfl rfl (notT hd62)<|gT rfl rfl hd63<|st (pF rfl (notT hd62) rfl)<|st (pF rfl hd63 rfl)<|xe<|nx<|cF rfl<|sk<|bn<|nx<|rg<|st (mv rfl)<|st (bw rfl rfl (wadd (c:=((i+1 : Nat) : Int)) (by omega) (by omega) (by omega)))<|st (sg rfl)<|xe<|nx<|?_
 exact ⟨((i+1),(ts.getD ((j57+i) % ts.length) {})),⟨rfl,rfl,rfl,rfl,rfl,rfl,rfl,trivial⟩,⟨h,by (try dsimp only); omega⟩,by (try dsimp only); omega⟩
 refine gF rfl rfl hd62<|gF rfl rfl hd62<|st (pF rfl hd62 rfl)<|st (mv rfl)<|gT rfl rfl rfl<|st (fa fo_45_1 rfl)<|gT rfl rfl rfl<|st (fa fo_35_1 rfl)<|gT rfl rfl rfl<|st (ld one_4 rfl (h.c a0 rfl))<|gT rfl rfl rfl<|st (nt rfl)<|gT rfl rfl rfl<|st (mv rfl)<|gT rfl rfl (notF hd62)<|st (mv rfl)<|gT rfl rfl (notF hd62)<|st (nt rfl)<|gT rfl rfl rfl<|st (pT rfl (notF hd62) rfl)<|st (pF rfl rfl rfl)<|xe<|nx<|ct rfl (notF (beq_eq_false_iff_ne.2 (by omega)))<|sq<|rg<|st (ldr rfl (rows_all (h.b a0)) row_45)<|sf (so h rfl rfl rfl sz_45 rfl (.r (.r (.r (.r (.r (.r (.r (.r (.r (.r (.r (.r (.r (.r (.r (.r (.r (.r (.r (.r (.r (.r (.r (.r (.r .d))))))))))))))))))))))))) u2)<|?_
 rintro _ w h
 refine xe<|nx<|rt<|bt<|tr<|tr<|bt<|tr<|?_
 refine rr (resC Tryz.results13 rfl (h.b a2) row_45)<|?_
 refine ⟨({ kind:=kind,trie:=(ts.getD ((j57+i) % ts.length) {}),mask:=mask,key:=ky,value:=jv,expect:=jx,policy:=jp,only:=only } : Ct.Call),rfl,rfl,hkc,?_,?_,rfl,(by have h:=((h.fr (.c r0 (.c r1 .n))).drop.drop.fr (.c r1 (.c r1 (.c r1 (.c r0 .n))))); exact SH.wi ⟨some ⟨b61,0,none⟩,twc,xwp,xwc⟩ h)⟩
 exact getD_mem (Nat.mod_lt _ ht)
 exact fun _=>hd62
 have hg66:=of_decide_eq_false hd59
 refine cf rfl hd59<|xt<|tx<|tx<|be<|nx<|sq<|rg<|st (mv rfl)<|st (nc rfl rfl)<|st (fa fo_32_2 rfl)<|st (ld one_29 rfl (h.c a3 rfl))<|?_
 obtain ⟨b67,rfl⟩:=h.fp a4 (by omega)
 refine st (ix (j:=0) sl_29 sz_35 rfl rfl (by omega))<|st (ldr rfl ((h.ro a4).x trieC_len (by decide) (j:=0) (by omega) {}) row_35)<|st (fa fo_45_1 rfl)<|sf (so h rfl rfl rfl sz_35 rfl (.s (.r (.r .d))) u0)<|?_
 rintro _ w h
 refine xe<|nx<|sq<|rg<|st (ldr rfl (rows_all (h.b a0)) row_45)<|sf (so h rfl rfl rfl sz_45 rfl (.r (.r (.r (.r (.r (.r (.r (.r (.r (.r (.r (.r (.r (.r (.r (.r (.r (.r (.r (.r (.r (.r (.r (.r (.r .d))))))))))))))))))))))))) u2)<|?_
 rintro _ w h
 refine xe<|nx<|rt<|?_
 refine rr (resC Tryz.results13 rfl (h.b a2) row_45)<|?_
 refine ⟨({ kind:=kind,trie:=(ts.getD 0 {}),mask:=mask,key:=ky,value:=jv,expect:=jx,policy:=jp,only:=only } : Ct.Call),rfl,rfl,hkc,?_,?_,rfl,(by have h:=((h.fr (.c r0 (.c r1 .n))).drop.drop.fr (.c r1 (.c r1 (.c r1 (.c r0 .n))))); exact SH.wi ⟨some ⟨b67,0,none⟩,twc,xwp,xwc⟩ h)⟩
 exact getD_mem ht
 exact fun _=>h0
end Go.Proofs.YtmliojdkmfhmmaaGreat
end
section
namespace Go.Proofs.YtmliojdkmfhmmaaGreat
attribute [local irreducible] Go.E.wpL Go.E.wpS Go.E.X Go.E.XS Go.E.C Go.E.thn Go.E.blk Go.E.fin Go.E.Y Go.E.U Go.E.F Go.E.Ca Go.E.Res Go.E.bl Go.E.rb Go.E.osl Go.E.rsl Go.E.ex Go.E.ce Go.E.pu Go.E.sK Go.E.gK Go.E.bK Go.E.zK Go.E.boxA Go.E.cloA Go.E.codeA
open Go.RowKit Go.E
def keepZ (zs : List (Nat × Ct.Ex)) (b : Nat) (e : Ct.Ex) : List (Nat × Ct.Ex):=if e.done=true then zs else zs ++ [(b,e)]
def keepT (ts : List Ct.Trie) (e : Ct.Ex) : List Ct.Trie:=if e.done=true∧0<e.result.trie.root∧ts.length<5 then ts ++ [e.result.trie] else ts
variable {B w : World} {L : List As}
theorem keep_any (b mb xb mask : Nat) (ts : List Ct.Trie) (zs : List (Nat × Ct.Ex)) (x : Ct.X) (h : SH B w (wldA b mb mask ts zs::XA xb mb x::exsA mb zs::L)) (ht : ts.length≤5) (hz : zs.length≤100) :
  Calls Tryz.prog 97 #[.pointer (some ⟨b,0,none⟩),.pointer (some ⟨xb,0,none⟩)] w fun e w'=>e=.returned (.tuple #[])∧SH B w' (wldA b mb mask (keepT ts x.e) (keepZ zs xb x.e)::exsA mb (keepZ zs xb x.e)::memA mb x.s::L):=by
 obtain ⟨⟨twp,twc,xwp,xwc⟩,h⟩:=h.wo
 have h : SH B w (bl b ([.pointer (some ⟨mb,0,none⟩),.int .u64 ((mask : Nat) : Int),.slice twp ts.length twc,.slice xwp zs.length xwc]) 32::osl 35 2 (.slice twp ts.length twc) ts.length (ts.flatMap trieC)::osl 53 1 (.slice xwp zs.length xwc) zs.length (zs.flatMap pxC)::XA xb mb x::exsA mb zs::L):=h
 refine bn0 Tryz.func97 Tryz.ntmps97 h fun w h=>?_
 refine j000 (done_any _ _ _ h.to) fun w h=>?_
 refine qc h (fun hd1 w h=>?_) fun hd1 w h=>?_
 have hd2 : x.e.done=false:=by simpa using hd1
 refine go h fun w h=>?_
 refine sf (bu [.pointer (some ⟨xb,0,none⟩)] h Slc.h Ss.h rfl (by kernel_rfl) rfl (by decide) (by decide)) ?_
 rintro _ w ⟨b3,rfl,h⟩
 refine go h fun w h=>?_
 refine sf (ap h sl_30 rfl ss_53 rfl (by decide) rfl rfl (fun _=>u4) (h.ro a0) (by simp [Value.oneCell']) rfl (join_rows (enc:=pxC) _ (xb,x.e)) (by unfold maxLen; omega) (by omega))<|?_
 rintro _ w ⟨p4,c5,rfl,h⟩
 refine st (nc rfl rfl)<|st (fa fo_32_3 rfl)<|?_
 refine sf (so h rfl rfl rfl sz_30 rfl (.s (.s (.s (.r .d)))) u2)<|?_
 rintro _ w h
 refine xe<|?_
 refine go h fun w h=>?_
 refine rn (res0 rfl) ?_
 rw [show keepZ zs xb x.e=zs ++ [(xb,x.e)] from if_neg (by rw [hd2]; decide),show keepT ts x.e=ts from if_neg (by rw [hd2]; simp)]
 have h:=SH.exAdd (h.drop.fr (.c r0 (.c r3 (.c r0 (.c r0 (.c r0 .n))))))
 refine ⟨rfl,SH.wi ⟨twp,twc,p4,c5⟩ ?_⟩
 unfold wldL; dsimp only; rw [List.length_append,List.length_singleton]
 exact h.fr (.c r2 (.c r2 (.c r2 .n)))
 have hd6 : x.e.done=true:=by simpa using hd1
 refine go h fun w h=>?_
 refine j000 (result_any _ _ _ h.to) fun w h=>?_
 refine jA h fun b7 w h=>?_
 refine qg h (fun hd8 w h=>?_) fun hd8 w h=>?_
 have hg9:=of_decide_eq_true hd8
 refine go h fun w h=>?_
 refine qc h (fun hd10 w h=>?_) fun hd10 w h=>?_
 have hg11:=of_decide_eq_true hd10
 refine go h fun w h=>?_
 refine drG (F:=[bl b ([.pointer (some ⟨mb,0,none⟩),.int .u64 ((mask : Nat) : Int),.slice twp ts.length twc,.slice xwp zs.length xwc]) 32,bl b7 (resV x.e.result) 43]) [(true,[1,3,5,7,9,11,13,14,16,19,21]),(false,[22])] (by kernel_rfl) h (fun w h=>(hC (h.at_ a2) (hC (h.at_ a0) hN))) fun w h=>go h fun w h=>?_
 refine tk (fun W H=>ldr (cs:=[.int .i64 x.e.result.trie.root,.bool x.e.result.trie.readOnly]) rfl (rows_of (H.b a1) 6 rfl) Row.h)<|go h fun w h=>?_
 refine ff (bu [.int .i64 x.e.result.trie.root,.bool x.e.result.trie.readOnly] h Slc.h Ss.h rfl (by kernel_rfl) rfl (by decide) (by decide)) ?_
 rintro _ w ⟨b12,rfl,h⟩
 refine gz h fun w h=>?_
 refine ff (ap h sl_29 rfl ss_35 rfl (by decide) rfl rfl (fun _=>u4) (h.ro a0) (by simp [Value.oneCell']) rfl (join_rows (enc:=trieC) _ x.e.result.trie) (by unfold maxLen; omega) (by omega))<|?_
 rintro _ w ⟨p13,c14,rfl,h⟩
 refine ⟨(hC (h.at_ a3) (hC (h.at_ a1) hN)),?_⟩
 refine tk (fun W H=>nc rfl rfl)<|tk (fun W H=>fa fo_32_2 rfl)<|xgF<|?_
 refine ff (so h rfl rfl rfl sz_29 rfl (.s (.s (.r .d))) u3)<|?_
 rintro _ w h
 refine ⟨trivial,?_⟩
 refine xz<|?_
 refine go h fun w h=>?_
 refine rn (res0 rfl) ?_
 rw [show keepZ zs xb x.e=zs from if_pos hd6,show keepT ts x.e=ts ++ [x.e.result.trie] from if_pos ⟨hd6,by omega,by omega⟩]
 have h:=SH.exDrop (h.drop.drop.fr (.c r0 (.c r3 (.c r0 (.c r0 (.c r0 .n))))))
 refine ⟨rfl,SH.wi ⟨p13,c14,xwp,xwc⟩ ?_⟩
 unfold wldL; dsimp only; rw [List.length_append,List.length_singleton]
 exact h.to.fr (.c r2 (.c r2 (.c r2 .n)))
 have hg15:=of_decide_eq_false hd10
 refine go h fun w h=>?_
 refine rn (res0 rfl) ?_
 rw [show keepZ zs xb x.e=zs from if_pos hd6,show keepT ts x.e=ts from if_neg (fun hz=>by have:=hz.2; omega)]
 have h:=SH.exDrop (h.drop.fr (.c r0 (.c r3 (.c r0 (.c r0 (.c r0 .n))))))
 refine ⟨rfl,SH.wi ⟨twp,twc,xwp,xwc⟩ ?_⟩
 exact h.to.fr (.c r2 (.c r2 (.c r2 .n)))
 have hg16:=of_decide_eq_false hd8
 refine go h fun w h=>?_
 refine rn (res0 rfl) ?_
 rw [show keepZ zs xb x.e=zs from if_pos hd6,show keepT ts x.e=ts from if_neg (fun hz=>by have:=hz.2; omega)]
 have h:=SH.exDrop (h.drop.fr (.c r0 (.c r3 (.c r0 (.c r0 (.c r0 .n))))))
 refine ⟨rfl,SH.wi ⟨twp,twc,xwp,xwc⟩ ?_⟩
 exact h.to.fr (.c r2 (.c r2 (.c r2 .n)))
end Go.Proofs.YtmliojdkmfhmmaaGreat
end
section
namespace Go.Proofs.YtmliojdkmfhmmaaGreat
attribute [local irreducible] Go.E.wpL Go.E.wpS Go.E.X Go.E.XS Go.E.C Go.E.thn Go.E.blk Go.E.fin Go.E.Y Go.E.U Go.E.F Go.E.Ca Go.E.Res Go.E.bl Go.E.rb Go.E.osl Go.E.rsl Go.E.ex Go.E.ce Go.E.pu Go.E.sK Go.E.gK Go.E.bK Go.E.zK Go.E.boxA Go.E.cloA Go.E.codeA
open Go.RowKit Go.E
variable {B w : World} {L : List As}
theorem wrun_any (b mb mask k n : Nat) (s : Ct.St) (ts : List Ct.Trie) (zs : List (Nat × Ct.Ex)) (g : Ct.Ga) (c : Ct.Call) (h : SH B w (wldA b mb mask ts zs::exsA mb zs::memA mb s::L)) (hW : Ct.Wld k g s ts zs) (hk : k≤40) (hc : Ct.CallOk g c) (hm : c.mask<18446744073709551616) (hky : c.key.size≤9223372036854775807) (hn : n≤1048576) :
  Calls Tryz.prog 47 #[.pointer (some ⟨b,0,none⟩),.agg [.int .i64 c.kind,.int .i64 c.trie.root,.bool c.trie.readOnly,.int .i64 c.a,.int .i64 c.b,.int .i64 c.n,.int .i64 c.index,.int .u64 ((c.hash : Nat) : Int),.int .u64 ((c.mask : Nat) : Int),.string c.key,.int .u64 ((c.value : Nat) : Int),.int .u64 ((c.expect : Nat) : Int),.int .i64 c.policy,.bool c.only,.bool c.walk.started,.slice none 0 0,.slice none 0 0,.int .i64 c.answer.err,.bool c.answer.found,.int .u64 ((c.answer.value : Nat) : Int),.string c.answer.key,.int .i64 c.answer.count,.int .i64 c.answer.ref,.int .i64 c.answer.trie.root,.bool c.answer.trie.readOnly].toArray,.int .i64 ((n : Nat) : Int)] w fun e w'=>∃ g' s' ts' zs',Ct.Wld (k+1) g' s' ts' zs'∧e=.returned (.tuple #[])∧SH B w' (wldA b mb mask ts' zs'::exsA mb zs'::memA mb s'::L):=by
 have hroom : s.size≤Ct.room:=by have:=hW.size; unfold Ct.room; omega
 obtain ⟨⟨twp,twc,xwp,xwc⟩,h⟩:=h.wo
 have h : SH B w (bl b ([.pointer (some ⟨mb,0,none⟩),.int .u64 ((mask : Nat) : Int),.slice twp ts.length twc,.slice xwp zs.length xwc]) 32::osl 35 2 (.slice twp ts.length twc) ts.length (ts.flatMap trieC)::osl 53 1 (.slice xwp zs.length xwc) zs.length (zs.flatMap pxC)::exsA mb zs::memA mb s::L):=h
 refine bn0 Tryz.func47 Tryz.ntmps47 h fun w h=>?_
 refine jX h fun b1 w h=>?_
 refine drH [1,3,5,7,9,10,12] (by kernel_rfl) h (.c r1 (.c r0 .n)) fun w h=>go h fun w h=>?_
 refine s101 (start_any _ _ c _ h.to (Ct.start_ready hW.fit hroom).1 (Ct.start_ready hW.fit hroom).2 (by decide) hm hky hc.lo hc.hi) fun xb2 w h k=>?_
 have hl:=Ct.Lone.start hW.gw hW.typ hW.fit hc hm hky k
 refine go h fun w h=>?_
 refine lp (α:=Ct.X × Nat) (fun ρ=>(.c 0 (.pointer (some ⟨b,0,none⟩)) (.c 2 (.int .i64 ((n : Nat) : Int)) (.c 6 (.pointer (some ⟨xb2,0,none⟩)) (.c 7 (.int .i64 ((ρ.2 : Nat) : Int)) .n))))) (fun ρ w=>SH B w (XA xb2 mb ρ.1::bl b1 ([.int .i64 c.kind,.int .i64 c.trie.root,.bool c.trie.readOnly,.int .i64 c.a,.int .i64 c.b,.int .i64 c.n,.int .i64 c.index,.int .u64 ((c.hash : Nat) : Int),.int .u64 ((c.mask : Nat) : Int),.string c.key,.int .u64 ((c.value : Nat) : Int),.int .u64 ((c.expect : Nat) : Int),.int .i64 c.policy,.bool c.only,.bool c.walk.started,.slice none 0 0,.slice none 0 0,.int .i64 c.answer.err,.bool c.answer.found,.int .u64 ((c.answer.value : Nat) : Int),.string c.answer.key,.int .i64 c.answer.count,.int .i64 c.answer.ref,.int .i64 c.answer.trie.root,.bool c.answer.trie.readOnly]) 45::bl b ([.pointer (some ⟨mb,0,none⟩),.int .u64 ((mask : Nat) : Int),.slice twp ts.length twc,.slice xwp zs.length xwc]) 32::osl 35 2 (.slice twp ts.length twc) ts.length (ts.flatMap trieC)::osl 53 1 (.slice xwp zs.length xwc) zs.length (zs.flatMap pxC)::exsA mb zs::L)∧(Ct.Lone g s.size ρ.2 ρ.1)∧(ρ.2≤n)) (fun ρ=>n - ρ.2) ((Ct.stepX (Ct.callI c Ct.FU) 0 (⟨{ call:=c },s⟩ : Ct.X)),0) ⟨rfl,rfl,rfl,rfl,trivial⟩ ⟨h,hl,(Nat.zero_le _)⟩ ?_
 rintro ⟨y,i⟩ w ⟨h,hl,hi⟩
 dsimp only at *
 refine go h fun w h=>?_
 refine j000 (done_any _ _ _ h.to) fun w h=>?_
 refine qg h (fun hd3 w h=>?_) fun hd3 w h=>?_
 ·have hd4 : y.e.done=false:=by simpa using hd3
  refine go h fun w h=>?_
  refine qc h (fun hd5 w h=>?_) fun hd5 w h=>?_
  ·have hg6:=of_decide_eq_true hd5
   refine go h fun w h=>?_
   have hrd : s.size+199 * i+120≤Ct.room:=by have:=hW.size; unfold Ct.room; omega
   refine go h fun w h=>?_
   refine j001 (step_n _ _ _ _ h.to hd4 (hl.ready hrd).1 (hl.ready hrd).2 (by decide) hl.call.1 hl.call.2.1 hl.call.2.2.1 hl.call.2.2.2) fun w h k=>?_
   exact ⟨((Ct.stepX (Ct.callI y.e.call Ct.FU) 1 y),(i+1)),⟨rfl,rfl,rfl,rfl,trivial⟩,⟨h,(hl.step hd4 (by unfold Ct.most; omega) k),by (try dsimp only); omega⟩,by (try dsimp only); omega⟩
  ·have hg7:=of_decide_eq_false hd5
   refine go h fun w h=>?_
   have h:=h.fr (.c r2 (.c r2 (.c r2 .n)))
   have h : SH B w (wldA b mb mask ts zs::XA xb2 mb y::bl b1 ([.int .i64 c.kind,.int .i64 c.trie.root,.bool c.trie.readOnly,.int .i64 c.a,.int .i64 c.b,.int .i64 c.n,.int .i64 c.index,.int .u64 ((c.hash : Nat) : Int),.int .u64 ((c.mask : Nat) : Int),.string c.key,.int .u64 ((c.value : Nat) : Int),.int .u64 ((c.expect : Nat) : Int),.int .i64 c.policy,.bool c.only,.bool c.walk.started,.slice none 0 0,.slice none 0 0,.int .i64 c.answer.err,.bool c.answer.found,.int .u64 ((c.answer.value : Nat) : Int),.string c.answer.key,.int .i64 c.answer.count,.int .i64 c.answer.ref,.int .i64 c.answer.trie.root,.bool c.answer.trie.readOnly]) 45::exsA mb zs::L):=SH.wi ⟨twp,twc,xwp,xwc⟩ h
   refine go h fun w h=>?_
   refine j000 (keep_any b mb xb2 mask ts zs y h.to hW.five (by have:=hW.few; omega)) fun w h=>?_
   refine rn (res0 rfl) ?_
   obtain ⟨g',hW'⟩:=hW.keep (b:=xb2) hl (by omega)
   exact ⟨g',_,_,_,hW',rfl,h.to⟩
 ·have hd8 : y.e.done=true:=by simpa using hd3
  refine go h fun w h=>?_
  have h:=h.fr (.c r2 (.c r2 (.c r2 .n)))
  have h : SH B w (wldA b mb mask ts zs::XA xb2 mb y::bl b1 ([.int .i64 c.kind,.int .i64 c.trie.root,.bool c.trie.readOnly,.int .i64 c.a,.int .i64 c.b,.int .i64 c.n,.int .i64 c.index,.int .u64 ((c.hash : Nat) : Int),.int .u64 ((c.mask : Nat) : Int),.string c.key,.int .u64 ((c.value : Nat) : Int),.int .u64 ((c.expect : Nat) : Int),.int .i64 c.policy,.bool c.only,.bool c.walk.started,.slice none 0 0,.slice none 0 0,.int .i64 c.answer.err,.bool c.answer.found,.int .u64 ((c.answer.value : Nat) : Int),.string c.answer.key,.int .i64 c.answer.count,.int .i64 c.answer.ref,.int .i64 c.answer.trie.root,.bool c.answer.trie.readOnly]) 45::exsA mb zs::L):=SH.wi ⟨twp,twc,xwp,xwc⟩ h
  refine go h fun w h=>?_
  refine j000 (keep_any b mb xb2 mask ts zs y h.to hW.five (by have:=hW.few; omega)) fun w h=>?_
  refine rn (res0 rfl) ?_
  obtain ⟨g',hW'⟩:=hW.keep (b:=xb2) hl (by omega)
  exact ⟨g',_,_,_,hW',rfl,h.to⟩
end Go.Proofs.YtmliojdkmfhmmaaGreat
end
