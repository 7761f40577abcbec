/- Parts of a proof: Q3. -/
import Derived.Test.YtmliojdkmfhmmaaGreatW09
import Derived.Test.YtmliojdkmfhmmaaGreatW32
import Derived.Test.YtmliojdkmfhmmaaGreatW20
import Derived.Test.YtmliojdkmfhmmaaGreatW24
import Derived.Test.YtmliojdkmfhmmaaGreatW04
import Derived.Test.YtmliojdkmfhmmaaGreatW33
import Derived.Test.YtmliojdkmfhmmaaGreatW16
set_option linter.unusedVariables false
set_option linter.unusedSimpArgs false
set_option maxRecDepth 100000
set_option maxHeartbeats 4000000
section
namespace Go.Proofs.YtmliojdkmfhmmaaGreat
attribute [local irreducible] Go.E.wpL Go.E.wpS Go.E.X Go.E.XS Go.E.C Go.E.thn Go.E.blk Go.E.fin Go.E.Y Go.E.U Go.E.F Go.E.Ca Go.E.Res Go.E.bl Go.E.rb Go.E.osl Go.E.rsl Go.E.ex Go.E.ce Go.E.pu Go.E.sK Go.E.gK Go.E.bK Go.E.zK
open Go.RowKit Go.E Go.Ct
variable {B w : World} {L : List As}
theorem rpair_any (i a j b : Int) (h : SH B w (L)) :
  Calls Tryz.prog 313 #[.int .i64 i,.int .i64 a,.int .i64 j,.int .i64 b] w fun e w'=>∃ q,e=.returned (.agg (nodeC (bpair i a j b) q).toArray)∧SH B w' (nodeR (bpair i a j b) q::L):=by
 have hw1:=Bm.withE_lt 0 i (by decide)
 have hw2:=Bm.withE_lt _ j hw1
 refine bn0 Tryz.func313 Tryz.ntmps313 h fun w h=>?_
 refine jA h fun b1 w h=>?_
 refine cl (ca en_285 rfl) ((rwith_any 0 i _ (by omega)).mono ?_)
 rintro _ _ ⟨rfl,rfl⟩
 refine ⟨_,rfl,?_⟩
 refine st (mv rfl)<|?_
 refine go h fun w h=>?_
 refine cl (ca en_285 rfl) ((rwith_any (Bm.withE 0 i) j _ (by omega)).mono ?_)
 rintro _ _ ⟨rfl,rfl⟩
 refine ⟨_,rfl,?_⟩
 refine st (mv rfl)<|st (mv rfl)<|?_
 refine go h fun w h=>?_
 refine sf (bu [.int .i64 a,.int .i64 b] h Slc.h Ss.h rfl (by kernel_rfl) rfl (by decide) (by decide)) ?_
 rintro _ w ⟨b2,rfl,h⟩
 refine go h fun w h=>?_
 refine jA h fun b3 w h=>?_
 refine qc h (fun hd4 w h=>?_) fun hd4 w h=>?_
 have hg5:=of_decide_eq_true hd4
 refine go h fun w h=>?_
 refine sf (bu [.int .i64 b,.int .i64 a] h Slc.h Ss.h rfl (by kernel_rfl) rfl (by decide) (by decide)) ?_
 rintro _ w ⟨b6,rfl,h⟩
 refine go h fun w h=>?_
 refine rr (resC rfl rfl (h.b a3) Row.h) ?_
 have e1 : bpair i a j b={ kind:=3,bitmap:=Bm.withE (Bm.withE 0 i) j,branches:=[b,a] }:=by unfold bpair; rw [if_pos (of_decide_eq_true hd4)]
 have h:=((h.fr (.c r1 (.c r1 (.c r1 .n)))).drop.drop.drop).fz
 rw [e1]; exact ⟨⟨some ⟨b6,0,none⟩,2,none,0⟩,rfl,SH.ofB (m:={ kind:=3,bitmap:=Bm.withE (Bm.withE 0 i) j,branches:=[b,a] }) h rfl⟩
 have hg7:=of_decide_eq_false hd4
 refine go h fun w h=>?_
 refine rr (resC rfl rfl (h.b a2) Row.h) ?_
 have e1 : bpair i a j b={ kind:=3,bitmap:=Bm.withE (Bm.withE 0 i) j,branches:=[a,b] }:=by unfold bpair; rw [if_neg (of_decide_eq_false hd4)]
 have h:=((h.fr (.c r0 (.c r1 .n))).drop.drop).fz
 rw [e1]; exact ⟨⟨some ⟨b2,0,none⟩,2,none,0⟩,rfl,SH.ofB (m:={ kind:=3,bitmap:=Bm.withE (Bm.withE 0 i) j,branches:=[a,b] }) h rfl⟩
theorem rnodes_any (x : Ct.Node) (q : Lq) (at_ : Int) (ha : Nat) (key : ByteArray) (v : Nat) (level gen first : Int) (h : SH B w (nodeR x q::L)) (hh : ha<18446744073709551616) (hx : x.hash<18446744073709551616) (hne : keyEq x.key key=false) (hl : 0≤level) (hl2 : level≤1000000000000) (hf : 1≤first) (hf2 : first≤1000000000000) :
  Calls Tryz.prog 288 #[.agg (nodeC x q).toArray,.int .i64 at_,.int .u64 ((ha : Nat) : Int),.string key,.int .u64 ((v : Nat) : Int),.int .i64 level,.int .i64 gen,.int .i64 first] w fun e w'=>∃ zs p cc p2 c2,zs.map Prod.fst=(dualNodes x at_ ha key v level gen first).map Prod.fst∧e=.returned (.tuple #[.slice p zs.length cc,.slice p2 zs.length c2])∧SH B w' (osl 77 14 (.slice p zs.length cc) zs.length (zs.flatMap nodeP)::osl 36 1 (.slice p2 zs.length c2) zs.length (((dualNodes x at_ ha key v level gen first).map Prod.snd).map (Value.int .i64))::nodesF zs::nodeR x q::L):=by
 have hcm:=common_le x.hash ha
 refine bn0 Tryz.func288 Tryz.ntmps288 h fun w h=>?_
 refine jX h fun b1 w h=>?_
 refine cl (ca en_311 rfl) ((rcommon_any x.hash ha _ (by omega) (by omega)).mono ?_)
 rintro _ _ ⟨rfl,rfl⟩
 refine ⟨_,rfl,?_⟩
 refine st (sg rfl)<|xe<|nx<|sq<|sq<|rg<|st (mv rfl)<|st (bi rfl rfl rfl)<|xe<|nx<|?_
 refine go h fun w h=>?_
 refine qc h (fun hd2 w h=>?_) fun hd2 w h=>?_
 ·have hg3:=of_decide_eq_true hd2
  refine go h fun w h=>?_
  refine sf (bu [.string x.key,.int .u64 ((x.value : Nat) : Int),.string key,.int .u64 ((v : Nat) : Int)] h Slc.h Ss.h rfl (by kernel_rfl) rfl (by decide) (by decide)) ?_
  rintro _ w ⟨b4,rfl,h⟩
  refine go h fun w h=>?_
  refine j200 (rof_l [⟨x.key,x.value⟩,⟨key,v⟩] (some ⟨b4,0,none⟩) 2 (SH.fz h.to) (by simp)) fun q5 c6 w h=>?_
  have h:=(h.fr (.c r1 .n)).drop
  refine go h fun w h=>?_
  refine sf (bu [.int .i64 6,.int .i64 0,.int .i64 0,.int .u64 0,.slice none 0 0,.int .u64 ((ha : Nat) : Int),.string .empty,.int .u64 0,.slice q5 (Ct.pofF [⟨x.key,x.value⟩,⟨key,v⟩]).length c6,.int .i64 0,.int .i64 0,.int .i64 0,.int .i64 0,.int .i64 0] h Slc.h Ss.h rfl (by kernel_rfl) rfl (by decide) (by decide)) ?_
  rintro _ w ⟨b7,rfl,h⟩
  refine go h fun w h=>?_
  refine sf (bu [.int .i64 0] h Slc.h Ss.h rfl (by kernel_rfl) rfl (by decide) (by decide)) ?_
  rintro _ w ⟨b8,rfl,h⟩
  refine go h fun w h=>?_
  refine st (bs 10)<|go h fun w h=>?_
  have hds : (dualStart x at_ ha key v first)=(11,[({ kind:=6,hash:=ha,pairs:=pof2 ⟨x.key,x.value⟩ ⟨key,v⟩ },0)]):=by unfold dualStart; rw [if_pos (by omega)]
  rw [pofF_two hne] at h
  have h:=(h.fr (.c r2 (.c r1 (.c r0 (.c r1 (.c r0 .n))))))
  have h:=((SH.ofP (m:={ kind:=6,hash:=ha,pairs:=pof2 ⟨x.key,x.value⟩ ⟨key,v⟩ }) h rfl).nilF.fr (.c r1 .n)).addR
  have hdc : (dualStart x at_ ha key v first).1=11:=by rw [hds]
  have hdl : (dualStart x at_ ha key v first).2.length=1:=by rw [hds]; rfl
  have hd1 : (dualStart x at_ ha key v first).2.map Prod.fst=([({ kind:=6,hash:=ha,pairs:=pof2 ⟨x.key,x.value⟩ ⟨key,v⟩ },⟨none,0,q5,c6⟩)] : List (Ct.Node × Lq)).map Prod.fst:=by rw [hds]; rfl
  have hd2 : [0]=(dualStart x at_ ha key v first).2.map Prod.snd:=by rw [hds]; rfl
  have h : SH B w (nodesF ([({ kind:=6,hash:=ha,pairs:=pof2 ⟨x.key,x.value⟩ ⟨key,v⟩ },⟨none,0,q5,c6⟩)])::osl 77 14 (.slice (some ⟨b7,0,none⟩) 1 1) 1 (([({ kind:=6,hash:=ha,pairs:=pof2 ⟨x.key,x.value⟩ ⟨key,v⟩ },⟨none,0,q5,c6⟩)]).flatMap nodeP)::osl 36 1 (.slice (some ⟨b8,0,none⟩) 1 1) 1 ([0].map (Value.int .i64))::nodeR x q::bl b1 (nodeC x q) 77::L):=h
  refine lp (α:=Nat × List (Ct.Node × Lq) × List Int × Nat × Option Addr × Nat × Option Addr × Nat × Int) (fun ρ=>(.c 2 (.int .u64 ((ha : Nat) : Int)) (.c 5 (.int .i64 level) (.c 6 (.int .i64 gen) (.c 7 (.int .i64 first) (.c 16 (.slice ρ.2.2.2.2.1 ρ.2.2.2.1 ρ.2.2.2.2.2.1) (.c 17 (.slice ρ.2.2.2.2.2.2.1 ρ.2.2.2.1 ρ.2.2.2.2.2.2.2.1) (.c 20 (.int .i64 ρ.2.2.2.2.2.2.2.2) .n)))))))) (fun ρ w=>SH B w (nodesF ρ.2.1::osl 77 14 (.slice ρ.2.2.2.2.1 ρ.2.2.2.1 ρ.2.2.2.2.2.1) ρ.2.2.2.1 (ρ.2.1.flatMap nodeP)::osl 36 1 (.slice ρ.2.2.2.2.2.2.1 ρ.2.2.2.1 ρ.2.2.2.2.2.2.2.1) ρ.2.2.2.1 (ρ.2.2.1.map (Value.int .i64))::nodeR x q::bl b1 (nodeC x q) 77::L)∧(ρ.2.1.map Prod.fst=(dualUp ha gen first (((dualStart x at_ ha key v first).1 : Nat) : Int) ρ.1 (dualStart x at_ ha key v first).2).map Prod.fst)∧(ρ.2.2.1=(dualUp ha gen first (((dualStart x at_ ha key v first).1 : Nat) : Int) ρ.1 (dualStart x at_ ha key v first).2).map Prod.snd)∧(ρ.2.1.length=ρ.2.2.2.1)∧(ρ.2.2.2.1=(dualStart x at_ ha key v first).2.length+2 * ρ.1)∧(ρ.2.2.2.2.2.2.2.2=(((dualStart x at_ ha key v first).1 : Nat) : Int) - 1 - ((ρ.1 : Nat) : Int))∧(ρ.1≤11∧((ρ.1 : Nat) : Int)≤((((((dualStart x at_ ha key v first).1 : Nat) : Int) - level).toNat : Nat) : Int))) (fun ρ=>12 - ρ.1) (0,[({ kind:=6,hash:=ha,pairs:=pof2 ⟨x.key,x.value⟩ ⟨key,v⟩ },⟨none,0,q5,c6⟩)],[0],1,some ⟨b7,0,none⟩,1,some ⟨b8,0,none⟩,1,10) ⟨rfl,rfl,rfl,rfl,rfl,rfl,rfl,trivial⟩ ⟨h,hd1.symm,hd2,rfl,hdl.symm,by (try dsimp only); rw [hdc]; omega,⟨by (try dsimp only); omega,by (try dsimp only); omega⟩⟩ ?_
  rintro ⟨j,zs,is,m,p,cc,p2,c2,kk⟩ w ⟨h,hz,hi,hm,hml,hkk,hj⟩
  dsimp only at *
  refine go h fun w h=>?_
  refine qc h (fun hd9 w h=>?_) fun hd9 w h=>?_
  ·have hg10:=of_decide_eq_true hd9
   refine go h fun w h=>?_
   refine st (ba (first+((m : Nat) : Int)))<|st (bs (first+((m : Nat) : Int) - 1))<|go h fun w h=>?_
   refine cl (ca en_181 rfl) ((rslice_any ha kk _ (by omega)).mono ?_)
   rintro _ _ ⟨rfl,rfl⟩
   refine ⟨_,rfl,?_⟩
   refine st (sg rfl)<|xe<|nx<|sq<|rg<|st (mv rfl)<|st (mv rfl)<|st (bd [.int .i64 2,.int .i64 gen,.int .i64 0,.int .u64 0,.slice none 0 0,.int .u64 0,.string .empty,.int .u64 0,.slice none 0 0,.int .i64 0,.int .i64 0,.int .i64 0,.int .i64 0,.int .i64 0] bd_77 rfl (by kernel_rfl))<|st (mv rfl)<|?_
   refine go h fun w h=>?_
   refine cl (ca en_285 rfl) ((rwith_any 0 (Ct.slice ha kk) _ (by omega)).mono ?_)
   rintro _ _ ⟨rfl,rfl⟩
   refine ⟨_,rfl,?_⟩
   refine st (mv rfl)<|?_
   refine go h fun w h=>?_
   refine st (ba (first+((m : Nat) : Int) - 1+1))<|go h fun w h=>?_
   refine sf (bu [.int .i64 (first+((m : Nat) : Int) - 1+1)] h Slc.h Ss.h rfl (by kernel_rfl) rfl (by decide) (by decide)) ?_
   rintro _ w ⟨b11,rfl,h⟩
   refine go h fun w h=>?_
   refine sf (bu [.int .i64 2,.int .i64 gen,.int .i64 0,.int .u64 0,.slice none 0 0,.int .u64 0,.string .empty,.int .u64 0,.slice none 0 0,.int .i64 0,.int .i64 0,.int .i64 0,.int .i64 0,.int .i64 0,.int .i64 3,.int .i64 0,.int .i64 0,.int .u64 ((Bm.withE 0 (Ct.slice ha kk) : Nat) : Int),.slice (some ⟨b11,0,none⟩) 1 1,.int .u64 0,.string .empty,.int .u64 0,.slice none 0 0,.int .i64 0,.int .i64 0,.int .i64 0,.int .i64 0,.int .i64 0] h Slc.h Ss.h rfl (by kernel_rfl) rfl (by decide) (by decide)) ?_
   rintro _ w ⟨b12,rfl,h⟩
   refine go h fun w h=>?_
   refine sf (ap h Slc.h rfl Ss.h rfl (by decide) rfl rfl (fun _=>u3) (h.ro a0) (by simp [Value.oneCell']) rfl (show _=(zs ++ [({ kind:=2,gen:=gen },⟨none,0,none,0⟩),({ kind:=3,bitmap:=Bm.withE 0 (slice ha kk),branches:=[first+((m : Nat) : Int) - 1+1] },⟨some ⟨b11,0,none⟩,1,none,0⟩)] : List (Ct.Node × Lq)).flatMap nodeP by rw [List.flatMap_append]; rfl) (by unfold maxLen; omega) (by omega)) ?_
   rintro _ w ⟨p13,c14,rfl,h⟩
   refine go h fun w h=>?_
   refine sf (bu [.int .i64 (first+((m : Nat) : Int) - 1),.int .i64 0] h Slc.h Ss.h rfl (by kernel_rfl) rfl (by decide) (by decide)) ?_
   rintro _ w ⟨b15,rfl,h⟩
   refine go h fun w h=>?_
   refine sf (ap h Slc.h rfl Ss.h rfl (by decide) rfl rfl (fun _=>u5) (h.ro a0) (by simp [Value.oneCell']) rfl (show _=(is ++ [first+((m : Nat) : Int) - 1,0] : List Int).map (Value.int .i64) by rw [List.map_append]; rfl) (by unfold maxLen; omega) (by omega)) ?_
   rintro _ w ⟨p16,c17,rfl,h⟩
   refine go h fun w h=>?_
   refine st (bs (kk - 1))<|go h fun w h=>?_
   have h:=h.drop.drop
   have h:=SH.nilN ({ kind:=2,gen:=gen }) rfl rfl (SH.ofB (m:={ kind:=3,bitmap:=Bm.withE 0 (slice ha (kk)),branches:=[first+((m : Nat) : Int) - 1+1] }) h.fz rfl)
   have h:=h.addR2
   have hlen : (dualUp ha gen first (((dualStart x at_ ha key v first).1 : Nat) : Int) j (dualStart x at_ ha key v first).2).length=m:=by have:=congrArg List.length hz; rw [List.length_map,List.length_map] at this; omega
   have hsn:=dualUp_snoc ha gen first j (((dualStart x at_ ha key v first).1 : Nat) : Int) (dualStart x at_ ha key v first).2
   rw [hlen,show (((dualStart x at_ ha key v first).1 : Nat) : Int) - ((j : Nat) : Int) - 1=kk by omega] at hsn
   exact ⟨(j+1,zs ++ [({ kind:=2,gen:=gen },⟨none,0,none,0⟩),({ kind:=3,bitmap:=Bm.withE 0 (slice ha (kk)),branches:=[first+((m : Nat) : Int) - 1+1] },⟨some ⟨b11,0,none⟩,1,none,0⟩)],is ++ [first+((m : Nat) : Int) - 1,0],m+2,p13,c14,p16,c17,kk - 1),⟨rfl,rfl,rfl,rfl,rfl,rfl,rfl,trivial⟩,⟨h,by (try dsimp only); rw [List.map_append,hz,hsn,List.map_append]; rfl,by (try dsimp only); rw [hi,hsn,List.map_append]; rfl,by (try dsimp only); rw [List.length_append,hm]; rfl,by (try dsimp only); omega,by (try dsimp only); omega,⟨by (try dsimp only); omega,by (try dsimp only); omega⟩⟩,by (try dsimp only); omega⟩
  ·have hg18:=of_decide_eq_false hd9
   refine go h fun w h=>?_
   refine rr (res2 rfl rfl rfl) ?_
   obtain rfl : j=((((dualStart x at_ ha key v first).1 : Nat) : Int) - level).toNat:=by omega
   rw [← dualNodes_start] at hz hi
   subst hm; subst hi
   exact ⟨zs,p,cc,p2,c2,hz,rfl,(h.to.fr (.c r1 (.c r1 (.c r0 (.c r0 .n)))))⟩
 ·have hg19:=of_decide_eq_false hd2
  refine go h fun w h=>?_
  refine cl (ca en_181 rfl) ((rslice_any x.hash ((Ct.commonOf x.hash ha : Nat) : Int) _ (by omega)).mono ?_)
  rintro _ _ ⟨rfl,rfl⟩
  refine ⟨_,rfl,?_⟩
  refine st (mv rfl)<|st (mv rfl)<|st (mv rfl)<|?_
  refine go h fun w h=>?_
  refine cl (ca en_181 rfl) ((rslice_any ha ((Ct.commonOf x.hash ha : Nat) : Int) _ (by omega)).mono ?_)
  rintro _ _ ⟨rfl,rfl⟩
  refine ⟨_,rfl,?_⟩
  refine st (mv rfl)<|?_
  refine go h fun w h=>?_
  refine j100 (rpair_any (Ct.slice x.hash ((Ct.commonOf x.hash ha : Nat) : Int)) at_ (Ct.slice ha ((Ct.commonOf x.hash ha : Nat) : Int)) first h.to) fun q20 w h=>?_
  refine sf (bu [.int .i64 4,.int .i64 0,.int .i64 0,.int .u64 0,.slice none 0 0,.int .u64 ((ha : Nat) : Int),.string key,.int .u64 ((v : Nat) : Int),.slice none 0 0,.int .i64 0,.int .i64 0,.int .i64 0,.int .i64 0,.int .i64 0,.int .i64 (bpair (Ct.slice x.hash ((Ct.commonOf x.hash ha : Nat) : Int)) at_ (Ct.slice ha ((Ct.commonOf x.hash ha : Nat) : Int)) first).kind,.int .i64 (bpair (Ct.slice x.hash ((Ct.commonOf x.hash ha : Nat) : Int)) at_ (Ct.slice ha ((Ct.commonOf x.hash ha : Nat) : Int)) first).gen,.int .i64 (bpair (Ct.slice x.hash ((Ct.commonOf x.hash ha : Nat) : Int)) at_ (Ct.slice ha ((Ct.commonOf x.hash ha : Nat) : Int)) first).main,.int .u64 (((bpair (Ct.slice x.hash ((Ct.commonOf x.hash ha : Nat) : Int)) at_ (Ct.slice ha ((Ct.commonOf x.hash ha : Nat) : Int)) first).bitmap : Nat) : Int),.slice q20.pb (bpair (Ct.slice x.hash ((Ct.commonOf x.hash ha : Nat) : Int)) at_ (Ct.slice ha ((Ct.commonOf x.hash ha : Nat) : Int)) first).branches.length q20.cb,.int .u64 (((bpair (Ct.slice x.hash ((Ct.commonOf x.hash ha : Nat) : Int)) at_ (Ct.slice ha ((Ct.commonOf x.hash ha : Nat) : Int)) first).hash : Nat) : Int),.string (bpair (Ct.slice x.hash ((Ct.commonOf x.hash ha : Nat) : Int)) at_ (Ct.slice ha ((Ct.commonOf x.hash ha : Nat) : Int)) first).key,.int .u64 (((bpair (Ct.slice x.hash ((Ct.commonOf x.hash ha : Nat) : Int)) at_ (Ct.slice ha ((Ct.commonOf x.hash ha : Nat) : Int)) first).value : Nat) : Int),.slice q20.pp (bpair (Ct.slice x.hash ((Ct.commonOf x.hash ha : Nat) : Int)) at_ (Ct.slice ha ((Ct.commonOf x.hash ha : Nat) : Int)) first).pairs.length q20.cp,.int .i64 (bpair (Ct.slice x.hash ((Ct.commonOf x.hash ha : Nat) : Int)) at_ (Ct.slice ha ((Ct.commonOf x.hash ha : Nat) : Int)) first).prev,.int .i64 (bpair (Ct.slice x.hash ((Ct.commonOf x.hash ha : Nat) : Int)) at_ (Ct.slice ha ((Ct.commonOf x.hash ha : Nat) : Int)) first).old,.int .i64 (bpair (Ct.slice x.hash ((Ct.commonOf x.hash ha : Nat) : Int)) at_ (Ct.slice ha ((Ct.commonOf x.hash ha : Nat) : Int)) first).expected,.int .i64 (bpair (Ct.slice x.hash ((Ct.commonOf x.hash ha : Nat) : Int)) at_ (Ct.slice ha ((Ct.commonOf x.hash ha : Nat) : Int)) first).new,.int .i64 (bpair (Ct.slice x.hash ((Ct.commonOf x.hash ha : Nat) : Int)) at_ (Ct.slice ha ((Ct.commonOf x.hash ha : Nat) : Int)) first).status] h Slc.h Ss.h rfl (by kernel_rfl) rfl (by decide) (by decide)) ?_
  rintro _ w ⟨b21,rfl,h⟩
  refine go h fun w h=>?_
  refine sf (bu [.int .i64 0,.int .i64 0] h Slc.h Ss.h rfl (by kernel_rfl) rfl (by decide) (by decide)) ?_
  rintro _ w ⟨b22,rfl,h⟩
  refine go h fun w h=>?_
  refine st (bs (((Ct.commonOf x.hash ha : Nat) : Int) - 1))<|go h fun w h=>?_
  have hds : (dualStart x at_ ha key v first)=(commonOf x.hash ha,[({ kind:=4,hash:=ha,key:=key,value:=v },0),(bpair (Ct.slice x.hash ((Ct.commonOf x.hash ha : Nat) : Int)) at_ (Ct.slice ha ((Ct.commonOf x.hash ha : Nat) : Int)) first,0)]):=by unfold dualStart; rw [if_neg (by omega)]
  have h:=(h.fr (.c r2 (.c r1 (.c r0 (.c r1 (.c r0 .n))))))
  have h:=((SH.nilN ({ kind:=4,hash:=ha,key:=key,value:=v }) rfl rfl h.nilF).fr (.c r0 (.c r1 .n))).addR2
  have hdc : (dualStart x at_ ha key v first).1=commonOf x.hash ha:=by rw [hds]
  have hdl : (dualStart x at_ ha key v first).2.length=2:=by rw [hds]; rfl
  have hd1 : (dualStart x at_ ha key v first).2.map Prod.fst=([({ kind:=4,hash:=ha,key:=key,value:=v },⟨none,0,none,0⟩),(bpair (Ct.slice x.hash ((Ct.commonOf x.hash ha : Nat) : Int)) at_ (Ct.slice ha ((Ct.commonOf x.hash ha : Nat) : Int)) first,q20)] : List (Ct.Node × Lq)).map Prod.fst:=by rw [hds]; rfl
  have hd2 : [0,0]=(dualStart x at_ ha key v first).2.map Prod.snd:=by rw [hds]; rfl
  have h : SH B w (nodesF ([({ kind:=4,hash:=ha,key:=key,value:=v },⟨none,0,none,0⟩),(bpair (Ct.slice x.hash ((Ct.commonOf x.hash ha : Nat) : Int)) at_ (Ct.slice ha ((Ct.commonOf x.hash ha : Nat) : Int)) first,q20)])::osl 77 14 (.slice (some ⟨b21,0,none⟩) 2 2) 2 (([({ kind:=4,hash:=ha,key:=key,value:=v },⟨none,0,none,0⟩),(bpair (Ct.slice x.hash ((Ct.commonOf x.hash ha : Nat) : Int)) at_ (Ct.slice ha ((Ct.commonOf x.hash ha : Nat) : Int)) first,q20)]).flatMap nodeP)::osl 36 1 (.slice (some ⟨b22,0,none⟩) 2 2) 2 (([0,0]).map (Value.int .i64))::nodeR x q::bl b1 (nodeC x q) 77::L):=h
  refine lp (α:=Nat × List (Ct.Node × Lq) × List Int × Nat × Option Addr × Nat × Option Addr × Nat × Int) (fun ρ=>(.c 2 (.int .u64 ((ha : Nat) : Int)) (.c 5 (.int .i64 level) (.c 6 (.int .i64 gen) (.c 7 (.int .i64 first) (.c 16 (.slice ρ.2.2.2.2.1 ρ.2.2.2.1 ρ.2.2.2.2.2.1) (.c 17 (.slice ρ.2.2.2.2.2.2.1 ρ.2.2.2.1 ρ.2.2.2.2.2.2.2.1) (.c 20 (.int .i64 ρ.2.2.2.2.2.2.2.2) .n)))))))) (fun ρ w=>SH B w (nodesF ρ.2.1::osl 77 14 (.slice ρ.2.2.2.2.1 ρ.2.2.2.1 ρ.2.2.2.2.2.1) ρ.2.2.2.1 (ρ.2.1.flatMap nodeP)::osl 36 1 (.slice ρ.2.2.2.2.2.2.1 ρ.2.2.2.1 ρ.2.2.2.2.2.2.2.1) ρ.2.2.2.1 (ρ.2.2.1.map (Value.int .i64))::nodeR x q::bl b1 (nodeC x q) 77::L)∧(ρ.2.1.map Prod.fst=(dualUp ha gen first (((dualStart x at_ ha key v first).1 : Nat) : Int) ρ.1 (dualStart x at_ ha key v first).2).map Prod.fst)∧(ρ.2.2.1=(dualUp ha gen first (((dualStart x at_ ha key v first).1 : Nat) : Int) ρ.1 (dualStart x at_ ha key v first).2).map Prod.snd)∧(ρ.2.1.length=ρ.2.2.2.1)∧(ρ.2.2.2.1=(dualStart x at_ ha key v first).2.length+2 * ρ.1)∧(ρ.2.2.2.2.2.2.2.2=(((dualStart x at_ ha key v first).1 : Nat) : Int) - 1 - ((ρ.1 : Nat) : Int))∧(ρ.1≤11∧((ρ.1 : Nat) : Int)≤((((((dualStart x at_ ha key v first).1 : Nat) : Int) - level).toNat : Nat) : Int))) (fun ρ=>12 - ρ.1) (0,[({ kind:=4,hash:=ha,key:=key,value:=v },⟨none,0,none,0⟩),(bpair (Ct.slice x.hash ((Ct.commonOf x.hash ha : Nat) : Int)) at_ (Ct.slice ha ((Ct.commonOf x.hash ha : Nat) : Int)) first,q20)],[0,0],2,some ⟨b21,0,none⟩,2,some ⟨b22,0,none⟩,2,((Ct.commonOf x.hash ha : Nat) : Int) - 1) ⟨rfl,rfl,rfl,rfl,rfl,rfl,rfl,trivial⟩ ⟨h,hd1.symm,hd2,rfl,hdl.symm,by (try dsimp only); rw [hdc]; omega,⟨by (try dsimp only); omega,by (try dsimp only); omega⟩⟩ ?_
  rintro ⟨j,zs,is,m,p,cc,p2,c2,kk⟩ w ⟨h,hz,hi,hm,hml,hkk,hj⟩
  dsimp only at *
  refine go h fun w h=>?_
  refine qc h (fun hd23 w h=>?_) fun hd23 w h=>?_
  ·have hg24:=of_decide_eq_true hd23
   refine go h fun w h=>?_
   refine st (ba (first+((m : Nat) : Int)))<|st (bs (first+((m : Nat) : Int) - 1))<|go h fun w h=>?_
   refine cl (ca en_181 rfl) ((rslice_any ha kk _ (by omega)).mono ?_)
   rintro _ _ ⟨rfl,rfl⟩
   refine ⟨_,rfl,?_⟩
   refine st (sg rfl)<|xe<|nx<|sq<|rg<|st (mv rfl)<|st (mv rfl)<|st (bd [.int .i64 2,.int .i64 gen,.int .i64 0,.int .u64 0,.slice none 0 0,.int .u64 0,.string .empty,.int .u64 0,.slice none 0 0,.int .i64 0,.int .i64 0,.int .i64 0,.int .i64 0,.int .i64 0] bd_77 rfl (by kernel_rfl))<|st (mv rfl)<|?_
   refine go h fun w h=>?_
   refine cl (ca en_285 rfl) ((rwith_any 0 (Ct.slice ha kk) _ (by omega)).mono ?_)
   rintro _ _ ⟨rfl,rfl⟩
   refine ⟨_,rfl,?_⟩
   refine st (mv rfl)<|?_
   refine go h fun w h=>?_
   refine st (ba (first+((m : Nat) : Int) - 1+1))<|go h fun w h=>?_
   refine sf (bu [.int .i64 (first+((m : Nat) : Int) - 1+1)] h Slc.h Ss.h rfl (by kernel_rfl) rfl (by decide) (by decide)) ?_
   rintro _ w ⟨b25,rfl,h⟩
   refine go h fun w h=>?_
   refine sf (bu [.int .i64 2,.int .i64 gen,.int .i64 0,.int .u64 0,.slice none 0 0,.int .u64 0,.string .empty,.int .u64 0,.slice none 0 0,.int .i64 0,.int .i64 0,.int .i64 0,.int .i64 0,.int .i64 0,.int .i64 3,.int .i64 0,.int .i64 0,.int .u64 ((Bm.withE 0 (Ct.slice ha kk) : Nat) : Int),.slice (some ⟨b25,0,none⟩) 1 1,.int .u64 0,.string .empty,.int .u64 0,.slice none 0 0,.int .i64 0,.int .i64 0,.int .i64 0,.int .i64 0,.int .i64 0] h Slc.h Ss.h rfl (by kernel_rfl) rfl (by decide) (by decide)) ?_
   rintro _ w ⟨b26,rfl,h⟩
   refine go h fun w h=>?_
   refine sf (ap h Slc.h rfl Ss.h rfl (by decide) rfl rfl (fun _=>u3) (h.ro a0) (by simp [Value.oneCell']) rfl (show _=(zs ++ [({ kind:=2,gen:=gen },⟨none,0,none,0⟩),({ kind:=3,bitmap:=Bm.withE 0 (slice ha kk),branches:=[first+((m : Nat) : Int) - 1+1] },⟨some ⟨b25,0,none⟩,1,none,0⟩)] : List (Ct.Node × Lq)).flatMap nodeP by rw [List.flatMap_append]; rfl) (by unfold maxLen; omega) (by omega)) ?_
   rintro _ w ⟨p27,c28,rfl,h⟩
   refine go h fun w h=>?_
   refine sf (bu [.int .i64 (first+((m : Nat) : Int) - 1),.int .i64 0] h Slc.h Ss.h rfl (by kernel_rfl) rfl (by decide) (by decide)) ?_
   rintro _ w ⟨b29,rfl,h⟩
   refine go h fun w h=>?_
   refine sf (ap h Slc.h rfl Ss.h rfl (by decide) rfl rfl (fun _=>u5) (h.ro a0) (by simp [Value.oneCell']) rfl (show _=(is ++ [first+((m : Nat) : Int) - 1,0] : List Int).map (Value.int .i64) by rw [List.map_append]; rfl) (by unfold maxLen; omega) (by omega)) ?_
   rintro _ w ⟨p30,c31,rfl,h⟩
   refine go h fun w h=>?_
   refine st (bs (kk - 1))<|go h fun w h=>?_
   have h:=h.drop.drop
   have h:=SH.nilN ({ kind:=2,gen:=gen }) rfl rfl (SH.ofB (m:={ kind:=3,bitmap:=Bm.withE 0 (slice ha (kk)),branches:=[first+((m : Nat) : Int) - 1+1] }) h.fz rfl)
   have h:=h.addR2
   have hlen : (dualUp ha gen first (((dualStart x at_ ha key v first).1 : Nat) : Int) j (dualStart x at_ ha key v first).2).length=m:=by have:=congrArg List.length hz; rw [List.length_map,List.length_map] at this; omega
   have hsn:=dualUp_snoc ha gen first j (((dualStart x at_ ha key v first).1 : Nat) : Int) (dualStart x at_ ha key v first).2
   rw [hlen,show (((dualStart x at_ ha key v first).1 : Nat) : Int) - ((j : Nat) : Int) - 1=kk by omega] at hsn
   exact ⟨(j+1,zs ++ [({ kind:=2,gen:=gen },⟨none,0,none,0⟩),({ kind:=3,bitmap:=Bm.withE 0 (slice ha (kk)),branches:=[first+((m : Nat) : Int) - 1+1] },⟨some ⟨b25,0,none⟩,1,none,0⟩)],is ++ [first+((m : Nat) : Int) - 1,0],m+2,p27,c28,p30,c31,kk - 1),⟨rfl,rfl,rfl,rfl,rfl,rfl,rfl,trivial⟩,⟨h,by (try dsimp only); rw [List.map_append,hz,hsn,List.map_append]; rfl,by (try dsimp only); rw [hi,hsn,List.map_append]; rfl,by (try dsimp only); rw [List.length_append,hm]; rfl,by (try dsimp only); omega,by (try dsimp only); omega,⟨by (try dsimp only); omega,by (try dsimp only); omega⟩⟩,by (try dsimp only); omega⟩
  ·have hg32:=of_decide_eq_false hd23
   refine go h fun w h=>?_
   refine rr (res2 rfl rfl rfl) ?_
   obtain rfl : j=((((dualStart x at_ ha key v first).1 : Nat) : Int) - level).toNat:=by omega
   rw [← dualNodes_start] at hz hi
   subst hm; subst hi
   exact ⟨zs,p,cc,p2,c2,hz,rfl,(h.to.fr (.c r1 (.c r1 (.c r0 (.c r0 .n)))))⟩
section
attribute [local semireducible] Go.E.wpL Go.E.wpS Go.E.X Go.E.XS Go.E.C Go.E.thn Go.E.blk Go.E.fin Go.E.Y Go.E.U Go.E.F Go.E.Ca Go.E.Res Go.E.bl Go.E.rb Go.E.osl Go.E.rsl Go.E.ex Go.E.ce Go.E.pu Go.E.sK Go.E.gK Go.E.bK Go.E.zK
attribute [local irreducible] Go.E.wpL Go.E.wpS
variable {B w : World} {L : List As}
theorem dual_any (xb mb : Nat) (x : Ct.X) (c : Ct.Call) (b : Int) (ha : Nat) (lv gen : Int) (h : SH B w (XA xb mb (Ct.X.of c x)::L)) (k : Ct.Ok 60 (Ct.X.of c x)) (hh : ha<18446744073709551616) (hky : c.key.size≤64) (hb : 1≤b) (hl : 0≤lv) (hl2 : lv≤1000000000000) (hne : Ct.keyEq ((Ct.X.of c x).node b).key c.key=false) :
  Calls Tryz.prog 265 #[.pointer (some ⟨xb,0,none⟩),.int .i64 b,.int .u64 ((ha : Nat) : Int),.int .i64 lv,.int .i64 gen] w fun e w'=>∃ y v,Ct.runI (Ct.dualI ((Ct.X.of c x).node b) b ha c.key c.value lv gen) (Ct.X.of c x)=Ct.out y v∧e=.returned (.int .i64 v)∧SH B w' (XA xb mb y::L)∧Ct.Ok 36 y:=by
 have kmade:=k.made
 have km:=k.m
 have hlen:=k.len
 refine bgn (args:=[_,_,_,_,_]) Tryz.func265 rfl Tryz.ntmps265 rfl ?_
 refine sq<|rg<|st (sg rfl)<|xe<|nx<|sq<|rg<|st (sg rfl)<|xe<|nx<|sq<|?_
 obtain ⟨pn,cn,hN⟩:=h.memN a0
 refine rg<|st (mv rfl)<|st (nc rfl rfl)<|st (fa fo_115_0 rfl)<|st (ld (v:=.pointer (some ⟨mb,0,none⟩)) one_27 rfl (h.xc a0 fun _=>rfl))<|st (nc rfl rfl)<|st (fa fo_64_0 rfl)<|st (fa fo_62_0 rfl)<|st (ld one_59 rfl (hN))<|st (ln sl_59 rfl rfl)<|st (bw rfl rfl (wadd (c:=((2+(Ct.X.of c x).s.added.length+1 : Nat) : Int)) (by omega) (by omega) (by omega)))<|st (sg rfl)<|xe<|nx<|sq<|sq<|?_
 obtain ⟨⟨pg,cg,pm,cm,pq,cq,pi,ci⟩,h⟩:=h.xo
 have h : SH B w (bl xb (exV mb (Ct.X.of c x).e ⟨pg,cg,pm,cm,pq,cq,pi,ci⟩) 115::osl 36 1 (.slice pg (Ct.X.of c x).e.got.length cg) (Ct.X.of c x).e.got.length ((Ct.X.of c x).e.got.map (Value.int .i64))::osl 36 1 (.slice pm (Ct.X.of c x).e.made.length cm) (Ct.X.of c x).e.made.length ((Ct.X.of c x).e.made.map (Value.int .i64))::osl 33 1 (.slice pq (Ct.X.of c x).e.cells.length cq) (Ct.X.of c x).e.cells.length ((Ct.X.of c x).e.cells.map (Value.int .i64))::osl 3 1 (.slice pi (Ct.X.of c x).e.gens.length ci) (Ct.X.of c x).e.gens.length ((Ct.X.of c x).e.gens.map (Value.int .i64))::memA mb (Ct.X.of c x).s::L):=h
 refine drH [1,3,5,7,9,11,13,15,17,19] (by kernel_rfl) h (.c r0 .n) fun w h=>tk (fun W H=>mv rfl)<|tk (fun W H=>nc rfl rfl)<|tk (fun W H=>fa fo_115_7 rfl)<|tk (fun W H=>ld (v:=.int .i64 (((Ct.X.of c x).e.m : Nat) : Int)) one_3 rfl (H.c a0 rfl))<|tk (fun W H=>mv rfl)<|tk (fun W H=>nc rfl rfl)<|tk (fun W H=>fa fo_115_3 rfl)<|tk (fun W H=>ld (v:=.slice pm (Ct.X.of c x).e.made.length cm) one_60 rfl (H.c a0 rfl))<|tk (fun W H=>ln sl_60 rfl rfl)<|tk (fun W H=>bi rfl rfl rfl)<|xz<|nx<|?_
 rcases Bool.eq_false_or_eq_true (decide (((((Ct.X.of c x).e.m : Nat) : Int) : Int)<(((Ct.X.of c x).e.made.length : Nat) : Int))) with hd1 | hd1
 ·have hg2:=of_decide_eq_true hd1
  refine ct rfl hd1<|?_
  obtain ⟨b3,rfl⟩:=h.fp a2 (by omega)
  refine drH [1,3,5,7,9,11,13,15,17,19,20] (by kernel_rfl) h (.c r0 (.c r1 .n)) fun w h=>tk (fun W H=>mv rfl)<|tk (fun W H=>nc rfl rfl)<|tk (fun W H=>fa fo_115_3 rfl)<|tk (fun W H=>ld (v:=.slice (some ⟨b3,0,none⟩) (Ct.X.of c x).e.made.length cm) one_60 rfl (H.c a0 rfl))<|tk (fun W H=>mv rfl)<|tk (fun W H=>nc rfl rfl)<|tk (fun W H=>fa fo_115_7 rfl)<|tk (fun W H=>ld (v:=.int .i64 (((Ct.X.of c x).e.m : Nat) : Int)) one_3 rfl (H.c a0 rfl))<|tk (fun W H=>ix (j:=(Ct.X.of c x).e.m) sl_60 sz_36 rfl rfl (by omega))<|tk (fun W H=>ld one_36 rfl ((H.ro a1).i (by omega)))<|ef (sg rfl) (h.hs (.c r0 (.c r1 .n)))<|xz<|nx<|sq<|sq<|?_
  have hfp : 1≤((Ct.X.of c x).e.made.getD (Ct.X.of c x).e.m 0)∧((Ct.X.of c x).e.made.getD (Ct.X.of c x).e.m 0)≤1000000000000:=by have:=kmade _ (Ct.getD_mem (0 : Int) (show (Ct.X.of c x).e.m<(Ct.X.of c x).e.made.length by omega)); omega
  have h : SH B w (XA xb mb (Ct.X.of c x)::L):=SH.xi ⟨pg,cg,some ⟨b3,0,none⟩,cm,pq,cq,pi,ci⟩ (h)
  refine rg<|st (mv rfl)<|st (nc rfl rfl)<|st (fa fo_115_11 rfl)<|st (ld (v:=.bool (Ct.X.of c x).e.stopped) one_4 rfl (h.xc a0 fun _=>rfl))<|xe<|nx<|?_
  rcases Bool.eq_false_or_eq_true (Ct.X.of c x).e.stopped with hd4 | hd4
  ·refine ct rfl hd4<|sq<|rg<|st (sg rfl)<|xe<|nx<|rt<|tr<|?_
   refine rr (res1 Tryz.results265 rfl)<|⟨_,0,Ct.rS hd4,rfl,h,k.stop hd4⟩
  ·refine cf rfl hd4<|sk<|nx<|sq<|drH [1,3,7,9,11,13,15,17,19,21,23,25,27,29,31,33,35,4,36,39,41,43,44,46] (by kernel_rfl) h (.c r0 .n) fun w h=>tk (fun W H=>mv rfl)<|tk (fun W H=>mv rfl)<|tk (fun W H=>mv rfl)<|tk (fun W H=>mv rfl)<|tk (fun W H=>mv rfl)<|tk (fun W H=>nc rfl rfl)<|tk (fun W H=>fa fo_115_1 rfl)<|tk (fun W H=>fa fo_45_8 rfl)<|tk (fun W H=>ld (v:=.string c.key) one_9 rfl (H.xc a0 fun _=>rfl))<|tk (fun W H=>mv rfl)<|tk (fun W H=>nc rfl rfl)<|tk (fun W H=>fa fo_115_1 rfl)<|tk (fun W H=>fa fo_45_9 rfl)<|tk (fun W H=>ld (v:=.int .u64 ((c.value : Nat) : Int)) one_28 rfl (H.xc a0 fun _=>rfl))<|tk (fun W H=>mv rfl)<|tk (fun W H=>mv rfl)<|tk (fun W H=>mv rfl)<|cs (ca en_212 rfl) ((xnode_any xb mb (Ct.X.of c x) b (h.fr (.c r0 .n)) k.big').mono ?_)
   rintro _ w ⟨p5,rfl,h⟩
   have f6:=k.fitN b
   have bf6:=k.len
   refine ⟨_,rfl,h.hs (.c r1 .n),?_⟩
   refine cs (ca en_288 rfl) ((rnodes_any ((Ct.X.of c x).node b) p5 b ha c.key c.value lv gen ((Ct.X.of c x).e.made.getD (Ct.X.of c x).e.m 0) (h.fr (.c r0 .n)) hh f6.1.2.2.2.1 hne hl (by omega) (by omega) (by omega)).mono ?_)
   rintro _ w ⟨zs,p,cc,p2,c2,hz,rfl,h⟩
   refine ⟨_,rfl,h.hs (.c r4 .n),?_⟩
   refine tk (fun W H=>mv rfl)<|tk (fun W H=>xr rfl rfl)<|tk (fun W H=>xr rfl rfl)<|ef (sg rfl) (h.hs (.c r4 .n))<|ef (sg rfl) (h.hs (.c r4 .n))<|xz<|nx<|sq<|sq<|rg<|st (sg rfl)<|xe<|nx<|bk<|?_
   have hzl : zs.length=(Ct.dualNodes ((Ct.X.of c x).node b) b ha c.key c.value lv gen ((Ct.X.of c x).e.made.getD (Ct.X.of c x).e.m 0)).length:=by have:=congrArg List.length hz; simpa using this
   have hfits:=fun L=>Ct.dualNodes_fit L ((Ct.X.of c x).node b) b ha c.key c.value lv gen ((Ct.X.of c x).e.made.getD (Ct.X.of c x).e.m 0) (by omega) hb f6.2 hky hh hne hl
   have hdl:=(hfits 0).2
   have hd0 : Ct.runI (Ct.dualI ((Ct.X.of c x).node b) b ha c.key c.value lv gen) (Ct.X.of c x)=Ct.runI (Ct.allocsI (Ct.dualNodes ((Ct.X.of c x).node b) b ha c.key c.value lv gen ((Ct.X.of c x).e.made.getD (Ct.X.of c x).e.m 0)) 0) (Ct.X.of c x):=Ct.dual_run hd4 (by rw [if_pos (by omega)]) k.m
   refine lp (α:=Ct.X × Nat × Int) (fun ρ=>(.c 0 (.pointer (some ⟨xb,0,none⟩)) (.c 11 (.int .i64 ρ.2.2) (.c 13 (.slice p zs.length cc) (.c 14 (.slice p2 zs.length c2) (.c 15 (.int .i64 ((ρ.2.1 : Nat) : Int)) .n)))))) (fun ρ w=>SH B w (XA xb mb (Ct.X.of c ρ.1)::osl 77 14 (.slice p zs.length cc) zs.length (zs.flatMap nodeP)::osl 36 1 (.slice p2 zs.length c2) zs.length (((Ct.dualNodes ((Ct.X.of c x).node b) b ha c.key c.value lv gen ((Ct.X.of c x).e.made.getD (Ct.X.of c x).e.m 0)).map Prod.snd).map (Value.int .i64))::nodesF zs::L)∧(Ct.runI (Ct.dualI ((Ct.X.of c x).node b) b ha c.key c.value lv gen) (Ct.X.of c x)=Ct.runI (Ct.allocsI ((Ct.dualNodes ((Ct.X.of c x).node b) b ha c.key c.value lv gen ((Ct.X.of c x).e.made.getD (Ct.X.of c x).e.m 0)).drop ρ.2.1) ρ.2.2) (Ct.X.of c ρ.1))∧(Ct.Ok (60 - ρ.2.1) (Ct.X.of c ρ.1))∧(ρ.2.1≤zs.length)) (fun ρ=>zs.length - ρ.2.1) (x,0,0) ⟨rfl,rfl,rfl,rfl,rfl,trivial⟩ ⟨((h.fr (.c r3 .n)).drop.fr (.c r3 (.c r0 (.c r0 (.c r0 .n))))),hd0,k,Nat.zero_le _⟩ ?_
   rintro ⟨y,i,r⟩ w ⟨h,hq,k,hi⟩
   dsimp only at *
   refine sq<|sq<|rg<|st (mv rfl)<|st (mv rfl)<|st (ln sl_59 rfl rfl)<|st (bi rfl rfl rfl)<|xe<|nx<|?_
   rcases Bool.eq_false_or_eq_true (decide ((((i : Nat) : Int) : Int)<((zs.length : Nat) : Int))) with hd7 | hd7
   ·have hg8:=of_decide_eq_true hd7
    refine ct rfl hd7<|sk<|nx<|sq<|bk<|?_
    have hil : i<(Ct.dualNodes ((Ct.X.of c x).node b) b ha c.key c.value lv gen ((Ct.X.of c x).e.made.getD (Ct.X.of c x).e.m 0)).length:=by omega
    have hzi:=Ct.map_at hz ({},{}) ({},0) hil
    have hfi:=(hfits ((Ct.X.of c y).s.added.length+1)).1 _ (Ct.getD_mem ((({} : Ct.Node),(0 : Int))) hil)
    rw [← hzi] at hfi
    rw [Ct.allocs_step hil r,← hzi,← Ct.snd_at hil] at hq
    have h:=h.getN a3 (z:=zs.getD i ({},{})) (Ct.getD_mem ((({} : Ct.Node),({} : Lq))) (by omega))
    obtain ⟨b9,rfl⟩:=h.fp a2 (by omega)
    obtain ⟨b10,rfl⟩:=h.fp a3 (by omega)
    refine drH [1,3,5,7,9,11,13,15,17,18,20] (by kernel_rfl) h (.c r2 (.c r2 .n)) fun w h=>tk (fun W H=>mv rfl)<|tk (fun W H=>mv rfl)<|tk (fun W H=>mv rfl)<|tk (fun W H=>ix (j:=i) sl_59 sz_77 rfl rfl (by omega))<|tk (fun W H=>ldr rfl ((H.ro a0).x nodeP_len (by decide) (by omega) ({},{})) row_77)<|tk (fun W H=>mv rfl)<|tk (fun W H=>mv rfl)<|tk (fun W H=>ix (j:=i) sl_60 sz_36 rfl rfl (by omega))<|tk (fun W H=>ld one_36 rfl ((H.ro a1).i (by omega)))<|cs (ca en_216 rfl) ((alloc_x (j:=60 - (i+1)) xb mb (Ct.X.of c y) (zs.getD i ({},{})).1 (zs.getD i ({},{})).2 (((Ct.dualNodes ((Ct.X.of c x).node b) b ha c.key c.value lv gen ((Ct.X.of c x).e.made.getD (Ct.X.of c x).e.m 0)).map Prod.snd).getD i 0) (h.fr (.c r0 (.c r0 .n))) (k.less (by omega)) hfi).mono ?_)
    rintro _ w ⟨y11,v12,q13,rfl,h,k,hly11⟩
    obtain ⟨z14,rfl⟩:=Ct.keA q13
    have lq13:=Ct.leA q13
    refine ⟨_,rfl,h.hs (.c r1 (.c r1 .n)),?_⟩
    refine ef (sg rfl) (h.hs (.c r1 (.c r1 .n)))<|xz<|bn<|nx<|rg<|st (mv rfl)<|st (bw rfl rfl (wadd (c:=((i+1 : Nat) : Int)) (by omega) (by omega) (by omega)))<|st (sg rfl)<|xe<|nx<|?_
    exact ⟨(z14,i+1,v12),⟨rfl,rfl,rfl,rfl,rfl,trivial⟩,⟨h,hq.trans<|Ct.rA q13<|rfl,k,by (try dsimp only); omega⟩,by (try dsimp only); omega⟩
   ·have hg15:=of_decide_eq_false hd7
    refine cf rfl hd7<|xt<|tx<|tx<|be<|nx<|sq<|rg<|st (mv rfl)<|st (sg rfl)<|xe<|nx<|rt<|?_
    refine rr (res1 Tryz.results265 rfl)<|?_
    rw [show i=(Ct.dualNodes ((Ct.X.of c x).node b) b ha c.key c.value lv gen ((Ct.X.of c x).e.made.getD (Ct.X.of c x).e.m 0)).length by omega,List.drop_length] at hq
    exact ⟨_,r,hq.trans Ct.rR,rfl,(h.fr (.c r1 (.c r1 (.c r1 .n)))).drop.drop.drop,k.less (by omega)⟩
 ·have hg16:=of_decide_eq_false hd1
  refine cf rfl hd1<|sk<|nx<|sq<|sq<|?_
  have hfp : 1≤((2+(Ct.X.of c x).s.added.length+1 : Nat) : Int)∧((2+(Ct.X.of c x).s.added.length+1 : Nat) : Int)≤1000000000000:=by omega
  have h : SH B w (XA xb mb (Ct.X.of c x)::L):=SH.xi ⟨pg,cg,pm,cm,pq,cq,pi,ci⟩ (h)
  refine rg<|st (mv rfl)<|st (nc rfl rfl)<|st (fa fo_115_11 rfl)<|st (ld (v:=.bool (Ct.X.of c x).e.stopped) one_4 rfl (h.xc a0 fun _=>rfl))<|xe<|nx<|?_
  rcases Bool.eq_false_or_eq_true (Ct.X.of c x).e.stopped with hd17 | hd17
  ·refine ct rfl hd17<|sq<|rg<|st (sg rfl)<|xe<|nx<|rt<|tr<|?_
   refine rr (res1 Tryz.results265 rfl)<|⟨_,0,Ct.rS hd17,rfl,h,k.stop hd17⟩
  ·refine cf rfl hd17<|sk<|nx<|sq<|drH [1,3,7,9,11,13,15,17,19,21,23,25,27,29,31,33,35,4,36,39,41,43,44,46] (by kernel_rfl) h (.c r0 .n) fun w h=>tk (fun W H=>mv rfl)<|tk (fun W H=>mv rfl)<|tk (fun W H=>mv rfl)<|tk (fun W H=>mv rfl)<|tk (fun W H=>mv rfl)<|tk (fun W H=>nc rfl rfl)<|tk (fun W H=>fa fo_115_1 rfl)<|tk (fun W H=>fa fo_45_8 rfl)<|tk (fun W H=>ld (v:=.string c.key) one_9 rfl (H.xc a0 fun _=>rfl))<|tk (fun W H=>mv rfl)<|tk (fun W H=>nc rfl rfl)<|tk (fun W H=>fa fo_115_1 rfl)<|tk (fun W H=>fa fo_45_9 rfl)<|tk (fun W H=>ld (v:=.int .u64 ((c.value : Nat) : Int)) one_28 rfl (H.xc a0 fun _=>rfl))<|tk (fun W H=>mv rfl)<|tk (fun W H=>mv rfl)<|tk (fun W H=>mv rfl)<|cs (ca en_212 rfl) ((xnode_any xb mb (Ct.X.of c x) b (h.fr (.c r0 .n)) k.big').mono ?_)
   rintro _ w ⟨p18,rfl,h⟩
   have f19:=k.fitN b
   have bf19:=k.len
   refine ⟨_,rfl,h.hs (.c r1 .n),?_⟩
   refine cs (ca en_288 rfl) ((rnodes_any ((Ct.X.of c x).node b) p18 b ha c.key c.value lv gen ((2+(Ct.X.of c x).s.added.length+1 : Nat) : Int) (h.fr (.c r0 .n)) hh f19.1.2.2.2.1 hne hl (by omega) (by omega) (by omega)).mono ?_)
   rintro _ w ⟨zs,p,cc,p2,c2,hz,rfl,h⟩
   refine ⟨_,rfl,h.hs (.c r4 .n),?_⟩
   refine tk (fun W H=>mv rfl)<|tk (fun W H=>xr rfl rfl)<|tk (fun W H=>xr rfl rfl)<|ef (sg rfl) (h.hs (.c r4 .n))<|ef (sg rfl) (h.hs (.c r4 .n))<|xz<|nx<|sq<|sq<|rg<|st (sg rfl)<|xe<|nx<|bk<|?_
   have hzl : zs.length=(Ct.dualNodes ((Ct.X.of c x).node b) b ha c.key c.value lv gen ((2+(Ct.X.of c x).s.added.length+1 : Nat) : Int)).length:=by have:=congrArg List.length hz; simpa using this
   have hfits:=fun L=>Ct.dualNodes_fit L ((Ct.X.of c x).node b) b ha c.key c.value lv gen ((2+(Ct.X.of c x).s.added.length+1 : Nat) : Int) (by omega) hb f19.2 hky hh hne hl
   have hdl:=(hfits 0).2
   have hd0 : Ct.runI (Ct.dualI ((Ct.X.of c x).node b) b ha c.key c.value lv gen) (Ct.X.of c x)=Ct.runI (Ct.allocsI (Ct.dualNodes ((Ct.X.of c x).node b) b ha c.key c.value lv gen ((2+(Ct.X.of c x).s.added.length+1 : Nat) : Int)) 0) (Ct.X.of c x):=Ct.dual_run hd17 (by rw [if_neg (by omega)]; omega) k.m
   refine lp (α:=Ct.X × Nat × Int) (fun ρ=>(.c 0 (.pointer (some ⟨xb,0,none⟩)) (.c 11 (.int .i64 ρ.2.2) (.c 13 (.slice p zs.length cc) (.c 14 (.slice p2 zs.length c2) (.c 15 (.int .i64 ((ρ.2.1 : Nat) : Int)) .n)))))) (fun ρ w=>SH B w (XA xb mb (Ct.X.of c ρ.1)::osl 77 14 (.slice p zs.length cc) zs.length (zs.flatMap nodeP)::osl 36 1 (.slice p2 zs.length c2) zs.length (((Ct.dualNodes ((Ct.X.of c x).node b) b ha c.key c.value lv gen ((2+(Ct.X.of c x).s.added.length+1 : Nat) : Int)).map Prod.snd).map (Value.int .i64))::nodesF zs::L)∧(Ct.runI (Ct.dualI ((Ct.X.of c x).node b) b ha c.key c.value lv gen) (Ct.X.of c x)=Ct.runI (Ct.allocsI ((Ct.dualNodes ((Ct.X.of c x).node b) b ha c.key c.value lv gen ((2+(Ct.X.of c x).s.added.length+1 : Nat) : Int)).drop ρ.2.1) ρ.2.2) (Ct.X.of c ρ.1))∧(Ct.Ok (60 - ρ.2.1) (Ct.X.of c ρ.1))∧(ρ.2.1≤zs.length)) (fun ρ=>zs.length - ρ.2.1) (x,0,0) ⟨rfl,rfl,rfl,rfl,rfl,trivial⟩ ⟨((h.fr (.c r3 .n)).drop.fr (.c r3 (.c r0 (.c r0 (.c r0 .n))))),hd0,k,Nat.zero_le _⟩ ?_
   rintro ⟨y,i,r⟩ w ⟨h,hq,k,hi⟩
   dsimp only at *
   refine sq<|sq<|rg<|st (mv rfl)<|st (mv rfl)<|st (ln sl_59 rfl rfl)<|st (bi rfl rfl rfl)<|xe<|nx<|?_
   rcases Bool.eq_false_or_eq_true (decide ((((i : Nat) : Int) : Int)<((zs.length : Nat) : Int))) with hd20 | hd20
   ·have hg21:=of_decide_eq_true hd20
    refine ct rfl hd20<|sk<|nx<|sq<|bk<|?_
    have hil : i<(Ct.dualNodes ((Ct.X.of c x).node b) b ha c.key c.value lv gen ((2+(Ct.X.of c x).s.added.length+1 : Nat) : Int)).length:=by omega
    have hzi:=Ct.map_at hz ({},{}) ({},0) hil
    have hfi:=(hfits ((Ct.X.of c y).s.added.length+1)).1 _ (Ct.getD_mem ((({} : Ct.Node),(0 : Int))) hil)
    rw [← hzi] at hfi
    rw [Ct.allocs_step hil r,← hzi,← Ct.snd_at hil] at hq
    have h:=h.getN a3 (z:=zs.getD i ({},{})) (Ct.getD_mem ((({} : Ct.Node),({} : Lq))) (by omega))
    obtain ⟨b22,rfl⟩:=h.fp a2 (by omega)
    obtain ⟨b23,rfl⟩:=h.fp a3 (by omega)
    refine drH [1,3,5,7,9,11,13,15,17,18,20] (by kernel_rfl) h (.c r2 (.c r2 .n)) fun w h=>tk (fun W H=>mv rfl)<|tk (fun W H=>mv rfl)<|tk (fun W H=>mv rfl)<|tk (fun W H=>ix (j:=i) sl_59 sz_77 rfl rfl (by omega))<|tk (fun W H=>ldr rfl ((H.ro a0).x nodeP_len (by decide) (by omega) ({},{})) row_77)<|tk (fun W H=>mv rfl)<|tk (fun W H=>mv rfl)<|tk (fun W H=>ix (j:=i) sl_60 sz_36 rfl rfl (by omega))<|tk (fun W H=>ld one_36 rfl ((H.ro a1).i (by omega)))<|cs (ca en_216 rfl) ((alloc_x (j:=60 - (i+1)) xb mb (Ct.X.of c y) (zs.getD i ({},{})).1 (zs.getD i ({},{})).2 (((Ct.dualNodes ((Ct.X.of c x).node b) b ha c.key c.value lv gen ((2+(Ct.X.of c x).s.added.length+1 : Nat) : Int)).map Prod.snd).getD i 0) (h.fr (.c r0 (.c r0 .n))) (k.less (by omega)) hfi).mono ?_)
    rintro _ w ⟨y24,v25,q26,rfl,h,k,hly24⟩
    obtain ⟨z27,rfl⟩:=Ct.keA q26
    have lq26:=Ct.leA q26
    refine ⟨_,rfl,h.hs (.c r1 (.c r1 .n)),?_⟩
    refine ef (sg rfl) (h.hs (.c r1 (.c r1 .n)))<|xz<|bn<|nx<|rg<|st (mv rfl)<|st (bw rfl rfl (wadd (c:=((i+1 : Nat) : Int)) (by omega) (by omega) (by omega)))<|st (sg rfl)<|xe<|nx<|?_
    exact ⟨(z27,i+1,v25),⟨rfl,rfl,rfl,rfl,rfl,trivial⟩,⟨h,hq.trans<|Ct.rA q26<|rfl,k,by (try dsimp only); omega⟩,by (try dsimp only); omega⟩
   ·have hg28:=of_decide_eq_false hd20
    refine cf rfl hd20<|xt<|tx<|tx<|be<|nx<|sq<|rg<|st (mv rfl)<|st (sg rfl)<|xe<|nx<|rt<|?_
    refine rr (res1 Tryz.results265 rfl)<|?_
    rw [show i=(Ct.dualNodes ((Ct.X.of c x).node b) b ha c.key c.value lv gen ((2+(Ct.X.of c x).s.added.length+1 : Nat) : Int)).length by omega,List.drop_length] at hq
    exact ⟨_,r,hq.trans Ct.rR,rfl,(h.fr (.c r1 (.c r1 (.c r1 .n)))).drop.drop.drop,k.less (by omega)⟩
end
end Go.Proofs.YtmliojdkmfhmmaaGreat
end
