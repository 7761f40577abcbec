/- Parts of a proof: Rf, Rw. -/
import Derived.Test.YtmliojdkmfhmmaaGreatW09
import Derived.Test.YtmliojdkmfhmmaaGreatW17
import Derived.Test.YtmliojdkmfhmmaaGreatW04
import Derived.Test.YtmliojdkmfhmmaaGreatW16
import Derived.Test.YtmliojdkmfhmmaaGreatW13
set_option linter.unusedVariables false
set_option linter.unusedSimpArgs false
set_option maxRecDepth 100000
set_option maxHeartbeats 4000000
section
namespace Go.Proofs.YtmliojdkmfhmmaaGreat
attribute [local irreducible] Go.E.wpL Go.E.wpS Go.E.X Go.E.XS Go.E.C Go.E.thn Go.E.blk Go.E.fin Go.E.Y Go.E.U Go.E.F Go.E.Ca Go.E.Res Go.E.bl Go.E.rb Go.E.osl Go.E.rsl Go.E.ex Go.E.ce Go.E.pu Go.E.sK Go.E.gK Go.E.bK Go.E.zK
open Go.RowKit Go.E Go.Ct
variable {B w : World} {L : List As}
theorem requalRefs_any (l : List Int) (pa pb : Option Addr) (ca cb : Nat) (h : SH B w (rsl 1 (.slice pa l.length ca) l.length (l.map (Value.int .i64))::rsl 1 (.slice pb l.length cb) l.length (l.map (Value.int .i64))::L)) (hl : l.length≤1000000000000) :
  Calls Tryz.prog 85 #[.slice pa l.length ca,.slice pb l.length cb] w fun e w'=>e=.returned (.bool true)∧SH B w' (rsl 1 (.slice pa l.length ca) l.length (l.map (Value.int .i64))::rsl 1 (.slice pb l.length cb) l.length (l.map (Value.int .i64))::L):=by
 refine bn0 Tryz.func85 Tryz.ntmps85 h fun w h=>?_
 refine lp (α:=Nat) (fun x=>(.c 0 (.slice pa l.length ca) (.c 1 (.slice pb l.length cb) (.c 5 (.int .i64 ((x : Nat) : Int)) .n)))) (fun x w=>SH B w (rsl 1 (.slice pa l.length ca) l.length (l.map (Value.int .i64))::rsl 1 (.slice pb l.length cb) l.length (l.map (Value.int .i64))::L)∧(x≤l.length)) (fun x=>l.length - x) 0 ⟨rfl,rfl,rfl,trivial⟩ ⟨h,Nat.zero_le _⟩ ?_
 rintro k w ⟨h,hk⟩
 refine go h fun w h=>?_
 refine qc h (fun hd1 w h=>?_) fun hd1 w h=>?_
 have hg2:=of_decide_eq_true hd1
 refine go h fun w h=>?_
 obtain ⟨b3,o4,rfl⟩:=h.fq a0 (by omega)
 obtain ⟨b5,o6,rfl⟩:=h.fq a1 (by omega)
 refine drH [1,3,5,7,9,11,13,15,17] (by kernel_rfl) h (.c r0 (.c r0 .n)) fun w h=>?_
 refine tk (fun W H=>mv rfl)<|tk (fun W H=>mv rfl)<|tk (fun W H=>ix (j:=k) sl_60 sz_36 rfl rfl (by omega))<|tk (fun W H=>ld one_36 rfl ((H.rr a0).i (by omega)))<|tk (fun W H=>mv rfl)<|tk (fun W H=>mv rfl)<|tk (fun W H=>ix (j:=k) sl_60 sz_36 rfl rfl (by omega))<|tk (fun W H=>ld one_36 rfl ((H.rr a1).i (by omega)))<|tk (fun W H=>bi rfl rfl rfl)<|xz<|nx<|cf rfl (bneS _)<|sk<|bn<|nx<|rg<|st (mv rfl)<|st (bw rfl rfl (wadd (c:=((k+1 : Nat) : Int)) (by omega) (by omega) (by omega)))<|st (sg rfl)<|xe<|nx<|?_
 refine go h fun w h=>?_
 exact ⟨(k+1),⟨rfl,rfl,rfl,trivial⟩,⟨h,by (try dsimp only); omega⟩,by (try dsimp only); omega⟩
 have hg7:=of_decide_eq_false hd1
 refine go h fun w h=>?_
 exact rz ⟨rfl,h⟩
theorem requalPairs_any (l : List Ct.Pair) (pa pb : Option Addr) (ca cb : Nat) (h : SH B w (rsl 2 (.slice pa l.length ca) l.length (l.flatMap pairC)::rsl 2 (.slice pb l.length cb) l.length (l.flatMap pairC)::L)) (hl : l.length≤1000000000000) :
  Calls Tryz.prog 26 #[.slice pa l.length ca,.slice pb l.length cb] w fun e w'=>e=.returned (.bool true)∧SH B w' (rsl 2 (.slice pa l.length ca) l.length (l.flatMap pairC)::rsl 2 (.slice pb l.length cb) l.length (l.flatMap pairC)::L):=by
 refine bn0 Tryz.func26 Tryz.ntmps26 h fun w h=>?_
 refine lp (α:=Nat) (fun x=>(.c 0 (.slice pa l.length ca) (.c 1 (.slice pb l.length cb) (.c 5 (.int .i64 ((x : Nat) : Int)) .n)))) (fun x w=>SH B w (rsl 2 (.slice pa l.length ca) l.length (l.flatMap pairC)::rsl 2 (.slice pb l.length cb) l.length (l.flatMap pairC)::L)∧(x≤l.length)) (fun x=>l.length - x) 0 ⟨rfl,rfl,rfl,trivial⟩ ⟨h,Nat.zero_le _⟩ ?_
 rintro k w ⟨h,hk⟩
 refine go h fun w h=>?_
 refine qc h (fun hd1 w h=>?_) fun hd1 w h=>?_
 have hg2:=of_decide_eq_true hd1
 refine go h fun w h=>?_
 obtain ⟨b3,o4,rfl⟩:=h.fq a0 (by omega)
 obtain ⟨b5,o6,rfl⟩:=h.fq a1 (by omega)
 refine drH [1,3,5,7,9,11,13,15,17] (by kernel_rfl) h (.c r0 (.c r0 .n)) fun w h=>go h fun w h=>?_
 refine tk (fun W H=>ldr rfl ((H.rr a0).x pairC_len (by decide) (by omega) ⟨.empty,0⟩) Row.h)<|go h fun w h=>?_
 refine tk (fun W H=>ldr rfl ((H.rr a1).x pairC_len (by decide) (by omega) ⟨.empty,0⟩) Row.h)<|tk (fun W H=>bne_ eq_132 rfl rfl rfl rfl)<|go h fun w h=>?_
 refine cf rfl (naeqS (aeqS2 _ _ _))<|go h fun w h=>?_
 exact ⟨(k+1),⟨rfl,rfl,rfl,trivial⟩,⟨h,by (try dsimp only); omega⟩,by (try dsimp only); omega⟩
 have hg7:=of_decide_eq_false hd1
 refine go h fun w h=>?_
 exact rz ⟨rfl,h⟩
theorem rpairsValid_any (l : List Ct.Pair) (p : Option Addr) (c : Nat) (h : SH B w (rsl 2 (.slice p l.length c) l.length (l.flatMap pairC)::L)) (hv : Ct.pairsValid l=true) (hl : l.length≤1000000000000) :
  Calls Tryz.prog 192 #[.slice p l.length c] w fun e w'=>e=.returned (.bool true)∧SH B w' (rsl 2 (.slice p l.length c) l.length (l.flatMap pairC)::L):=by
 refine bn0 Tryz.func192 Tryz.ntmps192 h fun w h=>?_
 refine lp (α:=Nat) (fun x=>(.c 0 (.slice p l.length c) (.c 3 (.int .i64 ((x : Nat) : Int)) .n))) (fun x w=>SH B w (rsl 2 (.slice p l.length c) l.length (l.flatMap pairC)::L)∧(1≤x)) (fun x=>l.length - x) 1 ⟨rfl,rfl,trivial⟩ ⟨h,Nat.le_refl _⟩ ?_
 rintro k w ⟨h,h1⟩
 refine go h fun w h=>?_
 refine qc h (fun hd1 w h=>?_) fun hd1 w h=>?_
 ·have hg2:=of_decide_eq_true hd1
  refine go h fun w h=>?_
  obtain ⟨b3,o4,rfl⟩:=h.fq a0 (by omega)
  refine drH [1,3,5,7,9,11,13,15,17,19,21,23] (by kernel_rfl) h (.c r0 .n) fun w h=>go h fun w h=>?_
  refine tk (fun W H=>ld One.h rfl ((H.rr a0).x pairC_len (by decide) (by omega) ⟨.empty,0⟩ 0 _ rfl))<|go h fun w h=>?_
  refine tk (fun W H=>bs ((k - 1 : Nat) : Int))<|go h fun w h=>?_
  refine tk (fun W H=>ld One.h rfl ((H.rr a0).x pairC_len (by decide) (by omega) ⟨.empty,0⟩ 0 _ rfl))<|go h fun w h=>?_
  refine cf rfl (pv_leq hv h1 (by omega))<|go h fun w h=>?_
  exact ⟨(k+1),⟨rfl,rfl,trivial⟩,⟨h,by (try dsimp only); omega⟩,by (try dsimp only); omega⟩
 ·have hg5:=of_decide_eq_false hd1
  refine go h fun w h=>?_
  exact rz ⟨rfl,h⟩
section
attribute [local semireducible] Go.E.wpL Go.E.wpS Go.E.X Go.E.XS Go.E.C Go.E.thn Go.E.blk Go.E.fin Go.E.Y Go.E.U Go.E.F Go.E.Ca Go.E.Res Go.E.bl Go.E.rb Go.E.osl Go.E.rsl Go.E.ex Go.E.ce Go.E.pu Go.E.sK Go.E.gK Go.E.bK Go.E.zK
attribute [local irreducible] Go.E.wpL Go.E.wpS
variable {B w : World} {L : List As}
theorem rkeys_any (l : List Ct.Pair) (p : Option Addr) (c : Nat) (h : SH B w (rsl 2 (.slice p l.length c) l.length (l.flatMap pairC)::L)) (hs : Ct.keysShort l=true) (hl : l.length≤1000000000000) :
  Calls Tryz.prog 193 #[.slice p l.length c] w fun e w'=>e=.returned (.bool true)∧SH B w' (rsl 2 (.slice p l.length c) l.length (l.flatMap pairC)::L):=by
 refine bgn (args:=[_]) Tryz.func193 rfl Tryz.ntmps193 rfl ?_
 refine sq<|rg<|st (sg rfl)<|xe<|nx<|sq<|sq<|rg<|st (sg rfl)<|xe<|nx<|bk<|?_
 refine lp (α:=Nat) (fun x=>(.c 0 (.slice p l.length c) (.c 3 (.int .i64 ((x : Nat) : Int)) .n))) (fun x w=>SH B w (rsl 2 (.slice p l.length c) l.length (l.flatMap pairC)::L)∧(x≤l.length)) (fun x=>l.length - x) 0 ⟨rfl,rfl,trivial⟩ ⟨h,Nat.zero_le _⟩ ?_
 rintro k w ⟨h,hk⟩
 refine sq<|sq<|rg<|st (mv rfl)<|st (mv rfl)<|st (ln sl_38 rfl rfl)<|st (bi rfl rfl rfl)<|xe<|nx<|?_
 rcases Bool.eq_false_or_eq_true (decide ((((k : Nat) : Int) : Int)<((l.length : Nat) : Int))) with hd1 | hd1
 ·have hg2:=of_decide_eq_true hd1
  refine ct rfl hd1<|sk<|nx<|sq<|bk<|sq<|rg<|st (mv rfl)<|st (mv rfl)<|?_
  obtain ⟨b3,o4,rfl⟩:=h.fq a0 (by omega)
  refine st (ix (j:=k) sl_38 sz_132 rfl rfl (by omega))<|st (fa fo_132_0 rfl)<|st (ld one_9 rfl ((h.rr a0).x pairC_len (by decide) (by omega) ⟨.empty,0⟩ 0 _ rfl))<|st (lns un_9 rfl rfl)<|st (bi rfl rfl rfl)<|xe<|nx<|cf rfl (key_short hs (by omega))<|sk<|bn<|nx<|rg<|st (mv rfl)<|st (bw rfl rfl (wadd (c:=((k+1 : Nat) : Int)) (by omega) (by omega) (by omega)))<|st (sg rfl)<|xe<|nx<|?_
  exact ⟨(k+1),⟨rfl,rfl,trivial⟩,⟨h,by (try dsimp only); omega⟩,by (try dsimp only); omega⟩
 ·have hg5:=of_decide_eq_false hd1
  refine cf rfl hd1<|xt<|tx<|tx<|be<|nx<|sq<|rg<|st (sg rfl)<|xe<|nx<|rt<|?_
  refine rr (res1 Tryz.results193 rfl)<|⟨rfl,h⟩
end
variable {B w : World} {L : List As}
theorem rfind_any (l : List Ct.Pair) (p : Option Addr) (c : Nat) (key : ByteArray) (h : SH B w (rsl 2 (.slice p l.length c) l.length (l.flatMap pairC)::L)) (hv : Ct.pairsValid l=true) (hl : l.length≤1000000000000) :
  Calls Tryz.prog 223 #[.slice p l.length c,.string key] w fun e w'=>e=.returned (.tuple #[.int .u64 (((Ct.pfind l key).1 : Nat) : Int),.bool (Ct.pfind l key).2])∧SH B w' (rsl 2 (.slice p l.length c) l.length (l.flatMap pairC)::L):=by
 refine bn0 Tryz.func223 Tryz.ntmps223 h fun w h=>?_
 refine lp (α:=Nat) (fun x=>(.c 0 (.slice p l.length c) (.c 1 (.string key) (.c 6 (.int .i64 ((x : Nat) : Int)) .n)))) (fun x w=>SH B w (rsl 2 (.slice p l.length c) l.length (l.flatMap pairC)::L)∧(x≤l.length)∧(∀ j,j<x→Ct.keyEq (Ct.pat l j).key key=false)) (fun x=>l.length - x) 0 ⟨rfl,rfl,rfl,trivial⟩ ⟨h,Nat.zero_le _,fun j hj=>absurd hj (Nat.not_lt_zero _)⟩ ?_
 rintro k w ⟨h,hk,hn⟩
 refine go h fun w h=>?_
 refine qg h (fun hd1 w h=>?_) fun hd1 w h=>?_
 have hg2:=of_decide_eq_true hd1
 refine go h fun w h=>?_
 refine j000 (rpairsValid_any _ _ _ h.to hv (by omega)) fun w h=>?_
 obtain ⟨b3,o4,rfl⟩:=h.fq a0 (by omega)
 refine go h fun w h=>?_
 refine st (ld One.h rfl ((h.rr a0).x pairC_len (by decide) (by omega) ⟨.empty,0⟩ 0 _ rfl))<|go h fun w h=>?_
 refine qc h (fun hd5 w h=>?_) fun hd5 w h=>?_
 refine st (ld One.h rfl ((h.rr a0).x pairC_len (by decide) (by omega) ⟨.empty,0⟩ 1 _ rfl))<|go h fun w h=>?_
 exact rr (res2 rfl rfl rfl)<|⟨by rw [pfind_hit hv (by omega) hd5]; rfl,h⟩
 exact ⟨(k+1),⟨rfl,rfl,rfl,trivial⟩,⟨h,by (try dsimp only); omega,no_snoc hn hd5⟩,by (try dsimp only); omega⟩
 have hg6:=of_decide_eq_false hd1
 refine go h fun w h=>?_
 exact rr (res2 rfl rfl rfl)<|⟨by rw [pfind_miss hv fun j hj=>hn j (by omega)]; rfl,h⟩
theorem rwithout_l (l : List Ct.Pair) (p : Option Addr) (c : Nat) (key : ByteArray) (h : SH B w (rsl 2 (.slice p l.length c) l.length (l.flatMap pairC)::L)) (hl : l.length≤1000000000000) :
  Calls Tryz.prog 310 #[.slice p l.length c,.string key] w fun e w'=>∃ p' c',e=.returned (.slice p' (Ct.pwithout l key).length c')∧SH B w' (rsl 2 (.slice p' (Ct.pwithout l key).length c') (Ct.pwithout l key).length ((Ct.pwithout l key).flatMap pairC)::rsl 2 (.slice p l.length c) l.length (l.flatMap pairC)::L):=by
 refine bn0 Tryz.func310 Tryz.ntmps310 h fun w h=>?_
 have h:=SH.nil 132 2 h
 refine lp (α:=Nat × List Ct.Pair × Nat × Option Addr × Nat) (fun x=>(.c 0 (.slice p l.length c) (.c 1 (.string key) (.c 5 (.slice x.2.2.2.1 x.2.2.1 x.2.2.2.2) (.c 6 (.int .i64 ((x.1 : Nat) : Int)) .n))))) (fun x w=>SH B w (osl 132 2 (.slice x.2.2.2.1 x.2.2.1 x.2.2.2.2) x.2.2.1 (x.2.1.flatMap pairC)::rsl 2 (.slice p l.length c) l.length (l.flatMap pairC)::L)∧(x.1≤l.length)∧(x.2.1.length=x.2.2.1)∧(x.2.2.1≤x.1)∧(x.2.1=(l.take x.1).filter fun q=>!Ct.keyEq q.key key)) (fun x=>l.length - x.1) (0,[],0,none,0) ⟨rfl,rfl,rfl,rfl,trivial⟩ ⟨h,Nat.zero_le _,rfl,Nat.le_refl _,rfl⟩ ?_
 rintro ⟨k,out,n,q,cq⟩ w ⟨h,hk,hn,hnk,hW⟩
 dsimp only at *
 refine go h fun w h=>?_
 refine qc h (fun hd1 w h=>?_) fun hd1 w h=>?_
 have hg2:=of_decide_eq_true hd1
 refine go h fun w h=>?_
 obtain ⟨b3,o4,rfl⟩:=h.fq a1 (by omega)
 refine go h fun w h=>?_
 refine st (ld One.h rfl ((h.rr a1).x pairC_len (by decide) (by omega) ⟨.empty,0⟩ 0 _ rfl))<|go h fun w h=>?_
 refine qc h (fun hd5 w h=>?_) fun hd5 w h=>?_
 refine st (ldr rfl ((h.rr a1).x pairC_len (by decide) (by omega) ⟨.empty,0⟩) Row.h)<|go h fun w h=>?_
 refine sf (bu (pairC (l.getD k ⟨.empty,0⟩)) h Slc.h Ss.h rfl (by kernel_rfl) rfl (by decide) (by decide)) ?_
 rintro _ w ⟨b6,rfl,h⟩
 refine go h fun w h=>?_
 refine sf (ap h Slc.h rfl Ss.h rfl (by decide) rfl rfl (fun _=>u1) (h.ro a0) (fun u hu=>List.all_eq_true.1 (pairC_one _) u hu) rfl (join_rows _ _) (by unfold maxLen; omega) (by omega)) ?_
 rintro _ w ⟨p7,c8,rfl,h⟩
 refine go h fun w h=>?_
 exact ⟨(k+1,out ++ [l.getD k ⟨.empty,0⟩],n+1,p7,c8),⟨rfl,rfl,rfl,rfl,trivial⟩,⟨h.drop,by (try dsimp only); omega,by simp [hn],by (try dsimp only); omega,by rw [hW]; exact wo_T (by omega) hd5⟩,by (try dsimp only); omega⟩
 exact ⟨(k+1,out,n,q,cq),⟨rfl,rfl,rfl,rfl,trivial⟩,⟨h,by (try dsimp only); omega,hn,by (try dsimp only); omega,by rw [hW]; exact wo_F (by omega) hd5⟩,by (try dsimp only); omega⟩
 have hg9:=of_decide_eq_false hd1
 refine go h fun w h=>?_
 refine rz ?_
 have e1 : out=Ct.pwithout l key:=by rw [hW,List.take_of_length_le (by omega)]; rfl
 subst e1; subst hn
 exact ⟨_,_,rfl,(h).fz⟩
theorem rwith_l (l : List Ct.Pair) (p : Option Addr) (c : Nat) (z : Ct.Pair) (h : SH B w (rsl 2 (.slice p l.length c) l.length (l.flatMap pairC)::L)) (hl : l.length≤1000000000000) :
  Calls Tryz.prog 309 #[.slice p l.length c,.agg (pairC z).toArray] w fun e w'=>∃ p' c',e=.returned (.slice p' (Ct.pwith l z).length c')∧SH B w' (rsl 2 (.slice p' (Ct.pwith l z).length c') (Ct.pwith l z).length ((Ct.pwith l z).flatMap pairC)::rsl 2 (.slice p l.length c) l.length (l.flatMap pairC)::L):=by
 refine bn0 Tryz.func309 Tryz.ntmps309 h fun w h=>?_
 refine jX h fun b1 w h=>?_
 have h:=SH.nil 132 2 h
 refine lp (α:=Nat × List Ct.Pair × Nat × Option Addr × Nat) (fun x=>(.c 0 (.slice p l.length c) (.c 3 (.pointer (some ⟨b1,0,none⟩)) (.c 5 (.slice x.2.2.2.1 x.2.2.1 x.2.2.2.2) (.c 6 (.int .i64 ((x.1 : Nat) : Int)) .n))))) (fun x w=>SH B w (osl 132 2 (.slice x.2.2.2.1 x.2.2.1 x.2.2.2.2) x.2.2.1 (x.2.1.flatMap pairC)::rsl 2 (.slice p l.length c) l.length (l.flatMap pairC)::bl b1 (pairC z) 132::L)∧(x.1≤l.length)∧(x.2.1.length=x.2.2.1)∧(x.2.2.1=x.1)∧(x.2.1=l.take x.1)∧(∀ j,j<x.1→Ct.keyLt (Ct.pat l j).key z.key=true)) (fun x=>l.length - x.1) (0,[],0,none,0) ⟨rfl,rfl,rfl,rfl,trivial⟩ ⟨h.to,Nat.zero_le _,rfl,rfl,rfl,fun j hj=>absurd hj (Nat.not_lt_zero _)⟩ ?_
 rintro ⟨k,out,n,q,cq⟩ w ⟨h,hk,hn,hnk,hW,hb⟩
 dsimp only at *
 refine go h fun w h=>?_
 rcases Bool.eq_false_or_eq_true (decide ((((k : Nat) : Int) : Int)<((l.length : Nat) : Int))) with hd2 | hd2 <;> refine go h fun w h=>?_
 have hg3:=of_decide_eq_true hd2
 obtain ⟨b4,o5,rfl⟩:=h.fq a1 (by omega)
 refine drH [1,3,5,7,9,11,13,15,17,19,21,23,25,27] (by kernel_rfl) h (.c r1 (.c r1 .n)) fun w h=>go h fun w h=>?_
 refine tk (fun W H=>ld One.h rfl ((H.rr a0).x pairC_len (by decide) (by omega) ⟨.empty,0⟩ 0 _ rfl))<|go h fun w h=>?_
 refine qc h (fun hd6 w h=>?_) fun hd6 w h=>?_
 refine st (ldr rfl ((h.rr a1).x pairC_len (by decide) (by omega) ⟨.empty,0⟩) Row.h)<|go h fun w h=>?_
 refine sf (bu (pairC (l.getD k ⟨.empty,0⟩)) h Slc.h Ss.h rfl (by kernel_rfl) rfl (by decide) (by decide)) ?_
 rintro _ w ⟨b7,rfl,h⟩
 refine go h fun w h=>?_
 refine sf (ap h Slc.h rfl Ss.h rfl (by decide) rfl rfl (fun _=>u1) (h.ro a0) (fun u hu=>List.all_eq_true.1 (pairC_one _) u hu) rfl (join_rows _ _) (by unfold maxLen; omega) (by omega)) ?_
 rintro _ w ⟨p8,c9,rfl,h⟩
 refine go h fun w h=>?_
 exact ⟨(k+1,out ++ [l.getD k ⟨.empty,0⟩],n+1,p8,c9),⟨rfl,rfl,rfl,rfl,trivial⟩,⟨h.drop,by (try dsimp only); omega,by simp [hn],by (try dsimp only); omega,by rw [hW]; exact (take_pat (by omega)).symm,lt_snoc hb hd6⟩,by (try dsimp only); omega⟩
 refine drH [1,3,9,11,13,4,6,14,16] (by kernel_rfl) h (.c r2 .n) fun w h=>go h fun w h=>?_
 refine tk (fun W H=>sll (k:=n) Slc.h Sz.h rfl rfl (by omega) (h.rcap a1))<|go h fun w h=>?_
 have h:=h.tl (k:=n) a1 (by omega)
 rw [dropRows pairC_len] at h
 refine ff (bu (pairC z) h Slc.h Ss.h rfl (by kernel_rfl) rfl (by decide) (by decide)) ?_
 rintro _ w ⟨b10,rfl,h⟩
 refine gz h fun w h=>?_
 refine ff (ap h Slc.h rfl Ss.h rfl (by decide) rfl rfl (fun _=>u2) (h.ro a0) (fun u hu=>List.all_eq_true.1 (pairC_one _) u hu) rfl (join_rows _ _) (by unfold maxLen; omega) (by omega)) ?_
 rintro _ w ⟨p11,c12,rfl,h⟩
 refine gz h fun w h=>?_
 refine ff (apr h a1 a2 Slc.h rfl Ss.h rfl (by decide) rfl rfl (fun _=>u2) (ones_rows pairC_one _) rfl List.flatMap_append.symm (by unfold maxLen; omega) (by omega)) ?_
 rintro _ w ⟨p13,c14,rfl,h⟩
 refine gz h fun w h=>?_
 refine rz ?_
 subst hnk
 have e1:=pwith_at (l:=l) (z:=z) (by omega) hb (fun hlt=>by exact hd6)
 have e2 : out ++ [z] ++ l.drop n=Ct.pwith l z:=by rw [e1,hW]; simp
 have e3 : n+1+(l.length - n)=(Ct.pwith l z).length:=by rw [← e2]; simp [hn]; omega
 have h:=((h.fr (.c r0 (.c r0 (.c r2 .n)))).drop.drop.drop).fz
 rw [show out ++ [z] ++ (l.drop n)=out ++ [z] ++ l.drop n from by simp] at h
 rw [e2] at h; rw [e3] at h ⊢; exact ⟨_,_,rfl,h⟩
 have hg15:=of_decide_eq_false hd2
 refine drH [1,3,5,7,9,11,13,15,17,19,21,23,25,27] (by kernel_rfl) h .n fun w h=>go h fun w h=>?_
 refine drH [1,3,9,11,13,4,6,14,16] (by kernel_rfl) h (.c r2 .n) fun w h=>go h fun w h=>?_
 refine tk (fun W H=>sll (k:=n) Slc.h Sz.h rfl rfl (by omega) (h.rcap a1))<|go h fun w h=>?_
 have h:=h.tl (k:=n) a1 (by omega)
 rw [dropRows pairC_len] at h
 refine ff (bu (pairC z) h Slc.h Ss.h rfl (by kernel_rfl) rfl (by decide) (by decide)) ?_
 rintro _ w ⟨b16,rfl,h⟩
 refine gz h fun w h=>?_
 refine ff (ap h Slc.h rfl Ss.h rfl (by decide) rfl rfl (fun _=>u2) (h.ro a0) (fun u hu=>List.all_eq_true.1 (pairC_one _) u hu) rfl (join_rows _ _) (by unfold maxLen; omega) (by omega)) ?_
 rintro _ w ⟨p17,c18,rfl,h⟩
 refine gz h fun w h=>?_
 refine ff (apr h a1 a2 Slc.h rfl Ss.h rfl (by decide) rfl rfl (fun _=>u2) (ones_rows pairC_one _) rfl List.flatMap_append.symm (by unfold maxLen; omega) (by omega)) ?_
 rintro _ w ⟨p19,c20,rfl,h⟩
 refine gz h fun w h=>?_
 refine rz ?_
 subst hnk
 have e1:=pwith_at (l:=l) (z:=z) (by omega) hb (fun hlt=>by omega)
 have e2 : out ++ [z] ++ l.drop n=Ct.pwith l z:=by rw [e1,hW]; simp
 have e3 : n+1+(l.length - n)=(Ct.pwith l z).length:=by rw [← e2]; simp [hn]; omega
 have h:=((h.fr (.c r0 (.c r0 (.c r2 .n)))).drop.drop.drop).fz
 rw [show out ++ [z] ++ (l.drop n)=out ++ [z] ++ l.drop n from by simp] at h
 rw [e2] at h; rw [e3] at h ⊢; exact ⟨_,_,rfl,h⟩
theorem rput_l (l : List Ct.Pair) (p : Option Addr) (c : Nat) (key : ByteArray) (v : Nat) (h : SH B w (rsl 2 (.slice p l.length c) l.length (l.flatMap pairC)::L)) (hv : Ct.pairsValid l=true) (hl : l.length≤1000000000000) :
  Calls Tryz.prog 287 #[.slice p l.length c,.string key,.int .u64 ((v : Nat) : Int)] w fun e w'=>∃ p' c',e=.returned (.slice p' (Ct.pput l key v).length c')∧SH B w' (rsl 2 (.slice p' (Ct.pput l key v).length c') (Ct.pput l key v).length ((Ct.pput l key v).flatMap pairC)::rsl 2 (.slice p l.length c) l.length (l.flatMap pairC)::L):=by
 refine bn0 Tryz.func287 Tryz.ntmps287 h fun w h=>?_
 refine j000 (rpairsValid_any _ _ _ h.to hv (by omega)) fun w h=>?_
 refine j200 (rwithout_l _ _ _ _ h.to (by omega)) fun q1 c2 w h=>?_
 have:=pwithout_len l key
 refine go h fun w h=>?_
 refine j200 (rwith_l _ _ _ (⟨key,v⟩ : Ct.Pair) h.to (by omega)) fun q3 c4 w h=>?_
 have:=pwith_len (Ct.pwithout l key) (⟨key,v⟩ : Ct.Pair)
 refine go h fun w h=>?_
 refine rz ?_
 rw [pput_eq key v hv]; exact ⟨_,_,rfl,(h.fr (.c r1 .n)).drop⟩
theorem rdrop_l (l : List Ct.Pair) (p : Option Addr) (c : Nat) (key : ByteArray) (h : SH B w (rsl 2 (.slice p l.length c) l.length (l.flatMap pairC)::L)) (hv : Ct.pairsValid l=true) (hl : l.length≤1000000000000) :
  Calls Tryz.prog 289 #[.slice p l.length c,.string key] w fun e w'=>∃ p' c',e=.returned (.slice p' (Ct.pdrop l key).length c')∧SH B w' (rsl 2 (.slice p' (Ct.pdrop l key).length c') (Ct.pdrop l key).length ((Ct.pdrop l key).flatMap pairC)::rsl 2 (.slice p l.length c) l.length (l.flatMap pairC)::L):=by
 refine bn0 Tryz.func289 Tryz.ntmps289 h fun w h=>?_
 refine j000 (rpairsValid_any _ _ _ h.to hv (by omega)) fun w h=>?_
 refine j200 (rwithout_l _ _ _ _ h.to (by omega)) fun q1 c2 w h=>?_
 have:=pwithout_len l key
 refine go h fun w h=>?_
 refine rz ?_
 rw [← pwithout_drop key l hv]; exact ⟨_,_,rfl,h⟩
theorem rof_l (l : List Ct.Pair) (p : Option Addr) (c : Nat) (h : SH B w (rsl 2 (.slice p l.length c) l.length (l.flatMap pairC)::L)) (hl : l.length≤1000000000) :
  Calls Tryz.prog 312 #[.slice p l.length c] w fun e w'=>∃ p' c',e=.returned (.slice p' (Ct.pofF l).length c')∧SH B w' (rsl 2 (.slice p' (Ct.pofF l).length c') (Ct.pofF l).length ((Ct.pofF l).flatMap pairC)::rsl 2 (.slice p l.length c) l.length (l.flatMap pairC)::L):=by
 refine bn0 Tryz.func312 Tryz.ntmps312 h fun w h=>?_
 have h:=SH.nil 132 2 h
 have h:=h.fz
 refine lp (α:=Nat × List Ct.Pair × Nat × Option Addr × Nat) (fun x=>(.c 0 (.slice p l.length c) (.c 3 (.slice x.2.2.2.1 x.2.2.1 x.2.2.2.2) (.c 4 (.int .i64 ((x.1 : Nat) : Int)) .n)))) (fun x w=>SH B w (rsl 2 (.slice x.2.2.2.1 x.2.2.1 x.2.2.2.2) x.2.2.1 (x.2.1.flatMap pairC)::rsl 2 (.slice p l.length c) l.length (l.flatMap pairC)::L)∧(x.1≤l.length)∧(x.2.1.length=x.2.2.1)∧(x.2.1=pofF (l.take x.1))) (fun x=>l.length - x.1) (0,[],0,none,0) ⟨rfl,rfl,rfl,trivial⟩ ⟨h,Nat.zero_le _,rfl,rfl⟩ ?_
 rintro ⟨k,out,n,q,cq⟩ w ⟨h,hk,hn,hW⟩
 dsimp only at *
 refine go h fun w h=>?_
 refine qc h (fun hd1 w h=>?_) fun hd1 w h=>?_
 have hg2:=of_decide_eq_true hd1
 refine go h fun w h=>?_
 have hb:=pof_len l k
 rw [← hW] at hb
 subst hn
 obtain ⟨b3,o4,rfl⟩:=h.fq a1 (by omega)
 refine drH [1,3,5,7,9,11,15,17,19,21,12,22,24] (by kernel_rfl) h (.c r1 .n) fun w h=>go h fun w h=>?_
 refine tk (fun W H=>ld One.h rfl ((H.rr a0).x pairC_len (by decide) (by omega) ⟨.empty,0⟩ 0 _ rfl))<|go h fun w h=>?_
 refine tk (fun W H=>ldr rfl ((H.rr a0).x pairC_len (by decide) (by omega) ⟨.empty,0⟩) Row.h)<|go h fun w h=>?_
 refine s200 (rwithout_l _ _ _ _ h.to (by omega)) fun q5 c6 w h=>?_
 have:=pwithout_len out ((l.getD k ⟨.empty,0⟩).key)
 refine go h fun w h=>?_
 refine s200 (rwith_l _ _ _ (l.getD k ⟨.empty,0⟩) h.to (by omega)) fun q7 c8 w h=>?_
 have:=pwith_len (Ct.pwithout out ((l.getD k ⟨.empty,0⟩).key)) (l.getD k ⟨.empty,0⟩)
 refine go h fun w h=>?_
 exact ⟨(k+1,Ct.pwith (Ct.pwithout out ((l.getD k ⟨.empty,0⟩).key)) (l.getD k ⟨.empty,0⟩),(Ct.pwith (Ct.pwithout out ((l.getD k ⟨.empty,0⟩).key)) (l.getD k ⟨.empty,0⟩)).length,q7,c8),⟨rfl,rfl,rfl,trivial⟩,⟨h.to,by (try dsimp only); omega,rfl,by rw [hW]; exact pofS (by omega)⟩,by (try dsimp only); omega⟩
 have hg9:=of_decide_eq_false hd1
 refine go h fun w h=>?_
 refine rz ?_
 have e1 : out=pofF l:=by rw [hW,List.take_of_length_le (by omega)]
 subst e1; subst hn
 exact ⟨_,_,rfl,h⟩
end Go.Proofs.YtmliojdkmfhmmaaGreat
end
section
namespace Go.Ct
abbrev Lab:=Nat × Nat
def deeper (b : Lab) (i : Int) : Lab:=(b.1+1,b.2+i.toNat * 64 ^ b.1)
inductive CellTy where
 | root
 | fixed
 | main (b : Lab)
 | prev (b : Lab)
 | status
 deriving DecidableEq
structure Ga where
 nodes : List Node
 lab : List Lab
 ty : List CellTy
 ini : List Int
 gen : Nat
 dec : Int→Prop
def Ga.st (g : Ga) : St:={ added:=g.nodes,gen:=g.gen }
def Ga.node (g : Ga) (r : Int) : Node:=g.st.node r
def Ga.label (g : Ga) (r : Int) : Lab:=g.lab.getD (r.toNat - 3) (0,0)
def Ga.count (g : Ga) : Int:=2+g.nodes.length
def Ga.cty (g : Ga) (c : Int) : Option CellTy:=if c<1 then none else g.ty[c.toNat - 1]?
def Ga.first (g : Ga) (c : Int) : Int:=g.ini.getD (c.toNat - 1) 0
def isI (g : Ga) (r : Int) (b : Lab) : Prop:=(g.node r).kind=2∧g.label r=b
def isM (g : Ga) (r : Int) (b : Lab) : Prop:=(g.node r).isMain=true∧g.label r=b
def isS (g : Ga) (r : Int) (b : Lab) : Prop:=(g.node r).kind=4∧(g.node r).hash % 64 ^ b.1=b.2
def isF (g : Ga) (r : Int) (b : Lab) : Prop:=(g.node r).kind=7∧g.label r=b
def isD (g : Ga) (r : Int) : Prop:=(g.node r).kind=8
def Holds (g : Ga) (c v : Int) : CellTy→Prop
 | .root=>isI g v (0,0)∨isD g v
 | .fixed=>isI g v (0,0)
 | .main b=>isM g v b
 | .prev b=>v=0∨isF g v b∨(v=g.first c∧isM g v b∧¬ g.dec c)
 | .status=>v=0∨v=1∨v=2
def May (g : Ga) (n : Int) : CellTy→Prop
 | .root=>isI g n (0,0)∨isD g n
 | .fixed=>False
 | .main b=>isM g n b
 | .prev b=>n=0∨isF g n b
 | .status=>n=1∨n=2
structure NodeOk (g : Ga) (n : Node) (b : Lab) : Prop where
 valid : n.valid=true
 fit : ∃ L,n.Fit L
 lo : 2≤n.kind
 hi : n.kind≤8
 i : n.kind=2→n.gen≤g.gen∧b.1≤11
 c : n.kind=3→b.1≤10∧b.2<64 ^ b.1∧∀ k,(blookup n k).2=true→isI g (blookup n k).1 (deeper b k)∨isS g (blookup n k).1 (deeper b k)
 t : n.kind=5→1≤b.1∧n.hash % 64 ^ b.1=b.2
 l : n.kind=6→b.1=11∧n.hash % 64 ^ b.1=b.2
 f : n.kind=7→isM g n.old b
 d : n.kind=8→isI g n.old (0,0)∧isM g n.expected (0,0)∧isI g n.new (0,0)
def Node.cellTy (n : Node) (b : Lab) : Option CellTy:=if n.kind=2 then some (.main b) else if n.isMain=true then some (.prev b) else if n.kind=8 then some .status else none
def Node.cellOf (n : Node) : Int:=n.main+n.prev+n.status
def Node.hasCell (n : Node) : Bool:=n.kind==2 || n.isMain || n.kind==8
def InitOk (g : Ga) (n : Node) (i : Int) (b : Lab) : Prop:=(n.kind=2→isM g i b)∧(n.isMain=true→i=0∨isM g i b)∧(n.kind=8→i=0)
def Ga.zip (g : Ga) : List (Node × Lab):=g.nodes.zip g.lab
structure GW (g : Ga) : Prop where
 node : ∀ n ∈ g.zip,NodeOk g n.1 n.2
 cell : ∀ n ∈ g.zip,∀ τ,n.1.cellTy n.2=some τ→g.cty n.1.cellOf=some τ
 main : ∀ n ∈ g.zip,n.1.kind=2→n.1.cellOf=n.1.main
 prev : ∀ n ∈ g.zip,n.1.isMain=true→n.1.cellOf=n.1.prev
 status : ∀ n ∈ g.zip,n.1.kind=8→n.1.cellOf=n.1.status
 sort : (g.nodes.filter Node.hasCell).Pairwise fun a b=>a.cellOf<b.cellOf
 len : g.ini.length=g.ty.length
 lab : g.lab.length=g.nodes.length
structure Ge (g g' : Ga) : Prop where
 nodes : g.nodes <+: g'.nodes
 lab : g.lab <+: g'.lab
 ty : g.ty <+: g'.ty
 ini : g.ini <+: g'.ini
 gen : g.gen≤g'.gen
 dec : ∀ c,g.dec c→g'.dec c
 eq : g.lab.length=g.nodes.length
theorem Ge.refl {g : Ga} (h : GW g) : Ge g g :=⟨List.prefix_refl _,List.prefix_refl _,List.prefix_refl _,List.prefix_refl _,Nat.le_refl _,fun _ h=>h,h.lab⟩
theorem Ge.trans {a b c : Ga} (h : Ge a b) (k : Ge b c) : Ge a c :=⟨h.nodes.trans k.nodes,h.lab.trans k.lab,h.ty.trans k.ty,h.ini.trans k.ini,Nat.le_trans h.gen k.gen,fun c hc=>k.dec c (h.dec c hc),h.eq⟩
theorem prefix_get {α : Type} {l l' : List α} (h : l <+: l') {i : Nat} (hi : i<l.length) (d : α) : l'.getD i d=l.getD i d:=by
 obtain ⟨t,rfl⟩:=h
 rw [List.getD_eq_getElem?_getD,List.getD_eq_getElem?_getD,List.getElem?_append_left hi]
theorem node_eq (g : Ga) (r : Int) : g.node r=if r<1∨((2+g.nodes.length : Nat) : Int)<r then {} else if r≤2 then markNode else g.nodes.getD (r.toNat - 3) {}:=rfl
theorem Ge.node {g g' : Ga} (h : Ge g g') {r : Int} (hr : r≤g.count) : g'.node r=g.node r:=by
 have hl:=h.nodes.length_le
 unfold Ga.count at hr
 rw [node_eq,node_eq]
 by_cases h1 : r<1
 ·rw [if_pos (.inl h1),if_pos (.inl h1)]
 ·rw [if_neg (show ¬ (r<1∨((2+g'.nodes.length : Nat) : Int)<r) by omega),if_neg (show ¬ (r<1∨((2+g.nodes.length : Nat) : Int)<r) by omega)]
  by_cases h2 : r≤2
  ·rw [if_pos h2,if_pos h2]
  ·rw [if_neg h2,if_neg h2]
   exact prefix_get h.nodes (by omega) _
theorem Ge.label {g g' : Ga} (h : Ge g g') {r : Int} (hr : r≤g.count) (h3 : 3≤r) : g'.label r=g.label r:=by
 unfold Ga.count at hr
 unfold Ga.label
 exact prefix_get h.lab (by rw [h.eq]; omega) _
theorem node_zero {g : Ga} {r : Int} (h : g.count<r) : g.node r={}:=by
 unfold Ga.count at h
 rw [node_eq,if_pos (.inr (by omega))]
theorem in_of_kind {g : Ga} {r : Int} (h : (g.node r).kind≠0) : r≤g.count:=by
 rcases Int.lt_or_le g.count r with h1 | h1
 ·rw [node_zero h1] at h; exact absurd rfl h
 ·exact h1
theorem node_one {g : Ga} {r : Int} (h : (g.node r).kind≠0) : 1≤r:=by
 rcases Int.lt_or_le r 1 with h1 | h1
 ·rw [node_eq,if_pos (.inl h1)] at h; exact absurd rfl h
 ·exact h1
theorem node_three {g : Ga} {r : Int} (h : 2≤(g.node r).kind) : 3≤r:=by
 have h0:=node_one (g:=g) (r:=r) (by omega)
 have h1:=in_of_kind (g:=g) (r:=r) (by omega)
 unfold Ga.count at h1
 rw [node_eq,if_neg (by omega)] at h
 by_cases h2 : r≤2
 ·rw [if_pos h2] at h; exact absurd h (by decide)
 ·omega
theorem isM_kind {g : Ga} {r : Int} {b : Lab} (h : isM g r b) : (g.node r).kind=3∨(g.node r).kind=5∨(g.node r).kind=6:=by
 have:=h.1; unfold Node.isMain at this; simpa [or_assoc] using this
theorem isI.in_ {g : Ga} {r : Int} {b : Lab} (h : isI g r b) : r≤g.count:=in_of_kind (by rw [h.1]; decide)
theorem isS.in_ {g : Ga} {r : Int} {b : Lab} (h : isS g r b) : r≤g.count:=in_of_kind (by rw [h.1]; decide)
theorem isF.in_ {g : Ga} {r : Int} {b : Lab} (h : isF g r b) : r≤g.count:=in_of_kind (by rw [h.1]; decide)
theorem isD.in_ {g : Ga} {r : Int} (h : isD g r) : r≤g.count:=in_of_kind (by rw [show (g.node r).kind=8 from h]; decide)
theorem isM.in_ {g : Ga} {r : Int} {b : Lab} (h : isM g r b) : r≤g.count:=in_of_kind (by rcases isM_kind h with h | h | h <;> rw [h] <;> decide)
theorem isM.two {g : Ga} {r : Int} {b : Lab} (h : isM g r b) : 2≤(g.node r).kind:=by rcases isM_kind h with h | h | h <;> rw [h] <;> decide
theorem isI.ge {g g' : Ga} {r : Int} {b : Lab} (h : isI g r b) (k : Ge g g') : isI g' r b:=by
 unfold isI; rw [k.node h.in_,k.label h.in_ (node_three (by rw [h.1]; decide))]; exact h
theorem isS.ge {g g' : Ga} {r : Int} {b : Lab} (h : isS g r b) (k : Ge g g') : isS g' r b:=by unfold isS; rw [k.node h.in_]; exact h
theorem isF.ge {g g' : Ga} {r : Int} {b : Lab} (h : isF g r b) (k : Ge g g') : isF g' r b:=by
 unfold isF; rw [k.node h.in_,k.label h.in_ (node_three (by rw [h.1]; decide))]; exact h
theorem isD.ge {g g' : Ga} {r : Int} (h : isD g r) (k : Ge g g') : isD g' r:=by unfold isD at *; rw [k.node (isD.in_ h)]; exact h
theorem isM.ge {g g' : Ga} {r : Int} {b : Lab} (h : isM g r b) (k : Ge g g') : isM g' r b:=by
 unfold isM; rw [k.node h.in_,k.label h.in_ (node_three h.two)]; exact h
theorem Ge.cty {g g' : Ga} (h : Ge g g') {c : Int} {τ : CellTy} (hc : g.cty c=some τ) : g'.cty c=some τ:=by
 unfold Ga.cty at hc ⊢
 split at hc
 ·cases hc
 ·rename_i h1
  rw [if_neg h1]
  obtain ⟨t,ht⟩:=h.ty
  rw [← ht,List.getElem?_append_left (List.getElem?_eq_some_iff.1 hc).1]; exact hc
theorem Ge.first {g g' : Ga} (h : Ge g g') (hw : GW g) {c : Int} {τ : CellTy} (hc : g.cty c=some τ) : g'.first c=g.first c:=by
 unfold Ga.cty at hc
 split at hc
 ·cases hc
 ·have:=(List.getElem?_eq_some_iff.1 hc).1
  exact prefix_get h.ini (by rw [hw.len]; exact this) _
theorem node_mem {g : Ga} (hw : GW g) {r : Int} (h : 2≤(g.node r).kind) : (g.node r,g.label r) ∈ g.zip:=by
 have h0:=node_three (g:=g) (r:=r) h
 have h1:=in_of_kind (g:=g) (r:=r) (by omega)
 have hl:=hw.lab
 unfold Ga.count at h1
 rw [node_eq,if_neg (by omega),if_neg (by omega),List.getD_eq_getElem?_getD,List.getElem?_eq_getElem (by omega)]
 unfold Ga.label Ga.zip
 rw [List.getD_eq_getElem?_getD,List.getElem?_eq_getElem (by omega)]
 have hz : r.toNat - 3<(g.nodes.zip g.lab).length:=by rw [List.length_zip]; omega
 have:=List.getElem_mem hz
 rw [List.getElem_zip] at this
 exact this
theorem GW.of {g : Ga} (h : GW g) {r : Int} (hr : 2≤(g.node r).kind) : NodeOk g (g.node r) (g.label r):=h.node _ (node_mem h hr)
theorem GW.ofI {g : Ga} (h : GW g) {r : Int} {b : Lab} (hr : isI g r b) : NodeOk g (g.node r) b:=by rw [← hr.2]; exact h.of (by rw [hr.1]; decide)
theorem GW.ofM {g : Ga} (h : GW g) {r : Int} {b : Lab} (hr : isM g r b) : NodeOk g (g.node r) b:=by rw [← hr.2]; exact h.of hr.two
theorem GW.ofF {g : Ga} (h : GW g) {r : Int} {b : Lab} (hr : isF g r b) : NodeOk g (g.node r) b:=by rw [← hr.2]; exact h.of (by rw [hr.1]; decide)
theorem GW.ofD {g : Ga} (h : GW g) {r : Int} (hr : isD g r) : NodeOk g (g.node r) (g.label r):=h.of (by rw [show (g.node r).kind=8 from hr]; decide)
theorem GW.ofS {g : Ga} (h : GW g) {r : Int} {b : Lab} (hr : isS g r b) : NodeOk g (g.node r) (g.label r):=h.of (by rw [hr.1]; decide)
theorem GW.mainC {g : Ga} (h : GW g) {r : Int} {b : Lab} (hr : isI g r b) : g.cty (g.node r).main=some (.main b):=by
 have hm:=node_mem h (r:=r) (by rw [hr.1]; decide)
 have:=h.cell _ hm (.main b) (by unfold Node.cellTy; rw [if_pos hr.1,hr.2])
 rwa [h.main _ hm hr.1] at this
theorem GW.prevC {g : Ga} (h : GW g) {r : Int} {b : Lab} (hr : isM g r b) : g.cty (g.node r).prev=some (.prev b):=by
 have hk:=isM_kind hr
 have hm:=node_mem h (r:=r) hr.two
 have:=h.cell _ hm (.prev b) (by unfold Node.cellTy; rw [if_neg (by show ¬ (g.node r).kind=2; omega),if_pos hr.1,hr.2])
 rwa [h.prev _ hm hr.1] at this
theorem GW.statC {g : Ga} (h : GW g) {r : Int} (hr : isD g r) : g.cty (g.node r).status=some .status:=by
 have hk : (g.node r).kind=8:=hr
 have hm:=node_mem h (r:=r) (by omega)
 have:=h.cell _ hm .status (by unfold Node.cellTy Node.isMain; rw [if_neg (by show ¬ (g.node r).kind=2; omega),if_neg (by show ¬ _; rw [hk]; decide),if_pos hk])
 rwa [h.status _ hm hk] at this
def Tk (g : Ga) (t : Trie) : Prop:=g.cty t.root=some (bif t.readOnly then .fixed else .root)
theorem Tk.ge {g g' : Ga} {t : Trie} (h : Tk g t) (k : Ge g g') : Tk g' t:=k.cty h
theorem Tk.root {g : Ga} {t : Trie} (h : Tk g t) (hr : t.readOnly=false) : g.cty t.root=some .root:=by unfold Tk at h; rw [hr] at h; exact h
theorem Tk.fixed {g : Ga} {t : Trie} (h : Tk g t) (hr : t.readOnly=true) : g.cty t.root=some .fixed:=by unfold Tk at h; rw [hr] at h; exact h
def Ga.cell (g : Ga) (τ : CellTy) (i : Int) : Ga:={ g with ty:=g.ty ++ [τ],ini:=g.ini ++ [i] }
def Ga.put (g : Ga) (n : Node) (b : Lab) : Ga:={ g with nodes:=g.nodes ++ [n],lab:=g.lab ++ [b] }
def Ga.alloc (g : Ga) (n : Node) (i : Int) (b : Lab) : Ga :=
 if n.kind=2 then (g.cell (.main b) i).put { n.bare with main:=(g.ty.length : Int)+1 } b
 else if n.isMain=true then (g.cell (.prev b) i).put { n.bare with prev:=(g.ty.length : Int)+1 } b
 else if n.kind=8 then (g.cell .status i).put { n.bare with status:=(g.ty.length : Int)+1 } b
 else g.put n.bare b
def Ga.newGen (g : Ga) : Ga:={ g with gen:=g.gen+1 }
theorem bare_valid {n : Node} (h : n.valid=true) : n.bare.valid=true:=by
 unfold Node.valid at h ⊢
 simp only [Node.bare,Node.only,nodeEq] at h ⊢
 simp at h ⊢
 repeat' split at h
 all_goals simp_all
end Go.Ct
end
