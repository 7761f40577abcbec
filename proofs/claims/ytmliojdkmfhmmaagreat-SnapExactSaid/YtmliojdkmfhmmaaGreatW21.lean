/- Parts of a proof: Ayd, Nd. -/
import Derived.Test.YtmliojdkmfhmmaaGreatW13
import Derived.Test.YtmliojdkmfhmmaaGreatW14
import Derived.Test.YtmliojdkmfhmmaaGreatW16
import Derived.Test.YtmliojdkmfhmmaaGreatW12
import Derived.Test.YtmliojdkmfhmmaaGreatW09
import Derived.Test.YtmliojdkmfhmmaaGreatW20
import Derived.Test.YtmliojdkmfhmmaaGreatW17
set_option linter.unusedVariables false
set_option linter.unusedSimpArgs false
set_option maxRecDepth 100000
set_option maxHeartbeats 4000000
section
namespace Go.Proofs.YtmliojdkmfhmmaaGreat
open Go.E
theorem zc_132 : zc Tryz.prog 132 = some [.string .empty,.int .u64 0]:=by kernel_rfl
theorem en_206 : Ents Tryz.prog 206:=enG Tryz.func206 rfl rfl
theorem en_204 : Ents Tryz.prog 204:=enG Tryz.func204 rfl rfl
theorem en_207 : Ents Tryz.prog 207:=enG Tryz.func207 rfl rfl
theorem en_205 : Ents Tryz.prog 205:=enG Tryz.func205 rfl rfl
theorem en_208 : Ents Tryz.prog 208:=enG Tryz.func208 rfl rfl
theorem en_202 : Ents Tryz.prog 202:=enG Tryz.func202 rfl rfl
end Go.Proofs.YtmliojdkmfhmmaaGreat
end
section
namespace Go.Ct
theorem pv_geq {l : List Pair} (hv : pairsValid l=true) {k : Nat} (h1 : 1≤k) (hk : k<l.length) : (!Op.bytesLess (l.getD (k - 1) ⟨.empty,0⟩).key.toList (l.getD k ⟨.empty,0⟩).key.toList)=false:=by
 have h:=pv_lt l hv (k - 1) k (by omega) hk
 unfold keyLt pat at h
 rw [h]; rfl
end Go.Ct
namespace Go.Proofs.YtmliojdkmfhmmaaGreat
attribute [local irreducible] Go.E.wpL Go.E.wpS Go.E.X Go.E.XS Go.E.C Go.E.thn Go.E.blk Go.E.fin Go.E.Y Go.E.U Go.E.F Go.E.Ca Go.E.Res Go.E.bl Go.E.rb Go.E.osl Go.E.rsl Go.E.ex Go.E.ce Go.E.pu Go.E.sK Go.E.gK Go.E.bK Go.E.zK Go.E.boxA Go.E.cloA Go.E.codeA clA cdA
open Go.RowKit Go.E
open Go.Ct (pv_geq key_short only_1 only_2 only_3 only_4 only_5 only_6 only_7 only_8 valid_only valid_kind valid_vf)
variable {B w : World} {L : List As}
theorem sqRefs_any (l : List Int) (pa pb : Option Addr) (ca cb : Nat) (h : SH B w (rsl 1 (.slice pa l.length ca) l.length (l.map (Value.int .i64))::rsl 1 (.slice pb l.length cb) l.length (l.map (Value.int .i64))::L)) (hl : l.length≤1000000000000) :
  Calls Tryz.prog 250 #[.slice pa l.length ca,.slice pb l.length cb] w fun e w'=>e=.returned (.bool true)∧SH B w' (rsl 1 (.slice pa l.length ca) l.length (l.map (Value.int .i64))::rsl 1 (.slice pb l.length cb) l.length (l.map (Value.int .i64))::L):=by
 refine bn0 Tryz.func250 Tryz.ntmps250 h fun w h=>?_
 refine lp (α:=Nat) (fun ρ=>(.c 0 (.slice pa l.length ca) (.c 1 (.slice pb l.length cb) (.c 12 (.int .i64 ((l.length : Nat) : Int)) (.c 13 (.int .i64 ((ρ : Nat) : Int)) .n))))) (fun ρ w=>SH B w (rsl 1 (.slice pa l.length ca) l.length (l.map (Value.int .i64))::rsl 1 (.slice pb l.length cb) l.length (l.map (Value.int .i64))::L)∧(ρ≤l.length)) (fun ρ=>l.length - ρ) 0 ⟨rfl,rfl,rfl,rfl,trivial⟩ ⟨h,Nat.zero_le _⟩ ?_
 rintro k w ⟨h,hk⟩
 refine go h fun w h=>?_
 refine qc h (fun hd1 w h=>?_) fun hd1 w h=>?_
 have hg2:=of_decide_eq_true hd1
 refine go h fun w h=>?_
 obtain ⟨b3,o4,rfl⟩:=h.fq a0 (by omega)
 obtain ⟨b5,o6,rfl⟩:=h.fq a1 (by omega)
 refine drH [1,3,5,7,9,11,13,15,17] (by kernel_rfl) h (.c r0 (.c r0 .n)) fun w h=>?_
 refine tk (fun W H=>mv rfl)<|tk (fun W H=>mv rfl)<|tk (fun W H=>ix (j:=k) sl_60 sz_36 rfl rfl (by omega))<|tk (fun W H=>ld one_36 rfl ((H.rr a0).i (by omega)))<|tk (fun W H=>mv rfl)<|tk (fun W H=>mv rfl)<|tk (fun W H=>ix (j:=k) sl_60 sz_36 rfl rfl (by omega))<|tk (fun W H=>ld one_36 rfl ((H.rr a1).i (by omega)))<|tk (fun W H=>bi rfl rfl rfl)<|xz<|nx<|cf rfl (bneS _)<|sk<|bn<|nx<|rg<|st (bw rfl rfl (wadd (c:=((k+1 : Nat) : Int)) (by omega) (by omega) (by omega)))<|st (mv rfl)<|xe<|nx<|?_
 refine go h fun w h=>?_
 exact ⟨(k+1),⟨rfl,rfl,rfl,rfl,trivial⟩,⟨h,by (try dsimp only); omega⟩,by (try dsimp only); omega⟩
 have hg7:=of_decide_eq_false hd1
 refine go h fun w h=>?_
 exact rz ⟨rfl,h⟩
theorem sqPairs_any (l : List Ct.Pair) (pa pb : Option Addr) (ca cb : Nat) (h : SH B w (rsl 2 (.slice pa l.length ca) l.length (l.flatMap pairC)::rsl 2 (.slice pb l.length cb) l.length (l.flatMap pairC)::L)) (hl : l.length≤1000000000000) :
  Calls Tryz.prog 251 #[.slice pa l.length ca,.slice pb l.length cb] w fun e w'=>e=.returned (.bool true)∧SH B w' (rsl 2 (.slice pa l.length ca) l.length (l.flatMap pairC)::rsl 2 (.slice pb l.length cb) l.length (l.flatMap pairC)::L):=by
 refine bn0 Tryz.func251 Tryz.ntmps251 h fun w h=>?_
 refine lp (α:=Nat) (fun ρ=>(.c 0 (.slice pa l.length ca) (.c 1 (.slice pb l.length cb) (.c 12 (.int .i64 ((l.length : Nat) : Int)) (.c 13 (.int .i64 ((ρ : Nat) : Int)) .n))))) (fun ρ w=>SH B w (rsl 2 (.slice pa l.length ca) l.length (l.flatMap pairC)::rsl 2 (.slice pb l.length cb) l.length (l.flatMap pairC)::L)∧(ρ≤l.length)) (fun ρ=>l.length - ρ) 0 ⟨rfl,rfl,rfl,rfl,trivial⟩ ⟨h,Nat.zero_le _⟩ ?_
 rintro k w ⟨h,hk⟩
 refine go h fun w h=>?_
 refine qc h (fun hd1 w h=>?_) fun hd1 w h=>?_
 have hg2:=of_decide_eq_true hd1
 refine go h fun w h=>?_
 obtain ⟨b3,o4,rfl⟩:=h.fq a0 (by omega)
 obtain ⟨b5,o6,rfl⟩:=h.fq a1 (by omega)
 refine drH [1,3,5,7,9,11,13,15,17] (by kernel_rfl) h (.c r0 (.c r0 .n)) fun w h=>go h fun w h=>?_
 refine tk (fun W H=>ldr rfl ((H.rr a0).x pairC_len (by decide) (by omega) ⟨.empty,0⟩) Row.h)<|go h fun w h=>?_
 refine tk (fun W H=>ldr rfl ((H.rr a1).x pairC_len (by decide) (by omega) ⟨.empty,0⟩) Row.h)<|tk (fun W H=>bne_ eq_132 rfl rfl rfl rfl)<|go h fun w h=>?_
 refine cf rfl (naeqS (aeqS2 _ _ _))<|go h fun w h=>?_
 exact ⟨(k+1),⟨rfl,rfl,rfl,rfl,trivial⟩,⟨h,by (try dsimp only); omega⟩,by (try dsimp only); omega⟩
 have hg7:=of_decide_eq_false hd1
 refine go h fun w h=>?_
 exact rz ⟨rfl,h⟩
theorem ppairsValid_any (l : List Ct.Pair) (p : Option Addr) (c : Nat) (h : SH B w (rsl 2 (.slice p l.length c) l.length (l.flatMap pairC)::L)) (hv : Ct.pairsValid l=true) (hl : l.length≤1000000000000) :
  Calls Tryz.prog 202 #[.slice p l.length c] w fun e w'=>e=.returned (.bool true)∧SH B w' (rsl 2 (.slice p l.length c) l.length (l.flatMap pairC)::L):=by
 refine bn0 Tryz.func202 Tryz.ntmps202 h fun w h=>?_
 refine lp (α:=Nat) (fun ρ=>(.c 0 (.slice p l.length c) (.c 3 (.int .i64 ((ρ : Nat) : Int)) .n))) (fun ρ w=>SH B w (rsl 2 (.slice p l.length c) l.length (l.flatMap pairC)::L)∧(1≤ρ)) (fun ρ=>l.length - ρ) 1 ⟨rfl,rfl,trivial⟩ ⟨h,Nat.le_refl _⟩ ?_
 rintro k w ⟨h,h1⟩
 refine go h fun w h=>?_
 refine qc h (fun hd1 w h=>?_) fun hd1 w h=>?_
 ·have hg2:=of_decide_eq_true hd1
  refine go h fun w h=>?_
  obtain ⟨b3,o4,rfl⟩:=h.fq a0 (by omega)
  refine drH [1,3,5,7,9,11,13,15,17,19,21,23] (by kernel_rfl) h (.c r0 .n) fun w h=>go h fun w h=>?_
  refine tk (fun W H=>bs ((k - 1 : Nat) : Int))<|go h fun w h=>?_
  refine tk (fun W H=>ld One.h rfl ((H.rr a0).x pairC_len (by decide) (by omega) ⟨.empty,0⟩ 0 _ rfl))<|go h fun w h=>?_
  refine tk (fun W H=>ld One.h rfl ((H.rr a0).x pairC_len (by decide) (by omega) ⟨.empty,0⟩ 0 _ rfl))<|go h fun w h=>?_
  refine cf rfl (pv_geq hv h1 (by omega))<|go h fun w h=>?_
  exact ⟨(k+1),⟨rfl,rfl,trivial⟩,⟨h,by (try dsimp only); omega⟩,by (try dsimp only); omega⟩
 ·have hg5:=of_decide_eq_false hd1
  refine go h fun w h=>?_
  exact rz ⟨rfl,h⟩
section
attribute [local semireducible] Go.E.wpL Go.E.wpS Go.E.X Go.E.XS Go.E.C Go.E.thn Go.E.blk Go.E.fin Go.E.Y Go.E.U Go.E.F Go.E.Ca Go.E.Res Go.E.bl Go.E.rb Go.E.osl Go.E.rsl Go.E.ex Go.E.ce Go.E.pu Go.E.sK Go.E.gK Go.E.bK Go.E.zK Go.E.boxA Go.E.cloA Go.E.codeA clA cdA
attribute [local irreducible] Go.E.wpL Go.E.wpS
variable {B w : World} {L : List As}
theorem pkeys_any (l : List Ct.Pair) (p : Option Addr) (c : Nat) (h : SH B w (rsl 2 (.slice p l.length c) l.length (l.flatMap pairC)::L)) (hs : Ct.keysShort l=true) (hl : l.length≤1000000000000) :
  Calls Tryz.prog 208 #[.slice p l.length c] w fun e w'=>e=.returned (.bool true)∧SH B w' (rsl 2 (.slice p l.length c) l.length (l.flatMap pairC)::L):=by
 refine bgn (args:=[_]) Tryz.func208 rfl Tryz.ntmps208 rfl ?_
 refine sq<|rg<|st (sg rfl)<|xe<|nx<|sq<|sq<|rg<|st (mv rfl)<|st (ln sl_38 rfl rfl)<|st (mv rfl)<|xe<|nx<|bk<|?_
 refine lp (α:=Nat) (fun ρ=>(.c 5 (.slice p l.length c) (.c 6 (.int .i64 ((l.length : Nat) : Int)) (.c 7 (.int .i64 ((ρ : Nat) : Int)) .n)))) (fun ρ w=>SH B w (rsl 2 (.slice p l.length c) l.length (l.flatMap pairC)::L)∧(ρ≤l.length)) (fun ρ=>l.length - ρ) 0 ⟨rfl,rfl,rfl,trivial⟩ ⟨h,Nat.zero_le _⟩ ?_
 rintro k w ⟨h,hk⟩
 refine sq<|rg<|st (bi rfl rfl rfl)<|xe<|nx<|sq<|?_
 rcases Bool.eq_false_or_eq_true (decide ((((k : Nat) : Int) : Int)<((l.length : Nat) : Int))) with hd1 | hd1
 ·have hg2:=of_decide_eq_true hd1
  refine ct rfl hd1<|sk<|nx<|sq<|bk<|sq<|rg<|?_
  obtain ⟨b3,o4,rfl⟩:=h.fq a0 (by omega)
  refine st (ix (j:=k) sl_38 sz_132 rfl rfl (by omega))<|st (ldr rfl ((h.rr a0).x pairC_len (by decide) (by omega) ⟨.empty,0⟩) row_132)<|sf (al h zc_132)<|?_
  rintro _ w ⟨b5,rfl,h⟩
  refine sf (so h rfl rfl rfl sz_132 rfl (.r (.r .d)) u0)<|?_
  rintro _ w h
  refine xe<|nx<|sq<|rg<|st (fa fo_132_0 rfl)<|st (ld one_9 rfl (h.c a0 rfl))<|st (lns un_9 rfl rfl)<|st (bi rfl rfl rfl)<|xe<|nx<|cf rfl (key_short hs (by omega))<|sk<|bn<|nx<|rg<|st (bw rfl rfl (wadd (c:=((k+1 : Nat) : Int)) (by omega) (by omega) (by omega)))<|st (mv rfl)<|xe<|nx<|?_
  exact ⟨(k+1),⟨rfl,rfl,rfl,trivial⟩,⟨h.drop,by (try dsimp only); omega⟩,by (try dsimp only); omega⟩
 ·have hg6:=of_decide_eq_false hd1
  refine cf rfl hd1<|xt<|tx<|tx<|be<|nx<|sq<|rg<|st (sg rfl)<|xe<|nx<|rt<|?_
  refine rr (res1 Tryz.results208 rfl)<|⟨rfl,h⟩
end
variable {B w : World} {L : List As}
theorem allNodes_any (l : List Int) (p : Option Addr) (c : Nat) (h : SH B w (rsl 1 (.slice p l.length c) l.length (l.map (Value.int .i64))::L)) (hp : ∀ k,k<l.length→1≤l.getD k 0) (hl : l.length≤1000000000000) :
  Calls Tryz.prog 207 #[.slice p l.length c] w fun e w'=>e=.returned (.bool true)∧SH B w' (rsl 1 (.slice p l.length c) l.length (l.map (Value.int .i64))::L):=by
 refine bn0 Tryz.func207 Tryz.ntmps207 h fun w h=>?_
 refine lp (α:=Nat) (fun ρ=>(.c 5 (.slice p l.length c) (.c 6 (.int .i64 ((l.length : Nat) : Int)) (.c 7 (.int .i64 ((ρ : Nat) : Int)) .n)))) (fun ρ w=>SH B w (rsl 1 (.slice p l.length c) l.length (l.map (Value.int .i64))::L)∧(ρ≤l.length)) (fun ρ=>l.length - ρ) 0 ⟨rfl,rfl,rfl,trivial⟩ ⟨h,Nat.zero_le _⟩ ?_
 rintro k w ⟨h,hk⟩
 refine go h fun w h=>?_
 refine qc h (fun hd1 w h=>?_) fun hd1 w h=>?_
 have hg2:=of_decide_eq_true hd1
 refine go h fun w h=>?_
 obtain ⟨b3,o4,rfl⟩:=h.fq a0 (by omega)
 refine go h fun w h=>?_
 refine cf rfl (decide_eq_false (by have:=hp k (by omega); omega))<|go h fun w h=>?_
 exact ⟨(k+1),⟨rfl,rfl,rfl,trivial⟩,⟨h,by (try dsimp only); omega⟩,by (try dsimp only); omega⟩
 have hg5:=of_decide_eq_false hd1
 refine go h fun w h=>?_
 exact rz ⟨rfl,h⟩
theorem own_any (n : Ct.Node) (q : Lq) (h : SH B w (nodeR n q::L)) (hk : 1≤n.kind∧n.kind≤8) :
  Calls Tryz.prog 205 #[.agg (nodeC n q).toArray] w fun e w'=>∃ q',e=.returned (.agg (nodeC n.only q').toArray)∧SH B w' (nodeR n.only q'::nodeR n q::L):=by
 refine bn0 Tryz.func205 Tryz.ntmps205 h fun w h=>?_
 refine jX h fun b1 w h=>?_
 refine jA h fun b2 w h=>?_
 refine jA h fun b3 w h=>?_
 refine qc h (fun hd4 w h=>?_) fun hd4 w h=>?_
 have hg5:=eq_of_beq hd4
 refine go h fun w h=>?_
 refine drH [1,3,5,7,9,10,13,14] (by kernel_rfl) h (.c r2 .n) fun w h=>go h fun w h=>?_
 refine rr (resC rfl rfl (h.b a1) Row.h) ?_
 have e1:=only_2 n (by have:=eq_of_beq hd4; omega)
 exact ⟨{},by unfold nodeC; rw [e1]; rfl,SH.duM h.drop.drop.drop .z (.inr ⟨by rw [e1],rfl,rfl⟩) (.inr ⟨by rw [e1],rfl,rfl⟩)⟩
 have hg6:=ne_of_beq_false hd4
 refine go h fun w h=>?_
 refine qc h (fun hd7 w h=>?_) fun hd7 w h=>?_
 have hg8:=eq_of_beq hd7
 refine go h fun w h=>?_
 refine drH [1,3,5,7,9,11,13,14,17,18,21,22] (by kernel_rfl) h (.c r2 .n) fun w h=>go h fun w h=>?_
 refine rr (resC rfl rfl (h.b a1) Row.h) ?_
 have e1:=only_3 n (by have:=ne_of_beq_false hd4; have:=eq_of_beq hd7; omega)
 exact ⟨⟨q.pb,q.cb,none,0⟩,by unfold nodeC; rw [e1]; rfl,SH.duM h.drop.drop.drop .z (.inl ⟨by rw [e1],rfl,rfl⟩) (.inr ⟨by rw [e1],rfl,rfl⟩)⟩
 have hg9:=ne_of_beq_false hd7
 refine go h fun w h=>?_
 refine qc h (fun hd10 w h=>?_) fun hd10 w h=>?_
 have hg11:=eq_of_beq hd10
 refine go h fun w h=>?_
 refine drH [1,3,5,7,9,11,13,14,17,18,21,22] (by kernel_rfl) h (.c r2 .n) fun w h=>go h fun w h=>?_
 refine rr (resC rfl rfl (h.b a1) Row.h) ?_
 have e1:=only_5 n (by have:=ne_of_beq_false hd4; have:=ne_of_beq_false hd7; have:=eq_of_beq hd10; omega)
 exact ⟨{},by unfold nodeC; rw [e1]; rfl,SH.duM h.drop.drop.drop .z (.inr ⟨by rw [e1],rfl,rfl⟩) (.inr ⟨by rw [e1],rfl,rfl⟩)⟩
 have hg12:=ne_of_beq_false hd10
 refine go h fun w h=>?_
 refine qc h (fun hd13 w h=>?_) fun hd13 w h=>?_
 have hg14:=eq_of_beq hd13
 refine go h fun w h=>?_
 refine drH [1,3,5,7,9,11,13,14,17,18,21,22] (by kernel_rfl) h (.c r2 .n) fun w h=>go h fun w h=>?_
 refine rr (resC rfl rfl (h.b a1) Row.h) ?_
 have e1:=only_4 n (by have:=ne_of_beq_false hd4; have:=ne_of_beq_false hd7; have:=ne_of_beq_false hd10; have:=eq_of_beq hd13; omega)
 exact ⟨{},by unfold nodeC; rw [e1]; rfl,SH.duM h.drop.drop.drop .z (.inr ⟨by rw [e1],rfl,rfl⟩) (.inr ⟨by rw [e1],rfl,rfl⟩)⟩
 have hg15:=ne_of_beq_false hd13
 refine go h fun w h=>?_
 refine qc h (fun hd16 w h=>?_) fun hd16 w h=>?_
 have hg17:=eq_of_beq hd16
 refine go h fun w h=>?_
 refine drH [1,3,5,7,9,11,13,14,17,18,21,22] (by kernel_rfl) h (.c r2 .n) fun w h=>go h fun w h=>?_
 refine rr (resC rfl rfl (h.b a1) Row.h) ?_
 have e1:=only_6 n (by have:=ne_of_beq_false hd4; have:=ne_of_beq_false hd7; have:=ne_of_beq_false hd10; have:=ne_of_beq_false hd13; have:=eq_of_beq hd16; omega)
 exact ⟨⟨none,0,q.pp,q.cp⟩,by unfold nodeC; rw [e1]; rfl,SH.duM h.drop.drop.drop .z (.inr ⟨by rw [e1],rfl,rfl⟩) (.inl ⟨by rw [e1],rfl,rfl⟩)⟩
 have hg18:=ne_of_beq_false hd16
 refine go h fun w h=>?_
 refine qc h (fun hd19 w h=>?_) fun hd19 w h=>?_
 have hg20:=eq_of_beq hd19
 refine go h fun w h=>?_
 refine drH [1,3,5,7,9,11,13,14,17,18,21,22] (by kernel_rfl) h (.c r2 .n) fun w h=>go h fun w h=>?_
 refine rr (resC rfl rfl (h.b a1) Row.h) ?_
 have e1:=only_8 n (by have:=ne_of_beq_false hd4; have:=ne_of_beq_false hd7; have:=ne_of_beq_false hd10; have:=ne_of_beq_false hd13; have:=ne_of_beq_false hd16; have:=eq_of_beq hd19; omega)
 exact ⟨{},by unfold nodeC; rw [e1]; rfl,SH.duM h.drop.drop.drop .z (.inr ⟨by rw [e1],rfl,rfl⟩) (.inr ⟨by rw [e1],rfl,rfl⟩)⟩
 have hg21:=ne_of_beq_false hd19
 refine go h fun w h=>?_
 refine qc h (fun hd22 w h=>?_) fun hd22 w h=>?_
 have hg23:=eq_of_beq hd22
 refine go h fun w h=>?_
 refine rr (resC rfl rfl (h.b a1) Row.h) ?_
 have e1:=only_7 n (by have:=ne_of_beq_false hd4; have:=ne_of_beq_false hd7; have:=ne_of_beq_false hd10; have:=ne_of_beq_false hd13; have:=ne_of_beq_false hd16; have:=ne_of_beq_false hd19; have:=eq_of_beq hd22; omega)
 exact ⟨{},by unfold nodeC; rw [e1]; rfl,SH.duM h.drop.drop.drop .z (.inr ⟨by rw [e1],rfl,rfl⟩) (.inr ⟨by rw [e1],rfl,rfl⟩)⟩
 have hg24:=ne_of_beq_false hd22
 refine go h fun w h=>?_
 refine rr (resC rfl rfl (h.b a1) Row.h) ?_
 have e1:=only_1 n (by have:=ne_of_beq_false hd4; have:=ne_of_beq_false hd7; have:=ne_of_beq_false hd10; have:=ne_of_beq_false hd13; have:=ne_of_beq_false hd16; have:=ne_of_beq_false hd19; have:=ne_of_beq_false hd22; omega)
 exact ⟨{},by unfold nodeC; rw [e1]; rfl,SH.duM h.drop.drop.drop .z (.inr ⟨by rw [e1],rfl,rfl⟩) (.inr ⟨by rw [e1],rfl,rfl⟩)⟩
theorem own_v (n : Ct.Node) (q : Lq) (hv : n.valid=true) (h : SH B w (nodeR n q::L)) :
  Calls Tryz.prog 205 #[.agg (nodeC n q).toArray] w fun e w'=>∃ q',e=.returned (.agg (nodeC n q').toArray)∧SH B w' (nodeR n q'::nodeR n q::L):=by
 have e1:=valid_only hv
 refine (own_any n q h (valid_kind hv)).mono fun e w'=>?_
 rw [← e1]; exact id
theorem nequal_any (n : Ct.Node) (q1 q2 : Lq) (h : SH B w (nodeR n q1::nodeR n q2::L)) (hb : n.branches.length≤1000000000000) (hp : n.pairs.length≤1000000000000) :
  Calls Tryz.prog 204 #[.agg (nodeC n q1).toArray,.agg (nodeC n q2).toArray] w fun e w'=>e=.returned (.bool true)∧SH B w' (nodeR n q1::nodeR n q2::L):=by
 refine bn0 Tryz.func204 Tryz.ntmps204 h fun w h=>?_
 refine jX h fun b1 w h=>?_
 refine jX h fun b2 w h=>?_
 have h:=h.fr (.c r2 .n)
 have h:=SH.se (l:=[branchR n q1,pairR n q1]) h
 have h:=h.fr (.c r4 .n)
 have h:=SH.se (l:=[branchR n q2,pairR n q2]) h
 refine go h fun w h=>?_
 refine j000 (sqRefs_any _ _ _ _ _ h.to (by omega)) fun w h=>?_
 refine j000 (sqPairs_any _ _ _ _ _ h.to (by omega)) fun w h=>?_
 refine rz ?_
 have h:=((h.fr (.c r4 (.c r4 .n))).drop.drop.fr (.c r3 (.c r1 (.c r1 (.c r0 .n)))))
 have h:=SH.is (l:=[branchR n q2,pairR n q2]) h
 have h:=h.fr (.c r1 (.c r1 .n))
 exact ⟨by rw [(beqS _)],SH.is (l:=[branchR n q1,pairR n q1]) h⟩
section
attribute [local semireducible] Go.E.wpL Go.E.wpS Go.E.X Go.E.XS Go.E.C Go.E.thn Go.E.blk Go.E.fin Go.E.Y Go.E.U Go.E.F Go.E.Ca Go.E.Res Go.E.bl Go.E.rb Go.E.osl Go.E.rsl Go.E.ex Go.E.ce Go.E.pu Go.E.sK Go.E.gK Go.E.bK Go.E.zK Go.E.boxA Go.E.cloA Go.E.codeA clA cdA
attribute [local irreducible] Go.E.wpL Go.E.wpS
variable {B w : World} {L : List As}
theorem nvalid_any (n : Ct.Node) (pb : Option Addr) (cb : Nat) (pp : Option Addr) (cp : Nat) (h : SH B w (nodeR n (⟨pb,cb,pp,cp⟩)::L)) (hv : n.valid=true) (hb : n.branches.length≤1000000) (hp : n.pairs.length≤1000000000000) (hm : n.bitmap<18446744073709551616) :
  Calls Tryz.prog 151 #[.agg (nodeC n (⟨pb,cb,pp,cp⟩)).toArray] w fun e w'=>e=.returned (.bool true)∧SH B w' (nodeR n ⟨pb,cb,pp,cp⟩::L):=by
 have vf:=valid_vf hv
 have vf_kind:=vf.kind
 have vf_main:=vf.main
 have vf_prev:=vf.prev
 have vf_status:=vf.status
 have vf_gen:=vf.gen
 have vf_key:=vf.key
 have vf_pairs:=vf.pairs
 have vf_old:=vf.old
 have vf_desc:=vf.desc
 have hk1:=valid_kind hv
 refine bgn (args:=[_]) Tryz.func151 rfl Tryz.ntmps151 rfl ?_
 refine sq<|rg<|sf (bx h rfl rfl)<|?_
 rintro _ w ⟨b1,rfl,h⟩
 refine st (sg rfl)<|xe<|nx<|sq<|sq<|drH [1,3,4,6,9] (by kernel_rfl) h (.c r0 .n) fun w h=>tk (fun W H=>ldr rfl (rows_all (H.b a0)) row_77)<|tk (fun W H=>ldr rfl (rows_all (H.b a0)) row_77)<|cs (ca en_205 rfl) ((own_v n (⟨pb,cb,pp,cp⟩) hv (h.fr (.c r1 .n))).mono ?_)
 rintro _ w ⟨q2,rfl,h⟩
 refine ⟨_,rfl,h.hs (.c r2 .n),?_⟩
 refine cs (ca en_204 rfl) ((nequal_any n _ _ (h.fr (.c r1 (.c r0 .n))) (by omega) (by omega)).mono ?_)
 rintro _ w ⟨rfl,h⟩
 refine ⟨_,rfl,h.hs (.c r2 .n),?_⟩
 refine tk (fun W H=>nt rfl)<|xz<|nx<|cF rfl<|sk<|nx<|sq<|sq<|?_
 have h : SH B w (rsl 1 (.slice pb n.branches.length cb) n.branches.length (n.branches.map (Value.int .i64))::rsl 2 (.slice pp n.pairs.length cp) n.pairs.length (n.pairs.flatMap pairC)::nodeR n q2::bl b1 (nodeC n (⟨pb,cb,pp,cp⟩)) 77::L):=SH.se (l:=[branchR n (⟨pb,cb,pp,cp⟩),pairR n (⟨pb,cb,pp,cp⟩)]) h
 refine rg<|st (fa fo_77_2 rfl)<|st (ld one_33 rfl (h.c a3 rfl))<|st (bi rfl rfl rfl)<|st (mv rfl)<|gT rfl rfl (decide_eq_false (by omega))<|st (fa fo_77_9 rfl)<|gT rfl rfl (decide_eq_false (by omega))<|st (ld one_33 rfl (h.c a3 rfl))<|gT rfl rfl (decide_eq_false (by omega))<|st (bi rfl rfl rfl)<|st (pF rfl (decide_eq_false (by omega)) rfl)<|st (mv rfl)<|gT rfl rfl (decide_eq_false (by omega))<|st (fa fo_77_13 rfl)<|gT rfl rfl (decide_eq_false (by omega))<|st (ld one_33 rfl (h.c a3 rfl))<|gT rfl rfl (decide_eq_false (by omega))<|st (bi rfl rfl rfl)<|st (pF rfl (decide_eq_false (by omega)) rfl)<|xe<|nx<|cf rfl (decide_eq_false (by omega))<|sk<|nx<|sq<|sq<|rg<|st (fa fo_77_0 rfl)<|st (ld one_3 rfl (h.c a3 rfl))<|xe<|nx<|bk<|sq<|bk<|sq<|bk<|sq<|bk<|sq<|bk<|bk<|sq<|bk<|sq<|bk<|sq<|bk<|sq<|sq<|sq<|rg<|st (bi rfl rfl rfl)<|st (sg rfl)<|xe<|nx<|?_
 rcases Bool.eq_false_or_eq_true ((n.kind : Int)==1) with hd3 | hd3
 ·have hg4:=eq_of_beq hd3
  refine ct rfl hd3<|xt<|tx<|tx<|be<|nx<|sq<|sq<|rg<|st (sg rfl)<|xe<|nx<|rt<|tr<|bt<|tr<|bt<|tr<|bt<|bt<|tr<|bt<|tr<|bt<|tr<|bt<|tr<|bt<|tr<|?_
  refine rr (res1 Tryz.results151 rfl)<|?_
  exact ⟨rfl,SH.is (l:=[branchR n ⟨pb,cb,pp,cp⟩,pairR n ⟨pb,cb,pp,cp⟩]) (h.fr (.c r2 (.c r2 .n))).drop.drop⟩
 ·have hg5:=ne_of_beq_false hd3
  refine cf rfl hd3<|sk<|nx<|sq<|sq<|rg<|st (bi rfl rfl rfl)<|st (sg rfl)<|xe<|nx<|?_
  rcases Bool.eq_false_or_eq_true ((n.kind : Int)==2) with hd6 | hd6
  ·have hg7:=eq_of_beq hd6
   refine ct rfl hd6<|xt<|tx<|tx<|bo rfl<|tx<|be<|nx<|sq<|sq<|rg<|st (fa fo_77_1 rfl)<|st (ld one_3 rfl (h.c a3 rfl))<|st (bi rfl rfl rfl)<|st (sg rfl)<|xe<|nx<|rt<|tr<|bt<|tr<|bt<|bt<|tr<|bt<|tr<|bt<|tr<|bt<|tr<|bt<|tr<|?_
   refine rr (res1 Tryz.results151 rfl)<|?_
   exact ⟨by rw [show (decide ((n.gen : Int)≥1))=true from decide_eq_true (by omega)],SH.is (l:=[branchR n ⟨pb,cb,pp,cp⟩,pairR n ⟨pb,cb,pp,cp⟩]) (h.fr (.c r2 (.c r2 .n))).drop.drop⟩
  ·have hg8:=ne_of_beq_false hd6
   refine cf rfl hd6<|sk<|nx<|sq<|sq<|rg<|st (bi rfl rfl rfl)<|st (sg rfl)<|xe<|nx<|?_
   rcases Bool.eq_false_or_eq_true ((n.kind : Int)==3) with hd9 | hd9
   ·have hg10:=eq_of_beq hd9
    refine ct rfl hd9<|xt<|tx<|tx<|bo rfl<|tx<|bo rfl<|tx<|be<|nx<|sq<|sq<|drH [1,3,5,7,9,10,13,15,17,19,20,23,24] (by kernel_rfl) h (.c r3 .n) fun w h=>tk (fun W H=>fa fo_77_4 rfl)<|tk (fun W H=>ld one_60 rfl (H.c a0 rfl))<|tk (fun W H=>ln sl_60 rfl rfl)<|tk (fun W H=>fa fo_77_3 rfl)<|tk (fun W H=>ld one_28 rfl (H.c a0 rfl))<|cs (ca en_206 rfl) ((count_any n.bitmap (by omega) _).mono ?_)
    rintro _ _ ⟨rfl,rfl⟩
    refine ⟨_,rfl,h.hs (.c r3 .n),?_⟩
    refine tk (fun W H=>bi rfl rfl rfl)<|tk (fun W H=>mv rfl)<|gTs rfl rfl (beq_iff_eq.2 (by have:=vf.count (by omega); omega))<|tk (fun W H=>fa fo_77_4 rfl)<|gTs rfl rfl (beq_iff_eq.2 (by have:=vf.count (by omega); omega))<|tk (fun W H=>ld one_60 rfl (H.c a0 rfl))<|gTs rfl rfl (beq_iff_eq.2 (by have:=vf.count (by omega); omega))<|cs (ca en_207 rfl) ((allNodes_any n.branches _ _ (h.fr (.c r0 .n)) (vf.branch (by omega)) (by omega)).mono ?_)
    rintro _ w ⟨rfl,h⟩
    refine ⟨_,rfl,h.hs (.c r3 .n),?_⟩
    refine tk (fun W H=>pT rfl (beq_iff_eq.2 (by have:=vf.count (by omega); omega)) rfl)<|ef (sg rfl) (h.hs (.c r3 .n))<|xz<|nx<|rt<|tr<|bt<|bt<|tr<|bt<|tr<|bt<|tr<|bt<|tr<|bt<|tr<|?_
    refine rr (res1 Tryz.results151 rfl)<|?_
    exact ⟨rfl,SH.is (l:=[branchR n ⟨pb,cb,pp,cp⟩,pairR n ⟨pb,cb,pp,cp⟩]) (h.fr (.c r2 (.c r2 .n))).drop.drop⟩
   ·have hg11:=ne_of_beq_false hd9
    refine cf rfl hd9<|sk<|nx<|sq<|sq<|rg<|st (bi rfl rfl rfl)<|st (sg rfl)<|xe<|nx<|?_
    rcases Bool.eq_false_or_eq_true ((n.kind : Int)==4) with hd12 | hd12
    ·have hg13:=eq_of_beq hd12
     refine ct rfl hd12<|xt<|tx<|tx<|bo rfl<|tx<|bo rfl<|tx<|bo rfl<|tx<|be<|bn<|nx<|sq<|sq<|rg<|st (fa fo_77_6 rfl)<|st (ld one_9 rfl (h.c a3 rfl))<|st (lns un_9 rfl rfl)<|st (bi rfl rfl rfl)<|st (sg rfl)<|xe<|nx<|rt<|tr<|bt<|tr<|bt<|tr<|bt<|tr<|bt<|tr<|?_
     refine rr (res1 Tryz.results151 rfl)<|?_
     exact ⟨by rw [show (decide ((((n.key.size : Nat) : Int) : Int)≤64))=true from decide_eq_true (by omega)],SH.is (l:=[branchR n ⟨pb,cb,pp,cp⟩,pairR n ⟨pb,cb,pp,cp⟩]) (h.fr (.c r2 (.c r2 .n))).drop.drop⟩
    ·have hg14:=ne_of_beq_false hd12
     refine cf rfl hd12<|sk<|nx<|sq<|sq<|rg<|st (bi rfl rfl rfl)<|st (sg rfl)<|xe<|nx<|?_
     rcases Bool.eq_false_or_eq_true ((n.kind : Int)==5) with hd15 | hd15
     ·have hg16:=eq_of_beq hd15
      refine ct rfl hd15<|xt<|tx<|tx<|bo rfl<|tx<|bo rfl<|tx<|bo rfl<|tx<|bo rfl<|be<|nx<|sq<|sq<|rg<|st (fa fo_77_6 rfl)<|st (ld one_9 rfl (h.c a3 rfl))<|st (lns un_9 rfl rfl)<|st (bi rfl rfl rfl)<|st (sg rfl)<|xe<|nx<|rt<|tr<|bt<|tr<|bt<|tr<|bt<|tr<|bt<|tr<|?_
      refine rr (res1 Tryz.results151 rfl)<|?_
      exact ⟨by rw [show (decide ((((n.key.size : Nat) : Int) : Int)≤64))=true from decide_eq_true (by omega)],SH.is (l:=[branchR n ⟨pb,cb,pp,cp⟩,pairR n ⟨pb,cb,pp,cp⟩]) (h.fr (.c r2 (.c r2 .n))).drop.drop⟩
     ·have hg17:=ne_of_beq_false hd15
      refine cf rfl hd15<|sk<|nx<|sq<|sq<|rg<|st (bi rfl rfl rfl)<|st (sg rfl)<|xe<|nx<|?_
      rcases Bool.eq_false_or_eq_true ((n.kind : Int)==6) with hd18 | hd18
      ·have hg19:=eq_of_beq hd18
       refine ct rfl hd18<|xt<|tx<|tx<|bo rfl<|tx<|bo rfl<|tx<|bo rfl<|tx<|bo rfl<|bo rfl<|tx<|be<|nx<|sq<|sq<|rg<|st (fa fo_77_8 rfl)<|st (ld one_38 rfl (h.c a3 rfl))<|st (ln sl_38 rfl rfl)<|st (bi rfl rfl rfl)<|st (mv rfl)<|gT rfl rfl (decide_eq_true (by omega))<|st (fa fo_77_8 rfl)<|gT rfl rfl (decide_eq_true (by omega))<|st (ld one_38 rfl (h.c a3 rfl))<|gT rfl rfl (decide_eq_true (by omega))<|cl (ca en_202 rfl) ((ppairsValid_any n.pairs _ _ (h.fr (.c r1 .n)) (vf.sorted (by omega)) (by omega)).mono ?_)
       rintro _ w ⟨rfl,h⟩
       refine ⟨_,rfl,?_⟩
       refine st (pT rfl (decide_eq_true (by omega)) rfl)<|st (mv rfl)<|gT rfl rfl rfl<|st (fa fo_77_8 rfl)<|gT rfl rfl rfl<|st (ld one_38 rfl (h.c a3 rfl))<|gT rfl rfl rfl<|cl (ca en_208 rfl) ((pkeys_any n.pairs _ _ (h.fr (.c r0 .n)) (vf.short (by omega)) (by omega)).mono ?_)
       rintro _ w ⟨rfl,h⟩
       refine ⟨_,rfl,?_⟩
       refine st (pT rfl rfl rfl)<|st (sg rfl)<|xe<|nx<|rt<|tr<|bt<|tr<|bt<|tr<|bt<|tr<|?_
       refine rr (res1 Tryz.results151 rfl)<|?_
       exact ⟨rfl,SH.is (l:=[branchR n ⟨pb,cb,pp,cp⟩,pairR n ⟨pb,cb,pp,cp⟩]) ((h.fr (.c r2 (.c r2 .n))).drop.drop.fr (.c r1 (.c r0 .n)))⟩
      ·have hg20:=ne_of_beq_false hd18
       refine cf rfl hd18<|sk<|nx<|sq<|sq<|rg<|st (bi rfl rfl rfl)<|st (sg rfl)<|xe<|nx<|?_
       rcases Bool.eq_false_or_eq_true ((n.kind : Int)==8) with hd21 | hd21
       ·have hg22:=eq_of_beq hd21
        refine ct rfl hd21<|xt<|tx<|tx<|bo rfl<|tx<|bo rfl<|tx<|bo rfl<|tx<|bo rfl<|bo rfl<|tx<|bo rfl<|tx<|be<|nx<|sq<|rg<|st (fa fo_77_11 rfl)<|st (ld one_36 rfl (h.c a3 rfl))<|st (bi rfl rfl rfl)<|st (mv rfl)<|gT rfl rfl (decide_eq_false (by omega))<|st (fa fo_77_12 rfl)<|gT rfl rfl (decide_eq_false (by omega))<|st (ld one_36 rfl (h.c a3 rfl))<|gT rfl rfl (decide_eq_false (by omega))<|st (bi rfl rfl rfl)<|st (pF rfl (decide_eq_false (by omega)) rfl)<|xe<|nx<|cf rfl (decide_eq_false (by omega))<|sk<|bn<|nx<|sq<|sq<|rg<|st (fa fo_77_10 rfl)<|st (ld one_36 rfl (h.c a3 rfl))<|st (bi rfl rfl rfl)<|st (sg rfl)<|xe<|nx<|rt<|tr<|bt<|tr<|?_
        refine rr (res1 Tryz.results151 rfl)<|?_
        exact ⟨by rw [show (decide ((n.old : Int)≥1))=true from decide_eq_true (by omega)],SH.is (l:=[branchR n ⟨pb,cb,pp,cp⟩,pairR n ⟨pb,cb,pp,cp⟩]) (h.fr (.c r2 (.c r2 .n))).drop.drop⟩
       ·have hg23:=ne_of_beq_false hd21
        refine cf rfl hd21<|sk<|nx<|sq<|rg<|st (bi rfl rfl rfl)<|st (sg rfl)<|xe<|nx<|?_
        rcases Bool.eq_false_or_eq_true ((n.kind : Int)==7) with hd24 | hd24
        ·have hg25:=eq_of_beq hd24
         refine ct rfl hd24<|xt<|tx<|bo rfl<|tx<|bo rfl<|tx<|bo rfl<|tx<|bo rfl<|bo rfl<|tx<|bo rfl<|tx<|bo rfl<|tx<|be<|nx<|sq<|sq<|rg<|st (fa fo_77_10 rfl)<|st (ld one_36 rfl (h.c a3 rfl))<|st (bi rfl rfl rfl)<|st (sg rfl)<|xe<|nx<|rt<|tr<|bt<|tr<|?_
         refine rr (res1 Tryz.results151 rfl)<|?_
         exact ⟨by rw [show (decide ((n.old : Int)≥1))=true from decide_eq_true (by omega)],SH.is (l:=[branchR n ⟨pb,cb,pp,cp⟩,pairR n ⟨pb,cb,pp,cp⟩]) (h.fr (.c r2 (.c r2 .n))).drop.drop⟩
        ·have hg26:=ne_of_beq_false hd24
         refine cf rfl hd24<|sk<|nx<|xt<|bo rfl<|tx<|bo rfl<|tx<|bo rfl<|tx<|bo rfl<|bo rfl<|tx<|bo rfl<|tx<|bo rfl<|tx<|bo rfl<|tx<|be<|nx<|sq<|rg<|st (sg rfl)<|xe<|nx<|rt<|?_
         refine rr (res1 Tryz.results151 rfl)<|?_
         exact absurd hk1 (by have:=ne_of_beq_false hd3; have:=ne_of_beq_false hd6; have:=ne_of_beq_false hd9; have:=ne_of_beq_false hd12; have:=ne_of_beq_false hd15; have:=ne_of_beq_false hd18; have:=ne_of_beq_false hd21; have:=ne_of_beq_false hd24; omega)
end
end Go.Proofs.YtmliojdkmfhmmaaGreat
end
