/- Parts of a proof: Rz. -/
import Derived.Test.YtmliojdkmfhmmaaGreatW09
import Derived.Test.YtmliojdkmfhmmaaGreatW18
import Derived.Test.YtmliojdkmfhmmaaGreatW19
import Derived.Test.YtmliojdkmfhmmaaGreatW04
import Derived.Test.YtmliojdkmfhmmaaGreatW16
set_option linter.unusedVariables false
set_option linter.unusedSimpArgs false
set_option maxRecDepth 100000
set_option maxHeartbeats 4000000
section
namespace Go.Ct
theorem only_1 (n : Node) (h : n.kind=1) : n.only={ kind:=n.kind }:=by unfold Node.only; rw [if_pos h]
theorem only_2 (n : Node) (h : n.kind=2) : n.only={ kind:=n.kind,gen:=n.gen,main:=n.main }:=by unfold Node.only; rw [if_neg (by omega),if_pos h]
theorem only_3 (n : Node) (h : n.kind=3) : n.only={ kind:=n.kind,bitmap:=n.bitmap,branches:=n.branches,prev:=n.prev }:=by unfold Node.only; rw [if_neg (by omega),if_neg (by omega),if_pos h]
theorem only_4 (n : Node) (h : n.kind=4) : n.only={ kind:=n.kind,hash:=n.hash,key:=n.key,value:=n.value }:=by unfold Node.only; rw [if_neg (by omega),if_neg (by omega),if_neg (by omega),if_pos h]
theorem only_5 (n : Node) (h : n.kind=5) : n.only={ kind:=n.kind,hash:=n.hash,key:=n.key,value:=n.value,prev:=n.prev }:=by unfold Node.only; rw [if_neg (by omega),if_neg (by omega),if_neg (by omega),if_neg (by omega),if_pos h]
theorem only_6 (n : Node) (h : n.kind=6) : n.only={ kind:=n.kind,hash:=n.hash,pairs:=n.pairs,prev:=n.prev }:=by unfold Node.only; rw [if_neg (by omega),if_neg (by omega),if_neg (by omega),if_neg (by omega),if_neg (by omega),if_pos h]
theorem only_7 (n : Node) (h : n.kind=7) : n.only={ kind:=n.kind,old:=n.old }:=by unfold Node.only; rw [if_neg (by omega),if_neg (by omega),if_neg (by omega),if_neg (by omega),if_neg (by omega),if_neg (by omega),if_pos h]
theorem only_8 (n : Node) (h : n.kind=8) : n.only={ kind:=n.kind,old:=n.old,expected:=n.expected,new:=n.new,status:=n.status }:=by unfold Node.only; rw [if_neg (by omega),if_neg (by omega),if_neg (by omega),if_neg (by omega),if_neg (by omega),if_neg (by omega),if_neg (by omega),if_pos h]
end Go.Ct
namespace Go.E
open Go.Proofs.YtmliojdkmfhmmaaGreat Go.RowKit
variable {B w : World} {L : List As}
theorem SH.duM {n m : Ct.Node} {q q' : Lq} (h : SH B w L) (mm : At L (nodeR n q)) (hb : m.branches=n.branches∧q'.pb=q.pb∧q'.cb=q.cb∨m.branches=[]∧q'.pb=none∧q'.cb=0)
  (hp : m.pairs=n.pairs∧q'.pp=q.pp∧q'.cp=q.cp∨m.pairs=[]∧q'.pp=none∧q'.cp=0) : SH B w (nodeR m q'::L):=h.dup mm fun O R hA=>by
 obtain ⟨Os,Rs,h1,h2,h3,h4⟩:=hA
 have b:=h1 0 _ rfl
 have p:=h1 1 _ rfl
 refine nodeR_of (z:=(m,q')) ⟨?_,?_,fun k hk=>?_⟩
 ·rcases hb with ⟨e1,e2,e3⟩ | ⟨e1,e2,e3⟩
  ·show Reads w 1 (.slice q'.pb m.branches.length q'.cb) m.branches.length (m.branches.map _); rw [e1,e2,e3]; exact b.1
  ·show Reads w 1 (.slice q'.pb m.branches.length q'.cb) m.branches.length (m.branches.map _); rw [e1,e2,e3]; exact ⟨rfl,.inl ⟨rfl,rfl⟩⟩
 ·rcases hp with ⟨e1,e2,e3⟩ | ⟨e1,e2,e3⟩
  ·show Reads w 2 (.slice q'.pp m.pairs.length q'.cp) m.pairs.length (m.pairs.flatMap _); rw [e1,e2,e3]; exact p.1
  ·show Reads w 2 (.slice q'.pp m.pairs.length q'.cp) m.pairs.length (m.pairs.flatMap _); rw [e1,e2,e3]; exact ⟨rfl,.inl ⟨rfl,rfl⟩⟩
 ·rcases hk with hk | hk
  ·rcases hb with ⟨e1,e2,e3⟩ | ⟨e1,e2,e3⟩
   ·simp only [e1,e2,e3] at hk; exact (h4 k).2 ⟨0,by simp,(b.2.2 k).2 hk⟩
   ·simp only [e1,e2,e3] at hk; cases hk
  ·rcases hp with ⟨e1,e2,e3⟩ | ⟨e1,e2,e3⟩
   ·simp only [e1,e2,e3] at hk; exact (h4 k).2 ⟨1,by simp,(p.2.2 k).2 hk⟩
   ·simp only [e1,e2,e3] at hk; cases hk
end Go.E
namespace Go.E
open Go.Proofs.YtmliojdkmfhmmaaGreat Go.RowKit
variable {B w : World} {L : List As}
theorem SH.ofB {m : Ct.Node} {p : Option Addr} {c : Nat} (h : SH B w (rsl 1 (.slice p m.branches.length c) m.branches.length (m.branches.map (Value.int .i64))::L)) (hp : m.pairs=[]) : SH B w (nodeR m ⟨p,c,none,0⟩::L):=by
 refine SH.is (l:=[branchR m ⟨p,c,none,0⟩,pairR m ⟨p,c,none,0⟩]) ?_
 have h2:=(SH.nilr 2 h).fr (.c r1 (.c r0 .n))
 unfold branchR pairR; rw [hp]; exact h2
theorem SH.ofP {m : Ct.Node} {p : Option Addr} {c : Nat} (h : SH B w (rsl 2 (.slice p m.pairs.length c) m.pairs.length (m.pairs.flatMap pairC)::L)) (hb : m.branches=[]) : SH B w (nodeR m ⟨none,0,p,c⟩::L):=by
 refine SH.is (l:=[branchR m ⟨none,0,p,c⟩,pairR m ⟨none,0,p,c⟩]) ?_
 have h2:=SH.nilr 1 h
 unfold branchR pairR; rw [hb]; exact h2
end Go.E
namespace Go.Proofs.YtmliojdkmfhmmaaGreat
attribute [local irreducible] Go.E.wpL Go.E.wpS Go.E.X Go.E.XS Go.E.C Go.E.thn Go.E.blk Go.E.fin Go.E.Y Go.E.U Go.E.F Go.E.Ca Go.E.Res Go.E.bl Go.E.rb Go.E.osl Go.E.rsl Go.E.ex Go.E.ce Go.E.pu Go.E.sK Go.E.gK Go.E.bK Go.E.zK
open Go.RowKit Go.E Go.Ct
variable {B w : World} {L : List As}
theorem ronly_any (n : Ct.Node) (q : Lq) (h : SH B w (nodeR n q::L)) (hk : 1≤n.kind∧n.kind≤8) :
  Calls Tryz.prog 190 #[.agg (nodeC n q).toArray] w fun e w'=>∃ q',e=.returned (.agg (nodeC n.only q').toArray)∧SH B w' (nodeR n.only q'::nodeR n q::L):=by
 refine bn0 Tryz.func190 Tryz.ntmps190 h fun w h=>?_
 refine jX h fun b1 w h=>?_
 refine jA h fun b2 w h=>?_
 refine qc h (fun hd3 w h=>?_) fun hd3 w h=>?_
 have hg4:=eq_of_beq hd3
 refine go h fun w h=>?_
 refine rr (resC rfl rfl (h.b a0) Row.h) ?_
 have e1:=only_1 n (by have:=eq_of_beq hd3; omega)
 exact ⟨{},by unfold nodeC; rw [e1]; rfl,SH.duM h.drop.drop .z (.inr ⟨by rw [e1],rfl,rfl⟩) (.inr ⟨by rw [e1],rfl,rfl⟩)⟩
 have hg5:=ne_of_beq_false hd3
 refine go h fun w h=>?_
 refine qc h (fun hd6 w h=>?_) fun hd6 w h=>?_
 have hg7:=eq_of_beq hd6
 refine go h fun w h=>?_
 refine rr (resC rfl rfl (h.b a0) Row.h) ?_
 have e1:=only_2 n (by have:=eq_of_beq hd6; omega)
 exact ⟨{},by unfold nodeC; rw [e1]; rfl,SH.duM h.drop.drop .z (.inr ⟨by rw [e1],rfl,rfl⟩) (.inr ⟨by rw [e1],rfl,rfl⟩)⟩
 have hg8:=ne_of_beq_false hd6
 refine go h fun w h=>?_
 refine qc h (fun hd9 w h=>?_) fun hd9 w h=>?_
 have hg10:=eq_of_beq hd9
 refine go h fun w h=>?_
 refine rr (resC rfl rfl (h.b a0) Row.h) ?_
 have e1:=only_3 n (by have:=eq_of_beq hd9; omega)
 exact ⟨⟨q.pb,q.cb,none,0⟩,by unfold nodeC; rw [e1]; rfl,SH.duM h.drop.drop .z (.inl ⟨by rw [e1],rfl,rfl⟩) (.inr ⟨by rw [e1],rfl,rfl⟩)⟩
 have hg11:=ne_of_beq_false hd9
 refine go h fun w h=>?_
 refine qc h (fun hd12 w h=>?_) fun hd12 w h=>?_
 have hg13:=eq_of_beq hd12
 refine go h fun w h=>?_
 refine rr (resC rfl rfl (h.b a0) Row.h) ?_
 have e1:=only_4 n (by have:=eq_of_beq hd12; omega)
 exact ⟨{},by unfold nodeC; rw [e1]; rfl,SH.duM h.drop.drop .z (.inr ⟨by rw [e1],rfl,rfl⟩) (.inr ⟨by rw [e1],rfl,rfl⟩)⟩
 have hg14:=ne_of_beq_false hd12
 refine go h fun w h=>?_
 refine qc h (fun hd15 w h=>?_) fun hd15 w h=>?_
 have hg16:=eq_of_beq hd15
 refine go h fun w h=>?_
 refine rr (resC rfl rfl (h.b a0) Row.h) ?_
 have e1:=only_5 n (by have:=eq_of_beq hd15; omega)
 exact ⟨{},by unfold nodeC; rw [e1]; rfl,SH.duM h.drop.drop .z (.inr ⟨by rw [e1],rfl,rfl⟩) (.inr ⟨by rw [e1],rfl,rfl⟩)⟩
 have hg17:=ne_of_beq_false hd15
 refine go h fun w h=>?_
 refine qc h (fun hd18 w h=>?_) fun hd18 w h=>?_
 have hg19:=eq_of_beq hd18
 refine go h fun w h=>?_
 refine rr (resC rfl rfl (h.b a0) Row.h) ?_
 have e1:=only_6 n (by have:=eq_of_beq hd18; omega)
 exact ⟨⟨none,0,q.pp,q.cp⟩,by unfold nodeC; rw [e1]; rfl,SH.duM h.drop.drop .z (.inr ⟨by rw [e1],rfl,rfl⟩) (.inl ⟨by rw [e1],rfl,rfl⟩)⟩
 have hg20:=ne_of_beq_false hd18
 refine go h fun w h=>?_
 refine qc h (fun hd21 w h=>?_) fun hd21 w h=>?_
 have hg22:=eq_of_beq hd21
 refine go h fun w h=>?_
 refine rr (resC rfl rfl (h.b a0) Row.h) ?_
 have e1:=only_7 n (by have:=eq_of_beq hd21; omega)
 exact ⟨{},by unfold nodeC; rw [e1]; rfl,SH.duM h.drop.drop .z (.inr ⟨by rw [e1],rfl,rfl⟩) (.inr ⟨by rw [e1],rfl,rfl⟩)⟩
 have hg23:=ne_of_beq_false hd21
 refine go h fun w h=>?_
 rcases Bool.eq_false_or_eq_true ((n.kind : Int)==8) with hd24 | hd24 <;> refine go h fun w h=>?_
 have hg25:=eq_of_beq hd24
 refine go h fun w h=>?_
 refine rr (resC rfl rfl (h.b a0) Row.h) ?_
 have e1:=only_8 n (by have:=eq_of_beq hd24; omega)
 exact ⟨{},by unfold nodeC; rw [e1]; rfl,SH.duM h.drop.drop .z (.inr ⟨by rw [e1],rfl,rfl⟩) (.inr ⟨by rw [e1],rfl,rfl⟩)⟩
 have hg26:=ne_of_beq_false hd24
 refine go h fun w h=>?_
 refine rr (resC rfl rfl (h.b a0) Row.h) ?_
 exact absurd hk (by have:=ne_of_beq_false hd3; have:=ne_of_beq_false hd6; have:=ne_of_beq_false hd9; have:=ne_of_beq_false hd12; have:=ne_of_beq_false hd15; have:=ne_of_beq_false hd18; have:=ne_of_beq_false hd21; have:=ne_of_beq_false hd24; omega)
theorem ronly_v (n : Ct.Node) (q : Lq) (hv : n.valid=true) (h : SH B w (nodeR n q::L)) :
  Calls Tryz.prog 190 #[.agg (nodeC n q).toArray] w fun e w'=>∃ q',e=.returned (.agg (nodeC n q').toArray)∧SH B w' (nodeR n q'::nodeR n q::L):=by
 have e1:=valid_only hv
 refine (ronly_any n q h (valid_kind hv)).mono fun e w'=>?_
 rw [← e1]; exact id
theorem requal_any (n : Ct.Node) (q1 q2 : Lq) (h : SH B w (nodeR n q1::nodeR n q2::L)) (hb : n.branches.length≤1000000000000) (hp : n.pairs.length≤1000000000000) :
  Calls Tryz.prog 86 #[.agg (nodeC n q1).toArray,.agg (nodeC n q2).toArray] w fun e w'=>e=.returned (.bool true)∧SH B w' (nodeR n q1::nodeR n q2::L):=by
 refine bn0 Tryz.func86 Tryz.ntmps86 h fun w h=>?_
 refine jX h fun b1 w h=>?_
 refine jX h fun b2 w h=>?_
 refine go h fun w h=>?_
 refine go h fun w h=>?_
 refine go h fun w h=>?_
 refine go h fun w h=>?_
 refine go h fun w h=>?_
 refine go h fun w h=>?_
 have h:=h.fr (.c r2 .n)
 have h:=SH.se (l:=[branchR n q1,pairR n q1]) h
 have h:=h.fr (.c r4 .n)
 have h:=SH.se (l:=[branchR n q2,pairR n q2]) h
 refine go h fun w h=>?_
 refine j000 (requalRefs_any _ _ _ _ _ h.to (by omega)) fun w h=>?_
 refine j000 (requalPairs_any _ _ _ _ _ h.to (by omega)) fun w h=>?_
 refine rz ?_
 have h:=((h.fr (.c r4 (.c r4 .n))).drop.drop.fr (.c r3 (.c r1 (.c r1 (.c r0 .n)))))
 have h:=SH.is (l:=[branchR n q2,pairR n q2]) h
 have h:=h.fr (.c r1 (.c r1 .n))
 exact ⟨by rw [(beqS _)],SH.is (l:=[branchR n q1,pairR n q1]) h⟩
section
attribute [local semireducible] Go.E.wpL Go.E.wpS Go.E.X Go.E.XS Go.E.C Go.E.thn Go.E.blk Go.E.fin Go.E.Y Go.E.U Go.E.F Go.E.Ca Go.E.Res Go.E.bl Go.E.rb Go.E.osl Go.E.rsl Go.E.ex Go.E.ce Go.E.pu Go.E.sK Go.E.gK Go.E.bK Go.E.zK
attribute [local irreducible] Go.E.wpL Go.E.wpS
variable {B w : World} {L : List As}
theorem rvalid_any (n : Ct.Node) (pb : Option Addr) (cb : Nat) (pp : Option Addr) (cp : Nat) (h : SH B w (nodeR n (⟨pb,cb,pp,cp⟩)::L)) (hv : n.valid=true) (hb : n.branches.length≤1000000) (hp : n.pairs.length≤1000000000000) (hm : n.bitmap<18446744073709551616) :
  Calls Tryz.prog 126 #[.agg (nodeC n (⟨pb,cb,pp,cp⟩)).toArray] w fun e w'=>e=.returned (.bool true)∧SH B w' (nodeR n ⟨pb,cb,pp,cp⟩::L):=by
 have vf:=valid_vf hv
 have vf_kind:=vf.kind
 have vf_main:=vf.main
 have vf_prev:=vf.prev
 have vf_status:=vf.status
 have vf_gen:=vf.gen
 have vf_key:=vf.key
 have vf_pairs:=vf.pairs
 have vf_old:=vf.old
 have vf_desc:=vf.desc
 refine bgn (args:=[_]) Tryz.func126 rfl Tryz.ntmps126 rfl ?_
 refine sq<|rg<|sf (bx h rfl rfl)<|?_
 rintro _ w ⟨b1,rfl,h⟩
 refine st (sg rfl)<|xe<|nx<|sq<|sq<|drH [1,3,5,7,9,11,13,15,17,19,21,22,24,27,29,31,33,35,37,39,41,43,45,47,49,51,53,55,57,59] (by kernel_rfl) h (.c r0 .n) fun w h=>tk (fun W H=>fa fo_77_0 rfl)<|tk (fun W H=>ld one_3 rfl (H.c a0 rfl))<|tk (fun W H=>bi rfl rfl rfl)<|tk (fun W H=>mv rfl)<|gTs rfl rfl (decide_eq_false (by omega))<|tk (fun W H=>fa fo_77_0 rfl)<|gTs rfl rfl (decide_eq_false (by omega))<|tk (fun W H=>ld one_3 rfl (H.c a0 rfl))<|gTs rfl rfl (decide_eq_false (by omega))<|tk (fun W H=>bi rfl rfl rfl)<|tk (fun W H=>pF rfl (decide_eq_false (by omega)) rfl)<|tk (fun W H=>mv rfl)<|gTs rfl rfl (decide_eq_false (by omega))<|tk (fun W H=>ldr rfl (rows_all (H.b a0)) row_77)<|gTs rfl rfl (decide_eq_false (by omega))<|tk (fun W H=>ldr rfl (rows_all (H.b a0)) row_77)<|gTs rfl rfl (decide_eq_false (by omega))<|cs (ca en_190 rfl) ((ronly_v n (⟨pb,cb,pp,cp⟩) hv (h.fr (.c r1 .n))).mono ?_)
 rintro _ w ⟨q2,rfl,h⟩
 refine ⟨_,rfl,h.hs (.c r2 .n),?_⟩
 refine gTs rfl rfl (decide_eq_false (by omega))<|cs (ca en_86 rfl) ((requal_any n _ _ (h.fr (.c r1 (.c r0 .n))) (by omega) (by omega)).mono ?_)
 rintro _ w ⟨rfl,h⟩
 refine ⟨_,rfl,h.hs (.c r2 .n),?_⟩
 refine gTs rfl rfl (decide_eq_false (by omega))<|tk (fun W H=>nt rfl)<|tk (fun W H=>pF rfl (decide_eq_false (by omega)) rfl)<|tk (fun W H=>mv rfl)<|gTs rfl rfl rfl<|tk (fun W H=>fa fo_77_2 rfl)<|gTs rfl rfl rfl<|tk (fun W H=>ld one_33 rfl (H.c a0 rfl))<|gTs rfl rfl rfl<|tk (fun W H=>bi rfl rfl rfl)<|tk (fun W H=>pF rfl rfl rfl)<|tk (fun W H=>mv rfl)<|gTs rfl rfl (decide_eq_false (by omega))<|tk (fun W H=>fa fo_77_9 rfl)<|gTs rfl rfl (decide_eq_false (by omega))<|tk (fun W H=>ld one_33 rfl (H.c a0 rfl))<|gTs rfl rfl (decide_eq_false (by omega))<|tk (fun W H=>bi rfl rfl rfl)<|tk (fun W H=>pF rfl (decide_eq_false (by omega)) rfl)<|tk (fun W H=>mv rfl)<|gTs rfl rfl (decide_eq_false (by omega))<|tk (fun W H=>fa fo_77_13 rfl)<|gTs rfl rfl (decide_eq_false (by omega))<|tk (fun W H=>ld one_33 rfl (H.c a0 rfl))<|gTs rfl rfl (decide_eq_false (by omega))<|tk (fun W H=>bi rfl rfl rfl)<|tk (fun W H=>pF rfl (decide_eq_false (by omega)) rfl)<|xz<|nx<|cf rfl (decide_eq_false (by omega))<|sk<|nx<|sq<|sq<|?_
 have h : SH B w (rsl 1 (.slice pb n.branches.length cb) n.branches.length (n.branches.map (Value.int .i64))::rsl 2 (.slice pp n.pairs.length cp) n.pairs.length (n.pairs.flatMap pairC)::nodeR n q2::bl b1 (nodeC n (⟨pb,cb,pp,cp⟩)) 77::L):=SH.se (l:=[branchR n (⟨pb,cb,pp,cp⟩),pairR n (⟨pb,cb,pp,cp⟩)]) h
 refine rg<|st (fa fo_77_0 rfl)<|st (ld one_3 rfl (h.c a3 rfl))<|xe<|nx<|bk<|sq<|rg<|st (bi rfl rfl rfl)<|st (sg rfl)<|xe<|nx<|?_
 rcases Bool.eq_false_or_eq_true ((n.kind : Int)==2) with hd3 | hd3
 ·have hg4:=eq_of_beq hd3
  refine ct rfl hd3<|sq<|rg<|st (fa fo_77_1 rfl)<|st (ld one_3 rfl (h.c a3 rfl))<|st (bi rfl rfl rfl)<|st (sg rfl)<|xe<|nx<|rt<|bt<|tr<|?_
  refine rr (res1 Tryz.results126 rfl)<|?_
  exact ⟨by rw [show (decide ((n.gen : Int)≥1))=true from decide_eq_true (by omega)],SH.is (l:=[branchR n ⟨pb,cb,pp,cp⟩,pairR n ⟨pb,cb,pp,cp⟩]) (h.fr (.c r2 (.c r2 .n))).drop.drop⟩
 ·have hg5:=ne_of_beq_false hd3
  refine cf rfl hd3<|sq<|rg<|st (bi rfl rfl rfl)<|st (sg rfl)<|xe<|nx<|?_
  rcases Bool.eq_false_or_eq_true ((n.kind : Int)==3) with hd6 | hd6
  ·have hg7:=eq_of_beq hd6
   refine ct rfl hd6<|sq<|sq<|rg<|st (sg rfl)<|xe<|nx<|bk<|?_
   refine lp (α:=Nat) (fun x=>(.c 1 (.pointer (some ⟨b1,0,none⟩)) (.c 3 (.int .i64 ((x : Nat) : Int)) .n))) (fun x w=>SH B w (rsl 1 (.slice pb n.branches.length cb) n.branches.length (n.branches.map (Value.int .i64))::rsl 2 (.slice pp n.pairs.length cp) n.pairs.length (n.pairs.flatMap pairC)::nodeR n q2::bl b1 (nodeC n (⟨pb,cb,pp,cp⟩)) 77::L)∧(x≤n.branches.length)) (fun x=>n.branches.length - x) 0 ⟨rfl,rfl,trivial⟩ ⟨h,Nat.zero_le _⟩ ?_
   rintro k w ⟨h,hk⟩
   refine sq<|sq<|rg<|st (mv rfl)<|st (fa fo_77_4 rfl)<|st (ld one_60 rfl (h.c a3 rfl))<|st (ln sl_60 rfl rfl)<|st (bi rfl rfl rfl)<|xe<|nx<|?_
   rcases Bool.eq_false_or_eq_true (decide ((((k : Nat) : Int) : Int)<((n.branches.length : Nat) : Int))) with hd8 | hd8
   ·have hg9:=of_decide_eq_true hd8
    refine ct rfl hd8<|sk<|nx<|sq<|bk<|sq<|rg<|st (fa fo_77_4 rfl)<|st (ld one_60 rfl (h.c a3 rfl))<|st (mv rfl)<|?_
    obtain ⟨b10,o11,rfl⟩:=h.fq a0 (by omega)
    refine st (ix (j:=k) sl_60 sz_36 rfl rfl (by omega))<|st (ld one_36 rfl ((h.rr a0).i (by omega)))<|st (bi rfl rfl rfl)<|xe<|nx<|cf rfl (decide_eq_false (by have:=vf.branch (by omega) k (by omega); omega))<|sk<|bn<|nx<|rg<|st (mv rfl)<|st (bw rfl rfl (wadd (c:=((k+1 : Nat) : Int)) (by omega) (by omega) (by omega)))<|st (sg rfl)<|xe<|nx<|?_
    exact ⟨(k+1),⟨rfl,rfl,trivial⟩,⟨h,by (try dsimp only); omega⟩,by (try dsimp only); omega⟩
   ·have hg12:=of_decide_eq_false hd8
    refine cf rfl hd8<|xt<|tx<|tx<|be<|nx<|sq<|drH [1,3,5,7,9,10,13,14] (by kernel_rfl) h (.c r3 .n) fun w h=>tk (fun W H=>fa fo_77_4 rfl)<|tk (fun W H=>ld one_60 rfl (H.c a0 rfl))<|tk (fun W H=>ln sl_60 rfl rfl)<|tk (fun W H=>fa fo_77_3 rfl)<|tk (fun W H=>ld one_28 rfl (H.c a0 rfl))<|cs (ca en_191 rfl) ((rcount_eq (b:=n.bitmap) (v:=Bm.pop 64 n.bitmap) (by omega) (Lib.hid rfl)).mono ?_)
    rintro _ _ ⟨rfl,rfl⟩
    refine ⟨_,rfl,h.hs (.c r3 .n),?_⟩
    refine tk (fun W H=>bi rfl rfl rfl)<|ef (sg rfl) (h.hs (.c r3 .n))<|xz<|nx<|rt<|bt<|tr<|?_
    refine rr (res1 Tryz.results126 rfl)<|?_
    exact ⟨by rw [show ((((n.branches.length : Nat) : Int) : Int)==((Bm.pop 64 n.bitmap : Nat) : Int))=true from beq_iff_eq.2 (by have:=vf.count (by omega); omega)],SH.is (l:=[branchR n ⟨pb,cb,pp,cp⟩,pairR n ⟨pb,cb,pp,cp⟩]) (h.fr (.c r2 (.c r2 .n))).drop.drop⟩
  ·have hg13:=ne_of_beq_false hd6
   refine cf rfl hd6<|sq<|sq<|rg<|st (bi rfl rfl rfl)<|st (sg rfl)<|xe<|nx<|?_
   rcases Bool.eq_false_or_eq_true ((n.kind : Int)==4) with hd14 | hd14
   ·have hg15:=eq_of_beq hd14
    refine ct rfl hd14<|sk<|nx<|ct rfl hd14<|sq<|rg<|st (fa fo_77_6 rfl)<|st (ld one_9 rfl (h.c a3 rfl))<|st (lns un_9 rfl rfl)<|st (bi rfl rfl rfl)<|st (sg rfl)<|xe<|nx<|rt<|bt<|tr<|?_
    refine rr (res1 Tryz.results126 rfl)<|?_
    exact ⟨by rw [show (decide ((((n.key.size : Nat) : Int) : Int)≤64))=true from decide_eq_true (by omega)],SH.is (l:=[branchR n ⟨pb,cb,pp,cp⟩,pairR n ⟨pb,cb,pp,cp⟩]) (h.fr (.c r2 (.c r2 .n))).drop.drop⟩
   ·have hg16:=ne_of_beq_false hd14
    refine cf rfl hd14<|rg<|st (bi rfl rfl rfl)<|st (sg rfl)<|xe<|nx<|?_
    rcases Bool.eq_false_or_eq_true ((n.kind : Int)==5) with hd17 | hd17
    ·have hg18:=eq_of_beq hd17
     refine ct rfl hd17<|sq<|rg<|st (fa fo_77_6 rfl)<|st (ld one_9 rfl (h.c a3 rfl))<|st (lns un_9 rfl rfl)<|st (bi rfl rfl rfl)<|st (sg rfl)<|xe<|nx<|rt<|bt<|tr<|?_
     refine rr (res1 Tryz.results126 rfl)<|?_
     exact ⟨by rw [show (decide ((((n.key.size : Nat) : Int) : Int)≤64))=true from decide_eq_true (by omega)],SH.is (l:=[branchR n ⟨pb,cb,pp,cp⟩,pairR n ⟨pb,cb,pp,cp⟩]) (h.fr (.c r2 (.c r2 .n))).drop.drop⟩
    ·have hg19:=ne_of_beq_false hd17
     refine cf rfl hd17<|sq<|rg<|st (bi rfl rfl rfl)<|st (sg rfl)<|xe<|nx<|?_
     rcases Bool.eq_false_or_eq_true ((n.kind : Int)==6) with hd20 | hd20
     ·have hg21:=eq_of_beq hd20
      refine ct rfl hd20<|sq<|rg<|st (fa fo_77_8 rfl)<|st (ld one_38 rfl (h.c a3 rfl))<|st (ln sl_38 rfl rfl)<|st (bi rfl rfl rfl)<|st (mv rfl)<|gT rfl rfl (decide_eq_true (by omega))<|st (fa fo_77_8 rfl)<|gT rfl rfl (decide_eq_true (by omega))<|st (ld one_38 rfl (h.c a3 rfl))<|gT rfl rfl (decide_eq_true (by omega))<|cl (ca en_192 rfl) ((rpairsValid_any n.pairs _ _ (h.fr (.c r1 .n)) (vf.sorted (by omega)) (by omega)).mono ?_)
      rintro _ w ⟨rfl,h⟩
      refine ⟨_,rfl,?_⟩
      refine st (pT rfl (decide_eq_true (by omega)) rfl)<|st (mv rfl)<|gT rfl rfl rfl<|st (fa fo_77_8 rfl)<|gT rfl rfl rfl<|st (ld one_38 rfl (h.c a3 rfl))<|gT rfl rfl rfl<|cl (ca en_193 rfl) ((rkeys_any n.pairs _ _ (h.fr (.c r0 .n)) (vf.short (by omega)) (by omega)).mono ?_)
      rintro _ w ⟨rfl,h⟩
      refine ⟨_,rfl,?_⟩
      refine st (pT rfl rfl rfl)<|st (sg rfl)<|xe<|nx<|rt<|bt<|tr<|?_
      refine rr (res1 Tryz.results126 rfl)<|?_
      exact ⟨rfl,SH.is (l:=[branchR n ⟨pb,cb,pp,cp⟩,pairR n ⟨pb,cb,pp,cp⟩]) ((h.fr (.c r2 (.c r2 .n))).drop.drop.fr (.c r1 (.c r0 .n)))⟩
     ·have hg22:=ne_of_beq_false hd20
      refine cf rfl hd20<|sq<|rg<|st (bi rfl rfl rfl)<|st (sg rfl)<|xe<|nx<|?_
      rcases Bool.eq_false_or_eq_true ((n.kind : Int)==7) with hd23 | hd23
      ·have hg24:=eq_of_beq hd23
       refine ct rfl hd23<|sq<|rg<|st (fa fo_77_10 rfl)<|st (ld one_36 rfl (h.c a3 rfl))<|st (bi rfl rfl rfl)<|st (sg rfl)<|xe<|nx<|rt<|bt<|tr<|?_
       refine rr (res1 Tryz.results126 rfl)<|?_
       exact ⟨by rw [show (decide ((n.old : Int)≥1))=true from decide_eq_true (by omega)],SH.is (l:=[branchR n ⟨pb,cb,pp,cp⟩,pairR n ⟨pb,cb,pp,cp⟩]) (h.fr (.c r2 (.c r2 .n))).drop.drop⟩
      ·have hg25:=ne_of_beq_false hd23
       refine cf rfl hd23<|sq<|rg<|st (bi rfl rfl rfl)<|st (sg rfl)<|xe<|nx<|?_
       rcases Bool.eq_false_or_eq_true ((n.kind : Int)==8) with hd26 | hd26
       ·have hg27:=eq_of_beq hd26
        refine ct rfl hd26<|sq<|rg<|st (fa fo_77_10 rfl)<|st (ld one_36 rfl (h.c a3 rfl))<|st (bi rfl rfl rfl)<|st (mv rfl)<|gT rfl rfl (decide_eq_true (by omega))<|st (fa fo_77_11 rfl)<|gT rfl rfl (decide_eq_true (by omega))<|st (ld one_36 rfl (h.c a3 rfl))<|gT rfl rfl (decide_eq_true (by omega))<|st (bi rfl rfl rfl)<|st (pT rfl (decide_eq_true (by omega)) rfl)<|st (mv rfl)<|gT rfl rfl (decide_eq_true (by omega))<|st (fa fo_77_12 rfl)<|gT rfl rfl (decide_eq_true (by omega))<|st (ld one_36 rfl (h.c a3 rfl))<|gT rfl rfl (decide_eq_true (by omega))<|st (bi rfl rfl rfl)<|st (pT rfl (decide_eq_true (by omega)) rfl)<|st (sg rfl)<|xe<|nx<|rt<|bt<|tr<|?_
        refine rr (res1 Tryz.results126 rfl)<|?_
        exact ⟨by rw [show (decide ((n.new : Int)≥1))=true from decide_eq_true (by omega)],SH.is (l:=[branchR n ⟨pb,cb,pp,cp⟩,pairR n ⟨pb,cb,pp,cp⟩]) (h.fr (.c r2 (.c r2 .n))).drop.drop⟩
       ·have hg28:=ne_of_beq_false hd26
        refine cf rfl hd26<|sk<|bn<|nx<|sq<|rg<|st (sg rfl)<|xe<|nx<|rt<|?_
        refine rr (res1 Tryz.results126 rfl)<|?_
        exact ⟨rfl,SH.is (l:=[branchR n ⟨pb,cb,pp,cp⟩,pairR n ⟨pb,cb,pp,cp⟩]) (h.fr (.c r2 (.c r2 .n))).drop.drop⟩
end
variable {B w : World} {L : List As}
theorem ris_any (n : Ct.Node) (q : Lq) (h : SH B w (nodeR n q::L)) (nf : NF n) :
  Calls Tryz.prog 258 #[.agg (nodeC n q).toArray] w fun e w'=>e=.returned (.bool n.isC)∧SH B w' (nodeR n q::L):=by
 have nf_br:=nf.br
 have nf_pr:=nf.pr
 have nf_bm:=nf.bm
 have nf_hs:=nf.hs
 have nf_ks:=nf.ks
 refine bn0 Tryz.func258 Tryz.ntmps258 h fun w h=>?_
 refine jX h fun b1 w h=>?_
 refine qg h (fun hd2 w h=>?_) fun hd2 w h=>?_
 have hg3:=eq_of_beq hd2
 refine go h fun w h=>?_
 refine j000 (rvalid_any _ _ _ _ _ h.to (nf.v3 (by omega)) (by omega) (by omega) (by omega)) fun w h=>?_
 exact rz ⟨by rw [isC_yes hd2 (nf.v3 (eq_of_beq hd2))],h.to⟩
 have hg4:=ne_of_beq_false hd2
 refine go h fun w h=>?_
 exact rz ⟨by rw [isC_no hd2],h.drop⟩
theorem rlist_any (n : Ct.Node) (q : Lq) (h : SH B w (nodeR n q::L)) (nf : NF n) :
  Calls Tryz.prog 286 #[.agg (nodeC n q).toArray] w fun e w'=>e=.returned (.bool n.isL)∧SH B w' (nodeR n q::L):=by
 have nf_br:=nf.br
 have nf_pr:=nf.pr
 have nf_bm:=nf.bm
 have nf_hs:=nf.hs
 have nf_ks:=nf.ks
 refine bn0 Tryz.func286 Tryz.ntmps286 h fun w h=>?_
 refine jX h fun b1 w h=>?_
 refine qg h (fun hd2 w h=>?_) fun hd2 w h=>?_
 have hg3:=eq_of_beq hd2
 refine go h fun w h=>?_
 refine j000 (rvalid_any _ _ _ _ _ h.to (nf.v6 (by omega)) (by omega) (by omega) (by omega)) fun w h=>?_
 exact rz ⟨by rw [isL_yes hd2 (nf.v6 (eq_of_beq hd2))],h.to⟩
 have hg4:=ne_of_beq_false hd2
 refine go h fun w h=>?_
 exact rz ⟨by rw [isL_no hd2],h.drop⟩
theorem rlookup_any (n : Ct.Node) (pb : Option Addr) (cb : Nat) (pp : Option Addr) (cp : Nat) (i : Int) (h : SH B w (nodeR n (⟨pb,cb,pp,cp⟩)::L)) (nf : NF n) :
  Calls Tryz.prog 217 #[.agg (nodeC n (⟨pb,cb,pp,cp⟩)).toArray,.int .i64 i] w fun e w'=>e=.returned (.tuple #[.int .i64 (Ct.blookup n i).1,.bool (Ct.blookup n i).2])∧SH B w' (nodeR n ⟨pb,cb,pp,cp⟩::L):=by
 have nf_br:=nf.br
 have nf_pr:=nf.pr
 have nf_bm:=nf.bm
 have nf_hs:=nf.hs
 have nf_ks:=nf.ks
 refine bn0 Tryz.func217 Tryz.ntmps217 h fun w h=>?_
 refine jX h fun b1 w h=>?_
 refine j000 (ris_any _ (⟨pb,cb,pp,cp⟩) h.to nf) fun w h=>?_
 refine qg h (fun hd2 w h=>?_) fun hd2 w h=>?_
 have hd3 : n.isC=false:=by simpa using hd2
 refine go h fun w h=>?_
 exact rr (res2 rfl rfl rfl)<|⟨by rw [bl_no1 hd3],h.to⟩
 have hd4 : n.isC=true:=by simpa using hd2
 refine go h fun w h=>?_
 refine cl (ca en_232 rfl) ((rhas_any n.bitmap i _ (by omega)).mono ?_)
 rintro _ _ ⟨rfl,rfl⟩
 refine ⟨_,rfl,?_⟩
 refine gT rfl rfl hd2<|st (nt rfl)<|st (pF rfl hd2 rfl)<|xe<|nx<|?_
 refine go h fun w h=>?_
 refine qc h (fun hd5 w h=>?_) fun hd5 w h=>?_
 have hd6 : (Bm.has n.bitmap i)=false:=by simpa using hd5
 refine go h fun w h=>?_
 exact rr (res2 rfl rfl rfl)<|⟨by rw [bl_no2 hd6],h.to⟩
 have hd7 : (Bm.has n.bitmap i)=true:=by simpa using hd5
 refine go h fun w h=>?_
 have h:=SH.se (l:=[branchR n (⟨pb,cb,pp,cp⟩),pairR n (⟨pb,cb,pp,cp⟩)]) h
 have hlt:=bl_lt hd4 hd7
 obtain ⟨b8,o9,rfl⟩:=h.fq a0 (by omega)
 refine drH [1,3,5,7,9,10,13,15,16,18] (by kernel_rfl) h (.c r2 (.c r0 .n)) fun w h=>go h fun w h=>?_
 refine cs (ca en_240 rfl) ((rposition_any n.bitmap i _ (by omega)).mono ?_)
 rintro _ _ ⟨rfl,rfl⟩
 refine ⟨_,rfl,h.hs (.c r2 (.c r0 .n)),?_⟩
 refine tk (fun W H=>ix (j:=Bm.position n.bitmap i) sl_60 sz_36 rfl rfl (by omega))<|tk (fun W H=>ld one_36 rfl ((H.rr a1).i (by omega)))<|ef (sg rfl) (h.hs (.c r2 (.c r0 .n)))<|ef (sg rfl) (h.hs (.c r2 (.c r0 .n)))<|xz<|nx<|rt<|?_
 refine go h fun w h=>?_
 exact rr (res2 rfl rfl rfl)<|⟨by rw [bl_yes hd4 hd7],SH.is (l:=[branchR n ⟨some ⟨b8,o9,none⟩,cb,pp,cp⟩,pairR n ⟨some ⟨b8,o9,none⟩,cb,pp,cp⟩]) h.to⟩
theorem rsole_any (n : Ct.Node) (pb : Option Addr) (cb : Nat) (pp : Option Addr) (cp : Nat) (h : SH B w (nodeR n (⟨pb,cb,pp,cp⟩)::L)) (nf : NF n) :
  Calls Tryz.prog 260 #[.agg (nodeC n (⟨pb,cb,pp,cp⟩)).toArray] w fun e w'=>e=.returned (.tuple #[.int .i64 (Ct.bsole n).1,.bool (Ct.bsole n).2])∧SH B w' (nodeR n ⟨pb,cb,pp,cp⟩::L):=by
 have nf_br:=nf.br
 have nf_pr:=nf.pr
 have nf_bm:=nf.bm
 have nf_hs:=nf.hs
 have nf_ks:=nf.ks
 refine bn0 Tryz.func260 Tryz.ntmps260 h fun w h=>?_
 refine jX h fun b1 w h=>?_
 refine j000 (ris_any _ (⟨pb,cb,pp,cp⟩) h.to nf) fun w h=>?_
 refine qg h (fun hd2 w h=>?_) fun hd2 w h=>?_
 have hd3 : n.isC=false:=by simpa using hd2
 refine go h fun w h=>?_
 exact rr (res2 rfl rfl rfl)<|⟨by rw [bs_no1 hd3],h.to⟩
 have hd4 : n.isC=true:=by simpa using hd2
 refine go h fun w h=>?_
 refine qc h (fun hd5 w h=>?_) fun hd5 w h=>?_
 have hg6:=bne_iff_ne.1 hd5
 refine go h fun w h=>?_
 exact rr (res2 rfl rfl rfl)<|⟨by rw [bs_no2 (by omega)],h.to⟩
 have hg7:=eq_of_bneF hd5
 refine go h fun w h=>?_
 have h:=SH.se (l:=[branchR n (⟨pb,cb,pp,cp⟩),pairR n (⟨pb,cb,pp,cp⟩)]) h
 refine go h fun w h=>?_
 obtain ⟨b8,o9,rfl⟩:=h.fq a0 (by omega)
 refine go h fun w h=>?_
 exact rr (res2 rfl rfl rfl)<|⟨by rw [bs_yes hd4 (by omega)],SH.is (l:=[branchR n ⟨some ⟨b8,o9,none⟩,cb,pp,cp⟩,pairR n ⟨some ⟨b8,o9,none⟩,cb,pp,cp⟩]) h.to⟩
theorem runtombed_any (n : Ct.Node) (q : Lq) (h : SH B w (nodeR n q::L)) :
  Calls Tryz.prog 219 #[.agg (nodeC n q).toArray] w fun e w'=>∃ q',e=.returned (.tuple #[.agg (nodeC (Ct.untombed n).1 q').toArray,.bool (Ct.untombed n).2])∧SH B w' (nodeR (Ct.untombed n).1 q'::nodeR n q::L):=by
 refine bn0 Tryz.func219 Tryz.ntmps219 h fun w h=>?_
 refine jX h fun b1 w h=>?_
 refine jA h fun b2 w h=>?_
 refine qc h (fun hd3 w h=>?_) fun hd3 w h=>?_
 have hg4:=bne_iff_ne.1 hd3
 refine go h fun w h=>?_
 refine rr (resCt rfl rfl (h.b a0) Row.h rfl) ?_
 rw [ut_no (by omega)]; exact ⟨{},rfl,SH.nilN _ rfl rfl h.drop.drop⟩
 have hg5:=eq_of_bneF hd3
 refine go h fun w h=>?_
 refine rr (resCt rfl rfl (h.b a0) Row.h rfl) ?_
 rw [ut_yes (by omega)]; exact ⟨{},rfl,SH.nilN _ rfl rfl h.drop.drop⟩
theorem rcontracted_any (n : Ct.Node) (q : Lq) (level : Int) (s : Ct.Node) (q2 : Lq) (h : SH B w (nodeR n q::nodeR s q2::L)) (nf : NF n) :
  Calls Tryz.prog 221 #[.agg (nodeC n q).toArray,.int .i64 level,.agg (nodeC s q2).toArray] w fun e w'=>∃ q',e=.returned (.agg (nodeC (Ct.contracted n level s) q').toArray)∧SH B w' (nodeR (Ct.contracted n level s) q'::nodeR n q::nodeR s q2::L):=by
 have nf_br:=nf.br
 have nf_pr:=nf.pr
 have nf_bm:=nf.bm
 have nf_hs:=nf.hs
 have nf_ks:=nf.ks
 refine bn0 Tryz.func221 Tryz.ntmps221 h fun w h=>?_
 refine jX h fun b1 w h=>?_
 refine jX h fun b2 w h=>?_
 refine jA h fun b3 w h=>?_
 refine j000 (rsole_any _ _ _ _ _ h.to nf) fun w h=>?_
 refine qg h (fun hd4 w h=>?_) fun hd4 w h=>?_
 ·refine qg h (fun hd5 w h=>?_) fun hd5 w h=>?_
  ·have hg6:=of_decide_eq_true hd5
   refine go h fun w h=>?_
   refine qc h (fun hd7 w h=>?_) fun hd7 w h=>?_
   ·have hg8:=eq_of_beq hd7
    refine go h fun w h=>?_
    refine rr (resC rfl rfl (h.b a1) Row.h) ?_
    rw [ct_yes hd4 (by omega) (by omega)]; exact ⟨{},rfl,SH.nilN _ rfl rfl (h.fr (.c r1 (.c r1 (.c r1 .n)))).drop.drop.drop⟩
   ·have hg9:=ne_of_beq_false hd7
    refine go h fun w h=>?_
    refine rr (resC rfl rfl (h.b a1) Row.h) ?_
    rw [ct_no3 (by omega)]; exact ⟨q,rfl,SH.duN (h.fr (.c r1 (.c r1 (.c r1 .n)))).drop.drop.drop .z⟩
  ·have hg10:=of_decide_eq_false hd5
   refine go h fun w h=>?_
   refine rr (resC rfl rfl (h.b a1) Row.h) ?_
   rw [ct_no2 (by omega)]; exact ⟨q,rfl,SH.duN (h.fr (.c r1 (.c r1 (.c r1 .n)))).drop.drop.drop .z⟩
 ·refine rr (resC rfl rfl (h.b a1) Row.h) ?_
  rw [ct_no1 hd4]; exact ⟨q,rfl,SH.duN (h.fr (.c r1 (.c r1 (.c r1 .n)))).drop.drop.drop .z⟩
section
attribute [local semireducible] Go.E.wpL Go.E.wpS Go.E.X Go.E.XS Go.E.C Go.E.thn Go.E.blk Go.E.fin Go.E.Y Go.E.U Go.E.F Go.E.Ca Go.E.Res Go.E.bl Go.E.rb Go.E.osl Go.E.rsl Go.E.ex Go.E.ce Go.E.pu Go.E.sK Go.E.gK Go.E.bK Go.E.zK
attribute [local irreducible] Go.E.wpL Go.E.wpS
variable {B w : World} {L : List As}
theorem rbuild_any (n : Ct.Node) (qn : Lq) (i r : Int) (h : SH B w (nodeR n qn::L)) (nf : NF n) :
  Calls Tryz.prog 259 #[.agg (nodeC n qn).toArray,.int .i64 i,.int .i64 r] w fun e w'=>∃ q',e=.returned (.agg (nodeC (bnode n i r) q').toArray)∧SH B w' (nodeR (bnode n i r) q'::nodeR n qn::L):=by
 have nf_br:=nf.br
 have nf_pr:=nf.pr
 have nf_bm:=nf.bm
 have nf_hs:=nf.hs
 have nf_ks:=nf.ks
 refine bgn (args:=[_,_,_]) Tryz.func259 rfl Tryz.ntmps259 rfl ?_
 refine sq<|rg<|sf (bx h rfl rfl)<|?_
 rintro _ w ⟨b1,rfl,h⟩
 refine sf (al h zc_77)<|?_
 rintro _ w ⟨b2,rfl,h⟩
 refine xe<|nx<|sq<|rg<|st (bd [.int .i64 3,.int .i64 0,.int .i64 0,.int .u64 0,.slice none 0 0,.int .u64 0,.string .empty,.int .u64 0,.slice none 0 0,.int .i64 0,.int .i64 0,.int .i64 0,.int .i64 0,.int .i64 0] bd_77 rfl (by kernel_rfl))<|sf (al h zc_77)<|?_
 rintro _ w ⟨b3,rfl,h⟩
 refine sf (so h rfl rfl rfl sz_77 rfl (.r (.r (.r (.r (.r (.r (.r (.r (.r (.r (.r (.r (.r (.r .d)))))))))))))) u0)<|?_
 rintro _ w h
 refine xe<|nx<|sq<|sq<|rg<|st (sg rfl)<|xe<|nx<|bk<|?_
 have h:=SH.nil 36 1 h
 refine lp (α:=Nat × Nat × List Int × Nat × Option Addr × Nat) (fun x=>(.c 1 (.int .i64 i) (.c 2 (.int .i64 r) (.c 3 (.pointer (some ⟨b1,0,none⟩)) (.c 6 (.pointer (some ⟨b2,0,none⟩)) (.c 7 (.pointer (some ⟨b3,0,none⟩)) (.c 8 (.int .i64 ((x.1 : Nat) : Int)) .n))))))) (fun x w=>SH B w (bl b3 ([.int .i64 3,.int .i64 0,.int .i64 0,.int .u64 ((x.2.1 : Nat) : Int),.slice x.2.2.2.2.1 x.2.2.2.1 x.2.2.2.2.2,.int .u64 0,.string .empty,.int .u64 0,.slice none 0 0,.int .i64 0,.int .i64 0,.int .i64 0,.int .i64 0,.int .i64 0]) 77::osl 36 1 (.slice x.2.2.2.2.1 x.2.2.2.1 x.2.2.2.2.2) x.2.2.2.1 (x.2.2.1.map (Value.int .i64))::nodeR n qn::bl b1 (nodeC n qn) 77::bl b2 ([.int .i64 0,.int .i64 0,.int .i64 0,.int .u64 0,.slice none 0 0,.int .u64 0,.string .empty,.int .u64 0,.slice none 0 0,.int .i64 0,.int .i64 0,.int .i64 0,.int .i64 0,.int .i64 0]) 77::L)∧(x.1≤64)∧(x.2.2.1.length=x.2.2.2.1)∧(x.2.2.2.1≤x.1)∧((x.2.1,x.2.2.1)=bbuild n i r x.1)∧(x.2.1<18446744073709551616)) (fun x=>64 - x.1) (0,0,[],0,none,0) ⟨rfl,rfl,rfl,rfl,rfl,rfl,trivial⟩ ⟨(h.fr (.c r1 (.c r0 (.c r2 (.c r1 (.c r0 .n)))))),Nat.zero_le _,rfl,Nat.le_refl _,rfl,by decide⟩ ?_
 rintro ⟨k,bm,out,m,q,cq⟩ w ⟨h,hk,hn,hmk,hW,hbm⟩
 dsimp only at *
 refine sq<|sq<|rg<|st (mv rfl)<|st (bi rfl rfl rfl)<|xe<|nx<|?_
 rcases Bool.eq_false_or_eq_true (decide ((((k : Nat) : Int) : Int)<64)) with hd4 | hd4
 ·have hg5:=of_decide_eq_true hd4
  refine ct rfl hd4<|sk<|nx<|sq<|bk<|sq<|rg<|st (ldr rfl (rows_all (h.b a3)) row_77)<|st (mv rfl)<|cl (ca en_217 rfl) ((rlookup_any n qn.pb qn.cb qn.pp qn.cp ((k : Nat) : Int) (h.fr (.c r2 .n)) nf).mono ?_)
  rintro _ w ⟨rfl,h⟩
  refine ⟨_,rfl,?_⟩
  refine st (mv rfl)<|st (xr rfl rfl)<|st (xr rfl rfl)<|st (sg rfl)<|st (sg rfl)<|xe<|nx<|sq<|sq<|rg<|st (mv rfl)<|st (mv rfl)<|st (bi rfl rfl rfl)<|xe<|nx<|?_
  rcases Bool.eq_false_or_eq_true ((((k : Nat) : Int) : Int)==i) with hd6 | hd6
  ·have hg7:=eq_of_beq hd6
   refine ct rfl hd6<|rg<|st (mv rfl)<|st (mv rfl)<|st (bi rfl rfl rfl)<|st (sg rfl)<|st (sg rfl)<|xe<|nx<|sq<|rg<|st (mv rfl)<|xe<|nx<|?_
   rcases Bool.eq_false_or_eq_true (decide ((r : Int)>0)) with hd8 | hd8
   ·have hg9:=of_decide_eq_true hd8
    refine ct rfl hd8<|drGB (F:=[ce b3 3 (.int .u64 ((bm : Nat) : Int)),ce b3 4 (.slice q m cq)]) [1,3,5,9,11,13] 3 7 [(true,[19,14,16]),(false,[20,23,24])] [(true,[6,19,16]),(false,[20,23,24])] (by kernel_rfl) h (fun w h=>(hC (h.ceI a1 rfl) (hC (h.ceI a1 rfl) hN))) fun w h=>tk (fun W H=>fa fo_77_3 rfl)<|tk (fun W H=>ld one_28 rfl (H.ce a0))<|tk (fun W H=>mv rfl)<|tk (fun W H=>fa fo_77_4 rfl)<|tk (fun W H=>ld one_60 rfl (H.ce a1))<|tk (fun W H=>mv rfl)<|xzGB ?_ ?_
    ·refine cs (ca en_285 rfl) ((rwith_any bm ((k : Nat) : Int) _ (by omega)).mono ?_)
     rintro _ _ ⟨rfl,rfl⟩
     refine ⟨_,rfl,(hC (h.ceI a1 rfl) (hC (h.ceI a1 rfl) hN)),?_⟩
     refine xgT<|tk (fun W H=>fa fo_77_3 rfl)<|ff (bu [.int .i64 r] h sl_60 ss_36 rfl (by kernel_rfl) rfl (by decide) (by decide))<|?_
     rintro _ w ⟨b10,rfl,h⟩
     refine ⟨(hC (h.ceI a2 rfl) (hC (h.ceI a2 rfl) hN)),?_⟩
     refine ff (ap h sl_60 rfl ss_36 rfl (by decide) rfl rfl (fun _=>u3) (h.ro a0) (by simp [Value.oneCell']) rfl (join_ints _ _) (by unfold maxLen; omega) (by omega))<|?_
     rintro _ w ⟨p11,c12,rfl,h⟩
     refine ⟨(hC (h.ceI a2 rfl) (hC (h.ceI a2 rfl) hN)),?_⟩
     refine xgF<|ff (so h rfl rfl rfl sz_28 rfl (.s (.s (.s (.r .d)))) u2)<|?_
     rintro _ w h
     refine ⟨trivial,?_⟩
     refine tk (fun W H=>fa fo_77_4 rfl)<|ff (so h rfl rfl rfl sz_60 rfl (.s (.s (.s (.s (.r .d))))) u2)<|?_
     rintro _ w h
     refine ⟨trivial,?_⟩
     refine xz<|bn<|nx<|rg<|st (mv rfl)<|st (bw rfl rfl (wadd (c:=((k+1 : Nat) : Int)) (by omega) (by omega) (by omega)))<|st (sg rfl)<|xe<|nx<|?_
     exact ⟨(k+1,Bm.withE bm ((k : Nat) : Int),out ++ [r],m+1,p11,c12),⟨rfl,rfl,rfl,rfl,rfl,rfl,trivial⟩,⟨(h.drop.fr (.c r1 (.c r1 (.c r0 (.c r0 (.c r0 .n)))))),by (try dsimp only); omega,by simp [hn],by (try dsimp only); omega,bb_T1 hd6 hd8 hW,Bm.withE_lt _ _ hbm⟩,by (try dsimp only); omega⟩
    ·refine ff (bu [.int .i64 r] h sl_60 ss_36 rfl (by kernel_rfl) rfl (by decide) (by decide))<|?_
     rintro _ w ⟨b13,rfl,h⟩
     refine ⟨(hC (h.ceI a2 rfl) (hC (h.ceI a2 rfl) hN)),?_⟩
     refine xgT<|cs (ca en_285 rfl) ((rwith_any bm ((k : Nat) : Int) _ (by omega)).mono ?_)
     rintro _ _ ⟨rfl,rfl⟩
     refine ⟨_,rfl,(hC (h.ceI a2 rfl) (hC (h.ceI a2 rfl) hN)),?_⟩
     refine tk (fun W H=>fa fo_77_3 rfl)<|ff (ap h sl_60 rfl ss_36 rfl (by decide) rfl rfl (fun _=>u3) (h.ro a0) (by simp [Value.oneCell']) rfl (join_ints _ _) (by unfold maxLen; omega) (by omega))<|?_
     rintro _ w ⟨p14,c15,rfl,h⟩
     refine ⟨(hC (h.ceI a2 rfl) (hC (h.ceI a2 rfl) hN)),?_⟩
     refine xgF<|ff (so h rfl rfl rfl sz_28 rfl (.s (.s (.s (.r .d)))) u2)<|?_
     rintro _ w h
     refine ⟨trivial,?_⟩
     refine tk (fun W H=>fa fo_77_4 rfl)<|ff (so h rfl rfl rfl sz_60 rfl (.s (.s (.s (.s (.r .d))))) u2)<|?_
     rintro _ w h
     refine ⟨trivial,?_⟩
     refine xz<|bn<|nx<|rg<|st (mv rfl)<|st (bw rfl rfl (wadd (c:=((k+1 : Nat) : Int)) (by omega) (by omega) (by omega)))<|st (sg rfl)<|xe<|nx<|?_
     exact ⟨(k+1,Bm.withE bm ((k : Nat) : Int),out ++ [r],m+1,p14,c15),⟨rfl,rfl,rfl,rfl,rfl,rfl,trivial⟩,⟨(h.drop.fr (.c r1 (.c r1 (.c r0 (.c r0 (.c r0 .n)))))),by (try dsimp only); omega,by simp [hn],by (try dsimp only); omega,bb_T1 hd6 hd8 hW,Bm.withE_lt _ _ hbm⟩,by (try dsimp only); omega⟩
   ·have hg16:=of_decide_eq_false hd8
    refine cf rfl hd8<|sk<|bn<|nx<|rg<|st (mv rfl)<|st (bw rfl rfl (wadd (c:=((k+1 : Nat) : Int)) (by omega) (by omega) (by omega)))<|st (sg rfl)<|xe<|nx<|?_
    exact ⟨(k+1,bm,out,m,q,cq),⟨rfl,rfl,rfl,rfl,rfl,rfl,trivial⟩,⟨(h.fr (.c r1 (.c r1 (.c r0 (.c r0 (.c r0 .n)))))),by (try dsimp only); omega,hn,by (try dsimp only); omega,bb_F1 hd6 hd8 hW,hbm⟩,by (try dsimp only); omega⟩
  ·have hg17:=ne_of_beq_false hd6
   refine cf rfl hd6<|sk<|nx<|sq<|rg<|st (mv rfl)<|xe<|nx<|?_
   rcases Bool.eq_false_or_eq_true ((Ct.blookup n ((k : Nat) : Int)).2) with hd18 | hd18
   ·refine ct rfl hd18<|drGB (F:=[ce b3 3 (.int .u64 ((bm : Nat) : Int)),ce b3 4 (.slice q m cq)]) [1,3,5,9,11,13] 3 7 [(true,[19,14,16]),(false,[20,23,24])] [(true,[6,19,16]),(false,[20,23,24])] (by kernel_rfl) h (fun w h=>(hC (h.ceI a1 rfl) (hC (h.ceI a1 rfl) hN))) fun w h=>tk (fun W H=>fa fo_77_3 rfl)<|tk (fun W H=>ld one_28 rfl (H.ce a0))<|tk (fun W H=>mv rfl)<|tk (fun W H=>fa fo_77_4 rfl)<|tk (fun W H=>ld one_60 rfl (H.ce a1))<|tk (fun W H=>mv rfl)<|xzGB ?_ ?_
    ·refine cs (ca en_285 rfl) ((rwith_any bm ((k : Nat) : Int) _ (by omega)).mono ?_)
     rintro _ _ ⟨rfl,rfl⟩
     refine ⟨_,rfl,(hC (h.ceI a1 rfl) (hC (h.ceI a1 rfl) hN)),?_⟩
     refine xgT<|tk (fun W H=>fa fo_77_3 rfl)<|ff (bu [.int .i64 ((Ct.blookup n ((k : Nat) : Int)).1)] h sl_60 ss_36 rfl (by kernel_rfl) rfl (by decide) (by decide))<|?_
     rintro _ w ⟨b19,rfl,h⟩
     refine ⟨(hC (h.ceI a2 rfl) (hC (h.ceI a2 rfl) hN)),?_⟩
     refine ff (ap h sl_60 rfl ss_36 rfl (by decide) rfl rfl (fun _=>u3) (h.ro a0) (by simp [Value.oneCell']) rfl (join_ints _ _) (by unfold maxLen; omega) (by omega))<|?_
     rintro _ w ⟨p20,c21,rfl,h⟩
     refine ⟨(hC (h.ceI a2 rfl) (hC (h.ceI a2 rfl) hN)),?_⟩
     refine xgF<|ff (so h rfl rfl rfl sz_28 rfl (.s (.s (.s (.r .d)))) u2)<|?_
     rintro _ w h
     refine ⟨trivial,?_⟩
     refine tk (fun W H=>fa fo_77_4 rfl)<|ff (so h rfl rfl rfl sz_60 rfl (.s (.s (.s (.s (.r .d))))) u2)<|?_
     rintro _ w h
     refine ⟨trivial,?_⟩
     refine xz<|bn<|nx<|rg<|st (mv rfl)<|st (bw rfl rfl (wadd (c:=((k+1 : Nat) : Int)) (by omega) (by omega) (by omega)))<|st (sg rfl)<|xe<|nx<|?_
     exact ⟨(k+1,Bm.withE bm ((k : Nat) : Int),out ++ [(Ct.blookup n ((k : Nat) : Int)).1],m+1,p20,c21),⟨rfl,rfl,rfl,rfl,rfl,rfl,trivial⟩,⟨(h.drop.fr (.c r1 (.c r1 (.c r0 (.c r0 (.c r0 .n)))))),by (try dsimp only); omega,by simp [hn],by (try dsimp only); omega,bb_T2 hd6 hd18 hW,Bm.withE_lt _ _ hbm⟩,by (try dsimp only); omega⟩
    ·refine ff (bu [.int .i64 ((Ct.blookup n ((k : Nat) : Int)).1)] h sl_60 ss_36 rfl (by kernel_rfl) rfl (by decide) (by decide))<|?_
     rintro _ w ⟨b22,rfl,h⟩
     refine ⟨(hC (h.ceI a2 rfl) (hC (h.ceI a2 rfl) hN)),?_⟩
     refine xgT<|cs (ca en_285 rfl) ((rwith_any bm ((k : Nat) : Int) _ (by omega)).mono ?_)
     rintro _ _ ⟨rfl,rfl⟩
     refine ⟨_,rfl,(hC (h.ceI a2 rfl) (hC (h.ceI a2 rfl) hN)),?_⟩
     refine tk (fun W H=>fa fo_77_3 rfl)<|ff (ap h sl_60 rfl ss_36 rfl (by decide) rfl rfl (fun _=>u3) (h.ro a0) (by simp [Value.oneCell']) rfl (join_ints _ _) (by unfold maxLen; omega) (by omega))<|?_
     rintro _ w ⟨p23,c24,rfl,h⟩
     refine ⟨(hC (h.ceI a2 rfl) (hC (h.ceI a2 rfl) hN)),?_⟩
     refine xgF<|ff (so h rfl rfl rfl sz_28 rfl (.s (.s (.s (.r .d)))) u2)<|?_
     rintro _ w h
     refine ⟨trivial,?_⟩
     refine tk (fun W H=>fa fo_77_4 rfl)<|ff (so h rfl rfl rfl sz_60 rfl (.s (.s (.s (.s (.r .d))))) u2)<|?_
     rintro _ w h
     refine ⟨trivial,?_⟩
     refine xz<|bn<|nx<|rg<|st (mv rfl)<|st (bw rfl rfl (wadd (c:=((k+1 : Nat) : Int)) (by omega) (by omega) (by omega)))<|st (sg rfl)<|xe<|nx<|?_
     exact ⟨(k+1,Bm.withE bm ((k : Nat) : Int),out ++ [(Ct.blookup n ((k : Nat) : Int)).1],m+1,p23,c24),⟨rfl,rfl,rfl,rfl,rfl,rfl,trivial⟩,⟨(h.drop.fr (.c r1 (.c r1 (.c r0 (.c r0 (.c r0 .n)))))),by (try dsimp only); omega,by simp [hn],by (try dsimp only); omega,bb_T2 hd6 hd18 hW,Bm.withE_lt _ _ hbm⟩,by (try dsimp only); omega⟩
   ·refine cf rfl hd18<|sk<|bn<|nx<|rg<|st (mv rfl)<|st (bw rfl rfl (wadd (c:=((k+1 : Nat) : Int)) (by omega) (by omega) (by omega)))<|st (sg rfl)<|xe<|nx<|?_
    exact ⟨(k+1,bm,out,m,q,cq),⟨rfl,rfl,rfl,rfl,rfl,rfl,trivial⟩,⟨(h.fr (.c r1 (.c r1 (.c r0 (.c r0 (.c r0 .n)))))),by (try dsimp only); omega,hn,by (try dsimp only); omega,bb_F2 hd6 hd18 hW,hbm⟩,by (try dsimp only); omega⟩
 ·have hg25:=of_decide_eq_false hd4
  refine cf rfl hd4<|xt<|tx<|tx<|be<|nx<|sq<|rg<|st (ldr rfl (rows_all (h.b a0)) row_77)<|sf (so h rfl rfl rfl sz_77 rfl (.r (.r (.r (.r (.r (.r (.r (.r (.r (.r (.r (.r (.r (.r .d)))))))))))))) u4)<|?_
  rintro _ w h
  refine xe<|nx<|rt<|?_
  refine rr (resC Tryz.results259 rfl (h.b a4) row_77)<|?_
  obtain rfl : k=64:=by omega
  have e1 : bm=(bbuild n i r 64).1:=by rw [← hW]
  have e2 : out=(bbuild n i r 64).2:=by rw [← hW]
  subst hn; subst e1; subst e2
  exact ⟨⟨q,cq,none,0⟩,rfl,SH.ofB (m:=bnode n i r) ((h.fr (.c r0 (.c r2 (.c r2 .n)))).drop.drop.drop).fz rfl⟩
end
variable {B w : World} {L : List As}
theorem rinserted_any (n : Ct.Node) (q : Lq) (i r : Int) (h : SH B w (nodeR n q::L)) (nf : NF n) :
  Calls Tryz.prog 264 #[.agg (nodeC n q).toArray,.int .i64 i,.int .i64 r] w fun e w'=>∃ q',e=.returned (.tuple #[.agg (nodeC (Ct.pinserted n i r).1 q').toArray,.bool (Ct.pinserted n i r).2])∧SH B w' (nodeR (Ct.pinserted n i r).1 q'::nodeR n q::L):=by
 have nf_br:=nf.br
 have nf_pr:=nf.pr
 have nf_bm:=nf.bm
 have nf_hs:=nf.hs
 have nf_ks:=nf.ks
 refine bn0 Tryz.func264 Tryz.ntmps264 h fun w h=>?_
 refine jX h fun b1 w h=>?_
 refine jA h fun b2 w h=>?_
 refine j000 (rlookup_any _ _ _ _ _ _ h.to nf) fun w h=>?_
 refine j000 (ris_any _ _ h.to nf) fun w h=>?_
 refine qg h (fun hd3 w h=>?_) fun hd3 w h=>?_
 have hd4 : n.isC=false:=by simpa using hd3
 refine go h fun w h=>?_
 refine rr (resCt rfl rfl (h.b a1) Row.h rfl) ?_
 rw [pin_no (.inl hd4)]; exact ⟨{},rfl,SH.nilN _ rfl rfl (h.fr (.c r1 (.c r1 .n))).drop.drop⟩
 have hd5 : n.isC=true:=by simpa using hd3
 refine go h fun w h=>?_
 refine qg h (fun hd6 w h=>?_) fun hd6 w h=>?_
 refine rr (resCt rfl rfl (h.b a1) Row.h rfl) ?_
 rw [pin_no (.inr (.inl hd6))]; exact ⟨{},rfl,SH.nilN _ rfl rfl (h.fr (.c r1 (.c r1 .n))).drop.drop⟩
 refine qg h (fun hd7 w h=>?_) fun hd7 w h=>?_
 have hg8:=of_decide_eq_true hd7
 refine go h fun w h=>?_
 refine rr (resCt rfl rfl (h.b a1) Row.h rfl) ?_
 rw [pin_no (.inr (.inr (by omega)))]; exact ⟨{},rfl,SH.nilN _ rfl rfl (h.fr (.c r1 (.c r1 .n))).drop.drop⟩
 have hg9:=of_decide_eq_false hd7
 refine go h fun w h=>?_
 refine qg h (fun hd10 w h=>?_) fun hd10 w h=>?_
 have hg11:=of_decide_eq_true hd10
 refine go h fun w h=>?_
 refine rr (resCt rfl rfl (h.b a1) Row.h rfl) ?_
 rw [pin_no (.inr (.inr (by omega)))]; exact ⟨{},rfl,SH.nilN _ rfl rfl (h.fr (.c r1 (.c r1 .n))).drop.drop⟩
 have hg12:=of_decide_eq_false hd10
 refine go h fun w h=>?_
 refine qc h (fun hd13 w h=>?_) fun hd13 w h=>?_
 have hg14:=of_decide_eq_true hd13
 refine go h fun w h=>?_
 refine rr (resCt rfl rfl (h.b a1) Row.h rfl) ?_
 rw [pin_no (.inr (.inr (by omega)))]; exact ⟨{},rfl,SH.nilN _ rfl rfl (h.fr (.c r1 (.c r1 .n))).drop.drop⟩
 have hg15:=of_decide_eq_false hd13
 refine go h fun w h=>?_
 refine j100 (rbuild_any _ _ _ _ h.to nf) fun q16 w h=>?_
 refine rr (resCt rfl rfl (h.b a2) Row.h rfl) ?_
 rw [build_inserted nf.bm hd5 hd6 (by omega) (by omega) (by omega)]; exact ⟨q16,rfl,(h.fr (.c r2 (.c r2 .n))).drop.drop⟩
theorem rupdated_any (n : Ct.Node) (q : Lq) (i r : Int) (h : SH B w (nodeR n q::L)) (nf : NF n) :
  Calls Tryz.prog 220 #[.agg (nodeC n q).toArray,.int .i64 i,.int .i64 r] w fun e w'=>∃ q',e=.returned (.tuple #[.agg (nodeC (Ct.pupdated n i r).1 q').toArray,.bool (Ct.pupdated n i r).2])∧SH B w' (nodeR (Ct.pupdated n i r).1 q'::nodeR n q::L):=by
 have nf_br:=nf.br
 have nf_pr:=nf.pr
 have nf_bm:=nf.bm
 have nf_hs:=nf.hs
 have nf_ks:=nf.ks
 refine bn0 Tryz.func220 Tryz.ntmps220 h fun w h=>?_
 refine jX h fun b1 w h=>?_
 refine jA h fun b2 w h=>?_
 refine j000 (rlookup_any _ _ _ _ _ _ h.to nf) fun w h=>?_
 refine qg h (fun hd3 w h=>?_) fun hd3 w h=>?_
 have hd4 : ((Ct.blookup n i).2)=false:=by simpa using hd3
 refine go h fun w h=>?_
 refine rr (resCt rfl rfl (h.b a1) Row.h rfl) ?_
 rw [pup_no (.inl hd4)]; exact ⟨{},rfl,SH.nilN _ rfl rfl (h.fr (.c r1 (.c r1 .n))).drop.drop⟩
 have hd5 : ((Ct.blookup n i).2)=true:=by simpa using hd3
 refine go h fun w h=>?_
 refine qc h (fun hd6 w h=>?_) fun hd6 w h=>?_
 have hg7:=of_decide_eq_true hd6
 refine go h fun w h=>?_
 refine rr (resCt rfl rfl (h.b a1) Row.h rfl) ?_
 rw [pup_no (.inr (by omega))]; exact ⟨{},rfl,SH.nilN _ rfl rfl (h.fr (.c r1 (.c r1 .n))).drop.drop⟩
 have hg8:=of_decide_eq_false hd6
 refine go h fun w h=>?_
 refine j100 (rbuild_any _ _ _ _ h.to nf) fun q9 w h=>?_
 refine rr (resCt rfl rfl (h.b a2) Row.h rfl) ?_
 rw [build_updated nf.bm hd5 (by omega)]; exact ⟨q9,rfl,(h.fr (.c r2 (.c r2 .n))).drop.drop⟩
theorem rremoved_any (n : Ct.Node) (q : Lq) (i : Int) (h : SH B w (nodeR n q::L)) (nf : NF n) :
  Calls Tryz.prog 267 #[.agg (nodeC n q).toArray,.int .i64 i] w fun e w'=>∃ q',e=.returned (.tuple #[.agg (nodeC (Ct.premoved n i).1 q').toArray,.bool (Ct.premoved n i).2])∧SH B w' (nodeR (Ct.premoved n i).1 q'::nodeR n q::L):=by
 have nf_br:=nf.br
 have nf_pr:=nf.pr
 have nf_bm:=nf.bm
 have nf_hs:=nf.hs
 have nf_ks:=nf.ks
 refine bn0 Tryz.func267 Tryz.ntmps267 h fun w h=>?_
 refine jX h fun b1 w h=>?_
 refine jA h fun b2 w h=>?_
 refine j000 (rlookup_any _ _ _ _ _ _ h.to nf) fun w h=>?_
 refine qc h (fun hd3 w h=>?_) fun hd3 w h=>?_
 ·have hd4 : ((Ct.blookup n i).2)=false:=by simpa using hd3
  refine go h fun w h=>?_
  refine rr (resCt rfl rfl (h.b a1) Row.h rfl) ?_
  rw [prm_no hd4]; exact ⟨{},rfl,SH.nilN _ rfl rfl (h.fr (.c r1 (.c r1 .n))).drop.drop⟩
 ·have hd5 : ((Ct.blookup n i).2)=true:=by simpa using hd3
  refine go h fun w h=>?_
  refine j100 (rbuild_any _ _ _ _ h.to nf) fun q6 w h=>?_
  refine rr (resCt rfl rfl (h.b a2) Row.h rfl) ?_
  rw [build_removed nf.bm hd5]; exact ⟨q6,rfl,(h.fr (.c r2 (.c r2 .n))).drop.drop⟩
section
attribute [local semireducible] Go.E.wpL Go.E.wpS Go.E.X Go.E.XS Go.E.C Go.E.thn Go.E.blk Go.E.fin Go.E.Y Go.E.U Go.E.F Go.E.Ca Go.E.Res Go.E.bl Go.E.rb Go.E.osl Go.E.rsl Go.E.ex Go.E.ce Go.E.pu Go.E.sK Go.E.gK Go.E.bK Go.E.zK
attribute [local irreducible] Go.E.wpL Go.E.wpS
variable {B w : World} {L : List As}
theorem rgrown_any (n : Ct.Node) (q : Lq) (key : ByteArray) (v : Nat) (h : SH B w (nodeR n q::L)) (nf : NF n) :
  Calls Tryz.prog 262 #[.agg (nodeC n q).toArray,.string key,.int .u64 ((v : Nat) : Int)] w fun e w'=>∃ q',e=.returned (.tuple #[.agg (nodeC (Ct.grown n key v).1 q').toArray,.bool (Ct.grown n key v).2])∧SH B w' (nodeR (Ct.grown n key v).1 q'::nodeR n q::L):=by
 have nf_br:=nf.br
 have nf_pr:=nf.pr
 have nf_bm:=nf.bm
 have nf_hs:=nf.hs
 have nf_ks:=nf.ks
 refine bgn (args:=[_,_,_]) Tryz.func262 rfl Tryz.ntmps262 rfl ?_
 refine sq<|rg<|sf (bx h rfl rfl)<|?_
 rintro _ w ⟨b1,rfl,h⟩
 refine sf (al h zc_77)<|?_
 rintro _ w ⟨b2,rfl,h⟩
 refine st (sg rfl)<|xe<|nx<|sq<|sq<|rg<|st (ldr rfl (rows_all (h.b a1)) row_77)<|cl (ca en_286 rfl) ((rlist_any n q (h.fr (.c r2 .n)) nf).mono ?_)
 rintro _ w ⟨rfl,h⟩
 refine ⟨_,rfl,?_⟩
 refine st (nt rfl)<|st (mv rfl)<|?_
 rcases Bool.eq_false_or_eq_true (!n.isL) with hd3 | hd3
 ·have hd4 : n.isL=false:=by simpa using hd3
  refine gF rfl rfl hd3<|gF rfl rfl hd3<|gF rfl rfl hd3<|st (pT rfl hd3 rfl)<|xe<|nx<|cT rfl<|sq<|rg<|st (bd [.int .i64 0,.int .i64 0,.int .i64 0,.int .u64 0,.slice none 0 0,.int .u64 0,.string .empty,.int .u64 0,.slice none 0 0,.int .i64 0,.int .i64 0,.int .i64 0,.int .i64 0,.int .i64 0] bd_77 rfl (by kernel_rfl))<|sf (so h rfl rfl rfl sz_77 rfl (.r (.r (.r (.r (.r (.r (.r (.r (.r (.r (.r (.r (.r (.r .d)))))))))))))) u1)<|?_
  rintro _ w h
  refine st (sg rfl)<|xe<|nx<|rt<|tr<|?_
  refine rr (resCt Tryz.results262 rfl (h.b a1) row_77 rfl)<|?_
  rw [gr_no (.inl hd4)]; exact ⟨{},rfl,SH.nilN _ rfl rfl (h.fr (.c r1 (.c r1 .n))).drop.drop⟩
 ·have hd5 : n.isL=true:=by simpa using hd3
  refine gT rfl rfl hd3<|st (mv rfl)<|gT rfl rfl hd3<|st (lns un_9 rfl rfl)<|gT rfl rfl hd3<|st (bi rfl rfl rfl)<|st (pF rfl hd3 rfl)<|xe<|nx<|?_
  rcases Bool.eq_false_or_eq_true (decide ((((key.size : Nat) : Int) : Int)>64)) with hd6 | hd6
  ·have hg7:=of_decide_eq_true hd6
   refine ct rfl hd6<|sq<|rg<|st (bd [.int .i64 0,.int .i64 0,.int .i64 0,.int .u64 0,.slice none 0 0,.int .u64 0,.string .empty,.int .u64 0,.slice none 0 0,.int .i64 0,.int .i64 0,.int .i64 0,.int .i64 0,.int .i64 0] bd_77 rfl (by kernel_rfl))<|sf (so h rfl rfl rfl sz_77 rfl (.r (.r (.r (.r (.r (.r (.r (.r (.r (.r (.r (.r (.r (.r .d)))))))))))))) u1)<|?_
   rintro _ w h
   refine st (sg rfl)<|xe<|nx<|rt<|tr<|?_
   refine rr (resCt Tryz.results262 rfl (h.b a1) row_77 rfl)<|?_
   rw [gr_no (.inr (by omega))]; exact ⟨{},rfl,SH.nilN _ rfl rfl (h.fr (.c r1 (.c r1 .n))).drop.drop⟩
  ·have hg8:=of_decide_eq_false hd6
   refine cf rfl hd6<|sk<|nx<|sq<|?_
   have h : SH B w (rsl 1 (.slice q.pb n.branches.length q.cb) n.branches.length (n.branches.map (Value.int .i64))::rsl 2 (.slice q.pp n.pairs.length q.cp) n.pairs.length (n.pairs.flatMap pairC)::bl b2 ([.int .i64 0,.int .i64 0,.int .i64 0,.int .u64 0,.slice none 0 0,.int .u64 0,.string .empty,.int .u64 0,.slice none 0 0,.int .i64 0,.int .i64 0,.int .i64 0,.int .i64 0,.int .i64 0]) 77::bl b1 (nodeC n q) 77::L):=SH.se (l:=[branchR n q,pairR n q]) h
   refine drH [1,3,5,7,9,11,12,15,16,18] (by kernel_rfl) h (.c r3 .n) fun w h=>tk (fun W H=>fa fo_77_5 rfl)<|tk (fun W H=>ld one_28 rfl (H.c a0 rfl))<|tk (fun W H=>fa fo_77_8 rfl)<|tk (fun W H=>ld one_38 rfl (H.c a0 rfl))<|tk (fun W H=>mv rfl)<|tk (fun W H=>mv rfl)<|cs (ca en_287 rfl) ((rput_l n.pairs _ _ key v (h.fr (.c r1 .n)) ((valid_vf (nf.v6 (isL_of hd5).1)).sorted (isL_of hd5).1) (by omega)).mono ?_)
   rintro _ w ⟨q9,c10,rfl,h⟩
   refine ⟨_,rfl,h.hs (.c r4 .n),?_⟩
   refine tk (fun W H=>bd [.int .i64 6,.int .i64 0,.int .i64 0,.int .u64 0,.slice none 0 0,.int .u64 ((n.hash : Nat) : Int),.string .empty,.int .u64 0,.slice q9 ((Ct.pput n.pairs key v).length) c10,.int .i64 0,.int .i64 0,.int .i64 0,.int .i64 0,.int .i64 0] bd_77 rfl (by kernel_rfl))<|ff (so h rfl rfl rfl sz_77 rfl (.r (.r (.r (.r (.r (.r (.r (.r (.r (.r (.r (.r (.r (.r .d)))))))))))))) u3)<|?_
   rintro _ w h
   refine ⟨h.hs (.c r4 .n),?_⟩
   refine ef (sg rfl) (h.hs (.c r4 .n))<|xz<|nx<|rt<|?_
   refine rr (resCt Tryz.results262 rfl (h.b a3) row_77 rfl)<|?_
   rw [gr_yes hd5 (by omega)]
   have h:=((h.fr (.c r3 (.c r3 .n))).drop.drop.fr (.c r0 (.c r1 (.c r0 .n))))
   have h:=SH.ofP (m:=grownOf n key v) h rfl
   have h:=h.fr (.c r1 (.c r1 .n))
   exact ⟨⟨none,0,q9,c10⟩,rfl,(SH.is (l:=[branchR n q,pairR n q]) h).fr (.c r1 .n)⟩
end
variable {B w : World} {L : List As}
theorem rshrunk_any (n : Ct.Node) (pb : Option Addr) (cb : Nat) (pp : Option Addr) (cp : Nat) (key : ByteArray) (h : SH B w (nodeR n (⟨pb,cb,pp,cp⟩)::L)) (nf : NF n) (hi : n.isL=true) :
  Calls Tryz.prog 266 #[.agg (nodeC n (⟨pb,cb,pp,cp⟩)).toArray,.string key] w fun e w'=>∃ q',e=.returned (.tuple #[.agg (nodeC (Ct.shrunk n key).1 q').toArray,.bool (Ct.shrunk n key).2])∧SH B w' (nodeR (Ct.shrunk n key).1 q'::nodeR n ⟨pb,cb,pp,cp⟩::L):=by
 have nf_br:=nf.br
 have nf_pr:=nf.pr
 have nf_bm:=nf.bm
 have nf_hs:=nf.hs
 have nf_ks:=nf.ks
 have hv:=(valid_vf (isL_of hi).2).sorted (isL_of hi).1
 have hdl:=(pdrop_len n.pairs key hv).1
 refine bn0 Tryz.func266 Tryz.ntmps266 h fun w h=>?_
 refine jX h fun b1 w h=>?_
 refine jA h fun b2 w h=>?_
 have h:=h.fr (.c r2 .n)
 have h:=SH.se (l:=[branchR n (⟨pb,cb,pp,cp⟩),pairR n (⟨pb,cb,pp,cp⟩)]) h
 refine go h fun w h=>?_
 refine j000 (rfind_any _ _ _ _ h.to hv (by omega)) fun w h=>?_
 have h:=SH.is (l:=[branchR n ⟨pb,cb,pp,cp⟩,pairR n ⟨pb,cb,pp,cp⟩]) (h.fr (.c r1 (.c r0 .n)))
 refine go h fun w h=>?_
 refine j000 (rlist_any _ (⟨pb,cb,pp,cp⟩) h.to nf) fun w h=>?_
 refine qc h (fun hd3 w h=>?_) fun hd3 w h=>?_
 have hd4 : ((Ct.pfind n.pairs key).2)=false:=by simpa using hd3
 refine go h fun w h=>?_
 refine rr (resCt rfl rfl (h.b a1) Row.h rfl) ?_
 rw [sh_no hd4]
 have h:=(h.fr (.c r1 (.c r1 .n))).drop.drop
 exact ⟨{},rfl,SH.nilN _ rfl rfl h⟩
 have hd5 : ((Ct.pfind n.pairs key).2)=true:=by simpa using hd3
 refine go h fun w h=>?_
 have h:=SH.se (l:=[branchR n (⟨pb,cb,pp,cp⟩),pairR n (⟨pb,cb,pp,cp⟩)]) h
 refine go h fun w h=>?_
 refine j200 (rdrop_l _ _ _ _ h.to hv (by omega)) fun q6 c7 w h=>?_
 refine qc h (fun hd8 w h=>?_) fun hd8 w h=>?_
 have hg9:=eq_of_beq hd8
 refine go h fun w h=>?_
 obtain ⟨b10,o11,rfl⟩:=h.fq a0 (by omega)
 refine drH [1,3,5,7,9,11,13,15,17,19,21,22,24] (by kernel_rfl) h (.c r4 (.c r0 .n)) fun w h=>go h fun w h=>?_
 refine tk (fun W H=>ld One.h rfl ((H.rr a1).x pairC_len (by decide) (j:=0) (by omega) ⟨.empty,0⟩ 0 _ rfl))<|go h fun w h=>?_
 refine tk (fun W H=>ld One.h rfl ((H.rr a1).x pairC_len (by decide) (j:=0) (by omega) ⟨.empty,0⟩ 1 _ rfl))<|go h fun w h=>?_
 refine rr (resCt rfl rfl (h.b a3) Row.h rfl) ?_
 rw [sh_one hi hd5 (by omega)]
 have h:=SH.is (l:=[branchR n ⟨pb,cb,pp,cp⟩,pairR n ⟨pb,cb,pp,cp⟩]) ((h.fr (.c r0 (.c r2 (.c r2 .n)))).drop.drop.drop.fr (.c r1 (.c r0 .n)))
 exact ⟨{},rfl,SH.nilN _ rfl rfl h⟩
 have hg12:=ne_of_beq_false hd8
 refine go h fun w h=>?_
 refine rr (resCt rfl rfl (h.b a3) Row.h rfl) ?_
 rw [sh_more hi hd5 (by omega)]
 have h:=((h.fr (.c r3 (.c r3 .n))).drop.drop.fr (.c r0 (.c r1 (.c r0 .n))))
 have h:=SH.ofP (m:=shrunkL n key) h rfl
 have h:=h.fr (.c r1 (.c r1 .n))
 exact ⟨⟨none,0,q6,c7⟩,rfl,(SH.is (l:=[branchR n ⟨pb,cb,pp,cp⟩,pairR n ⟨pb,cb,pp,cp⟩]) h).fr (.c r1 .n)⟩
end Go.Proofs.YtmliojdkmfhmmaaGreat
end
