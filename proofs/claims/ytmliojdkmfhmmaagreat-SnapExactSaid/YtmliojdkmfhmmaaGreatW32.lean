/- Parts of a proof: Rp, Q1. -/
import Derived.Test.YtmliojdkmfhmmaaGreatW09
import Derived.Test.YtmliojdkmfhmmaaGreatW17
import Derived.Test.YtmliojdkmfhmmaaGreatW16
import Derived.Test.YtmliojdkmfhmmaaGreatW20
import Derived.Test.YtmliojdkmfhmmaaGreatW24
import Derived.Test.YtmliojdkmfhmmaaGreatW04
set_option linter.unusedVariables false
set_option linter.unusedSimpArgs false
set_option maxRecDepth 100000
set_option maxHeartbeats 4000000
section
namespace Go.Proofs.YtmliojdkmfhmmaaGreat
attribute [local irreducible] Go.E.wpL Go.E.wpS Go.E.X Go.E.XS Go.E.C Go.E.thn Go.E.blk Go.E.fin Go.E.Y Go.E.U Go.E.F Go.E.Ca Go.E.Res Go.E.bl Go.E.rb Go.E.osl Go.E.rsl Go.E.ex Go.E.ce Go.E.pu Go.E.sK Go.E.gK Go.E.bK Go.E.zK
open Go.RowKit Go.E
variable {B w : World} {L : List As}
theorem settle_any (xb mb : Nat) (x : Ct.X) (t : Ct.Trie) (i m : Int) (h : SH B w (XA xb mb x::L)) (k : Ct.Ok 30 x) :
  Calls Tryz.prog 210 #[.pointer (some ⟨xb,0,none⟩),.agg (trieC t).toArray,.int .i64 i,.int .i64 m] w fun e w'=>∃ y v,Ct.runI (Ct.settleI t i m) x=Ct.out y v∧e=.returned (.int .i64 v)∧SH B w' (XA xb mb y::L)∧Ct.Ok 60 y:=by
 refine bn0 Tryz.func210 Tryz.ntmps210 h fun w h=>?_
 refine jX h fun b1 w h=>?_
 refine j100 (xnode_any xb mb x m h.to k.big') fun p2 w h=>?_
 have h:=h.drop
 refine go h fun w h=>?_
 refine j211 (load_x xb mb x ((x.node m).prev) h.to (k.less (by omega))) fun y3 v4 q5 w h k=>?_
 refine st (ld (v:=.bool y3.e.stopped) One.h rfl (h.xc a0 fun _=>rfl))<|go h fun w h=>?_
 refine qg h (fun hd6 w h=>?_) fun hd6 w h=>?_
 exact rz ⟨_,_,Ct.rN<|Ct.rL q5<|Ct.rS hd6,rfl,h.to,(k.stop hd6)⟩
 refine qc h (fun hd7 w h=>?_) fun hd7 w h=>?_
 have hg8:=eq_of_beq hd7
 refine go h fun w h=>?_
 exact rz ⟨_,_,Ct.rN<|Ct.rL q5<|Ct.rT hd7<|Ct.rR,rfl,h.to,(k.less (by omega))⟩
 have hg9:=ne_of_beq_false hd7
 refine go h fun w h=>?_
 refine j100 (xnode_any xb mb y3 v4 h.to k.big') fun p10 w h=>?_
 have h:=h.drop
 refine go h fun w h=>?_
 refine j000 (main_y (y3.node v4) p10 h.to) fun w h=>?_
 refine qc h (fun hd11 w h=>?_) fun hd11 w h=>?_
 refine qc h (fun hd12 w h=>?_) fun hd12 w h=>?_
 have hd13 : t.readOnly=false:=by simpa using hd12
 refine go h fun w h=>?_
 refine j211 (root_any xb mb y3 t h.to (k.less (by omega))) fun y14 v15 q16 w h k=>?_
 refine j100 (xnode_any xb mb y14 v15 h.to k.big') fun p17 w h=>?_
 have h:=h.drop
 refine go h fun w h=>?_
 refine j100 (xnode_any xb mb y14 i h.to k.big') fun p18 w h=>?_
 have h:=h.drop
 refine go h fun w h=>?_
 refine qc h (fun hd19 w h=>?_) fun hd19 w h=>?_
 have hg20:=eq_of_beq hd19
 refine go h fun w h=>?_
 refine j100 (xnode_any xb mb y14 m h.to k.big') fun p21 w h=>?_
 have h:=h.drop
 refine go h fun w h=>?_
 refine j211 (cas_x xb mb y14 ((y14.node m).prev) v4 0 h.to (k.less (by omega))) fun y22 v23 q24 w h k=>?_
 refine j100 (xnode_any xb mb y22 m h.to k.big') fun p25 w h=>?_
 have h:=h.drop
 refine go h fun w h=>?_
 refine j211 (load_x xb mb y22 ((y22.node m).prev) h.to (k.less (by omega))) fun y26 v27 q28 w h k=>?_
 refine st (ld (v:=.bool y26.e.stopped) One.h rfl (h.xc a0 fun _=>rfl))<|go h fun w h=>?_
 refine qg h (fun hd29 w h=>?_) fun hd29 w h=>?_
 exact rz ⟨_,_,Ct.rN<|Ct.rL q5<|Ct.rF hd7<|Ct.rN<|Ct.rT hd11<|Ct.rF hd13<|Ct.rB q16<|Ct.rN<|Ct.rN<|Ct.rT hd19<|Ct.rN<|Ct.rC q24<|Ct.rN<|Ct.rL q28<|Ct.rS hd29,rfl,h.to,(k.stop hd29)⟩
 refine qc h (fun hd30 w h=>?_) fun hd30 w h=>?_
 have hg31:=eq_of_beq hd30
 refine go h fun w h=>?_
 exact rz ⟨_,_,Ct.rN<|Ct.rL q5<|Ct.rF hd7<|Ct.rN<|Ct.rT hd11<|Ct.rF hd13<|Ct.rB q16<|Ct.rN<|Ct.rN<|Ct.rT hd19<|Ct.rN<|Ct.rC q24<|Ct.rN<|Ct.rL q28<|Ct.rT hd30<|Ct.rR,rfl,h.to,(k.less (by omega))⟩
 have hg32:=ne_of_beq_false hd30
 refine go h fun w h=>?_
 refine j100 (xnode_any xb mb y26 i h.to k.big') fun p33 w h=>?_
 have h:=h.drop
 refine go h fun w h=>?_
 refine j100 (xnode_any xb mb y26 v27 h.to k.big') fun p34 w h=>?_
 have h:=h.drop
 refine go h fun w h=>?_
 refine j211 (cas_x xb mb y26 ((y26.node i).main) m ((y26.node v27).old) h.to (k.less (by omega))) fun y35 v36 q37 w h k=>?_
 refine j100 (xnode_any xb mb y35 v27 h.to k.big') fun p38 w h=>?_
 have h:=h.drop
 refine go h fun w h=>?_
 exact rz ⟨_,_,Ct.rN<|Ct.rL q5<|Ct.rF hd7<|Ct.rN<|Ct.rT hd11<|Ct.rF hd13<|Ct.rB q16<|Ct.rN<|Ct.rN<|Ct.rT hd19<|Ct.rN<|Ct.rC q24<|Ct.rN<|Ct.rL q28<|Ct.rF hd30<|Ct.rN<|Ct.rN<|Ct.rC q37<|Ct.rN<|Ct.rR,rfl,h.to,(k.less (by omega))⟩
 have hg39:=ne_of_beq_false hd19
 refine go h fun w h=>?_
 refine j100 (xnode_any xb mb y14 m h.to k.big') fun p40 w h=>?_
 have h:=h.drop
 refine go h fun w h=>?_
 refine j211 (alloc_x (j:=59) xb mb y14 ({ kind:=7,old:=v4 }) {} 0 (SH.nilN ({ kind:=7,old:=v4 }) rfl rfl h.to) (k.less (by omega)) (Ct.fit_small _ 7 0 v4 0 0)) fun y41 v42 q43 w h ⟨k,hly41⟩=>?_
 refine j211 (cas_x xb mb y41 ((y14.node m).prev) v4 v42 h.to (k.less (by omega))) fun y44 v45 q46 w h k=>?_
 refine j100 (xnode_any xb mb y44 m h.to k.big') fun p47 w h=>?_
 have h:=h.drop
 refine go h fun w h=>?_
 refine j211 (load_x xb mb y44 ((y44.node m).prev) h.to (k.less (by omega))) fun y48 v49 q50 w h k=>?_
 refine st (ld (v:=.bool y48.e.stopped) One.h rfl (h.xc a0 fun _=>rfl))<|go h fun w h=>?_
 refine qg h (fun hd51 w h=>?_) fun hd51 w h=>?_
 exact rz ⟨_,_,Ct.rN<|Ct.rL q5<|Ct.rF hd7<|Ct.rN<|Ct.rT hd11<|Ct.rF hd13<|Ct.rB q16<|Ct.rN<|Ct.rN<|Ct.rF hd19<|Ct.rN<|Ct.rA q43<|Ct.rC q46<|Ct.rN<|Ct.rL q50<|Ct.rS hd51,rfl,h.to,(k.stop hd51)⟩
 refine qc h (fun hd52 w h=>?_) fun hd52 w h=>?_
 have hg53:=eq_of_beq hd52
 refine go h fun w h=>?_
 exact rz ⟨_,_,Ct.rN<|Ct.rL q5<|Ct.rF hd7<|Ct.rN<|Ct.rT hd11<|Ct.rF hd13<|Ct.rB q16<|Ct.rN<|Ct.rN<|Ct.rF hd19<|Ct.rN<|Ct.rA q43<|Ct.rC q46<|Ct.rN<|Ct.rL q50<|Ct.rT hd52<|Ct.rR,rfl,h.to,(k.less (by omega))⟩
 have hg54:=ne_of_beq_false hd52
 refine go h fun w h=>?_
 refine j100 (xnode_any xb mb y48 i h.to k.big') fun p55 w h=>?_
 have h:=h.drop
 refine go h fun w h=>?_
 refine j100 (xnode_any xb mb y48 v49 h.to k.big') fun p56 w h=>?_
 have h:=h.drop
 refine go h fun w h=>?_
 refine j211 (cas_x xb mb y48 ((y48.node i).main) m ((y48.node v49).old) h.to (k.less (by omega))) fun y57 v58 q59 w h k=>?_
 refine j100 (xnode_any xb mb y57 v49 h.to k.big') fun p60 w h=>?_
 have h:=h.drop
 refine go h fun w h=>?_
 exact rz ⟨_,_,Ct.rN<|Ct.rL q5<|Ct.rF hd7<|Ct.rN<|Ct.rT hd11<|Ct.rF hd13<|Ct.rB q16<|Ct.rN<|Ct.rN<|Ct.rF hd19<|Ct.rN<|Ct.rA q43<|Ct.rC q46<|Ct.rN<|Ct.rL q50<|Ct.rF hd52<|Ct.rN<|Ct.rN<|Ct.rC q59<|Ct.rN<|Ct.rR,rfl,h.to,(k.less (by omega))⟩
 have hd61 : t.readOnly=true:=by simpa using hd12
 refine go h fun w h=>?_
 refine j100 (xnode_any xb mb y3 m h.to k.big') fun p62 w h=>?_
 have h:=h.drop
 refine go h fun w h=>?_
 refine j211 (alloc_x (j:=89) xb mb y3 ({ kind:=7,old:=v4 }) {} 0 (SH.nilN ({ kind:=7,old:=v4 }) rfl rfl h.to) (k.less (by omega)) (Ct.fit_small _ 7 0 v4 0 0)) fun y63 v64 q65 w h ⟨k,hly63⟩=>?_
 refine j211 (cas_x xb mb y63 ((y3.node m).prev) v4 v64 h.to (k.less (by omega))) fun y66 v67 q68 w h k=>?_
 refine j100 (xnode_any xb mb y66 m h.to k.big') fun p69 w h=>?_
 have h:=h.drop
 refine go h fun w h=>?_
 refine j211 (load_x xb mb y66 ((y66.node m).prev) h.to (k.less (by omega))) fun y70 v71 q72 w h k=>?_
 refine st (ld (v:=.bool y70.e.stopped) One.h rfl (h.xc a0 fun _=>rfl))<|go h fun w h=>?_
 refine qg h (fun hd73 w h=>?_) fun hd73 w h=>?_
 exact rz ⟨_,_,Ct.rN<|Ct.rL q5<|Ct.rF hd7<|Ct.rN<|Ct.rT hd11<|Ct.rT hd61<|Ct.rN<|Ct.rA q65<|Ct.rC q68<|Ct.rN<|Ct.rL q72<|Ct.rS hd73,rfl,h.to,(k.stop hd73)⟩
 refine qc h (fun hd74 w h=>?_) fun hd74 w h=>?_
 have hg75:=eq_of_beq hd74
 refine go h fun w h=>?_
 exact rz ⟨_,_,Ct.rN<|Ct.rL q5<|Ct.rF hd7<|Ct.rN<|Ct.rT hd11<|Ct.rT hd61<|Ct.rN<|Ct.rA q65<|Ct.rC q68<|Ct.rN<|Ct.rL q72<|Ct.rT hd74<|Ct.rR,rfl,h.to,(k.less (by omega))⟩
 have hg76:=ne_of_beq_false hd74
 refine go h fun w h=>?_
 refine j100 (xnode_any xb mb y70 i h.to k.big') fun p77 w h=>?_
 have h:=h.drop
 refine go h fun w h=>?_
 refine j100 (xnode_any xb mb y70 v71 h.to k.big') fun p78 w h=>?_
 have h:=h.drop
 refine go h fun w h=>?_
 refine j211 (cas_x xb mb y70 ((y70.node i).main) m ((y70.node v71).old) h.to (k.less (by omega))) fun y79 v80 q81 w h k=>?_
 refine j100 (xnode_any xb mb y79 v71 h.to k.big') fun p82 w h=>?_
 have h:=h.drop
 refine go h fun w h=>?_
 exact rz ⟨_,_,Ct.rN<|Ct.rL q5<|Ct.rF hd7<|Ct.rN<|Ct.rT hd11<|Ct.rT hd61<|Ct.rN<|Ct.rA q65<|Ct.rC q68<|Ct.rN<|Ct.rL q72<|Ct.rF hd74<|Ct.rN<|Ct.rN<|Ct.rC q81<|Ct.rN<|Ct.rR,rfl,h.to,(k.less (by omega))⟩
 refine j100 (xnode_any xb mb y3 i h.to k.big') fun p83 w h=>?_
 have h:=h.drop
 refine go h fun w h=>?_
 refine j100 (xnode_any xb mb y3 v4 h.to k.big') fun p84 w h=>?_
 have h:=h.drop
 refine go h fun w h=>?_
 refine j211 (cas_x xb mb y3 ((y3.node i).main) m ((y3.node v4).old) h.to (k.less (by omega))) fun y85 v86 q87 w h k=>?_
 refine j100 (xnode_any xb mb y85 v4 h.to k.big') fun p88 w h=>?_
 have h:=h.drop
 refine go h fun w h=>?_
 exact rz ⟨_,_,Ct.rN<|Ct.rL q5<|Ct.rF hd7<|Ct.rN<|Ct.rF hd11<|Ct.rN<|Ct.rN<|Ct.rC q87<|Ct.rN<|Ct.rR,rfl,h.to,(k.less (by omega))⟩
theorem read_any (xb mb : Nat) (x : Ct.X) (t : Ct.Trie) (i : Int) (h : SH B w (XA xb mb x::L)) (k : Ct.Ok 30 x) :
  Calls Tryz.prog 166 #[.pointer (some ⟨xb,0,none⟩),.agg (trieC t).toArray,.int .i64 i] w fun e w'=>∃ y v,Ct.runI (Ct.readI t i) x=Ct.out y v∧e=.returned (.int .i64 v)∧SH B w' (XA xb mb y::L)∧Ct.Ok 60 y:=by
 refine bn0 Tryz.func166 Tryz.ntmps166 h fun w h=>?_
 refine jX h fun b1 w h=>?_
 refine drH [1,3,5,7,9,11,12,15,16,18,20] (by kernel_rfl) h (.c r0 .n) fun w h=>go h fun w h=>?_
 refine s100 (xnode_any _ _ _ _ h.to k.big') fun p2 w h=>?_
 have h:=h.drop
 refine go h fun w h=>?_
 refine s211 (load_x _ _ _ _ h.to (k.less (by omega))) fun y3 v4 q5 w h k=>?_
 refine s211 (settle_any _ _ _ _ _ _ h.to (k.less (by omega))) fun y6 v7 q8 w h k=>?_
 exact rz ⟨_,_,Ct.rN<|Ct.rL q5<|q8,rfl,h.to,k⟩
theorem decide_any (xb mb : Nat) (x : Ct.X) (t : Ct.Trie) (i : Int) (h : SH B w (XA xb mb x::L)) (k : Ct.Ok 30 x) :
  Calls Tryz.prog 214 #[.pointer (some ⟨xb,0,none⟩),.agg (trieC t).toArray,.int .i64 i] w fun e w'=>∃ y v,Ct.runI (Ct.decideI t i) x=Ct.out y v∧e=.returned (.tuple #[])∧SH B w' (XA xb mb y::L)∧Ct.Ok 60 y:=by
 refine bn0 Tryz.func214 Tryz.ntmps214 h fun w h=>?_
 refine jX h fun b1 w h=>?_
 refine drH [1,3,5,7,15,17,8,11,12,18,21,23] (by kernel_rfl) h (.c r0 .n) fun w h=>go h fun w h=>?_
 refine s100 (xnode_any _ _ _ _ h.to k.big') fun p2 w h=>?_
 have h:=h.drop
 refine go h fun w h=>?_
 refine s211 (read_any _ _ _ _ _ h.to (k.less (by omega))) fun y3 v4 q5 w h k=>?_
 refine s100 (xnode_any _ _ _ _ h.to k.big') fun p6 w h=>?_
 have h:=h.drop
 refine go h fun w h=>?_
 refine qc h (fun hd7 w h=>?_) fun hd7 w h=>?_
 have hg8:=eq_of_beq hd7
 refine go h fun w h=>?_
 refine j100 (xnode_any _ _ _ _ h.to k.big') fun p9 w h=>?_
 have h:=h.drop
 refine go h fun w h=>?_
 refine j211 (cas_x _ _ _ _ _ _ h.to (k.less (by omega))) fun y10 v11 q12 w h k=>?_
 refine rn (res0 Tryz.results214)<|go h fun w h=>?_
 refine ⟨_,(),Ct.rN<|Ct.rB q5<|Ct.rN<|Ct.rT hd7<|Ct.rN<|Ct.rC q12<|Ct.rR,rfl,h.to,(k.less (by omega))⟩
 have hg13:=ne_of_beq_false hd7
 refine go h fun w h=>?_
 refine j100 (xnode_any _ _ _ _ h.to k.big') fun p14 w h=>?_
 have h:=h.drop
 refine go h fun w h=>?_
 refine j211 (cas_x _ _ _ _ _ _ h.to (k.less (by omega))) fun y15 v16 q17 w h k=>?_
 refine rn (res0 Tryz.results214)<|go h fun w h=>?_
 refine ⟨_,(),Ct.rN<|Ct.rB q5<|Ct.rN<|Ct.rF hd7<|Ct.rN<|Ct.rC q17<|Ct.rR,rfl,h.to,(k.less (by omega))⟩
theorem help_any (xb mb : Nat) (x : Ct.X) (t : Ct.Trie) (h : SH B w (XA xb mb x::L)) (k : Ct.Ok 30 x) :
  Calls Tryz.prog 168 #[.pointer (some ⟨xb,0,none⟩),.agg (trieC t).toArray] w fun e w'=>∃ y v,Ct.runI (Ct.helpI t) x=Ct.out y v∧e=.returned (.int .i64 v)∧SH B w' (XA xb mb y::L)∧Ct.Ok 60 y:=by
 refine bn0 Tryz.func168 Tryz.ntmps168 h fun w h=>?_
 refine jX h fun b1 w h=>?_
 refine j211 (load_x _ _ _ _ h.to (k.less (by omega))) fun y2 v3 q4 w h k=>?_
 refine st (ld (v:=.bool y2.e.stopped) One.h rfl (h.xc a0 fun _=>rfl))<|go h fun w h=>?_
 refine qg h (fun hd5 w h=>?_) fun hd5 w h=>?_
 exact rz ⟨_,_,Ct.rL q4<|Ct.rS hd5,rfl,h.to,(k.stop hd5)⟩
 refine j100 (xnode_any _ _ _ _ h.to k.big') fun p6 w h=>?_
 have h:=h.drop
 refine go h fun w h=>?_
 refine qc h (fun hd7 w h=>?_) fun hd7 w h=>?_
 have hg8:=eq_of_beq hd7
 refine go h fun w h=>?_
 exact rz ⟨_,_,Ct.rL q4<|Ct.rN<|Ct.rT hd7<|Ct.rR,rfl,h.to,(k.less (by omega))⟩
 have hg9:=ne_of_beq_false hd7
 refine go h fun w h=>?_
 refine j100 (xnode_any _ _ _ _ h.to k.big') fun p10 w h=>?_
 have h:=h.drop
 refine go h fun w h=>?_
 refine j211 (load_x _ _ _ _ h.to (k.less (by omega))) fun y11 v12 q13 w h k=>?_
 refine qc h (fun hd14 w h=>?_) fun hd14 w h=>?_
 have hg15:=eq_of_beq hd14
 refine go h fun w h=>?_
 refine j211 (decide_any _ _ _ _ _ h.to (k.less (by omega))) fun y16 v17 q18 w h k=>?_
 refine j100 (xnode_any _ _ _ _ h.to k.big') fun p19 w h=>?_
 have h:=h.drop
 refine go h fun w h=>?_
 refine j211 (load_x _ _ _ _ h.to (k.less (by omega))) fun y20 v21 q22 w h k=>?_
 refine j110 (winner_any _ _ _ _ _ h.to k) fun v23 q24 w h=>?_
 refine j211 (cas_x _ _ _ _ _ _ h.to (k.less (by omega))) fun y25 v26 q27 w h k=>?_
 exact rz ⟨_,_,Ct.rL q4<|Ct.rN<|Ct.rF hd7<|Ct.rN<|Ct.rL q13<|Ct.rT hd14<|Ct.rB q18<|Ct.rN<|Ct.rL q22<|Ct.rB q24<|Ct.rC q27<|Ct.rR,rfl,h.to,(k.less (by omega))⟩
 have hg28:=ne_of_beq_false hd14
 refine go h fun w h=>?_
 refine j110 (winner_any _ _ _ _ _ h.to k) fun v29 q30 w h=>?_
 refine j211 (cas_x _ _ _ _ _ _ h.to (k.less (by omega))) fun y31 v32 q33 w h k=>?_
 exact rz ⟨_,_,Ct.rL q4<|Ct.rN<|Ct.rF hd7<|Ct.rN<|Ct.rL q13<|Ct.rF hd14<|Ct.rB q30<|Ct.rC q33<|Ct.rR,rfl,h.to,(k.less (by omega))⟩
theorem gcas_any (xb mb : Nat) (x : Ct.X) (t : Ct.Trie) (i o n : Int) (h : SH B w (XA xb mb x::L)) (k : Ct.Ok 30 x) :
  Calls Tryz.prog 167 #[.pointer (some ⟨xb,0,none⟩),.agg (trieC t).toArray,.int .i64 i,.int .i64 o,.int .i64 n] w fun e w'=>∃ y v,Ct.runI (Ct.gcasI t i o n) x=Ct.out y v∧e=.returned (.bool v)∧SH B w' (XA xb mb y::L)∧Ct.Ok 60 y:=by
 refine bn0 Tryz.func167 Tryz.ntmps167 h fun w h=>?_
 refine jX h fun b1 w h=>?_
 refine j100 (xnode_any _ _ _ _ h.to k.big') fun p2 w h=>?_
 have h:=h.drop
 refine go h fun w h=>?_
 refine j211 (cas_x _ _ _ _ _ _ h.to (k.less (by omega))) fun y3 v4 q5 w h k=>?_
 refine qc h (fun hd6 w h=>?_) fun hd6 w h=>?_
 have hd7 : v4=false:=by simpa using hd6
 refine go h fun w h=>?_
 exact rz ⟨_,false,Ct.rN<|Ct.rC q5<|Ct.rF hd7<|Ct.rR,rfl,h.to,(k.less (by omega))⟩
 have hd8 : v4=true:=by simpa using hd6
 refine go h fun w h=>?_
 refine j211 (settle_any _ _ _ _ _ _ h.to (k.less (by omega))) fun y9 v10 q11 w h k=>?_
 refine st (ld (v:=.bool y9.e.stopped) One.h rfl (h.xc a0 fun _=>rfl))<|go h fun w h=>?_
 refine qg h (fun hd12 w h=>?_) fun hd12 w h=>?_
 have hd13 : y9.e.stopped=false:=by simpa using hd12
 refine go h fun w h=>?_
 exact rz ⟨_,((v10 : Int)==n),Ct.rN<|Ct.rC q5<|Ct.rT hd8<|Ct.rB q11<|Ct.rR,rfl,h.to,k⟩
 have hd14 : y9.e.stopped=true:=by simpa using hd12
 refine go h fun w h=>?_
 exact rz ⟨_,false,Ct.rN<|Ct.rC q5<|Ct.rT hd8<|Ct.rB q11<|Ct.rS hd14,rfl,h.to,(k.stop hd14)⟩
theorem rdcss_any (xb mb : Nat) (x : Ct.X) (t : Ct.Trie) (o m n : Int) (h : SH B w (XA xb mb x::L)) (k : Ct.Ok 30 x) :
  Calls Tryz.prog 169 #[.pointer (some ⟨xb,0,none⟩),.agg (trieC t).toArray,.int .i64 o,.int .i64 m,.int .i64 n] w fun e w'=>∃ y v,Ct.runI (Ct.rdcssI t o m n) x=Ct.out y v∧e=.returned (.bool v)∧SH B w' (XA xb mb y::L)∧Ct.Ok 60 y:=by
 refine bn0 Tryz.func169 Tryz.ntmps169 h fun w h=>?_
 refine jX h fun b1 w h=>?_
 refine j211 (alloc_x (j:=29) xb mb x ({ kind:=8,old:=o,expected:=m,new:=n }) {} 0 (SH.nilN ({ kind:=8,old:=o,expected:=m,new:=n }) rfl rfl h.to) (k.less (by omega)) (Ct.fit_small _ 8 0 o m n)) fun y2 v3 q4 w h ⟨k,hly2⟩=>?_
 refine j211 (cas_x xb mb y2 t.root o v3 h.to (k.less (by omega))) fun y5 v6 q7 w h k=>?_
 refine qc h (fun hd8 w h=>?_) fun hd8 w h=>?_
 have hd9 : v6=false:=by simpa using hd8
 refine go h fun w h=>?_
 exact rz ⟨_,false,Ct.rA q4<|Ct.rC q7<|Ct.rF hd9<|Ct.rR,rfl,h.to,(k.less (by omega))⟩
 have hd10 : v6=true:=by simpa using hd8
 refine go h fun w h=>?_
 refine j211 (decide_any xb mb y5 t v3 h.to (k.less (by omega))) fun y11 v12 q13 w h k=>?_
 refine j100 (xnode_any xb mb y11 v3 h.to k.big') fun p14 w h=>?_
 have h:=h.drop
 refine go h fun w h=>?_
 refine j211 (load_x xb mb y11 ((y11.node v3).status) h.to (k.less (by omega))) fun y15 v16 q17 w h k=>?_
 refine drH [1,3,5,7,9,11,13,14,16] (by kernel_rfl) h (.c r1 .n) fun w h=>go h fun w h=>?_
 refine s110 (winner_any xb mb y15 v3 v16 h.to k) fun v18 q19 w h=>?_
 refine s211 (cas_x xb mb y15 t.root v3 v18 h.to (k.less (by omega))) fun y20 v21 q22 w h k=>?_
 refine st (ld (v:=.bool y20.e.stopped) One.h rfl (h.xc a0 fun _=>rfl))<|go h fun w h=>?_
 refine qg h (fun hd23 w h=>?_) fun hd23 w h=>?_
 have hd24 : y20.e.stopped=false:=by simpa using hd23
 refine go h fun w h=>?_
 exact rz ⟨_,((v16 : Int)==1),Ct.rA q4<|Ct.rC q7<|Ct.rT hd10<|Ct.rB q13<|Ct.rN<|Ct.rL q17<|Ct.rB q19<|Ct.rC q22<|Ct.rR,rfl,h.to,(k.less (by omega))⟩
 have hd25 : y20.e.stopped=true:=by simpa using hd23
 refine go h fun w h=>?_
 exact rz ⟨_,false,Ct.rA q4<|Ct.rC q7<|Ct.rT hd10<|Ct.rB q13<|Ct.rN<|Ct.rL q17<|Ct.rB q19<|Ct.rC q22<|Ct.rS hd25,rfl,h.to,(k.stop hd25)⟩
end Go.Proofs.YtmliojdkmfhmmaaGreat
end
section
namespace Go.Proofs.YtmliojdkmfhmmaaGreat
attribute [local irreducible] Go.E.wpL Go.E.wpS Go.E.X Go.E.XS Go.E.C Go.E.thn Go.E.blk Go.E.fin Go.E.Y Go.E.U Go.E.F Go.E.Ca Go.E.Res Go.E.bl Go.E.rb Go.E.osl Go.E.rsl Go.E.ex Go.E.ce Go.E.pu Go.E.sK Go.E.gK Go.E.bK Go.E.zK
open Go.RowKit Go.E Go.Ct
variable {B w : World} {L : List As}
theorem replace_any {j : Nat} (xb mb : Nat) (x : Ct.X) (cr ix r : Int) (h : SH B w (XA xb mb x::L)) (k : Ct.Ok (j+1) x) :
  Calls Tryz.prog 218 #[.pointer (some ⟨xb,0,none⟩),.int .i64 cr,.int .i64 ix,.int .i64 r] w fun e w'=>∃ y v,Ct.runI (Ct.replaceI cr ix r) x=Ct.out y v∧e=.returned (.int .i64 v)∧SH B w' (XA xb mb y::L)∧Ct.Ok j y:=by
 have hlen:=k.len
 refine bn0 Tryz.func218 Tryz.ntmps218 h fun w h=>?_
 refine j100 (xnode_any _ _ _ _ h.to k.big') fun p1 w h=>?_
 have f2:=k.fitN cr
 have bf2:=k.len
 refine go h fun w h=>?_
 refine j100 (rupdated_any _ _ _ _ h.to (Ct.Node.Fit.nf f2 (by omega))) fun q3 w h=>?_
 refine jA h fun b4 w h=>?_
 refine j211 (alloc_x (j:=j) _ _ _ _ _ _ ((SH.duN h.to .z).fr (.c r0 (.c r1 .n))) k ((Ct.fit_updated f2 ix r).mono (by omega))) fun y5 v6 q7 w h ⟨k,hly5⟩=>?_
 have lq7:=Ct.leA q7
 refine go h fun w h=>?_
 exact rz ⟨_,_,Ct.rN<|Ct.rA q7<|Ct.rR,rfl,h.to,k⟩
theorem renew_any (xb mb : Nat) (x : Ct.X) (t : Ct.Trie) (i cr ix : Int) (h : SH B w (XA xb mb x::L)) (k : Ct.Ok 30 x) :
  Calls Tryz.prog 170 #[.pointer (some ⟨xb,0,none⟩),.agg (trieC t).toArray,.int .i64 i,.int .i64 cr,.int .i64 ix] w fun e w'=>∃ y v,Ct.runI (Ct.renewI t i cr ix) x=Ct.out y v∧e=.returned (.int .i64 v)∧SH B w' (XA xb mb y::L)∧Ct.Ok 60 y:=by
 have hlen:=k.len
 refine bn0 Tryz.func170 Tryz.ntmps170 h fun w h=>?_
 refine jX h fun b1 w h=>?_
 refine j100 (xnode_any xb mb x cr h.to k.big') fun p2 w h=>?_
 have f3:=k.fitN cr
 have bf3:=k.len
 refine go h fun w h=>?_
 refine j000 (rlookup_any (x.node cr) p2.pb p2.cb p2.pp p2.cp ix h.to (Ct.Node.Fit.nf f3 (by omega))) fun w h=>?_
 refine j211 (read_any xb mb x t (Ct.blookup (x.node cr) ix).1 h.to (k.less (by omega))) fun y4 v5 q6 w h k=>?_
 have lq6:=Ct.leB q6
 refine go h fun w h=>?_
 refine j100 (xnode_any xb mb y4 i h.to k.big') fun p7 w h=>?_
 have f8:=k.fitN i
 have bf8:=k.len
 refine go h fun w h=>?_
 refine j211 (alloc_x (j:=59) xb mb y4 ({ kind:=2,gen:=(y4.node i).gen }) {} v5 (SH.nilN ({ kind:=2,gen:=(y4.node i).gen }) rfl rfl h.to) (k.less (by omega)) (Ct.fit_small _ 2 (y4.node i).gen 0 0 0)) fun y9 v10 q11 w h ⟨k,hly9⟩=>?_
 have lq11:=Ct.leA q11
 refine go h fun w h=>?_
 refine drH [1,3,5,7,9,11,13,15,16,18] (by kernel_rfl) h (.c r3 .n) fun w h=>go h fun w h=>?_
 refine s211 (replace_any (j:=58) xb mb y9 cr ix v10 h.to (k.less (by omega))) fun y12 v13 q14 w h k=>?_
 have lq14:=Ct.leB q14
 refine go h fun w h=>?_
 refine s211 (gcas_any xb mb y12 t i cr v13 h.to (k.less (by omega))) fun y15 v16 q17 w h k=>?_
 have lq17:=Ct.leB q17
 refine go h fun w h=>?_
 refine qc h (fun hd18 w h=>?_) fun hd18 w h=>?_
 exact rz ⟨_,v10,Ct.rN<|Ct.rB q6<|Ct.rN<|Ct.rA q11<|Ct.rB q14<|Ct.rB q17<|Ct.rT hd18<|Ct.rR,rfl,h.to,k⟩
 exact rz ⟨_,0,Ct.rN<|Ct.rB q6<|Ct.rN<|Ct.rA q11<|Ct.rB q14<|Ct.rB q17<|Ct.rF hd18<|Ct.rR,rfl,h.to,k⟩
theorem clean_any (xb mb : Nat) (x : Ct.X) (t : Ct.Trie) (i cr : Int) (h0 : Nat) (lv : Int) (h : SH B w (XA xb mb x::L)) (k : Ct.Ok 30 x) (hh : h0<18446744073709551616) :
  Calls Tryz.prog 171 #[.pointer (some ⟨xb,0,none⟩),.agg (trieC t).toArray,.int .i64 i,.int .i64 cr,.int .u64 ((h0 : Nat) : Int),.int .i64 lv] w fun e w'=>∃ y v,Ct.runI (Ct.cleanI t i cr h0 lv) x=Ct.out y v∧e=.returned (.bool v)∧SH B w' (XA xb mb y::L)∧Ct.Ok 60 y:=by
 have hlen:=k.len
 refine bn0 Tryz.func171 Tryz.ntmps171 h fun w h=>?_
 refine jX h fun b1 w h=>?_
 refine j211 (read_any _ _ _ _ _ h.to (k.less (by omega))) fun y2 v3 q4 w h k=>?_
 have lq4:=Ct.leB q4
 refine go h fun w h=>?_
 refine cl (ca en_181 rfl) ((rslice_any h0 lv _ (by omega)).mono ?_)
 rintro _ _ ⟨rfl,rfl⟩
 refine ⟨_,rfl,?_⟩
 refine st (sg rfl)<|xe<|nx<|sq<|sq<|rg<|st (mv rfl)<|st (mv rfl)<|?_
 refine go h fun w h=>?_
 refine j100 (xnode_any _ _ _ _ h.to k.big') fun p5 w h=>?_
 have f6:=k.fitN v3
 have bf6:=k.len
 refine go h fun w h=>?_
 refine j000 (rlookup_any _ _ _ _ _ _ h.to (Ct.Node.Fit.nf f6 (by omega))) fun w h=>?_
 refine st (ld (v:=.bool y2.e.stopped) One.h rfl (h.xc a1 fun _=>rfl))<|go h fun w h=>?_
 refine qg h (fun hd7 w h=>?_) fun hd7 w h=>?_
 exact rz ⟨_,false,Ct.rB q4<|Ct.rN<|Ct.rS hd7,rfl,h.to,(k.stop hd7)⟩
 refine qg h (fun hd8 w h=>?_) fun hd8 w h=>?_
 have hd9 : (Ct.blookup (y2.node v3) (Ct.slice h0 lv)).2=false:=by simpa using hd8
 refine go h fun w h=>?_
 exact rz ⟨_,false,Ct.rB q4<|Ct.rN<|Ct.rnF hd9<|Ct.rR,rfl,h.to,k⟩
 have hd10 : (Ct.blookup (y2.node v3) (Ct.slice h0 lv)).2=true:=by simpa using hd8
 refine go h fun w h=>?_
 refine qc h (fun hd11 w h=>?_) fun hd11 w h=>?_
 have hg12:=bne_iff_ne.1 hd11
 refine go h fun w h=>?_
 exact rz ⟨_,false,Ct.rB q4<|Ct.rN<|Ct.rnT hd10<|Ct.rT hd11<|Ct.rR,rfl,h.to,k⟩
 have hg13:=eq_of_bneF hd11
 refine go h fun w h=>?_
 refine j211 (read_any _ _ _ _ _ h.to (k.less (by omega))) fun y14 v15 q16 w h k=>?_
 have lq16:=Ct.leB q16
 refine go h fun w h=>?_
 refine j100 (xnode_any _ _ _ _ h.to k.big') fun p17 w h=>?_
 have f18:=k.fitN v15
 have bf18:=k.len
 refine go h fun w h=>?_
 refine j100 (runtombed_any _ _ h.to) fun q19 w h=>?_
 refine jA h fun b20 w h=>?_
 refine st (ld (v:=.bool y14.e.stopped) One.h rfl (h.xc a3 fun _=>rfl))<|go h fun w h=>?_
 refine qg h (fun hd21 w h=>?_) fun hd21 w h=>?_
 exact rz ⟨_,false,Ct.rB q4<|Ct.rN<|Ct.rnT hd10<|Ct.rF hd11<|Ct.rB q16<|Ct.rN<|Ct.rS hd21,rfl,h.to,(k.stop hd21)⟩
 refine qc h (fun hd22 w h=>?_) fun hd22 w h=>?_
 have hd23 : (Ct.untombed (y14.node v15)).2=false:=by simpa using hd22
 refine go h fun w h=>?_
 exact rz ⟨_,false,Ct.rB q4<|Ct.rN<|Ct.rnT hd10<|Ct.rF hd11<|Ct.rB q16<|Ct.rN<|Ct.rnF hd23<|Ct.rR,rfl,h.to,k⟩
 have hd24 : (Ct.untombed (y14.node v15)).2=true:=by simpa using hd22
 refine go h fun w h=>?_
 refine j211 (alloc_x (j:=59) _ _ _ _ _ _ ((SH.duN h.to .z).fr (.c r0 (.c r1 .n))) (k.less (by omega)) ((Ct.fit_untombed f18).mono (by omega))) fun y25 v26 q27 w h ⟨k,hly25⟩=>?_
 have lq27:=Ct.leA q27
 refine go h fun w h=>?_
 refine j100 (xnode_any _ _ _ _ h.to k.big') fun p28 w h=>?_
 have f29:=k.fitN v3
 have bf29:=k.len
 refine go h fun w h=>?_
 refine j100 (rupdated_any _ _ _ _ h.to (Ct.Node.Fit.nf f29 (by omega))) fun q30 w h=>?_
 refine jA h fun b31 w h=>?_
 refine drH [1,3,5,7,9,11,13,15,19,16,20,22,24] (by kernel_rfl) h (.c r8 (.c r0 (.c r4 .n))) fun w h=>go h fun w h=>?_
 refine s100 (rcontracted_any _ _ _ _ _ h.to (Ct.Node.Fit.nf (Ct.fit_updated f29 (Ct.slice h0 lv) v26) (by omega))) fun q32 w h=>?_
 refine s211 (alloc_x (j:=58) _ _ _ _ _ _ ((SH.duN h.to .z).fr (.c r0 (.c r1 .n))) (k.less (by omega)) (Ct.fit_contracted ((Ct.fit_updated f29 (Ct.slice h0 lv) v26).mono (by omega)) ((Ct.fit_untombed f18).mono (by omega)) lv)) fun y33 v34 q35 w h ⟨k,hly33⟩=>?_
 have lq35:=Ct.leA q35
 refine go h fun w h=>?_
 refine s211 (gcas_any _ _ _ _ _ _ _ h.to (k.less (by omega))) fun y36 v37 q38 w h k=>?_
 have lq38:=Ct.leB q38
 refine go h fun w h=>?_
 exact rz ⟨_,v37,Ct.rB q4<|Ct.rN<|Ct.rnT hd10<|Ct.rF hd11<|Ct.rB q16<|Ct.rN<|Ct.rnT hd24<|Ct.rA q27<|Ct.rN<|Ct.rA q35<|q38,rfl,h.to,k⟩
end Go.Proofs.YtmliojdkmfhmmaaGreat
end
