/- Parts of a proof: Ca. -/
import Derived.Test.YtmliojdkmfhmmaaGreatW09
import Derived.Test.YtmliojdkmfhmmaaGreatW27
import Derived.Test.YtmliojdkmfhmmaaGreatW28
import Derived.Test.YtmliojdkmfhmmaaGreatW04
set_option linter.unusedVariables false
set_option linter.unusedSimpArgs false
set_option maxRecDepth 100000
set_option maxHeartbeats 4000000
section
namespace Go.Proofs.YtmliojdkmfhmmaaGreat
attribute [local irreducible] Go.E.wpL Go.E.wpS Go.E.X Go.E.XS Go.E.C Go.E.thn Go.E.blk Go.E.fin Go.E.Y Go.E.U Go.E.F Go.E.Ca Go.E.Res Go.E.bl Go.E.rb Go.E.osl Go.E.rsl Go.E.ex Go.E.ce Go.E.pu Go.E.sK Go.E.gK Go.E.bK Go.E.zK Go.E.boxA Go.E.cloA Go.E.codeA clA cdA klA
open Go.RowKit Go.E
open Go.Ct (qN qA qC qG qT qF)
variable {B w : World} {L : List As}
theorem tLoad_fn (a : Int) (f : FuncId) (ff fc : List Value) (h : SH B w (L)) :
  Calls Tryz.prog 67 #[.int .i64 a,.func (.func f) ff.toArray fc.toArray] w fun e w'=>e=.returned (.agg (ccL (loadC a (.fn f ff fc))).toArray)∧SH B w' L:=by
 refine bn0 Tryz.func67 Tryz.ntmps67 h fun w h=>?_
 refine jA h fun b1 w h=>?_
 exact rr (resC rfl rfl (h.b a0) Row.h)<|⟨rfl,h.drop⟩
theorem tLoad_nil (a : Int) (h : SH B w (L)) :
  Calls Tryz.prog 67 #[.int .i64 a,.nilFunc] w fun e w'=>e=.returned (.agg (ccL (loadC a .nil)).toArray)∧SH B w' L:=by
 refine bn0 Tryz.func67 Tryz.ntmps67 h fun w h=>?_
 refine jA h fun b1 w h=>?_
 exact rr (resC rfl rfl (h.b a0) Row.h)<|⟨rfl,h.drop⟩
theorem tLoad_any (a : Int) (v : Fv) (h : SH B w L) :
  Calls Tryz.prog 67 #[.int .i64 a,v.val] w fun e w'=>e=.returned (.agg (ccL (loadC a v)).toArray)∧SH B w' L:=by
 cases v with
 | nil=>exact tLoad_nil a h
 | fn f ff fc=>exact tLoad_fn a f ff fc h
theorem tCAS_fn (a o x : Int) (f : FuncId) (ff fc : List Value) (h : SH B w (L)) :
  Calls Tryz.prog 159 #[.int .i64 a,.int .i64 o,.int .i64 x,.func (.func f) ff.toArray fc.toArray] w fun e w'=>e=.returned (.agg (ccL (casC a o x (.fn f ff fc))).toArray)∧SH B w' L:=by
 refine bn0 Tryz.func159 Tryz.ntmps159 h fun w h=>?_
 refine jA h fun b1 w h=>?_
 exact rr (resC rfl rfl (h.b a0) Row.h)<|⟨rfl,h.drop⟩
theorem tCAS_nil (a o x : Int) (h : SH B w (L)) :
  Calls Tryz.prog 159 #[.int .i64 a,.int .i64 o,.int .i64 x,.nilFunc] w fun e w'=>e=.returned (.agg (ccL (casC a o x .nil)).toArray)∧SH B w' L:=by
 refine bn0 Tryz.func159 Tryz.ntmps159 h fun w h=>?_
 refine jA h fun b1 w h=>?_
 exact rr (resC rfl rfl (h.b a0) Row.h)<|⟨rfl,h.drop⟩
theorem tCAS_any (a o x : Int) (v : Fv) (h : SH B w L) :
  Calls Tryz.prog 159 #[.int .i64 a,.int .i64 o,.int .i64 x,v.val] w fun e w'=>e=.returned (.agg (ccL (casC a o x v)).toArray)∧SH B w' L:=by
 cases v with
 | nil=>exact tCAS_nil a o x h
 | fn f ff fc=>exact tCAS_fn a o x f ff fc h
theorem tDone_any (r : Ct.Result) (h : SH B w (L)) :
  Calls Tryz.prog 90 #[.agg (resW r).toArray] w fun e w'=>e=.returned (.agg (ccL (doneC r)).toArray)∧SH B w' L:=by
 refine bn0 Tryz.func90 Tryz.ntmps90 h fun w h=>?_
 refine jX h fun b1 w h=>?_
 refine jA h fun b2 w h=>?_
 exact rr (resC rfl rfl (h.b a0) Row.h)<|⟨rfl,h.drop.drop⟩
theorem nFailed_any (o : Int) (h : SH B w (L)) :
  Calls Tryz.prog 235 #[.int .i64 o] w fun e w'=>e=.returned (.agg (nodeC { kind:=7,old:=o } {}).toArray)∧SH B w' L:=by
 refine bn0 Tryz.func235 Tryz.ntmps235 h fun w h=>?_
 refine jA h fun b1 w h=>?_
 exact rr (resC rfl rfl (h.b a0) Row.h)<|⟨rfl,h.drop⟩
theorem nDesc_any (o ex nw : Int) (h : SH B w (L)) :
  Calls Tryz.prog 158 #[.int .i64 o,.int .i64 ex,.int .i64 nw] w fun e w'=>e=.returned (.agg (nodeC { kind:=8,old:=o,expected:=ex,new:=nw } {}).toArray)∧SH B w' L:=by
 refine bn0 Tryz.func158 Tryz.ntmps158 h fun w h=>?_
 refine jA h fun b1 w h=>?_
 exact rr (resC rfl rfl (h.b a0) Row.h)<|⟨rfl,h.drop⟩
theorem nEmpty_any  (h : SH B w (L)) :
  Calls Tryz.prog 109 #[] w fun e w'=>e=.returned (.agg (nodeC { kind:=3 } {}).toArray)∧SH B w' L:=by
 refine bn0 Tryz.func109 Tryz.ntmps109 h fun w h=>?_
 refine jA h fun b1 w h=>?_
 exact rr (resC rfl rfl (h.b a0) Row.h)<|⟨rfl,h.drop⟩
theorem nInner_any (x : Int) (h : SH B w (L)) :
  Calls Tryz.prog 110 #[.int .i64 x] w fun e w'=>e=.returned (.agg (nodeC { kind:=2,gen:=x } {}).toArray)∧SH B w' L:=by
 refine bn0 Tryz.func110 Tryz.ntmps110 h fun w h=>?_
 refine jA h fun b1 w h=>?_
 exact rr (resC rfl rfl (h.b a0) Row.h)<|⟨rfl,h.drop⟩
theorem p_complete1_any {β : Type} (S : Sto) (F : β→Cc→As) (cb0 cb1 : Nat) (thk : Fv) (k : Int→Ct.I β) (v : Int) {n m : Nat} (hm : m≤n) (x : Bool) (s : Ct.St) (h : SH B w (rb cb0 [thk.val] 107::rb cb1 ([.int .i64 v]) 36::clA S F n 60 intA k thk::S.a s::L)) (hs : Ct.Rm 60 s) :
  Calls Tryz.prog 196 #[.bool x,.pointer (some ⟨cb0,0,none⟩),.pointer (some ⟨cb1,0,none⟩)] w fun e w'=>CP S F m B ((fun _=>k v) x) s L e w':=by
 have h:=clLess hm (Nat.le_refl _) (h.fr (.c r2 .n))
 refine bn0 Tryz.func196 Tryz.ntmps196 h fun w h=>?_
 refine jA h fun b1 w h=>?_
 refine cvF rfl rfl ((callk (h.fr (.c r1 (.c r3 .n))) (hs.less (by decide)) v).mono ?_)
 rintro _ w ⟨s2,t3,c4,hq5,rfl,h⟩
 refine ⟨_,rfl,?_⟩
 refine go h fun w h=>?_
 refine rr (resC rfl rfl (h.b a2) Row.h) ?_
 exact cpI (hq5) h.to
theorem p_complete_any {β : Type} (S : Sto) (F : β→Cc→As) (t : Ct.Trie) (v : Int) (x : Int) (thk : Fv) (k : Int→Ct.I β) (n : Nat) (s : Ct.St) (h : SH B w (klA S F n 60 intA k thk::S.a s::L)) (hs : Ct.Rm 30 s) :
  Calls Tryz.prog 139 #[.agg [S.v,.int .i64 t.root,.bool t.readOnly].toArray,.int .i64 v,.int .i64 x,thk.val] w fun e w'=>CP S F n B (Ct.wonT t v x k) s L e w':=by
 refine bn0 Tryz.func139 Tryz.ntmps139 h fun w h=>?_
 refine jX h fun b1 w h=>?_
 refine sf (bx h rfl (fv_cells _)) ?_
 rintro _ w ⟨b2,rfl,h⟩
 refine go h fun w h=>?_
 refine jA h fun b3 w h=>?_
 refine cl (ci (S.sN h a4) rfl rfl) ((snode_any S s v h.to hs).mono ?_)
 rintro _ w ⟨q4,rfl,h⟩
 refine ⟨_,rfl,?_⟩
 refine jA h fun b5 w h=>?_
 refine jA h fun b6 w h=>?_
 refine qc h (fun hd7 w h=>?_) fun hd7 w h=>?_
 have hg8:=eq_of_beq hd7
 refine go h fun w h=>?_
 have h:=SH.rbz (h.fr (.c r5 .n))
 have h:=SH.rbz (h.fr (.c r1 .n))
 refine go h fun w h=>?_
 refine j000 (tCAS_any _ _ _ (.fn 196 [] [.pointer (some ⟨b2,0,none⟩),.pointer (some ⟨b6,0,none⟩)]) h.to) fun w h=>?_
 refine rr (resC rfl rfl (h.b a5) Row.h) ?_
 have h:=h.rbd a0
 have h:=h.rbd a2
 have h:=h.fr (.c r0 (.c r0 (.c r7 .n)))
 have h:=mkt (S:=S) (F:=F) (n:=n) (args:=boolA) (k:=(fun _=>k (s.node v).new)) (v:=(.fn 196 [] [.pointer (some ⟨b2,0,none⟩),.pointer (some ⟨b6,0,none⟩)])) [rb b2 [thk.val] 107,rb b6 ([.int .i64 (s.node v).new]) 36,klA S F n 60 intA k thk] h fun m' hm' B' w' L' s' x' h' hs'=>cvI en_196 (p_complete1_any S F b2 b6 thk k (s.node v).new (Nat.le_refl _) x' s' ((klGet hm' (h'.fr (.c r2 .n))).fr (.c r1 (.c r1 (.c r0 .n)))) (hs'.less (by decide)))
 have h:=kC (a:=t.root) (o:=v) (x:=(s.node v).new) h
 exact cpI (qN (qT hd7 rfl)) h.to
 have hg9:=ne_of_beq_false hd7
 refine go h fun w h=>?_
 have h:=SH.rbz (h.fr (.c r5 .n))
 have h:=SH.rbz (h.fr (.c r1 .n))
 refine go h fun w h=>?_
 refine j000 (tCAS_any _ _ _ (.fn 196 [] [.pointer (some ⟨b2,0,none⟩),.pointer (some ⟨b6,0,none⟩)]) h.to) fun w h=>?_
 refine rr (resC rfl rfl (h.b a5) Row.h) ?_
 have h:=h.rbd a0
 have h:=h.rbd a2
 have h:=h.fr (.c r0 (.c r0 (.c r7 .n)))
 have h:=mkt (S:=S) (F:=F) (n:=n) (args:=boolA) (k:=(fun _=>k (s.node v).old)) (v:=(.fn 196 [] [.pointer (some ⟨b2,0,none⟩),.pointer (some ⟨b6,0,none⟩)])) [rb b2 [thk.val] 107,rb b6 ([.int .i64 (s.node v).old]) 36,klA S F n 60 intA k thk] h fun m' hm' B' w' L' s' x' h' hs'=>cvI en_196 (p_complete1_any S F b2 b6 thk k (s.node v).old (Nat.le_refl _) x' s' ((klGet hm' (h'.fr (.c r2 .n))).fr (.c r1 (.c r1 (.c r0 .n)))) (hs'.less (by decide)))
 have h:=kC (a:=t.root) (o:=v) (x:=(s.node v).old) h
 exact cpI (qN (qF hd7 rfl)) h.to
theorem p_back1_any {β : Type} (S : Sto) (F : β→Cc→As) (cb0 cb1 : Nat) (thk : Fv) (k : Int→Ct.I β) (v : Int) {n m : Nat} (hm : m≤n) (x : Bool) (s : Ct.St) (h : SH B w (rb cb0 [thk.val] 107::rb cb1 ([.int .i64 v]) 36::clA S F n 60 intA k thk::S.a s::L)) (hs : Ct.Rm 60 s) :
  Calls Tryz.prog 234 #[.bool x,.pointer (some ⟨cb0,0,none⟩),.pointer (some ⟨cb1,0,none⟩)] w fun e w'=>CP S F m B ((fun _=>k v) x) s L e w':=by
 have h:=clLess hm (Nat.le_refl _) (h.fr (.c r2 .n))
 refine bn0 Tryz.func234 Tryz.ntmps234 h fun w h=>?_
 refine jA h fun b1 w h=>?_
 refine cvF rfl rfl ((callk (h.fr (.c r1 (.c r3 .n))) (hs.less (by decide)) v).mono ?_)
 rintro _ w ⟨s2,t3,c4,hq5,rfl,h⟩
 refine ⟨_,rfl,?_⟩
 refine go h fun w h=>?_
 refine rr (resC rfl rfl (h.b a2) Row.h) ?_
 exact cpI (hq5) h.to
theorem p_back_any {β : Type} (S : Sto) (F : β→Cc→As) (t : Ct.Trie) (i : Int) (m : Int) (p : Int) (thk : Fv) (k : Int→Ct.I β) (n : Nat) (s : Ct.St) (h : SH B w (klA S F n 60 intA k thk::S.a s::L)) (hs : Ct.Rm 30 s) :
  Calls Tryz.prog 184 #[.agg [S.v,.int .i64 t.root,.bool t.readOnly].toArray,.int .i64 i,.int .i64 m,.int .i64 p,thk.val] w fun e w'=>CP S F n B (Ct.backT i m p k) s L e w':=by
 refine bn0 Tryz.func184 Tryz.ntmps184 h fun w h=>?_
 refine jX h fun b1 w h=>?_
 refine sf (bx h rfl (fv_cells _)) ?_
 rintro _ w ⟨b2,rfl,h⟩
 refine go h fun w h=>?_
 refine jA h fun b3 w h=>?_
 refine cl (ci (S.sN h a4) rfl rfl) ((snode_any S s p h.to hs).mono ?_)
 rintro _ w ⟨q4,rfl,h⟩
 refine ⟨_,rfl,?_⟩
 refine go h fun w h=>?_
 refine jA h fun b5 w h=>?_
 have h:=SH.rbz (h.fr (.c r4 .n))
 have h:=SH.rbz (h.fr (.c r1 .n))
 refine drH [1,3,5,11,13,15,6,9,16,18] (by kernel_rfl) h (.c r5 (.c r0 .n)) fun w h=>go h fun w h=>?_
 refine cs (ci (S.sN h a3) rfl rfl) ((snode_any S s i h.to hs).mono ?_)
 rintro _ w ⟨q6,rfl,h⟩
 refine ⟨_,rfl,h.hs (.c r6 (.c r2 .n)),?_⟩
 refine go h fun w h=>?_
 refine s000 (tCAS_any _ _ _ (.fn 234 [] [.pointer (some ⟨b2,0,none⟩),.pointer (some ⟨b5,0,none⟩)]) h.to) fun w h=>?_
 refine rr (resC rfl rfl (h.b a5) Row.h) ?_
 have h:=h.rbd a2
 have h:=h.rbd a4
 have h:=h.fr (.c r0 (.c r0 (.c r7 .n)))
 have h:=mkt (S:=S) (F:=F) (n:=n) (args:=boolA) (k:=(fun _=>k (s.node p).old)) (v:=(.fn 234 [] [.pointer (some ⟨b2,0,none⟩),.pointer (some ⟨b5,0,none⟩)])) [rb b2 [thk.val] 107,rb b5 ([.int .i64 (s.node p).old]) 36,klA S F n 60 intA k thk] h fun m' hm' B' w' L' s' x' h' hs'=>cvI en_234 (p_back1_any S F b2 b5 thk k (s.node p).old (Nat.le_refl _) x' s' ((klGet hm' (h'.fr (.c r2 .n))).fr (.c r1 (.c r1 (.c r0 .n)))) (hs'.less (by decide)))
 have h:=kC (a:=(s.node i).main) (o:=m) (x:=(s.node p).old) h
 exact cpI (qN (qN rfl)) h.to
theorem p_root4_any {β : Type} (S : Sto) (F : β→Cc→As) (cb0 cb1 cb2 : Nat) (t : Ct.Trie) (v : Int) (thk : Fv) (k : Int→Ct.I β) {n m : Nat} (hm : m≤n) (x : Int) (s : Ct.St) (h : SH B w (rb cb0 ([S.v,.int .i64 t.root,.bool t.readOnly]) 103::rb cb1 ([.int .i64 v]) 36::rb cb2 [thk.val] 107::clA S F n 60 intA k thk::S.a s::L)) (hs : Ct.Rm 60 s) :
  Calls Tryz.prog 239 #[.int .i64 x,.pointer (some ⟨cb0,0,none⟩),.pointer (some ⟨cb1,0,none⟩),.pointer (some ⟨cb2,0,none⟩)] w fun e w'=>CP S F m B ((fun s_b=>Ct.wonT t v s_b k) x) s L e w':=by
 have h:=clLess hm (Nat.le_refl _) (h.fr (.c r3 .n))
 refine bn0 Tryz.func239 Tryz.ntmps239 h fun w h=>?_
 refine jA h fun b1 w h=>?_
 have h:=clKl (j:=60) (by decide) (h.fr (.c r1 .n))
 refine cl (ca en_139 rfl) ((p_complete_any S F t v x thk k m s (h.fr (.c r0 (.c r4 .n))) (hs.less (by decide))).mono ?_)
 rintro _ w ⟨s2,t3,c4,hq5,rfl,h⟩
 refine ⟨_,rfl,?_⟩
 refine sf (so h rfl rfl rfl sz_110 (ccL_one _) (.r (.r (.r (.r (.r (.r (.r (.r (.r (.r (.r (.r (.r (.r .d)))))))))))))) u2)<|?_
 rintro _ w h
 refine xe<|nx<|rt<|?_
 refine go h fun w h=>?_
 refine rr (resC rfl rfl (h.b a2) Row.h) ?_
 exact cpI (hq5) h.to
theorem p_root3_any {β : Type} (S : Sto) (F : β→Cc→As) (cb0 cb1 cb2 cb3 : Nat) (d : Ct.Node) (qd : Lq) (t : Ct.Trie) (v : Int) (thk : Fv) (k : Int→Ct.I β) {n m : Nat} (hm : m≤n) (x : Bool) (s : Ct.St) (h : SH B w (rb cb0 (nodeC d qd) 77::rb cb1 ([S.v,.int .i64 t.root,.bool t.readOnly]) 103::rb cb2 ([.int .i64 v]) 36::rb cb3 [thk.val] 107::clA S F n 60 intA k thk::S.a s::L)) (hs : Ct.Rm 60 s) :
  Calls Tryz.prog 238 #[.bool x,.pointer (some ⟨cb0,0,none⟩),.pointer (some ⟨cb1,0,none⟩),.pointer (some ⟨cb2,0,none⟩),.pointer (some ⟨cb3,0,none⟩)] w fun e w'=>CP S F m B ((fun _=>.load (Ct.Node.status d) fun s_b=>Ct.wonT t v s_b k) x) s L e w':=by
 have h:=clLess hm (Nat.le_refl _) (h.fr (.c r4 .n))
 refine bn0 Tryz.func238 Tryz.ntmps238 h fun w h=>?_
 refine jA h fun b1 w h=>?_
 refine cl (ca en_67 rfl) ((tLoad_any d.status (.fn 239 [] [.pointer (some ⟨cb1,0,none⟩),.pointer (some ⟨cb2,0,none⟩),.pointer (some ⟨cb3,0,none⟩)]) (h.fr .n)).mono ?_)
 rintro _ w ⟨rfl,h⟩
 refine ⟨_,rfl,?_⟩
 refine sf (so h rfl rfl rfl sz_110 (ccL_one _) (.r (.r (.r (.r (.r (.r (.r (.r (.r (.r (.r (.r (.r (.r .d)))))))))))))) u0)<|?_
 rintro _ w h
 refine xe<|nx<|rt<|?_
 refine go h fun w h=>?_
 refine rr (resC rfl rfl (h.b a0) Row.h) ?_
 have h:=h.rbd a5
 have h:=h.rbd a5
 have h:=h.rbd a5
 have h:=h.fr (.c r0 (.c r0 (.c r0 (.c r1 .n))))
 have h:=mkt (S:=S) (F:=F) (n:=m) (args:=intA) (k:=(fun s_b=>Ct.wonT t v s_b k)) (v:=(.fn 239 [] [.pointer (some ⟨cb1,0,none⟩),.pointer (some ⟨cb2,0,none⟩),.pointer (some ⟨cb3,0,none⟩)])) [rb cb1 ([S.v,.int .i64 t.root,.bool t.readOnly]) 103,rb cb2 ([.int .i64 v]) 36,rb cb3 [thk.val] 107,clA S F m 60 intA k thk] h fun m' hm' B' w' L' s' x' h' hs'=>cvI en_239 (p_root4_any S F cb1 cb2 cb3 t v thk k (Nat.le_of_lt hm') x' s' h' (hs'.less (by decide)))
 have h:=kL (a:=d.status) h
 exact cpI (rfl) h.to
theorem p_root2_any {β : Type} (S : Sto) (F : β→Cc→As) (cb0 cb1 cb2 cb3 : Nat) (t : Ct.Trie) (v : Int) (thk : Fv) (k : Int→Ct.I β) (d : Ct.Node) (qd : Lq) {n m : Nat} (hm : m≤n) (x : Int) (s : Ct.St) (h : SH B w (rb cb0 ([S.v,.int .i64 t.root,.bool t.readOnly]) 103::rb cb1 ([.int .i64 v]) 36::rb cb2 [thk.val] 107::rb cb3 (nodeC d qd) 77::clA S F n 60 intA k thk::S.a s::L)) (hs : Ct.Rm 60 s) :
  Calls Tryz.prog 237 #[.int .i64 x,.pointer (some ⟨cb0,0,none⟩),.pointer (some ⟨cb1,0,none⟩),.pointer (some ⟨cb2,0,none⟩),.pointer (some ⟨cb3,0,none⟩)] w fun e w'=>CP S F m B ((fun s_b=>bif s_b != 0 then Ct.wonT t v s_b k else .cas (Ct.Node.status d) 0 2 fun _=>.load (Ct.Node.status d) fun s_b=>Ct.wonT t v s_b k) x) s L e w':=by
 have h:=clLess hm (Nat.le_refl _) (h.fr (.c r4 .n))
 refine bn0 Tryz.func237 Tryz.ntmps237 h fun w h=>?_
 refine jA h fun b1 w h=>?_
 refine qc h (fun hd2 w h=>?_) fun hd2 w h=>?_
 have hg3:=bne_iff_ne.1 hd2
 refine go h fun w h=>?_
 have h:=clKl (j:=60) (by decide) (h.fr (.c r1 .n))
 refine j310 (p_complete_any S F _ _ _ thk k _ _ h.to (hs.less (by decide))) fun s4 t5 c6 hq7 w h=>?_
 refine rr (resC rfl rfl (h.b a2) Row.h) ?_
 exact cpI (qT hd2 (hq7)) h.to
 have hg8:=eq_of_bneF hd2
 refine go h fun w h=>?_
 refine j000 (tCAS_any _ _ _ (.fn 238 [] [.pointer (some ⟨cb3,0,none⟩),.pointer (some ⟨cb0,0,none⟩),.pointer (some ⟨cb1,0,none⟩),.pointer (some ⟨cb2,0,none⟩)]) h.to) fun w h=>?_
 refine rr (resC rfl rfl (h.b a0) Row.h) ?_
 have h:=h.rbd a4
 have h:=h.rbd a4
 have h:=h.rbd a4
 have h:=h.rbd a8
 have h:=h.fr (.c r0 (.c r0 (.c r0 (.c r0 (.c r1 .n)))))
 have h:=mkt (S:=S) (F:=F) (n:=m) (args:=boolA) (k:=(fun _=>.load (Ct.Node.status d) fun s_b=>Ct.wonT t v s_b k)) (v:=(.fn 238 [] [.pointer (some ⟨cb3,0,none⟩),.pointer (some ⟨cb0,0,none⟩),.pointer (some ⟨cb1,0,none⟩),.pointer (some ⟨cb2,0,none⟩)])) [rb cb3 (nodeC d qd) 77,rb cb0 ([S.v,.int .i64 t.root,.bool t.readOnly]) 103,rb cb1 ([.int .i64 v]) 36,rb cb2 [thk.val] 107,clA S F m 60 intA k thk] h fun m' hm' B' w' L' s' x' h' hs'=>cvI en_238 (p_root3_any S F cb3 cb0 cb1 cb2 d qd t v thk k (Nat.le_of_lt hm') x' s' h' (hs'.less (by decide)))
 have h:=kC (a:=d.status) (o:=0) (x:=2) h
 exact cpI (qF hd2 rfl) h.to
theorem p_root1_any {β : Type} (S : Sto) (F : β→Cc→As) (cb0 cb1 : Nat) (t : Ct.Trie) (thk : Fv) (k : Int→Ct.I β) {n m : Nat} (hm : m≤n) (x : Int) (s : Ct.St) (h : SH B w (rb cb0 ([S.v,.int .i64 t.root,.bool t.readOnly]) 103::rb cb1 [thk.val] 107::clA S F n 60 intA k thk::S.a s::L)) (hs : Ct.Rm 60 s) :
  Calls Tryz.prog 236 #[.int .i64 x,.pointer (some ⟨cb0,0,none⟩),.pointer (some ⟨cb1,0,none⟩)] w fun e w'=>CP S F m B ((fun v_b=>.node v_b fun d_b=>bif d_b.kind==2 then k v_b else .load d_b.status fun s_b=>bif s_b != 0 then Ct.wonT t v_b s_b k else .cas d_b.status 0 2 fun _=>.load d_b.status fun s_b=>Ct.wonT t v_b s_b k) x) s L e w':=by
 have h:=clLess hm (Nat.le_refl _) (h.fr (.c r2 .n))
 refine bn0 Tryz.func236 Tryz.ntmps236 h fun w h=>?_
 refine jX h fun b1 w h=>?_
 refine jA h fun b2 w h=>?_
 refine cl (ci (S.sN h a5) rfl rfl) ((snode_any S s x h.to hs).mono ?_)
 rintro _ w ⟨q3,rfl,h⟩
 refine ⟨_,rfl,?_⟩
 refine jA h fun b4 w h=>?_
 refine qc h (fun hd5 w h=>?_) fun hd5 w h=>?_
 have hg6:=eq_of_beq hd5
 refine go h fun w h=>?_
 refine cvF rfl rfl ((callk (h.fr (.c r5 (.c r2 .n))) (hs.less (by decide)) x).mono ?_)
 rintro _ w ⟨s7,t8,c9,hq10,rfl,h⟩
 refine ⟨_,rfl,?_⟩
 refine go h fun w h=>?_
 refine rr (resC rfl rfl (h.b a4) Row.h) ?_
 exact cpI (qN (qT hd5 (hq10))) h.to
 have hg11:=ne_of_beq_false hd5
 refine go h fun w h=>?_
 have h:=SH.rbz (h.fr (.c r4 .n))
 have h:=SH.rbz (h.fr (.c r1 .n))
 refine go h fun w h=>?_
 refine j000 (tLoad_any _ (.fn 237 [] [.pointer (some ⟨cb0,0,none⟩),.pointer (some ⟨b1,0,none⟩),.pointer (some ⟨cb1,0,none⟩),.pointer (some ⟨b4,0,none⟩)]) h.to) fun w h=>?_
 refine rr (resC rfl rfl (h.b a4) Row.h) ?_
 have h:=h.rbd a0
 have h:=h.rbd a8
 have h:=h.rbd a3
 have h:=h.rbd a9
 have h:=h.fr (.c r0 (.c r0 (.c r0 (.c r0 (.c r5 .n)))))
 have h:=mkt (S:=S) (F:=F) (n:=m) (args:=intA) (k:=(fun s_b=>bif s_b != 0 then Ct.wonT t x s_b k else .cas (Ct.Node.status (s.node x)) 0 2 fun _=>.load (Ct.Node.status (s.node x)) fun s_b=>Ct.wonT t x s_b k)) (v:=(.fn 237 [] [.pointer (some ⟨cb0,0,none⟩),.pointer (some ⟨b1,0,none⟩),.pointer (some ⟨cb1,0,none⟩),.pointer (some ⟨b4,0,none⟩)])) [rb cb0 ([S.v,.int .i64 t.root,.bool t.readOnly]) 103,rb b1 ([.int .i64 x]) 36,rb cb1 [thk.val] 107,rb b4 (nodeC (s.node x) q3) 77,clA S F m 60 intA k thk] h fun m' hm' B' w' L' s' x' h' hs'=>cvI en_237 (p_root2_any S F cb0 b1 cb1 b4 t x thk k (s.node x) q3 (Nat.le_of_lt hm') x' s' h' (hs'.less (by decide)))
 have h:=kL (a:=(s.node x).status) h
 exact cpI (qN (qF hd5 rfl)) h.to
theorem p_root_any {β : Type} (S : Sto) (F : β→Cc→As) (t : Ct.Trie) (thk : Fv) (k : Int→Ct.I β) (n : Nat) (s : Ct.St) (h : SH B w (klA S F n 60 intA k thk::S.a s::L)) (hs : Ct.Rm 30 s) :
  Calls Tryz.prog 188 #[.agg [S.v,.int .i64 t.root,.bool t.readOnly].toArray,thk.val] w fun e w'=>CP S F n B (Ct.rootT t k) s L e w':=by
 refine bn0 Tryz.func188 Tryz.ntmps188 h fun w h=>?_
 refine jX h fun b1 w h=>?_
 refine sf (bx h rfl (fv_cells _)) ?_
 rintro _ w ⟨b2,rfl,h⟩
 refine go h fun w h=>?_
 refine jA h fun b3 w h=>?_
 have h:=SH.rbz (h.fr (.c r2 .n))
 have h:=SH.rbz (h.fr (.c r2 .n))
 refine go h fun w h=>?_
 refine cl (ca en_67 rfl) ((tLoad_any t.root (.fn 236 [] [.pointer (some ⟨b1,0,none⟩),.pointer (some ⟨b2,0,none⟩)]) (h.fr .n)).mono ?_)
 rintro _ w ⟨rfl,h⟩
 refine ⟨_,rfl,?_⟩
 refine sf (so h rfl rfl rfl sz_110 (ccL_one _) (.r (.r (.r (.r (.r (.r (.r (.r (.r (.r (.r (.r (.r (.r .d)))))))))))))) u2)<|?_
 rintro _ w h
 refine xe<|nx<|rt<|?_
 refine go h fun w h=>?_
 refine rr (resC rfl rfl (h.b a2) Row.h) ?_
 have h:=h.rbd a0
 have h:=h.rbd a2
 have h:=h.fr (.c r0 (.c r0 (.c r3 .n)))
 have h:=mkt (S:=S) (F:=F) (n:=n) (args:=intA) (k:=(fun v_b=>.node v_b fun d_b=>bif d_b.kind==2 then k v_b else .load d_b.status fun s_b=>bif s_b != 0 then Ct.wonT t v_b s_b k else .cas d_b.status 0 2 fun _=>.load d_b.status fun s_b=>Ct.wonT t v_b s_b k)) (v:=(.fn 236 [] [.pointer (some ⟨b1,0,none⟩),.pointer (some ⟨b2,0,none⟩)])) [rb b1 ([S.v,.int .i64 t.root,.bool t.readOnly]) 103,rb b2 [thk.val] 107,klA S F n 60 intA k thk] h fun m' hm' B' w' L' s' x' h' hs'=>cvI en_236 (p_root1_any S F b1 b2 t thk k (Nat.le_refl _) x' s' ((klGet hm' (h'.fr (.c r2 .n))).fr (.c r1 (.c r1 (.c r0 .n)))) (hs'.less (by decide)))
 have h:=kL (a:=t.root) h
 exact cpI (rfl) h.to
theorem p_decide_any {β : Type} (S : Sto) (F : β→Cc→As) (t : Ct.Trie) (prev : Int) (p : Int) (commit : Bool) (thk : Fv) (k : Bool→Ct.I β) (n : Nat) (s : Ct.St) (h : SH B w (klA S F n 60 boolA k thk::S.a s::L)) (hs : Ct.Rm 30 s) :
  Calls Tryz.prog 187 #[.agg [S.v,.int .i64 t.root,.bool t.readOnly].toArray,.int .i64 prev,.int .i64 p,.bool commit,thk.val] w fun e w'=>CP S F n B (Ct.decideT prev p commit k) s L e w':=by
 refine bn0 Tryz.func187 Tryz.ntmps187 h fun w h=>?_
 refine jX h fun b1 w h=>?_
 refine jA h fun b2 w h=>?_
 refine qc h (fun hd3 w h=>?_) fun hd3 w h=>?_
 refine j000 (tCAS_any _ _ _ thk h.to) fun w h=>?_
 refine rr (resC rfl rfl (h.b a0) Row.h) ?_
 have h:=klLt (by decide) (h.fr (.c r2 .n))
 have h:=kC (a:=prev) (o:=p) (x:=0) h
 exact cpI (qT hd3 rfl) h.to
 refine drH [1,3,5,9,11,6,12,14] (by kernel_rfl) h (.c r1 .n) fun w h=>go h fun w h=>?_
 refine s000 (nFailed_any _ h.to) fun w h=>?_
 refine cs (ci (S.sA h a3) rfl rfl) ((salloc_any S s ({ kind:=7,old:=p } : Ct.Node) {} 0 (SH.nilN ({ kind:=7,old:=p } : Ct.Node) rfl rfl h.to) hs (Ct.fit_small _ 7 0 p 0 0)).mono ?_)
 rintro _ w ⟨rfl,h⟩
 have hs:=hs.alloc (Ct.fit_small _ 7 0 p 0 0) 0
 refine ⟨_,rfl,h.hs (.c r2 .n),?_⟩
 refine go h fun w h=>?_
 refine j000 (tCAS_any _ _ _ thk h.to) fun w h=>?_
 refine rr (resC rfl rfl (h.b a1) Row.h) ?_
 have h:=klLt (by decide) (h.fr (.c r3 .n))
 have h:=kC (a:=prev) (o:=p) (x:=(s.alloc ({ kind:=7,old:=p } : Ct.Node) 0).2) h
 exact cpI (qF hd3 (qA rfl)) h.to
theorem p_settle3_any {β : Type} (S : Sto) (F : β→Cc→As) (cb0 cb1 cb2 cb3 : Nat) (thk : Fv) (k : Int→Ct.I β) (m0 : Int) (t : Ct.Trie) (i : Int) {n m : Nat} (hm : m≤n) (x : Int) (s : Ct.St) (h : SH B w (rb cb0 [thk.val] 107::rb cb1 ([.int .i64 m0]) 36::rb cb2 ([S.v,.int .i64 t.root,.bool t.readOnly]) 103::rb cb3 ([.int .i64 i]) 36::clA S F n 60 intA k thk::S.a s::L)) (hs : Ct.Rm 60 s) :
  Calls Tryz.prog 186 #[.int .i64 x,.pointer (some ⟨cb0,0,none⟩),.pointer (some ⟨cb1,0,none⟩),.pointer (some ⟨cb2,0,none⟩),.pointer (some ⟨cb3,0,none⟩)] w fun e w'=>CP S F m B ((fun p_b=>bif p_b==0 then k m0 else Ct.backT i m0 p_b k) x) s L e w':=by
 have h:=clLess hm (Nat.le_refl _) (h.fr (.c r4 .n))
 refine bn0 Tryz.func186 Tryz.ntmps186 h fun w h=>?_
 refine jA h fun b1 w h=>?_
 refine qc h (fun hd2 w h=>?_) fun hd2 w h=>?_
 have hg3:=eq_of_beq hd2
 refine go h fun w h=>?_
 refine cvF rfl rfl ((callk (h.fr (.c r1 (.c r5 .n))) (hs.less (by decide)) m0).mono ?_)
 rintro _ w ⟨s4,t5,c6,hq7,rfl,h⟩
 refine ⟨_,rfl,?_⟩
 refine go h fun w h=>?_
 refine rr (resC rfl rfl (h.b a2) Row.h) ?_
 exact cpI (qT hd2 (hq7)) h.to
 have hg8:=ne_of_beq_false hd2
 refine go h fun w h=>?_
 have h:=clKl (j:=60) (by decide) (h.fr (.c r1 .n))
 refine j310 (p_back_any S F _ _ _ _ thk k _ _ h.to (hs.less (by decide))) fun s9 t10 c11 hq12 w h=>?_
 refine rr (resC rfl rfl (h.b a2) Row.h) ?_
 exact cpI (qF hd2 (hq12)) h.to
theorem p_settle2_any {β : Type} (S : Sto) (F : β→Cc→As) (cb0 cb1 cb2 cb3 cb4 : Nat) (prev : Int) (thk : Fv) (k : Int→Ct.I β) (m0 : Int) (t : Ct.Trie) (i : Int) {n m : Nat} (hm : m≤n) (x : Bool) (s : Ct.St) (h : SH B w (rb cb0 ([.int .i64 prev]) 33::rb cb1 [thk.val] 107::rb cb2 ([.int .i64 m0]) 36::rb cb3 ([S.v,.int .i64 t.root,.bool t.readOnly]) 103::rb cb4 ([.int .i64 i]) 36::clA S F n 60 intA k thk::S.a s::L)) (hs : Ct.Rm 60 s) :
  Calls Tryz.prog 185 #[.bool x,.pointer (some ⟨cb0,0,none⟩),.pointer (some ⟨cb1,0,none⟩),.pointer (some ⟨cb2,0,none⟩),.pointer (some ⟨cb3,0,none⟩),.pointer (some ⟨cb4,0,none⟩)] w fun e w'=>CP S F m B ((Ct.againT prev i m0 k) x) s L e w':=by
 have h:=clLess hm (Nat.le_refl _) (h.fr (.c r5 .n))
 refine bn0 Tryz.func185 Tryz.ntmps185 h fun w h=>?_
 refine jA h fun b1 w h=>?_
 refine cl (ca en_67 rfl) ((tLoad_any prev (.fn 186 [] [.pointer (some ⟨cb1,0,none⟩),.pointer (some ⟨cb2,0,none⟩),.pointer (some ⟨cb3,0,none⟩),.pointer (some ⟨cb4,0,none⟩)]) (h.fr .n)).mono ?_)
 rintro _ w ⟨rfl,h⟩
 refine ⟨_,rfl,?_⟩
 refine sf (so h rfl rfl rfl sz_110 (ccL_one _) (.r (.r (.r (.r (.r (.r (.r (.r (.r (.r (.r (.r (.r (.r .d)))))))))))))) u0)<|?_
 rintro _ w h
 refine xe<|nx<|rt<|?_
 refine go h fun w h=>?_
 refine rr (resC rfl rfl (h.b a0) Row.h) ?_
 have h:=h.rbd a6
 have h:=h.rbd a6
 have h:=h.rbd a6
 have h:=h.rbd a6
 have h:=h.fr (.c r0 (.c r0 (.c r0 (.c r0 (.c r1 .n)))))
 have h:=mkt (S:=S) (F:=F) (n:=m) (args:=intA) (k:=(fun p_b=>bif p_b==0 then k m0 else Ct.backT i m0 p_b k)) (v:=(.fn 186 [] [.pointer (some ⟨cb1,0,none⟩),.pointer (some ⟨cb2,0,none⟩),.pointer (some ⟨cb3,0,none⟩),.pointer (some ⟨cb4,0,none⟩)])) [rb cb1 [thk.val] 107,rb cb2 ([.int .i64 m0]) 36,rb cb3 ([S.v,.int .i64 t.root,.bool t.readOnly]) 103,rb cb4 ([.int .i64 i]) 36,clA S F m 60 intA k thk] h fun m' hm' B' w' L' s' x' h' hs'=>cvI en_186 (p_settle3_any S F cb1 cb2 cb3 cb4 thk k m0 t i (Nat.le_of_lt hm') x' s' h' (hs'.less (by decide)))
 have h:=kL (a:=prev) h
 exact cpI (rfl) h.to
theorem p_settleR_any {β : Type} (S : Sto) (F : β→Cc→As) (cb0 cb1 cb2 cb3 cb4 : Nat) (t : Ct.Trie) (i : Int) (prev : Int) (p : Int) (thk : Fv) (k : Bool→Ct.I β) {n m : Nat} (hm : m≤n) (x : Int) (s : Ct.St) (h : SH B w (rb cb0 ([S.v,.int .i64 t.root,.bool t.readOnly]) 103::rb cb1 ([.int .i64 i]) 36::rb cb2 ([.int .i64 prev]) 33::rb cb3 ([.int .i64 p]) 36::rb cb4 [thk.val] 108::clA S F n 60 boolA k thk::S.a s::L)) (hs : Ct.Rm 60 s) :
  Calls Tryz.prog 189 #[.int .i64 x,.pointer (some ⟨cb0,0,none⟩),.pointer (some ⟨cb1,0,none⟩),.pointer (some ⟨cb2,0,none⟩),.pointer (some ⟨cb3,0,none⟩),.pointer (some ⟨cb4,0,none⟩)] w fun e w'=>CP S F m B ((fun r_b=>.node r_b fun a_b=>.node i fun b_b=>Ct.decideT prev p (a_b.gen==b_b.gen) k) x) s L e w':=by
 have h:=clLess hm (Nat.le_refl _) (h.fr (.c r5 .n))
 refine bn0 Tryz.func189 Tryz.ntmps189 h fun w h=>?_
 refine jA h fun b1 w h=>?_
 refine drH [1,3,5,11,13,15,6,9,16,19,21,22] (by kernel_rfl) h (.c r2 (.c r2 .n)) fun w h=>go h fun w h=>?_
 refine cs (ci (S.sN h a7) rfl rfl) ((snode_any S s x h.to hs).mono ?_)
 rintro _ w ⟨q2,rfl,h⟩
 refine ⟨_,rfl,h.hs (.c r4 (.c r4 .n)),?_⟩
 refine go h fun w h=>?_
 refine cs (ci (S.sN h a1) rfl rfl) ((snode_any S s i h.to hs).mono ?_)
 rintro _ w ⟨q3,rfl,h⟩
 refine ⟨_,rfl,h.hs (.c r5 (.c r5 .n)),?_⟩
 refine go h fun w h=>?_
 have h:=clKl (j:=60) (by decide) (h.fr (.c r4 .n))
 refine cl (ca en_187 rfl) ((p_decide_any S F t prev p (((s.node x).gen : Int)==(s.node i).gen) thk k m s (h.fr (.c r0 (.c r1 .n))) (hs.less (by decide))).mono ?_)
 rintro _ w ⟨s4,t5,c6,hq7,rfl,h⟩
 refine ⟨_,rfl,?_⟩
 refine sf (so h rfl rfl rfl sz_110 (ccL_one _) (.r (.r (.r (.r (.r (.r (.r (.r (.r (.r (.r (.r (.r (.r .d)))))))))))))) u4)<|?_
 rintro _ w h
 refine xe<|nx<|rt<|?_
 refine go h fun w h=>?_
 refine rr (resC rfl rfl (h.b a4) Row.h) ?_
 exact cpI (qN (qN (hq7))) h.to
theorem p_settle1_any {β : Type} (S : Sto) (F : β→Cc→As) (cb0 cb1 cb2 cb3 cb4 : Nat) (thk : Fv) (k : Int→Ct.I β) (m0 : Int) (t : Ct.Trie) (i : Int) (prev : Int) {n m : Nat} (hm : m≤n) (x : Int) (s : Ct.St) (h : SH B w (rb cb0 [thk.val] 107::rb cb1 ([.int .i64 m0]) 36::rb cb2 ([S.v,.int .i64 t.root,.bool t.readOnly]) 103::rb cb3 ([.int .i64 i]) 36::rb cb4 ([.int .i64 prev]) 33::clA S F n 60 intA k thk::S.a s::L)) (hs : Ct.Rm 60 s) :
  Calls Tryz.prog 182 #[.int .i64 x,.pointer (some ⟨cb0,0,none⟩),.pointer (some ⟨cb1,0,none⟩),.pointer (some ⟨cb2,0,none⟩),.pointer (some ⟨cb3,0,none⟩),.pointer (some ⟨cb4,0,none⟩)] w fun e w'=>CP S F m B ((fun p_b=>bif p_b==0 then k m0 else .node p_b fun b_b=>bif !b_b.isMain then Ct.backT i m0 p_b k else bif (Ct.Trie.readOnly t) then Ct.decideT prev p_b false (Ct.againT prev i m0 k) else Ct.rootT t fun r_b=>.node r_b fun a_b=>.node i fun b_b=>Ct.decideT prev p_b (a_b.gen==b_b.gen) (Ct.againT prev i m0 k)) x) s L e w':=by
 have h:=clLess hm (Nat.le_refl _) (h.fr (.c r5 .n))
 refine bn0 Tryz.func182 Tryz.ntmps182 h fun w h=>?_
 refine jX h fun b1 w h=>?_
 refine jA h fun b2 w h=>?_
 refine qc h (fun hd3 w h=>?_) fun hd3 w h=>?_
 have hg4:=eq_of_beq hd3
 refine go h fun w h=>?_
 refine cvF rfl rfl ((callk (h.fr (.c r2 (.c r7 .n))) (hs.less (by decide)) m0).mono ?_)
 rintro _ w ⟨s5,t6,c7,hq8,rfl,h⟩
 refine ⟨_,rfl,?_⟩
 refine go h fun w h=>?_
 refine rr (resC rfl rfl (h.b a2) Row.h) ?_
 exact cpI (qT hd3 (hq8)) h.to
 have hg9:=ne_of_beq_false hd3
 refine go h fun w h=>?_
 refine cl (ci (S.sN h a8) rfl rfl) ((snode_any S s x h.to hs).mono ?_)
 rintro _ w ⟨q10,rfl,h⟩
 refine ⟨_,rfl,?_⟩
 refine j000 (nodeMain_any _ _ h.to) fun w h=>?_
 refine qc h (fun hd11 w h=>?_) fun hd11 w h=>?_
 have hd12 : (s.node x).isMain=false:=(Bool.not_eq_true' _).mp hd11
 refine go h fun w h=>?_
 have h:=clKl (j:=60) (by decide) (h.fr (.c r4 .n))
 refine j310 (p_back_any S F _ _ _ _ thk k _ _ h.to (hs.less (by decide))) fun s13 t14 c15 hq16 w h=>?_
 refine rr (resC rfl rfl (h.b a3) Row.h) ?_
 exact cpI (qF hd3 (qN (qT hd11 (hq16)))) h.to
 have hd17 : (s.node x).isMain=true:=(Bool.not_eq_false' _).mp hd11
 refine go h fun w h=>?_
 refine jA h fun b18 w h=>?_
 refine qc h (fun hd19 w h=>?_) fun hd19 w h=>?_
 have h:=h.rbd a9
 have h:=h.rbd a9
 have h:=h.rbd a9
 have h:=h.rbd a9
 have h:=h.rbd a14
 have h:=h.fr (.c r0 (.c r0 (.c r0 (.c r0 (.c r0 (.c r5 .n))))))
 have h:=mkk (j:=60) (S:=S) (F:=F) (n:=m) (args:=boolA) (k:=(Ct.againT prev i m0 k)) (v:=(.fn 185 [] [.pointer (some ⟨cb4,0,none⟩),.pointer (some ⟨cb0,0,none⟩),.pointer (some ⟨cb1,0,none⟩),.pointer (some ⟨cb2,0,none⟩),.pointer (some ⟨cb3,0,none⟩)])) [rb cb4 ([.int .i64 prev]) 33,rb cb0 [thk.val] 107,rb cb1 ([.int .i64 m0]) 36,rb cb2 ([S.v,.int .i64 t.root,.bool t.readOnly]) 103,rb cb3 ([.int .i64 i]) 36,clA S F m 60 intA k thk] h fun m' hm' B' w' L' s' x' h' hs'=>cvI en_185 (p_settle2_any S F cb4 cb0 cb1 cb2 cb3 prev thk k m0 t i (Nat.le_of_lt hm') x' s' h' (hs'.less (by decide)))
 refine j310 (p_decide_any S F _ _ _ _ (.fn 185 [] [.pointer (some ⟨cb4,0,none⟩),.pointer (some ⟨cb0,0,none⟩),.pointer (some ⟨cb1,0,none⟩),.pointer (some ⟨cb2,0,none⟩),.pointer (some ⟨cb3,0,none⟩)]) (Ct.againT prev i m0 k) _ _ h.to (hs.less (by decide))) fun s20 t21 c22 hq23 w h=>?_
 refine rr (resC rfl rfl (h.b a4) Row.h) ?_
 exact cpI (qF hd3 (qN (qF hd11 (qT hd19 (hq23))))) h.to
 have h:=SH.rbz (h.fr (.c r4 .n))
 have h:=SH.rbz (h.fr (.c r1 .n))
 refine go h fun w h=>?_
 have h:=h.rbd a9
 have h:=h.rbd a9
 have h:=h.rbd a9
 have h:=h.rbd a9
 have h:=h.rbd a14
 have h:=h.fr (.c r0 (.c r0 (.c r0 (.c r0 (.c r0 (.c r5 .n))))))
 have h:=mkl (S:=S) (F:=F) (n:=m) (j:=60) (args:=boolA) (k:=(Ct.againT prev i m0 k)) (v:=(.fn 185 [] [.pointer (some ⟨cb4,0,none⟩),.pointer (some ⟨cb0,0,none⟩),.pointer (some ⟨cb1,0,none⟩),.pointer (some ⟨cb2,0,none⟩),.pointer (some ⟨cb3,0,none⟩)])) [rb cb4 ([.int .i64 prev]) 33,rb cb0 [thk.val] 107,rb cb1 ([.int .i64 m0]) 36,rb cb2 ([S.v,.int .i64 t.root,.bool t.readOnly]) 103,rb cb3 ([.int .i64 i]) 36,clA S F m 60 intA k thk] h fun B' w' L' s' x' h' hs'=>cvI en_185 (p_settle2_any S F cb4 cb0 cb1 cb2 cb3 prev thk k m0 t i (Nat.le_refl _) x'  s' h' hs')
 have h:=h.rbd a1
 have h:=h.rbd a3
 have h:=h.rbd a12
 have h:=h.rbd a12
 have h:=h.rbd a12
 have h:=h.fr (.c r0 (.c r0 (.c r0 (.c r0 (.c r0 (.c r0 .n))))))
 have h:=mkk (j:=60) (S:=S) (F:=F) (n:=m) (args:=intA) (k:=(fun r_b=>.node r_b fun a_b=>.node i fun b_b=>Ct.decideT prev x (a_b.gen==b_b.gen) (Ct.againT prev i m0 k))) (v:=(.fn 189 [] [.pointer (some ⟨cb2,0,none⟩),.pointer (some ⟨cb3,0,none⟩),.pointer (some ⟨cb4,0,none⟩),.pointer (some ⟨b1,0,none⟩),.pointer (some ⟨b18,0,none⟩)])) [rb cb2 ([S.v,.int .i64 t.root,.bool t.readOnly]) 103,rb cb3 ([.int .i64 i]) 36,rb cb4 ([.int .i64 prev]) 33,rb b1 ([.int .i64 x]) 36,rb b18 [Go.E.Fv.val (Go.E.Fv.fn 185 [] [.pointer (some ⟨cb4,0,none⟩),.pointer (some ⟨cb0,0,none⟩),.pointer (some ⟨cb1,0,none⟩),.pointer (some ⟨cb2,0,none⟩),.pointer (some ⟨cb3,0,none⟩)])] 108,clA S F m 60 boolA (Ct.againT prev i m0 k) (.fn 185 [] [.pointer (some ⟨cb4,0,none⟩),.pointer (some ⟨cb0,0,none⟩),.pointer (some ⟨cb1,0,none⟩),.pointer (some ⟨cb2,0,none⟩),.pointer (some ⟨cb3,0,none⟩)])] h fun m' hm' B' w' L' s' x' h' hs'=>cvI en_189 (p_settleR_any S F cb2 cb3 cb4 b1 b18 t i prev x (.fn 185 [] [.pointer (some ⟨cb4,0,none⟩),.pointer (some ⟨cb0,0,none⟩),.pointer (some ⟨cb1,0,none⟩),.pointer (some ⟨cb2,0,none⟩),.pointer (some ⟨cb3,0,none⟩)]) (Ct.againT prev i m0 k) (Nat.le_of_lt hm') x' s' h' (hs'.less (by decide)))
 refine j310 (p_root_any S F _ (.fn 189 [] [.pointer (some ⟨cb2,0,none⟩),.pointer (some ⟨cb3,0,none⟩),.pointer (some ⟨cb4,0,none⟩),.pointer (some ⟨b1,0,none⟩),.pointer (some ⟨b18,0,none⟩)]) (fun r_b=>.node r_b fun a_b=>.node i fun b_b=>Ct.decideT prev x (a_b.gen==b_b.gen) (Ct.againT prev i m0 k)) _ _ h.to (hs.less (by decide))) fun s24 t25 c26 hq27 w h=>?_
 refine rr (resC rfl rfl (h.b a5) Row.h) ?_
 exact cpI (qF hd3 (qN (qF hd11 (qF hd19 (hq27))))) h.to
theorem p_settle_any {β : Type} (S : Sto) (F : β→Cc→As) (t : Ct.Trie) (i : Int) (m0 : Int) (thk : Fv) (k : Int→Ct.I β) (n : Nat) (s : Ct.St) (h : SH B w (klA S F n 60 intA k thk::S.a s::L)) (hs : Ct.Rm 30 s) :
  Calls Tryz.prog 120 #[.agg [S.v,.int .i64 t.root,.bool t.readOnly].toArray,.int .i64 i,.int .i64 m0,thk.val] w fun e w'=>CP S F n B (Ct.settleT t i m0 k) s L e w':=by
 refine bn0 Tryz.func120 Tryz.ntmps120 h fun w h=>?_
 refine jX h fun b1 w h=>?_
 refine jX h fun b2 w h=>?_
 refine jX h fun b3 w h=>?_
 refine sf (bx h rfl (fv_cells _)) ?_
 rintro _ w ⟨b4,rfl,h⟩
 refine go h fun w h=>?_
 refine jA h fun b5 w h=>?_
 refine cl (ci (S.sN h a6) rfl rfl) ((snode_any S s m0 h.to hs).mono ?_)
 rintro _ w ⟨q6,rfl,h⟩
 refine ⟨_,rfl,?_⟩
 refine go h fun w h=>?_
 refine jA h fun b7 w h=>?_
 have h:=SH.rbz (h.fr (.c r4 .n))
 have h:=SH.rbz (h.fr (.c r5 .n))
 have h:=SH.rbz (h.fr (.c r7 .n))
 have h:=SH.rbz (h.fr (.c r7 .n))
 have h:=SH.rbz (h.fr (.c r4 .n))
 refine go h fun w h=>?_
 refine cl (ca en_67 rfl) ((tLoad_any (s.node m0).prev (.fn 182 [] [.pointer (some ⟨b4,0,none⟩),.pointer (some ⟨b3,0,none⟩),.pointer (some ⟨b1,0,none⟩),.pointer (some ⟨b2,0,none⟩),.pointer (some ⟨b7,0,none⟩)]) (h.fr .n)).mono ?_)
 rintro _ w ⟨rfl,h⟩
 refine ⟨_,rfl,?_⟩
 refine sf (so h rfl rfl rfl sz_110 (ccL_one _) (.r (.r (.r (.r (.r (.r (.r (.r (.r (.r (.r (.r (.r (.r .d)))))))))))))) u7)<|?_
 rintro _ w h
 refine xe<|nx<|rt<|?_
 refine go h fun w h=>?_
 refine rr (resC rfl rfl (h.b a7) Row.h) ?_
 have h:=h.rbd a0
 have h:=h.rbd a2
 have h:=h.rbd a4
 have h:=h.rbd a6
 have h:=h.rbd a8
 have h:=h.fr (.c r0 (.c r0 (.c r0 (.c r0 (.c r0 (.c r8 .n))))))
 have h:=mkt (S:=S) (F:=F) (n:=n) (args:=intA) (k:=(fun p_b=>bif p_b==0 then k m0 else .node p_b fun b_b=>bif !b_b.isMain then Ct.backT i m0 p_b k else bif (Ct.Trie.readOnly t) then Ct.decideT (s.node m0).prev p_b false (Ct.againT (s.node m0).prev i m0 k) else Ct.rootT t fun r_b=>.node r_b fun a_b=>.node i fun b_b=>Ct.decideT (s.node m0).prev p_b (a_b.gen==b_b.gen) (Ct.againT (s.node m0).prev i m0 k))) (v:=(.fn 182 [] [.pointer (some ⟨b4,0,none⟩),.pointer (some ⟨b3,0,none⟩),.pointer (some ⟨b1,0,none⟩),.pointer (some ⟨b2,0,none⟩),.pointer (some ⟨b7,0,none⟩)])) [rb b4 [thk.val] 107,rb b3 ([.int .i64 m0]) 36,rb b1 ([S.v,.int .i64 t.root,.bool t.readOnly]) 103,rb b2 ([.int .i64 i]) 36,rb b7 ([.int .i64 (s.node m0).prev]) 33,klA S F n 60 intA k thk] h fun m' hm' B' w' L' s' x' h' hs'=>cvI en_182 (p_settle1_any S F b4 b3 b1 b2 b7 thk k m0 t i (s.node m0).prev (Nat.le_refl _) x' s' ((klGet hm' (h'.fr (.c r5 .n))).fr (.c r1 (.c r1 (.c r1 (.c r1 (.c r1 (.c r0 .n))))))) (hs'.less (by decide)))
 have h:=kL (a:=(s.node m0).prev) h
 exact cpI (qN rfl) h.to
theorem p_read1_any {β : Type} (S : Sto) (F : β→Cc→As) (cb0 cb1 cb2 : Nat) (t : Ct.Trie) (i : Int) (thk : Fv) (k : Int→Ct.I β) {n m : Nat} (hm : m≤n) (x : Int) (s : Ct.St) (h : SH B w (rb cb0 ([S.v,.int .i64 t.root,.bool t.readOnly]) 103::rb cb1 ([.int .i64 i]) 36::rb cb2 [thk.val] 107::clA S F n 60 intA k thk::S.a s::L)) (hs : Ct.Rm 60 s) :
  Calls Tryz.prog 119 #[.int .i64 x,.pointer (some ⟨cb0,0,none⟩),.pointer (some ⟨cb1,0,none⟩),.pointer (some ⟨cb2,0,none⟩)] w fun e w'=>CP S F m B ((fun m0_b=>Ct.settleT t i m0_b k) x) s L e w':=by
 have h:=clLess hm (Nat.le_refl _) (h.fr (.c r3 .n))
 refine bn0 Tryz.func119 Tryz.ntmps119 h fun w h=>?_
 refine jA h fun b1 w h=>?_
 have h:=clKl (j:=60) (by decide) (h.fr (.c r1 .n))
 refine cl (ca en_120 rfl) ((p_settle_any S F t i x thk k m s (h.fr (.c r0 (.c r4 .n))) (hs.less (by decide))).mono ?_)
 rintro _ w ⟨s2,t3,c4,hq5,rfl,h⟩
 refine ⟨_,rfl,?_⟩
 refine sf (so h rfl rfl rfl sz_110 (ccL_one _) (.r (.r (.r (.r (.r (.r (.r (.r (.r (.r (.r (.r (.r (.r .d)))))))))))))) u2)<|?_
 rintro _ w h
 refine xe<|nx<|rt<|?_
 refine go h fun w h=>?_
 refine rr (resC rfl rfl (h.b a2) Row.h) ?_
 exact cpI (hq5) h.to
theorem p_read_any {β : Type} (S : Sto) (F : β→Cc→As) (t : Ct.Trie) (i : Int) (thk : Fv) (k : Int→Ct.I β) (n : Nat) (s : Ct.St) (h : SH B w (klA S F n 60 intA k thk::S.a s::L)) (hs : Ct.Rm 30 s) :
  Calls Tryz.prog 69 #[.agg [S.v,.int .i64 t.root,.bool t.readOnly].toArray,.int .i64 i,thk.val] w fun e w'=>CP S F n B (Ct.readT t i k) s L e w':=by
 refine bn0 Tryz.func69 Tryz.ntmps69 h fun w h=>?_
 refine jX h fun b1 w h=>?_
 refine jX h fun b2 w h=>?_
 refine sf (bx h rfl (fv_cells _)) ?_
 rintro _ w ⟨b3,rfl,h⟩
 refine go h fun w h=>?_
 refine jA h fun b4 w h=>?_
 have h:=SH.rbz (h.fr (.c r3 .n))
 have h:=SH.rbz (h.fr (.c r3 .n))
 have h:=SH.rbz (h.fr (.c r3 .n))
 refine go h fun w h=>?_
 refine cl (ci (S.sN h a5) rfl rfl) ((snode_any S s i h.to hs).mono ?_)
 rintro _ w ⟨q5,rfl,h⟩
 refine ⟨_,rfl,?_⟩
 refine go h fun w h=>?_
 refine cl (ca en_67 rfl) ((tLoad_any (s.node i).main (.fn 119 [] [.pointer (some ⟨b1,0,none⟩),.pointer (some ⟨b2,0,none⟩),.pointer (some ⟨b3,0,none⟩)]) (h.fr .n)).mono ?_)
 rintro _ w ⟨rfl,h⟩
 refine ⟨_,rfl,?_⟩
 refine sf (so h rfl rfl rfl sz_110 (ccL_one _) (.r (.r (.r (.r (.r (.r (.r (.r (.r (.r (.r (.r (.r (.r .d)))))))))))))) u5)<|?_
 rintro _ w h
 refine xe<|nx<|rt<|?_
 refine go h fun w h=>?_
 refine rr (resC rfl rfl (h.b a5) Row.h) ?_
 have h:=h.rbd a2
 have h:=h.rbd a4
 have h:=h.rbd a6
 have h:=h.fr (.c r0 (.c r0 (.c r0 (.c r6 .n))))
 have h:=mkt (S:=S) (F:=F) (n:=n) (args:=intA) (k:=(fun m0_b=>Ct.settleT t i m0_b k)) (v:=(.fn 119 [] [.pointer (some ⟨b1,0,none⟩),.pointer (some ⟨b2,0,none⟩),.pointer (some ⟨b3,0,none⟩)])) [rb b1 ([S.v,.int .i64 t.root,.bool t.readOnly]) 103,rb b2 ([.int .i64 i]) 36,rb b3 [thk.val] 107,klA S F n 60 intA k thk] h fun m' hm' B' w' L' s' x' h' hs'=>cvI en_119 (p_read1_any S F b1 b2 b3 t i thk k (Nat.le_refl _) x' s' ((klGet hm' (h'.fr (.c r3 .n))).fr (.c r1 (.c r1 (.c r1 (.c r0 .n))))) (hs'.less (by decide)))
 have h:=kL (a:=(s.node i).main) h
 exact cpI (qN rfl) h.to
theorem p_dec2_any {β : Type} (S : Sto) (F : β→Cc→As) (cb0 : Nat) (thk : Fv) (k : Unit→Ct.I β) {n m : Nat} (hm : m≤n) (x : Bool) (s : Ct.St) (h : SH B w (rb cb0 [thk.val] 112::clA S F n 60 unitA k thk::S.a s::L)) (hs : Ct.Rm 60 s) :
  Calls Tryz.prog 198 #[.bool x,.pointer (some ⟨cb0,0,none⟩)] w fun e w'=>CP S F m B ((fun _=>k ()) x) s L e w':=by
 have h:=clLess hm (Nat.le_refl _) (h.fr (.c r1 .n))
 refine bn0 Tryz.func198 Tryz.ntmps198 h fun w h=>?_
 refine jA h fun b1 w h=>?_
 refine cvF rfl rfl ((callk (h.fr (.c r1 (.c r2 .n))) (hs.less (by decide)) ()).mono ?_)
 rintro _ w ⟨s2,t3,c4,hq5,rfl,h⟩
 refine ⟨_,rfl,?_⟩
 refine go h fun w h=>?_
 refine rr (resC rfl rfl (h.b a2) Row.h) ?_
 exact cpI (hq5) h.to
theorem p_dec1_any {β : Type} (S : Sto) (F : β→Cc→As) (cb0 cb1 : Nat) (d : Ct.Node) (qd : Lq) (thk : Fv) (k : Unit→Ct.I β) {n m : Nat} (hm : m≤n) (x : Int) (s : Ct.St) (h : SH B w (rb cb0 (nodeC d qd) 77::rb cb1 [thk.val] 112::clA S F n 60 unitA k thk::S.a s::L)) (hs : Ct.Rm 60 s) :
  Calls Tryz.prog 197 #[.int .i64 x,.pointer (some ⟨cb0,0,none⟩),.pointer (some ⟨cb1,0,none⟩)] w fun e w'=>CP S F m B ((fun m0_b=>bif m0_b==(Ct.Node.expected d) then .cas (Ct.Node.status d) 0 1 fun _=>k () else .cas (Ct.Node.status d) 0 2 fun _=>k ()) x) s L e w':=by
 have h:=clLess hm (Nat.le_refl _) (h.fr (.c r2 .n))
 refine bn0 Tryz.func197 Tryz.ntmps197 h fun w h=>?_
 refine jA h fun b1 w h=>?_
 refine qc h (fun hd2 w h=>?_) fun hd2 w h=>?_
 have hg3:=eq_of_beq hd2
 refine go h fun w h=>?_
 refine j000 (tCAS_any _ _ _ (.fn 198 [] [.pointer (some ⟨cb1,0,none⟩)]) h.to) fun w h=>?_
 refine rr (resC rfl rfl (h.b a0) Row.h) ?_
 have h:=h.rbd a3
 have h:=h.fr (.c r0 (.c r1 .n))
 have h:=mkt (S:=S) (F:=F) (n:=m) (args:=boolA) (k:=(fun _=>k ())) (v:=(.fn 198 [] [.pointer (some ⟨cb1,0,none⟩)])) [rb cb1 [thk.val] 112,clA S F m 60 unitA k thk] h fun m' hm' B' w' L' s' x' h' hs'=>cvI en_198 (p_dec2_any S F cb1 thk k (Nat.le_of_lt hm') x' s' h' (hs'.less (by decide)))
 have h:=kC (a:=d.status) (o:=0) (x:=1) h
 exact cpI (qT hd2 rfl) h.to
 have hg4:=ne_of_beq_false hd2
 refine go h fun w h=>?_
 refine j000 (tCAS_any _ _ _ (.fn 198 [] [.pointer (some ⟨cb1,0,none⟩)]) h.to) fun w h=>?_
 refine rr (resC rfl rfl (h.b a0) Row.h) ?_
 have h:=h.rbd a3
 have h:=h.fr (.c r0 (.c r1 .n))
 have h:=mkt (S:=S) (F:=F) (n:=m) (args:=boolA) (k:=(fun _=>k ())) (v:=(.fn 198 [] [.pointer (some ⟨cb1,0,none⟩)])) [rb cb1 [thk.val] 112,clA S F m 60 unitA k thk] h fun m' hm' B' w' L' s' x' h' hs'=>cvI en_198 (p_dec2_any S F cb1 thk k (Nat.le_of_lt hm') x' s' h' (hs'.less (by decide)))
 have h:=kC (a:=d.status) (o:=0) (x:=2) h
 exact cpI (qF hd2 rfl) h.to
theorem p_dec_any {β : Type} (S : Sto) (F : β→Cc→As) (t : Ct.Trie) (d : Ct.Node) (qd : Lq) (thk : Fv) (k : Unit→Ct.I β) (n : Nat) (s : Ct.St) (h : SH B w (klA S F n 60 unitA k thk::S.a s::L)) (hs : Ct.Rm 30 s) :
  Calls Tryz.prog 140 #[.agg [S.v,.int .i64 t.root,.bool t.readOnly].toArray,.agg (nodeC d qd).toArray,thk.val] w fun e w'=>CP S F n B (Ct.decT t d (k ())) s L e w':=by
 refine bn0 Tryz.func140 Tryz.ntmps140 h fun w h=>?_
 refine jX h fun b1 w h=>?_
 refine jX h fun b2 w h=>?_
 refine sf (bx h rfl (fv_cells _)) ?_
 rintro _ w ⟨b3,rfl,h⟩
 refine go h fun w h=>?_
 refine jA h fun b4 w h=>?_
 have h:=SH.rbz (h.fr (.c r2 .n))
 have h:=SH.rbz (h.fr (.c r2 .n))
 refine go h fun w h=>?_
 have h:=h.rbd a0
 have h:=h.rbd a2
 have h:=h.fr (.c r0 (.c r0 (.c r4 .n)))
 have h:=mkk (j:=60) (S:=S) (F:=F) (n:=n) (args:=intA) (k:=(fun m0_b=>bif m0_b==(Ct.Node.expected d) then .cas (Ct.Node.status d) 0 1 fun _=>k () else .cas (Ct.Node.status d) 0 2 fun _=>k ())) (v:=(.fn 197 [] [.pointer (some ⟨b2,0,none⟩),.pointer (some ⟨b3,0,none⟩)])) [rb b2 (nodeC d qd) 77,rb b3 [thk.val] 112,klA S F n 60 unitA k thk] h fun m' hm' B' w' L' s' x' h' hs'=>cvI en_197 (p_dec1_any S F b2 b3 d qd thk k (Nat.le_refl _) x' s' ((klGet hm' (h'.fr (.c r2 .n))).fr (.c r1 (.c r1 (.c r0 .n)))) (hs'.less (by decide)))
 refine cl (ca en_69 rfl) ((p_read_any S F t d.old (.fn 197 [] [.pointer (some ⟨b2,0,none⟩),.pointer (some ⟨b3,0,none⟩)]) (fun m0_b=>bif m0_b==(Ct.Node.expected d) then .cas (Ct.Node.status d) 0 1 fun _=>k () else .cas (Ct.Node.status d) 0 2 fun _=>k ()) n s (h.fr (.c r0 (.c r4 .n))) (hs.less (by decide))).mono ?_)
 rintro _ w ⟨s5,t6,c7,hq8,rfl,h⟩
 refine ⟨_,rfl,?_⟩
 refine sf (so h rfl rfl rfl sz_110 (ccL_one _) (.r (.r (.r (.r (.r (.r (.r (.r (.r (.r (.r (.r (.r (.r .d)))))))))))))) u4)<|?_
 rintro _ w h
 refine xe<|nx<|rt<|?_
 refine go h fun w h=>?_
 refine rr (resC rfl rfl (h.b a4) Row.h) ?_
 exact cpI (hq8) h.to
theorem p_help4_any {β : Type} (S : Sto) (F : β→Cc→As) (cb0 cb1 cb2 : Nat) (t : Ct.Trie) (v : Int) (thk : Fv) (k : Int→Ct.I β) {n m : Nat} (hm : m≤n) (x : Int) (s : Ct.St) (h : SH B w (rb cb0 ([S.v,.int .i64 t.root,.bool t.readOnly]) 103::rb cb1 ([.int .i64 v]) 36::rb cb2 [thk.val] 107::clA S F n 60 intA k thk::S.a s::L)) (hs : Ct.Rm 60 s) :
  Calls Tryz.prog 142 #[.int .i64 x,.pointer (some ⟨cb0,0,none⟩),.pointer (some ⟨cb1,0,none⟩),.pointer (some ⟨cb2,0,none⟩)] w fun e w'=>CP S F m B ((fun s_b=>Ct.wonT t v s_b k) x) s L e w':=by
 have h:=clLess hm (Nat.le_refl _) (h.fr (.c r3 .n))
 refine bn0 Tryz.func142 Tryz.ntmps142 h fun w h=>?_
 refine jA h fun b1 w h=>?_
 have h:=clKl (j:=60) (by decide) (h.fr (.c r1 .n))
 refine cl (ca en_139 rfl) ((p_complete_any S F t v x thk k m s (h.fr (.c r0 (.c r4 .n))) (hs.less (by decide))).mono ?_)
 rintro _ w ⟨s2,t3,c4,hq5,rfl,h⟩
 refine ⟨_,rfl,?_⟩
 refine sf (so h rfl rfl rfl sz_110 (ccL_one _) (.r (.r (.r (.r (.r (.r (.r (.r (.r (.r (.r (.r (.r (.r .d)))))))))))))) u2)<|?_
 rintro _ w h
 refine xe<|nx<|rt<|?_
 refine go h fun w h=>?_
 refine rr (resC rfl rfl (h.b a2) Row.h) ?_
 exact cpI (hq5) h.to
theorem p_help3_any {β : Type} (S : Sto) (F : β→Cc→As) (cb0 cb1 cb2 cb3 : Nat) (d : Ct.Node) (qd : Lq) (t : Ct.Trie) (v : Int) (thk : Fv) (k : Int→Ct.I β) {n m : Nat} (hm : m≤n) (s : Ct.St) (h : SH B w (rb cb0 (nodeC d qd) 77::rb cb1 ([S.v,.int .i64 t.root,.bool t.readOnly]) 103::rb cb2 ([.int .i64 v]) 36::rb cb3 [thk.val] 107::clA S F n 60 intA k thk::S.a s::L)) (hs : Ct.Rm 60 s) :
  Calls Tryz.prog 141 #[.pointer (some ⟨cb0,0,none⟩),.pointer (some ⟨cb1,0,none⟩),.pointer (some ⟨cb2,0,none⟩),.pointer (some ⟨cb3,0,none⟩)] w fun e w'=>CP S F m B ((fun _=>.load (Ct.Node.status d) fun s_b=>Ct.wonT t v s_b k) ()) s L e w':=by
 have h:=clLess hm (Nat.le_refl _) (h.fr (.c r4 .n))
 refine bn0 Tryz.func141 Tryz.ntmps141 h fun w h=>?_
 refine jA h fun b1 w h=>?_
 refine cl (ca en_67 rfl) ((tLoad_any d.status (.fn 142 [] [.pointer (some ⟨cb1,0,none⟩),.pointer (some ⟨cb2,0,none⟩),.pointer (some ⟨cb3,0,none⟩)]) (h.fr .n)).mono ?_)
 rintro _ w ⟨rfl,h⟩
 refine ⟨_,rfl,?_⟩
 refine sf (so h rfl rfl rfl sz_110 (ccL_one _) (.r (.r (.r (.r (.r (.r (.r (.r (.r (.r (.r (.r (.r (.r .d)))))))))))))) u0)<|?_
 rintro _ w h
 refine xe<|nx<|rt<|?_
 refine go h fun w h=>?_
 refine rr (resC rfl rfl (h.b a0) Row.h) ?_
 have h:=h.rbd a5
 have h:=h.rbd a5
 have h:=h.rbd a5
 have h:=h.fr (.c r0 (.c r0 (.c r0 (.c r1 .n))))
 have h:=mkt (S:=S) (F:=F) (n:=m) (args:=intA) (k:=(fun s_b=>Ct.wonT t v s_b k)) (v:=(.fn 142 [] [.pointer (some ⟨cb1,0,none⟩),.pointer (some ⟨cb2,0,none⟩),.pointer (some ⟨cb3,0,none⟩)])) [rb cb1 ([S.v,.int .i64 t.root,.bool t.readOnly]) 103,rb cb2 ([.int .i64 v]) 36,rb cb3 [thk.val] 107,clA S F m 60 intA k thk] h fun m' hm' B' w' L' s' x' h' hs'=>cvI en_142 (p_help4_any S F cb1 cb2 cb3 t v thk k (Nat.le_of_lt hm') x' s' h' (hs'.less (by decide)))
 have h:=kL (a:=d.status) h
 exact cpI (rfl) h.to
theorem p_help2_any {β : Type} (S : Sto) (F : β→Cc→As) (cb0 cb1 cb2 cb3 : Nat) (t : Ct.Trie) (v : Int) (thk : Fv) (k : Int→Ct.I β) (d : Ct.Node) (qd : Lq) {n m : Nat} (hm : m≤n) (x : Int) (s : Ct.St) (h : SH B w (rb cb0 ([S.v,.int .i64 t.root,.bool t.readOnly]) 103::rb cb1 ([.int .i64 v]) 36::rb cb2 [thk.val] 107::rb cb3 (nodeC d qd) 77::clA S F n 60 intA k thk::S.a s::L)) (hs : Ct.Rm 60 s) :
  Calls Tryz.prog 138 #[.int .i64 x,.pointer (some ⟨cb0,0,none⟩),.pointer (some ⟨cb1,0,none⟩),.pointer (some ⟨cb2,0,none⟩),.pointer (some ⟨cb3,0,none⟩)] w fun e w'=>CP S F m B ((fun s_b=>bif s_b != 0 then Ct.wonT t v s_b k else Ct.decT t d (.load (Ct.Node.status d) fun s_b=>Ct.wonT t v s_b k)) x) s L e w':=by
 have h:=clLess hm (Nat.le_refl _) (h.fr (.c r4 .n))
 refine bn0 Tryz.func138 Tryz.ntmps138 h fun w h=>?_
 refine jA h fun b1 w h=>?_
 refine qc h (fun hd2 w h=>?_) fun hd2 w h=>?_
 have hg3:=bne_iff_ne.1 hd2
 refine go h fun w h=>?_
 have h:=clKl (j:=60) (by decide) (h.fr (.c r1 .n))
 refine j310 (p_complete_any S F _ _ _ thk k _ _ h.to (hs.less (by decide))) fun s4 t5 c6 hq7 w h=>?_
 refine rr (resC rfl rfl (h.b a2) Row.h) ?_
 exact cpI (qT hd2 (hq7)) h.to
 have hg8:=eq_of_bneF hd2
 refine go h fun w h=>?_
 have h:=h.rbd a4
 have h:=h.rbd a4
 have h:=h.rbd a4
 have h:=h.rbd a8
 have h:=h.fr (.c r0 (.c r0 (.c r0 (.c r0 (.c r1 .n)))))
 have h:=mkk (j:=60) (S:=S) (F:=F) (n:=m) (args:=unitA) (k:=(fun _=>.load (Ct.Node.status d) fun s_b=>Ct.wonT t v s_b k)) (v:=(.fn 141 [] [.pointer (some ⟨cb3,0,none⟩),.pointer (some ⟨cb0,0,none⟩),.pointer (some ⟨cb1,0,none⟩),.pointer (some ⟨cb2,0,none⟩)])) [rb cb3 (nodeC d qd) 77,rb cb0 ([S.v,.int .i64 t.root,.bool t.readOnly]) 103,rb cb1 ([.int .i64 v]) 36,rb cb2 [thk.val] 107,clA S F m 60 intA k thk] h fun m' hm' B' w' L' s' x' h' hs'=>cvI en_141 (p_help3_any S F cb3 cb0 cb1 cb2 d qd t v thk k (Nat.le_of_lt hm')  s' h' (hs'.less (by decide)))
 refine j310 (p_dec_any S F _ _ _ (.fn 141 [] [.pointer (some ⟨cb3,0,none⟩),.pointer (some ⟨cb0,0,none⟩),.pointer (some ⟨cb1,0,none⟩),.pointer (some ⟨cb2,0,none⟩)]) (fun _=>.load (Ct.Node.status d) fun s_b=>Ct.wonT t v s_b k) _ _ h.to (hs.less (by decide))) fun s9 t10 c11 hq12 w h=>?_
 refine rr (resC rfl rfl (h.b a2) Row.h) ?_
 exact cpI (qF hd2 (hq12)) h.to
theorem p_help1_any {β : Type} (S : Sto) (F : β→Cc→As) (cb0 cb1 : Nat) (t : Ct.Trie) (thk : Fv) (k : Int→Ct.I β) {n m : Nat} (hm : m≤n) (x : Int) (s : Ct.St) (h : SH B w (rb cb0 ([S.v,.int .i64 t.root,.bool t.readOnly]) 103::rb cb1 [thk.val] 107::clA S F n 60 intA k thk::S.a s::L)) (hs : Ct.Rm 60 s) :
  Calls Tryz.prog 137 #[.int .i64 x,.pointer (some ⟨cb0,0,none⟩),.pointer (some ⟨cb1,0,none⟩)] w fun e w'=>CP S F m B ((fun v_b=>.node v_b fun d_b=>bif d_b.kind==2 then k v_b else .load d_b.status fun s_b=>bif s_b != 0 then Ct.wonT t v_b s_b k else Ct.decT t d_b (.load d_b.status fun s_b=>Ct.wonT t v_b s_b k)) x) s L e w':=by
 have h:=clLess hm (Nat.le_refl _) (h.fr (.c r2 .n))
 refine bn0 Tryz.func137 Tryz.ntmps137 h fun w h=>?_
 refine jX h fun b1 w h=>?_
 refine jA h fun b2 w h=>?_
 refine cl (ci (S.sN h a5) rfl rfl) ((snode_any S s x h.to hs).mono ?_)
 rintro _ w ⟨q3,rfl,h⟩
 refine ⟨_,rfl,?_⟩
 refine jA h fun b4 w h=>?_
 refine qc h (fun hd5 w h=>?_) fun hd5 w h=>?_
 have hg6:=eq_of_beq hd5
 refine go h fun w h=>?_
 refine cvF rfl rfl ((callk (h.fr (.c r5 (.c r2 .n))) (hs.less (by decide)) x).mono ?_)
 rintro _ w ⟨s7,t8,c9,hq10,rfl,h⟩
 refine ⟨_,rfl,?_⟩
 refine go h fun w h=>?_
 refine rr (resC rfl rfl (h.b a4) Row.h) ?_
 exact cpI (qN (qT hd5 (hq10))) h.to
 have hg11:=ne_of_beq_false hd5
 refine go h fun w h=>?_
 have h:=SH.rbz (h.fr (.c r4 .n))
 have h:=SH.rbz (h.fr (.c r1 .n))
 refine go h fun w h=>?_
 refine j000 (tLoad_any _ (.fn 138 [] [.pointer (some ⟨cb0,0,none⟩),.pointer (some ⟨b1,0,none⟩),.pointer (some ⟨cb1,0,none⟩),.pointer (some ⟨b4,0,none⟩)]) h.to) fun w h=>?_
 refine rr (resC rfl rfl (h.b a4) Row.h) ?_
 have h:=h.rbd a0
 have h:=h.rbd a8
 have h:=h.rbd a3
 have h:=h.rbd a9
 have h:=h.fr (.c r0 (.c r0 (.c r0 (.c r0 (.c r5 .n)))))
 have h:=mkt (S:=S) (F:=F) (n:=m) (args:=intA) (k:=(fun s_b=>bif s_b != 0 then Ct.wonT t x s_b k else Ct.decT t (s.node x) (.load (Ct.Node.status (s.node x)) fun s_b=>Ct.wonT t x s_b k))) (v:=(.fn 138 [] [.pointer (some ⟨cb0,0,none⟩),.pointer (some ⟨b1,0,none⟩),.pointer (some ⟨cb1,0,none⟩),.pointer (some ⟨b4,0,none⟩)])) [rb cb0 ([S.v,.int .i64 t.root,.bool t.readOnly]) 103,rb b1 ([.int .i64 x]) 36,rb cb1 [thk.val] 107,rb b4 (nodeC (s.node x) q3) 77,clA S F m 60 intA k thk] h fun m' hm' B' w' L' s' x' h' hs'=>cvI en_138 (p_help2_any S F cb0 b1 cb1 b4 t x thk k (s.node x) q3 (Nat.le_of_lt hm') x' s' h' (hs'.less (by decide)))
 have h:=kL (a:=(s.node x).status) h
 exact cpI (qN (qF hd5 rfl)) h.to
theorem p_help_any {β : Type} (S : Sto) (F : β→Cc→As) (t : Ct.Trie) (thk : Fv) (k : Int→Ct.I β) (n : Nat) (s : Ct.St) (h : SH B w (klA S F n 60 intA k thk::S.a s::L)) (hs : Ct.Rm 30 s) :
  Calls Tryz.prog 93 #[.agg [S.v,.int .i64 t.root,.bool t.readOnly].toArray,thk.val] w fun e w'=>CP S F n B (Ct.helpT t k) s L e w':=by
 refine bn0 Tryz.func93 Tryz.ntmps93 h fun w h=>?_
 refine jX h fun b1 w h=>?_
 refine sf (bx h rfl (fv_cells _)) ?_
 rintro _ w ⟨b2,rfl,h⟩
 refine go h fun w h=>?_
 refine jA h fun b3 w h=>?_
 have h:=SH.rbz (h.fr (.c r2 .n))
 have h:=SH.rbz (h.fr (.c r2 .n))
 refine go h fun w h=>?_
 refine cl (ca en_67 rfl) ((tLoad_any t.root (.fn 137 [] [.pointer (some ⟨b1,0,none⟩),.pointer (some ⟨b2,0,none⟩)]) (h.fr .n)).mono ?_)
 rintro _ w ⟨rfl,h⟩
 refine ⟨_,rfl,?_⟩
 refine sf (so h rfl rfl rfl sz_110 (ccL_one _) (.r (.r (.r (.r (.r (.r (.r (.r (.r (.r (.r (.r (.r (.r .d)))))))))))))) u2)<|?_
 rintro _ w h
 refine xe<|nx<|rt<|?_
 refine go h fun w h=>?_
 refine rr (resC rfl rfl (h.b a2) Row.h) ?_
 have h:=h.rbd a0
 have h:=h.rbd a2
 have h:=h.fr (.c r0 (.c r0 (.c r3 .n)))
 have h:=mkt (S:=S) (F:=F) (n:=n) (args:=intA) (k:=(fun v_b=>.node v_b fun d_b=>bif d_b.kind==2 then k v_b else .load d_b.status fun s_b=>bif s_b != 0 then Ct.wonT t v_b s_b k else Ct.decT t d_b (.load d_b.status fun s_b=>Ct.wonT t v_b s_b k))) (v:=(.fn 137 [] [.pointer (some ⟨b1,0,none⟩),.pointer (some ⟨b2,0,none⟩)])) [rb b1 ([S.v,.int .i64 t.root,.bool t.readOnly]) 103,rb b2 [thk.val] 107,klA S F n 60 intA k thk] h fun m' hm' B' w' L' s' x' h' hs'=>cvI en_137 (p_help1_any S F b1 b2 t thk k (Nat.le_refl _) x' s' ((klGet hm' (h'.fr (.c r2 .n))).fr (.c r1 (.c r1 (.c r0 .n)))) (hs'.less (by decide)))
 have h:=kL (a:=t.root) h
 exact cpI (rfl) h.to
theorem p_repl4_any {β : Type} (S : Sto) (F : β→Cc→As) (cb0 cb1 : Nat) (thk : Fv) (k : Bool→Ct.I β) (v : Int) {n m : Nat} (hm : m≤n) (x : Int) (s : Ct.St) (h : SH B w (rb cb0 [thk.val] 108::rb cb1 ([.int .i64 v]) 36::clA S F n 60 boolA k thk::S.a s::L)) (hs : Ct.Rm 60 s) :
  Calls Tryz.prog 163 #[.int .i64 x,.pointer (some ⟨cb0,0,none⟩),.pointer (some ⟨cb1,0,none⟩)] w fun e w'=>CP S F m B ((fun _=>k (v==1)) x) s L e w':=by
 have h:=clLess hm (Nat.le_refl _) (h.fr (.c r2 .n))
 refine bn0 Tryz.func163 Tryz.ntmps163 h fun w h=>?_
 refine jA h fun b1 w h=>?_
 refine cvF rfl rfl ((callk (h.fr (.c r1 (.c r3 .n))) (hs.less (by decide)) ((v : Int)==1)).mono ?_)
 rintro _ w ⟨s2,t3,c4,hq5,rfl,h⟩
 refine ⟨_,rfl,?_⟩
 refine go h fun w h=>?_
 refine rr (resC rfl rfl (h.b a2) Row.h) ?_
 exact cpI (hq5) h.to
theorem p_repl3_any {β : Type} (S : Sto) (F : β→Cc→As) (cb0 cb1 cb2 : Nat) (t : Ct.Trie) (v : Int) (thk : Fv) (k : Bool→Ct.I β) {n m : Nat} (hm : m≤n) (x : Int) (s : Ct.St) (h : SH B w (rb cb0 ([S.v,.int .i64 t.root,.bool t.readOnly]) 103::rb cb1 ([.int .i64 v]) 36::rb cb2 [thk.val] 108::clA S F n 60 boolA k thk::S.a s::L)) (hs : Ct.Rm 60 s) :
  Calls Tryz.prog 162 #[.int .i64 x,.pointer (some ⟨cb0,0,none⟩),.pointer (some ⟨cb1,0,none⟩),.pointer (some ⟨cb2,0,none⟩)] w fun e w'=>CP S F m B ((fun s_b=>Ct.wonT t v s_b fun _=>k (s_b==1)) x) s L e w':=by
 have h:=clLess hm (Nat.le_refl _) (h.fr (.c r3 .n))
 refine bn0 Tryz.func162 Tryz.ntmps162 h fun w h=>?_
 refine jX h fun b1 w h=>?_
 refine jA h fun b2 w h=>?_
 have h:=SH.rbz (h.fr (.c r1 .n))
 refine go h fun w h=>?_
 have h:=h.rbd a0
 have h:=h.rbd a6
 have h:=h.fr (.c r0 (.c r0 (.c r2 .n)))
 have h:=mkk (j:=60) (S:=S) (F:=F) (n:=m) (args:=intA) (k:=(fun _=>k (x==1))) (v:=(.fn 163 [] [.pointer (some ⟨cb2,0,none⟩),.pointer (some ⟨b1,0,none⟩)])) [rb cb2 [thk.val] 108,rb b1 ([.int .i64 x]) 36,clA S F m 60 boolA k thk] h fun m' hm' B' w' L' s' x' h' hs'=>cvI en_163 (p_repl4_any S F cb2 b1 thk k x (Nat.le_of_lt hm') x' s' h' (hs'.less (by decide)))
 refine cl (ca en_139 rfl) ((p_complete_any S F t v x (.fn 163 [] [.pointer (some ⟨cb2,0,none⟩),.pointer (some ⟨b1,0,none⟩)]) (fun _=>k (x==1)) m s (h.fr (.c r0 (.c r5 .n))) (hs.less (by decide))).mono ?_)
 rintro _ w ⟨s3,t4,c5,hq6,rfl,h⟩
 refine ⟨_,rfl,?_⟩
 refine sf (so h rfl rfl rfl sz_110 (ccL_one _) (.r (.r (.r (.r (.r (.r (.r (.r (.r (.r (.r (.r (.r (.r .d)))))))))))))) u3)<|?_
 rintro _ w h
 refine xe<|nx<|rt<|?_
 refine go h fun w h=>?_
 refine rr (resC rfl rfl (h.b a3) Row.h) ?_
 exact cpI (hq6) h.to
theorem p_repl2_any {β : Type} (S : Sto) (F : β→Cc→As) (cb0 cb1 cb2 cb3 : Nat) (d : Ct.Node) (qd : Lq) (t : Ct.Trie) (v : Int) (thk : Fv) (k : Bool→Ct.I β) {n m : Nat} (hm : m≤n) (s : Ct.St) (h : SH B w (rb cb0 (nodeC d qd) 77::rb cb1 ([S.v,.int .i64 t.root,.bool t.readOnly]) 103::rb cb2 ([.int .i64 v]) 36::rb cb3 [thk.val] 108::clA S F n 60 boolA k thk::S.a s::L)) (hs : Ct.Rm 60 s) :
  Calls Tryz.prog 161 #[.pointer (some ⟨cb0,0,none⟩),.pointer (some ⟨cb1,0,none⟩),.pointer (some ⟨cb2,0,none⟩),.pointer (some ⟨cb3,0,none⟩)] w fun e w'=>CP S F m B ((fun _=>.load (Ct.Node.status d) fun s_b=>Ct.wonT t v s_b fun _=>k (s_b==1)) ()) s L e w':=by
 have h:=clLess hm (Nat.le_refl _) (h.fr (.c r4 .n))
 refine bn0 Tryz.func161 Tryz.ntmps161 h fun w h=>?_
 refine jA h fun b1 w h=>?_
 refine cl (ca en_67 rfl) ((tLoad_any d.status (.fn 162 [] [.pointer (some ⟨cb1,0,none⟩),.pointer (some ⟨cb2,0,none⟩),.pointer (some ⟨cb3,0,none⟩)]) (h.fr .n)).mono ?_)
 rintro _ w ⟨rfl,h⟩
 refine ⟨_,rfl,?_⟩
 refine sf (so h rfl rfl rfl sz_110 (ccL_one _) (.r (.r (.r (.r (.r (.r (.r (.r (.r (.r (.r (.r (.r (.r .d)))))))))))))) u0)<|?_
 rintro _ w h
 refine xe<|nx<|rt<|?_
 refine go h fun w h=>?_
 refine rr (resC rfl rfl (h.b a0) Row.h) ?_
 have h:=h.rbd a5
 have h:=h.rbd a5
 have h:=h.rbd a5
 have h:=h.fr (.c r0 (.c r0 (.c r0 (.c r1 .n))))
 have h:=mkt (S:=S) (F:=F) (n:=m) (args:=intA) (k:=(fun s_b=>Ct.wonT t v s_b fun _=>k (s_b==1))) (v:=(.fn 162 [] [.pointer (some ⟨cb1,0,none⟩),.pointer (some ⟨cb2,0,none⟩),.pointer (some ⟨cb3,0,none⟩)])) [rb cb1 ([S.v,.int .i64 t.root,.bool t.readOnly]) 103,rb cb2 ([.int .i64 v]) 36,rb cb3 [thk.val] 108,clA S F m 60 boolA k thk] h fun m' hm' B' w' L' s' x' h' hs'=>cvI en_162 (p_repl3_any S F cb1 cb2 cb3 t v thk k (Nat.le_of_lt hm') x' s' h' (hs'.less (by decide)))
 have h:=kL (a:=d.status) h
 exact cpI (rfl) h.to
theorem p_repl1_any {β : Type} (S : Sto) (F : β→Cc→As) (cb0 cb1 cb2 cb3 : Nat) (thk : Fv) (k : Bool→Ct.I β) (t : Ct.Trie) (d : Ct.Node) (qd : Lq) (v : Int) {n m : Nat} (hm : m≤n) (ok : Bool) (s : Ct.St) (h : SH B w (rb cb0 [thk.val] 108::rb cb1 ([S.v,.int .i64 t.root,.bool t.readOnly]) 103::rb cb2 (nodeC d qd) 77::rb cb3 ([.int .i64 v]) 36::clA S F n 60 boolA k thk::S.a s::L)) (hs : Ct.Rm 60 s) :
  Calls Tryz.prog 160 #[.bool ok,.pointer (some ⟨cb0,0,none⟩),.pointer (some ⟨cb1,0,none⟩),.pointer (some ⟨cb2,0,none⟩),.pointer (some ⟨cb3,0,none⟩)] w fun e w'=>CP S F m B ((fun ok_b=>bif !ok_b then k false else Ct.decT t d (.load (Ct.Node.status d) fun s_b=>Ct.wonT t v s_b fun _=>k (s_b==1))) ok) s L e w':=by
 have h:=clLess hm (Nat.le_refl _) (h.fr (.c r4 .n))
 refine bn0 Tryz.func160 Tryz.ntmps160 h fun w h=>?_
 refine jA h fun b1 w h=>?_
 refine qc h (fun hd2 w h=>?_) fun hd2 w h=>?_
 have hd3 : ok=false:=(Bool.not_eq_true' _).mp hd2
 refine go h fun w h=>?_
 refine cvF rfl rfl ((callk (h.fr (.c r1 (.c r5 .n))) (hs.less (by decide)) false).mono ?_)
 rintro _ w ⟨s4,t5,c6,hq7,rfl,h⟩
 refine ⟨_,rfl,?_⟩
 refine go h fun w h=>?_
 refine rr (resC rfl rfl (h.b a2) Row.h) ?_
 exact cpI (qT hd2 (hq7)) h.to
 have hd8 : ok=true:=(Bool.not_eq_false' _).mp hd2
 refine go h fun w h=>?_
 have h:=h.rbd a2
 have h:=h.rbd a6
 have h:=h.rbd a5
 have h:=h.rbd a7
 have h:=h.fr (.c r0 (.c r0 (.c r0 (.c r0 (.c r1 .n)))))
 have h:=mkk (j:=60) (S:=S) (F:=F) (n:=m) (args:=unitA) (k:=(fun _=>.load (Ct.Node.status d) fun s_b=>Ct.wonT t v s_b fun _=>k (s_b==1))) (v:=(.fn 161 [] [.pointer (some ⟨cb2,0,none⟩),.pointer (some ⟨cb1,0,none⟩),.pointer (some ⟨cb3,0,none⟩),.pointer (some ⟨cb0,0,none⟩)])) [rb cb2 (nodeC d qd) 77,rb cb1 ([S.v,.int .i64 t.root,.bool t.readOnly]) 103,rb cb3 ([.int .i64 v]) 36,rb cb0 [thk.val] 108,clA S F m 60 boolA k thk] h fun m' hm' B' w' L' s' x' h' hs'=>cvI en_161 (p_repl2_any S F cb2 cb1 cb3 cb0 d qd t v thk k (Nat.le_of_lt hm')  s' h' (hs'.less (by decide)))
 refine j310 (p_dec_any S F _ _ _ (.fn 161 [] [.pointer (some ⟨cb2,0,none⟩),.pointer (some ⟨cb1,0,none⟩),.pointer (some ⟨cb3,0,none⟩),.pointer (some ⟨cb0,0,none⟩)]) (fun _=>.load (Ct.Node.status d) fun s_b=>Ct.wonT t v s_b fun _=>k (s_b==1)) _ _ h.to (hs.less (by decide))) fun s9 t10 c11 hq12 w h=>?_
 refine rr (resC rfl rfl (h.b a2) Row.h) ?_
 exact cpI (qF hd2 (hq12)) h.to
theorem p_replace_any {β : Type} (S : Sto) (F : β→Cc→As) (t : Ct.Trie) (o : Int) (ex : Int) (nw : Int) (thk : Fv) (k : Bool→Ct.I β) (n : Nat) (s : Ct.St) (h : SH B w (klA S F n 60 boolA k thk::S.a s::L)) (hs : Ct.Rm 30 s) :
  Calls Tryz.prog 111 #[.agg [S.v,.int .i64 t.root,.bool t.readOnly].toArray,.int .i64 o,.int .i64 ex,.int .i64 nw,thk.val] w fun e w'=>CP S F n B (Ct.replaceT t o ex nw k) s L e w':=by
 refine bn0 Tryz.func111 Tryz.ntmps111 h fun w h=>?_
 refine jX h fun b1 w h=>?_
 refine sf (bx h rfl (fv_cells _)) ?_
 rintro _ w ⟨b2,rfl,h⟩
 refine go h fun w h=>?_
 refine jA h fun b3 w h=>?_
 refine drT (F:=[bl b1 ([S.v,.int .i64 t.root,.bool t.readOnly]) 103]) (.op 0 true (.op 1 true (.op 2 true (.op 3 true (.op 4 true (.op 6 true (.op 7 true (.fork 5 9 (.fork 8 9 (.op 9 false (.op 10 false .stop)) (.op 8 false (.op 10 false .stop))) (.op 5 false (.op 8 false (.op 10 false .stop))))))))))) (by kernel_rfl) h (fun w h=>(hC (h.at_ a2) hN)) fun w h=>go h fun w h=>?_
 refine xzT ?_ ?_
 refine s000 (nDesc_any _ _ _ h.to) fun w h=>?_
 refine xzT ?_ ?_
 refine cs (ci (S.sA h a4) rfl rfl) ((salloc_any S s ({ kind:=8,old:=o,expected:=ex,new:=nw } : Ct.Node) {} 0 (SH.nilN ({ kind:=8,old:=o,expected:=ex,new:=nw } : Ct.Node) rfl rfl h.to) hs (Ct.fit_small _ 8 0 o ex nw)).mono ?_)
 rintro _ w ⟨rfl,h⟩
 have hs:=hs.alloc (Ct.fit_small _ 8 0 o ex nw) 0
 refine ⟨_,rfl,(hC (h.at_ a3) hN),?_⟩
 refine jB h fun b4 w h=>?_
 refine cl (ci (S.sN h a1) rfl rfl) ((snode_any S (s.alloc ({ kind:=8,old:=o,expected:=ex,new:=nw } : Ct.Node) 0).1 (s.alloc ({ kind:=8,old:=o,expected:=ex,new:=nw } : Ct.Node) 0).2 h.to hs).mono ?_)
 rintro _ w ⟨q5,rfl,h⟩
 refine ⟨_,rfl,?_⟩
 refine jA h fun b6 w h=>?_
 have h:=SH.rbz (h.fr (.c r5 .n))
 have h:=SH.rbz (h.fr (.c r6 .n))
 have h:=SH.rbz (h.fr (.c r2 .n))
 have h:=SH.rbz (h.fr (.c r5 .n))
 refine go h fun w h=>?_
 refine cl (ca en_159 rfl) ((tCAS_any t.root o (s.alloc ({ kind:=8,old:=o,expected:=ex,new:=nw } : Ct.Node) 0).2 (.fn 160 [] [.pointer (some ⟨b2,0,none⟩),.pointer (some ⟨b1,0,none⟩),.pointer (some ⟨b6,0,none⟩),.pointer (some ⟨b4,0,none⟩)]) (h.fr .n)).mono ?_)
 rintro _ w ⟨rfl,h⟩
 refine ⟨_,rfl,?_⟩
 refine sf (so h rfl rfl rfl sz_110 (ccL_one _) (.r (.r (.r (.r (.r (.r (.r (.r (.r (.r (.r (.r (.r (.r .d)))))))))))))) u6)<|?_
 rintro _ w h
 refine xe<|nx<|rt<|?_
 refine go h fun w h=>?_
 refine rr (resC rfl rfl (h.b a6) Row.h) ?_
 have h:=h.rbd a0
 have h:=h.rbd a2
 have h:=h.rbd a4
 have h:=h.rbd a6
 have h:=h.fr (.c r0 (.c r0 (.c r0 (.c r0 (.c r7 .n)))))
 have h:=mkt (S:=S) (F:=F) (n:=n) (args:=boolA) (k:=(fun ok_b=>bif !ok_b then k false else Ct.decT t ((s.alloc ({ kind:=8,old:=o,expected:=ex,new:=nw } : Ct.Node) 0).1.node (s.alloc ({ kind:=8,old:=o,expected:=ex,new:=nw } : Ct.Node) 0).2) (.load (Ct.Node.status ((s.alloc ({ kind:=8,old:=o,expected:=ex,new:=nw } : Ct.Node) 0).1.node (s.alloc ({ kind:=8,old:=o,expected:=ex,new:=nw } : Ct.Node) 0).2)) fun s_b=>Ct.wonT t (s.alloc ({ kind:=8,old:=o,expected:=ex,new:=nw } : Ct.Node) 0).2 s_b fun _=>k (s_b==1)))) (v:=(.fn 160 [] [.pointer (some ⟨b2,0,none⟩),.pointer (some ⟨b1,0,none⟩),.pointer (some ⟨b6,0,none⟩),.pointer (some ⟨b4,0,none⟩)])) [rb b2 [thk.val] 108,rb b1 ([S.v,.int .i64 t.root,.bool t.readOnly]) 103,rb b6 (nodeC ((s.alloc ({ kind:=8,old:=o,expected:=ex,new:=nw } : Ct.Node) 0).1.node (s.alloc ({ kind:=8,old:=o,expected:=ex,new:=nw } : Ct.Node) 0).2) q5) 77,rb b4 ([.int .i64 (s.alloc ({ kind:=8,old:=o,expected:=ex,new:=nw } : Ct.Node) 0).2]) 36,klA S F n 60 boolA k thk] h fun m' hm' B' w' L' s' x' h' hs'=>cvI en_160 (p_repl1_any S F b2 b1 b6 b4 thk k t ((s.alloc ({ kind:=8,old:=o,expected:=ex,new:=nw } : Ct.Node) 0).1.node (s.alloc ({ kind:=8,old:=o,expected:=ex,new:=nw } : Ct.Node) 0).2) q5 (s.alloc ({ kind:=8,old:=o,expected:=ex,new:=nw } : Ct.Node) 0).2 (Nat.le_refl _) x' s' ((klGet hm' (h'.fr (.c r4 .n))).fr (.c r1 (.c r1 (.c r1 (.c r1 (.c r0 .n)))))) (hs'.less (by decide)))
 have h:=kC (a:=t.root) (o:=o) (x:=(s.alloc ({ kind:=8,old:=o,expected:=ex,new:=nw } : Ct.Node) 0).2) h
 exact cpI (qA (qN rfl)) h.to
 refine jB h fun b7 w h=>?_
 refine cs (ci (S.sA h a5) rfl rfl) ((salloc_any S s ({ kind:=8,old:=o,expected:=ex,new:=nw } : Ct.Node) {} 0 (SH.nilN ({ kind:=8,old:=o,expected:=ex,new:=nw } : Ct.Node) rfl rfl h.to) hs (Ct.fit_small _ 8 0 o ex nw)).mono ?_)
 rintro _ w ⟨rfl,h⟩
 have hs:=hs.alloc (Ct.fit_small _ 8 0 o ex nw) 0
 refine ⟨_,rfl,(hC (h.at_ a4) hN),?_⟩
 refine go h fun w h=>?_
 refine cl (ci (S.sN h a0) rfl rfl) ((snode_any S (s.alloc ({ kind:=8,old:=o,expected:=ex,new:=nw } : Ct.Node) 0).1 (s.alloc ({ kind:=8,old:=o,expected:=ex,new:=nw } : Ct.Node) 0).2 h.to hs).mono ?_)
 rintro _ w ⟨q8,rfl,h⟩
 refine ⟨_,rfl,?_⟩
 refine jA h fun b9 w h=>?_
 have h:=SH.rbz (h.fr (.c r5 .n))
 have h:=SH.rbz (h.fr (.c r6 .n))
 have h:=SH.rbz (h.fr (.c r2 .n))
 have h:=SH.rbz (h.fr (.c r5 .n))
 refine go h fun w h=>?_
 refine cl (ca en_159 rfl) ((tCAS_any t.root o (s.alloc ({ kind:=8,old:=o,expected:=ex,new:=nw } : Ct.Node) 0).2 (.fn 160 [] [.pointer (some ⟨b2,0,none⟩),.pointer (some ⟨b1,0,none⟩),.pointer (some ⟨b9,0,none⟩),.pointer (some ⟨b7,0,none⟩)]) (h.fr .n)).mono ?_)
 rintro _ w ⟨rfl,h⟩
 refine ⟨_,rfl,?_⟩
 refine sf (so h rfl rfl rfl sz_110 (ccL_one _) (.r (.r (.r (.r (.r (.r (.r (.r (.r (.r (.r (.r (.r (.r .d)))))))))))))) u6)<|?_
 rintro _ w h
 refine xe<|nx<|rt<|?_
 refine go h fun w h=>?_
 refine rr (resC rfl rfl (h.b a6) Row.h) ?_
 have h:=h.rbd a0
 have h:=h.rbd a2
 have h:=h.rbd a4
 have h:=h.rbd a6
 have h:=h.fr (.c r0 (.c r0 (.c r0 (.c r0 (.c r7 .n)))))
 have h:=mkt (S:=S) (F:=F) (n:=n) (args:=boolA) (k:=(fun ok_b=>bif !ok_b then k false else Ct.decT t ((s.alloc ({ kind:=8,old:=o,expected:=ex,new:=nw } : Ct.Node) 0).1.node (s.alloc ({ kind:=8,old:=o,expected:=ex,new:=nw } : Ct.Node) 0).2) (.load (Ct.Node.status ((s.alloc ({ kind:=8,old:=o,expected:=ex,new:=nw } : Ct.Node) 0).1.node (s.alloc ({ kind:=8,old:=o,expected:=ex,new:=nw } : Ct.Node) 0).2)) fun s_b=>Ct.wonT t (s.alloc ({ kind:=8,old:=o,expected:=ex,new:=nw } : Ct.Node) 0).2 s_b fun _=>k (s_b==1)))) (v:=(.fn 160 [] [.pointer (some ⟨b2,0,none⟩),.pointer (some ⟨b1,0,none⟩),.pointer (some ⟨b9,0,none⟩),.pointer (some ⟨b7,0,none⟩)])) [rb b2 [thk.val] 108,rb b1 ([S.v,.int .i64 t.root,.bool t.readOnly]) 103,rb b9 (nodeC ((s.alloc ({ kind:=8,old:=o,expected:=ex,new:=nw } : Ct.Node) 0).1.node (s.alloc ({ kind:=8,old:=o,expected:=ex,new:=nw } : Ct.Node) 0).2) q8) 77,rb b7 ([.int .i64 (s.alloc ({ kind:=8,old:=o,expected:=ex,new:=nw } : Ct.Node) 0).2]) 36,klA S F n 60 boolA k thk] h fun m' hm' B' w' L' s' x' h' hs'=>cvI en_160 (p_repl1_any S F b2 b1 b9 b7 thk k t ((s.alloc ({ kind:=8,old:=o,expected:=ex,new:=nw } : Ct.Node) 0).1.node (s.alloc ({ kind:=8,old:=o,expected:=ex,new:=nw } : Ct.Node) 0).2) q8 (s.alloc ({ kind:=8,old:=o,expected:=ex,new:=nw } : Ct.Node) 0).2 (Nat.le_refl _) x' s' ((klGet hm' (h'.fr (.c r4 .n))).fr (.c r1 (.c r1 (.c r1 (.c r1 (.c r0 .n)))))) (hs'.less (by decide)))
 have h:=kC (a:=t.root) (o:=o) (x:=(s.alloc ({ kind:=8,old:=o,expected:=ex,new:=nw } : Ct.Node) 0).2) h
 exact cpI (qA (qN rfl)) h.to
 refine jB h fun b10 w h=>?_
 refine s000 (nDesc_any _ _ _ h.to) fun w h=>?_
 refine cs (ci (S.sA h a5) rfl rfl) ((salloc_any S s ({ kind:=8,old:=o,expected:=ex,new:=nw } : Ct.Node) {} 0 (SH.nilN ({ kind:=8,old:=o,expected:=ex,new:=nw } : Ct.Node) rfl rfl h.to) hs (Ct.fit_small _ 8 0 o ex nw)).mono ?_)
 rintro _ w ⟨rfl,h⟩
 have hs:=hs.alloc (Ct.fit_small _ 8 0 o ex nw) 0
 refine ⟨_,rfl,(hC (h.at_ a4) hN),?_⟩
 refine go h fun w h=>?_
 refine cl (ci (S.sN h a0) rfl rfl) ((snode_any S (s.alloc ({ kind:=8,old:=o,expected:=ex,new:=nw } : Ct.Node) 0).1 (s.alloc ({ kind:=8,old:=o,expected:=ex,new:=nw } : Ct.Node) 0).2 h.to hs).mono ?_)
 rintro _ w ⟨q11,rfl,h⟩
 refine ⟨_,rfl,?_⟩
 refine jA h fun b12 w h=>?_
 have h:=SH.rbz (h.fr (.c r5 .n))
 have h:=SH.rbz (h.fr (.c r6 .n))
 have h:=SH.rbz (h.fr (.c r2 .n))
 have h:=SH.rbz (h.fr (.c r5 .n))
 refine go h fun w h=>?_
 refine cl (ca en_159 rfl) ((tCAS_any t.root o (s.alloc ({ kind:=8,old:=o,expected:=ex,new:=nw } : Ct.Node) 0).2 (.fn 160 [] [.pointer (some ⟨b2,0,none⟩),.pointer (some ⟨b1,0,none⟩),.pointer (some ⟨b12,0,none⟩),.pointer (some ⟨b10,0,none⟩)]) (h.fr .n)).mono ?_)
 rintro _ w ⟨rfl,h⟩
 refine ⟨_,rfl,?_⟩
 refine sf (so h rfl rfl rfl sz_110 (ccL_one _) (.r (.r (.r (.r (.r (.r (.r (.r (.r (.r (.r (.r (.r (.r .d)))))))))))))) u6)<|?_
 rintro _ w h
 refine xe<|nx<|rt<|?_
 refine go h fun w h=>?_
 refine rr (resC rfl rfl (h.b a6) Row.h) ?_
 have h:=h.rbd a0
 have h:=h.rbd a2
 have h:=h.rbd a4
 have h:=h.rbd a6
 have h:=h.fr (.c r0 (.c r0 (.c r0 (.c r0 (.c r7 .n)))))
 have h:=mkt (S:=S) (F:=F) (n:=n) (args:=boolA) (k:=(fun ok_b=>bif !ok_b then k false else Ct.decT t ((s.alloc ({ kind:=8,old:=o,expected:=ex,new:=nw } : Ct.Node) 0).1.node (s.alloc ({ kind:=8,old:=o,expected:=ex,new:=nw } : Ct.Node) 0).2) (.load (Ct.Node.status ((s.alloc ({ kind:=8,old:=o,expected:=ex,new:=nw } : Ct.Node) 0).1.node (s.alloc ({ kind:=8,old:=o,expected:=ex,new:=nw } : Ct.Node) 0).2)) fun s_b=>Ct.wonT t (s.alloc ({ kind:=8,old:=o,expected:=ex,new:=nw } : Ct.Node) 0).2 s_b fun _=>k (s_b==1)))) (v:=(.fn 160 [] [.pointer (some ⟨b2,0,none⟩),.pointer (some ⟨b1,0,none⟩),.pointer (some ⟨b12,0,none⟩),.pointer (some ⟨b10,0,none⟩)])) [rb b2 [thk.val] 108,rb b1 ([S.v,.int .i64 t.root,.bool t.readOnly]) 103,rb b12 (nodeC ((s.alloc ({ kind:=8,old:=o,expected:=ex,new:=nw } : Ct.Node) 0).1.node (s.alloc ({ kind:=8,old:=o,expected:=ex,new:=nw } : Ct.Node) 0).2) q11) 77,rb b10 ([.int .i64 (s.alloc ({ kind:=8,old:=o,expected:=ex,new:=nw } : Ct.Node) 0).2]) 36,klA S F n 60 boolA k thk] h fun m' hm' B' w' L' s' x' h' hs'=>cvI en_160 (p_repl1_any S F b2 b1 b12 b10 thk k t ((s.alloc ({ kind:=8,old:=o,expected:=ex,new:=nw } : Ct.Node) 0).1.node (s.alloc ({ kind:=8,old:=o,expected:=ex,new:=nw } : Ct.Node) 0).2) q11 (s.alloc ({ kind:=8,old:=o,expected:=ex,new:=nw } : Ct.Node) 0).2 (Nat.le_refl _) x' s' ((klGet hm' (h'.fr (.c r4 .n))).fr (.c r1 (.c r1 (.c r1 (.c r1 (.c r0 .n)))))) (hs'.less (by decide)))
 have h:=kC (a:=t.root) (o:=o) (x:=(s.alloc ({ kind:=8,old:=o,expected:=ex,new:=nw } : Ct.Node) 0).2) h
 exact cpI (qA (qN rfl)) h.to
end Go.Proofs.YtmliojdkmfhmmaaGreat
end
